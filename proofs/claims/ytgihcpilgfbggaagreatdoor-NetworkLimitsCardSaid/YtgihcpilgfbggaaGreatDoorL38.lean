/- A part of the proof that for every input the law NetworkLimits returns true and leaves its argument as it was. -/
import Derived.WalkKit
import Derived.Laws.Externs
import Derived.Test.YtgihcpilgfbggaaGreatDoorL14
import Derived.Test.YtgihcpilgfbggaaGreatDoorL17
import Derived.Test.YtgihcpilgfbggaaGreatDoorL18
import Derived.Test.YtgihcpilgfbggaaGreatDoorL20
import Derived.Test.YtgihcpilgfbggaaGreatDoorL21
import Derived.Test.YtgihcpilgfbggaaGreatDoorL23
import Derived.Test.YtgihcpilgfbggaaGreatDoorL25
import Derived.Test.YtgihcpilgfbggaaGreatDoorL26
import Derived.Test.YtgihcpilgfbggaaGreatDoorL32
import Derived.Test.YtgihcpilgfbggaaGreatDoorL36
import Derived.Test.YtgihcpilgfbggaaGreatDoorL37
set_option linter.all false

namespace Go.Proofs.Tryz
open Go Go.Pm Go.Bt Go.RowKit
theorem Cw:(prog.info? 65).map (·.size)=some 13:=by kernel_rfl
def As(cur:Array Value)(n i:Nat)(news:List Value):Array Value :=
 ((cur.toList.take (i*13)++news++(cur.toList.take (n*13)).drop (i*13))++cur.toList.drop ((n+1)*13)).toArray
set_option maxRecDepth 100000 in
set_option maxHeartbeats 4000000 in
theorem Cu(g n c i vb voff vc:Nat)(cur:Array Value)(news:List Value)(w:World)(hi:i<n)(s5:n+1≤c)(aej:c≤9223372036854775807)(Pq:vb≠g)
  (hg:w.heap[g]?=some (.cells cur 65 (0,0))) (fq:cur.size=c*13) (pz:news.length=13) (Cx:∀ j v,news[j]?=some v→w.cell? ⟨vb,voff+j,none⟩=some v)
  (Zu:∀ v∈cur.toList.take (n*13),v.oneCell'=true) (Zt:∀ v∈news,v.oneCell'=true)
  (tA tB:TypeId) (kA kB:Nat) (hsa:w.shape? vb=some (tA,kA)) (WI:w.shape? g=some (tB,kB)) (hkB:kB≠0) (CB:w.frozen? ⟨vb,voff,none⟩=false) (hfe:w.frozen? ⟨vb,kA,none⟩=false) :
  Calls prog 111 #[.slice (some ⟨g,0,none⟩) n c,.int .i64 i,.slice (some ⟨vb,voff,none⟩) 1 vc] w fun e w' =>
   e=.returned (.slice (some ⟨g,0,none⟩) (n+1) c)∧w'=w.drew.setRow g (As cur n i news):=by
 have hov:∀ lb cb,(callFunc 153 #[.slice (some ⟨vb,voff,none⟩) 1 vc,.slice (some ⟨g,(i+1)*13,none⟩) lb cb]).run prog w=.ok (.value (.bool false)) w:=fun lb cb=>by
  rw[run_callFunc_extern func153 (by kernel_rfl) (by kernel_rfl) (by kernel_rfl) (e:=Extern.SlicesOverlaps.overlaps #[41,41] #[4]) (by kernel_rfl),
   Lib.run_overlaps_apart w 41 4 65 underlying41 13 (fun w=>Tryz.sizeOf65 w) ⟨vb,voff,none⟩ ⟨g,(i+1)*13,none⟩ 1 vc lb cb Pq tA tB kA kB hsa WI hkB CB hfe]
  rfl
 have YH:IntKind.i64.wrap ((i:Int)+1)=(i:Int)+1:=by rw[IntKind.wrap_i64];omega
 have SL:IntKind.i64.wrap ((n:Int)+1)=(n:Int)+1:=by rw[IntKind.wrap_i64];omega
 have YB:¬ ((i:Int)=(n:Int)):=by omega
 have Xi:(0:Int)≤(i:Int)+1:=by omega
 have Mz:i≤n:=by omega
 have T7:((i:Int)+1).toNat=i+1:=by omega
 have htm:((n:Int)+1).toNat=n+1:=by omega
 have oE:¬ (c=i+1):=by omega
 have hb3:(i:Int)≤(n:Int)+1:=by omega
 have hb4:¬ (c=i):=by omega
 have hU:=underlying41
 have aU:((cur.toList.take (n*13)).drop (i*13)).length=(n - i)*13:=by
  rw[bB,ba,aL,fq,Nat.sub_mul];have:n*13≤c*13:=bl _ (by omega);omega
 generalize mq:(cur.toList.take (n*13)).drop (i*13)=cs at aU
 have zr:∀ j v,cs[j]?=some v→(w.drew).cell? ((⟨g,i*13,none⟩:Addr).add j)=some v:=by
  intro j v hj;rw[← mq,dp,fT]at hj;split at hj
  ·rw[Addr.add_lit];simp only[World.cell?,show w.drew.heap[g]?=some (.cells cur 65 (0,0))from hg];simpa using hj
  ·cases hj
 have mixed:prog.follows Departure.mixedOrders=true:=by kernel_rfl
 have Mu:Nat.min (n+1 - i) (n - i)=n - i:=Nat.min_eq_right (by omega)
 have Zj:∀ ty dc sc,(Builtin.copy_ #[41,41] ty #[.slice (some ⟨g,(i+1)*13,none⟩) (n - i) dc,.slice (some ⟨g,i*13,none⟩) (n+1 - i) sc]).run prog w.drew=.ok (goInt (Nat.min (n+1 - i) (n - i):Nat)) (w.drew.setRow g (cur.toList.take ((i+1)*13)++cs++cur.toList.drop ((i+1)*13+cs.length)).toArray):=fun ty dc sc =>
  qK w.drew _ _ ty 65 g ((i+1)*13) _ dc ⟨g,i*13,none⟩ _ sc cur 65 cs 13 hU Cw hg (by rw[aU,Mu]) zr (by rw[aU,fq];omega)
   (fun v hv=>Zu v (ff (mq▸hv)))
 generalize S8:(cur.toList.take ((i+1)*13)++(cs++cur.toList.drop ((i+1)*13+(n - i)*13))).toArray=cur1
 have YP:cur1.size=c*13:=by
  rw[← S8];simp only[eu,List.length_append,ba,bB,aL,aU,fq];omega
 have hg1:(w.drew.setRow g cur1).heap[g]?=some (.cells cur1 65 (0,0)):=setRow_heap w.drew g cur cur1 65 (0,0) hg;have Mt:Nat.min 1 (n+1 - i)=1:=gG (by omega)
 have Zi:∀ ty dc,(Builtin.copy_ #[41,41] ty #[.slice (some ⟨g,i*13,none⟩) (n+1 - i) dc,.slice (some ⟨vb,voff,none⟩) 1 vc]).run prog (w.drew.setRow g cur1)=.ok (goInt (Nat.min 1 (n+1 - i):Nat)) ((w.drew.setRow g cur1).setRow g (cur1.toList.take (i*13)++news++cur1.toList.drop (i*13+news.length)).toArray):=fun ty dc =>
  qK _ _ _ ty 65 g (i*13) _ dc ⟨vb,voff,none⟩ _ vc cur1 65 news 13 hU Cw hg1 (by rw[pz,Mt]) (fun j v hj=>by
   rw[Addr.add_lit];have h0:=Cx j v hj;simp only[World.cell?,World.setRow,eS,if_neg (Kh Pq)]at h0 ⊢;exact h0) (by rw[pz,YP];omega) Zt
 go_enter func111,Tryz.ntmps111
 go_wp2_with (simp only[hov])
 go_region_law_o (refine step_copy_runI rfl _ _ 41 41 rfl _ _ (by simp[Act.eval,Act.put]) (by simp[Act.eval,Act.put]) (Zj _ _ _) ?_)
 go_wp2_with (at_builtin;refine wpList_copy_runI _ rfl _ _ 41 41 rfl _ _ rfl rfl (Zi _ _) ?_)
 go_ret
 refine⟨rfl,?_⟩;rw[setRow_setRow]
 have eC:((cur.toList.take ((i+1)*13))).length=(i+1)*13:=by
  rw[ba,aL,fq];omega
 have e1:cur1.toList=cur.toList.take ((i+1)*13)++(cs++cur.toList.drop ((i+1)*13+(n - i)*13)):=by rw[← S8]
 have e2:cur1.toList.take (i*13)=cur.toList.take (i*13):=by
  rw[e1,fB (by rw[eC];omega),C5,gG (by omega)]
 have e3:cur1.toList.drop (i*13+13)=cs++cur.toList.drop ((n+1)*13):=by
  rw[e1,List.drop_append_of_le_length (by rw[eC];omega),yF (by rw[eC];omega),aG];congr 2;omega
 rw[e2,e3,As,mq];simp only[List.append_assoc]
set_option maxRecDepth 100000 in
set_option maxHeartbeats 4000000 in
theorem Ew(g n i vb voff vc:Nat)(cur:Array Value)(news:List Value)(w:World)(hi:i<n)(adJ:n≤2^30)
  (hg:w.heap[g]?=some (.cells cur 65 (0,0))) (fq:cur.size=n*13) (pz:news.length=13) (Cx:∀ j v,news[j]?=some v→w.cell? ⟨vb,voff+j,none⟩=some v)
  (Zu:∀ v∈cur.toList,v.oneCell'=true) (Zt:∀ v∈news,v.oneCell'=true) (T5:vb<w.heap.size) :
  Calls prog 111 #[.slice (some ⟨g,0,none⟩) n n,.int .i64 i,.slice (some ⟨vb,voff,none⟩) 1 vc] w fun e w' =>
   ∃ (G:Nat) (row:Array Value),e=.returned (.slice (some ⟨w.heap.size,0,none⟩) (n+1) G)∧n+1≤G∧G≤maxLen∧row.size=G*13 ∧
    row.toList.take ((n+1)*13)=cur.toList.take (i*13)++news++cur.toList.drop (i*13)∧w'.heap[w.heap.size]?=some (.cells row 65 (0,0))∧w.grownBy w' none:=by
 obtain⟨i0,z,Pz,YC,YQ,hb0,lK⟩:=mb (T:=65) (n:=13) (by':=184) (by kernel_rfl);have hU:=underlying41;have hI:=underlying3;have mixed:prog.follows Departure.mixedOrders=true:=by kernel_rfl
 have X6:g<w.heap.size:=(bS.1 hg).1
 have hold:(Builtin.firstCells i0.size i (.slice (some ⟨g,0,none⟩) i n)).run prog w.drew=.ok (cur.toList.take (i*13)).toArray w.drew:=by
  rw[YQ]
  exact run_firstCells_some w.drew 13 i ⟨g,0,none⟩ i n (cur.toList.take (i*13)) (by rw[ba,aL,fq];omega) (fun j v hj=>by
   rw[Addr.add_lit];rw[fT]at hj;split at hj
   ·simp only[World.cell?,show w.drew.heap[g]?=some (.cells cur 65 (0,0))from hg];simpa using hj
   ·cases hj)
 have Y9:i+(n+1 - i)=n+1:=by omega
 have JQ:(n:Int)+1 - (i:Int)=((n+1 - i:Nat):Int):=by omega
 have YR:∀ ty,(Builtin.append_ #[41,3] ty #[.slice (some ⟨g,0,none⟩) i n,.int .i64 ((n:Int)+1 - (i:Int))]).run prog w =
   .ok (.slice (some ⟨w.heap.size,0,none⟩) (n+1) (grownCap w (n+1) n 65)) (w.drew.alloc (.cells ((cur.toList.take (i*13)).toArray++Builtin.zeroCells z.cells (n+1 - i)++Builtin.zeroCells z.cells (grownCap w (n+1) n 65 - (n+1))) 65)):=fun ty=>by
  have h:=Lib.run_append_grow_zeros w 41 3 ty 65 i0 z .i64 .i64 hU hI Pz YC (some ⟨g,0,none⟩) i n (cur.toList.take (i*13)) hold (n+1 - i) (by omega) (by omega) (by omega) (by omega) (by rw[hb0];omega) (by rw[hb0,Y9];exact growslice_fits (by omega) (by omega));rw[Y9]at h;rw[JQ];exact h
 have hGn:n+1≤grownCap w (n+1) n 65:=grownCap_ge w _ _ _;have Zs:grownCap w (n+1) n 65≤maxLen:=grownCap_le_maxLen w _ _ _ (by unfold maxLen;omega);generalize hG:grownCap w (n+1) n 65=G at YR hGn Zs;have Km:∀ k,(Builtin.zeroCells z.cells k).size=k*13:=fun k=>by simp[Builtin.zeroCells,lK]
 have Yc:((cur.toList.take (i*13)).toArray++Builtin.zeroCells z.cells (n+1 - i)++Builtin.zeroCells z.cells (G - (n+1))).size=G*13:=by
  rw[jr,jr,Km,Km,eu,ba,aL,fq];omega
 have hRt:((cur.toList.take (i*13)).toArray++Builtin.zeroCells z.cells (n+1 - i)++Builtin.zeroCells z.cells (G - (n+1))).toList.take (i*13)=cur.toList.take (i*13):=by
  have hl:(cur.toList.take (i*13)).length=i*13:=by rw[ba,aL,fq];omega
  simp only[Fm,List.append_assoc];rw[fB (by rw[hl];exact aw _),cJ (by rw[hl];exact aw _)]
 generalize Zr:(cur.toList.take (i*13)).toArray++Builtin.zeroCells z.cells (n+1 - i)++Builtin.zeroCells z.cells (G - (n+1))=ROW at YR Yc hRt;have YB:¬ ((i:Int)=(n:Int)):=by omega
 have XT:(n:Int)<(n:Int)+1:=by omega
 have YH:IntKind.i64.wrap ((i:Int)+1)=(i:Int)+1:=by rw[IntKind.wrap_i64];omega
 have SL:IntKind.i64.wrap ((n:Int)+1)=(n:Int)+1:=by rw[IntKind.wrap_i64];omega
 have hw3:IntKind.i64.wrap ((n:Int)+1 - (i:Int))=(n:Int)+1 - (i:Int):=by rw[IntKind.wrap_i64];omega
 have Xi:(0:Int)≤(i:Int)+1:=by omega
 have Mz:i≤n:=by omega
 have T7:((i:Int)+1).toNat=i+1:=by omega
 have hb3:(i:Int)≤(n:Int):=by omega
 have Yb:(i:Int)≤(n:Int)+1:=by omega
 have aex:G≤9223372036854775807:=by unfold maxLen at Zs;omega
 have hGi:¬ (G=i):=by omega
 have aew:¬ (G=i+1):=by omega
 have hci:¬ (n=i):=by omega
 have hgN:¬ (w.heap.size=g):=by omega
 have hvN:¬ (w.heap.size=vb):=by omega
 have hgA:(w.alloc (.cells ROW 65)).drew.heap[w.heap.size]?=some (.cells ROW 65 (0,0)):=heap_alloc_new w _;have Mt:Nat.min 1 (n+1 - i)=1:=gG (by omega);have WX:Nat.min (n - i) (n - i)=n - i:=gG (aw _)
 have Xe:∀ ty dc,(Builtin.copy_ #[41,41] ty #[.slice (some ⟨w.heap.size,i*13,none⟩) (n+1 - i) dc,.slice (some ⟨vb,voff,none⟩) 1 vc]).run prog (w.alloc (.cells ROW 65)).drew =
   .ok (goInt (Nat.min 1 (n+1 - i):Nat)) ((w.alloc (.cells ROW 65)).drew.setRow w.heap.size (ROW.toList.take (i*13)++news++ROW.toList.drop (i*13+news.length)).toArray):=fun ty dc =>
  qK _ _ _ ty 65 w.heap.size (i*13) _ dc ⟨vb,voff,none⟩ _ vc ROW 65 news 13 hU Cw hgA (by rw[pz,Mt]) (fun j v hj=>by
   rw[Addr.add_lit];exact(World.cell?_alloc_past (w:=w) _ vb (voff+j) T5).trans (Cx j v hj)) (by rw[pz,Yc];omega) Zt
 have hRA:(ROW.toList.take (i*13)++news++ROW.toList.drop (i*13+news.length)).length=G*13:=by
  simp only[List.length_append,ba,bB,aL,Yc,pz];omega
 generalize hra:(ROW.toList.take (i*13)++news++ROW.toList.drop (i*13+news.length)).toArray=RA at Xe;have WM:RA.size=G*13:=by rw[← hra,eu,hRA]
 have hgB:((w.alloc (.cells ROW 65)).drew.setRow w.heap.size RA).drew.heap[w.heap.size]?=some (.cells RA 65 (0,0)):=setRow_heap _ w.heap.size ROW RA 65 (0,0) hgA
 have aU:(cur.toList.drop (i*13)).length=(n - i)*13:=by
  rw[bB,aL,fq,Nat.sub_mul]
 have Zh:∀ ty dc sc,(Builtin.copy_ #[41,41] ty #[.slice (some ⟨w.heap.size,(i+1)*13,none⟩) (n - i) dc,.slice (some ⟨g,i*13,none⟩) (n - i) sc]).run prog ((w.alloc (.cells ROW 65)).drew.setRow w.heap.size RA).drew =
   .ok (goInt (Nat.min (n - i) (n - i):Nat)) (((w.alloc (.cells ROW 65)).drew.setRow w.heap.size RA).drew.setRow w.heap.size (RA.toList.take ((i+1)*13)++cur.toList.drop (i*13)++RA.toList.drop ((i+1)*13+(cur.toList.drop (i*13)).length)).toArray):=fun ty dc sc =>
  qK _ _ _ ty 65 w.heap.size ((i+1)*13) _ dc ⟨g,i*13,none⟩ _ sc RA 65 (cur.toList.drop (i*13)) 13 hU Cw hgB (by rw[aU,WX]) (fun j v hj=>by
   rw[Addr.add_lit];rw[dp]at hj
   have h0:(w.alloc (.cells ROW 65)).heap[g]?=some (.cells cur 65 (0,0)):=by
    rw[Below.heap_alloc w _ g X6];exact hg
   have h1:((w.alloc (.cells ROW 65)).drew.setRow w.heap.size RA).drew.heap[g]?=some (.cells cur 65 (0,0)):=by
    simp only[World.setRow,World.drew,eS,if_neg hgN];exact h0
   simp only[World.cell?,h1];simpa using hj) (by rw[aU,WM];omega) (fun v hv=>Zu v (ff hv))
 clear JQ Y9 hold Zr hG Yc
 go_enter func111,Tryz.ntmps111
 go_wp2_with (first
  | (at_builtin;refine Lib.wpList_append_run _ rfl _ _ _ _ rfl _ _ rfl rfl _ _ (YR _) ?_)
  | (at_builtin;refine wpList_copy_runI _ rfl _ _ 41 41 rfl _ _ rfl rfl (Xe _ _) ?_))
 go_region_law_o (refine step_copy_runI rfl _ _ 41 41 rfl _ _ (by simp[Act.eval,Act.put]) (by simp[Act.eval,Act.put]) (Zh _ _ _) ?_)
 go_wp2
 go_ret
 have eC:(cur.toList.take (i*13)).length=i*13:=by rw[ba,aL,fq];omega
 have e1:RA.toList=cur.toList.take (i*13)++(news++ROW.toList.drop (i*13+news.length)):=by rw[← hra,← hRt,List.append_assoc]
 have e2:RA.toList.take ((i+1)*13)=cur.toList.take (i*13)++news:=by
  have hl:(cur.toList.take (i*13)++news).length=(i+1)*13:=by rw[List.length_append,eC,pz];omega
  rw[e1,← List.append_assoc,fB (by rw[hl];exact aw _),cJ (by rw[hl];exact aw _)]
 have Db:(RA.toList.take ((i+1)*13)++cur.toList.drop (i*13)).length=(n+1)*13:=by
  rw[e2,List.length_append,List.length_append,eC,pz,aU];omega
 refine⟨G,_,rfl,hGn,Zs,?_,?_,setRow_heap _ _ RA _ 65 (0,0) hgB,?_⟩
 ·rw[eu,← List.append_assoc,List.length_append,Db,bB,aL,WM];omega
 ·show List.take ((n+1)*13) (RA.toList.take ((i+1)*13)++(cur.toList.drop (i*13)++RA.toList.drop ((i+1)*13+(n - i)*13)))=_;rw[← List.append_assoc,fB (by rw[Db];exact aw _),cJ (by rw[Db];exact aw _),e2]
 ·refine⟨rfl,rfl,rfl,?_,fun k hk _=>?_⟩
  ·simp only[World.setRow,World.drew,Array.size_modify,World.alloc,Array.size_push];omega
  ·simp only[World.setRow,World.drew,eS,if_neg (show ¬ w.heap.size=k by omega)];exact Below.heap_alloc w _ k hk
theorem K6{w:World}{σ:ah}{μ:Mem}{xs:List (List V)}{r:List V}{sz:Nat}{vals news:List Value}(h:jT w σ μ xs sz vals)(hl:vals.length=xs.length*sz)(hr:jT w σ μ [r] sz news)(hn:news.length=sz)(m:Nat)(hm:m≤xs.length):
  jT w σ μ (xs.take m++r::xs.drop m) sz (vals.take (m*sz)++news++vals.drop (m*sz)):=by
 have eC:(vals.take (m*sz)).length=m*sz:=by
  rw[ba,hl];exact gG (bl _ hm)
 have NM:(xs.take m).length=m:=by rw[ba];exact gG hm
 have h1:jT w σ μ (xs.take m) sz (vals.take (m*sz)):=by
  refine⟨fun q hq=>h.1 q (dd hq),fun i j x hx=>?_⟩
  have hi:i<m:=by
   obtain⟨q,hq,_⟩:=ib hx;have:=(ab.1 hq).1;omega
  have Au:ft xs i j=some x:=by
   simp only[ft,fT,if_pos hi]at hx ⊢;exact hx
  obtain⟨q1,u,q2,q3⟩:=h.2 i j x Au
  have hj:j<sz:=by
   obtain⟨q,hq,Kp⟩:=ib Au;have:=h.1 q (aN hq);have:=(ab.1 Kp).1;omega
  refine⟨q1,u,?_,q3⟩
  have rX:i*sz+j<m*sz:=by
   have:(i+1)*sz≤m*sz:=bl _ hi;rw[Nat.add_mul,fA]at this;omega
  rw[fT,if_pos rX];exact q2
 have h2:jT w σ μ (xs.drop m) sz (vals.drop (m*sz)):=by
  refine⟨fun q hq=>h.1 q (ff hq),fun i j x hx=>?_⟩
  have Au:ft xs (m+i) j=some x:=by
   simp only[ft,dp]at hx ⊢;exact hx
  obtain⟨q1,u,q2,q3⟩:=h.2 _ j x Au;refine⟨q1,u,?_,q3⟩;rw[dp,← q2,Nat.add_mul,Nat.add_assoc]
 have h3:=(h1.append hr (by rw[eC,NM])).append h2 (by rw[List.length_append,List.length_append,eC,hn,NM,Nat.add_mul];simp);simpa using h3
theorem Gn(l:List bc)(x:bc)(m id id2 g g2:Nat)(sh2:Bool)(hm:m<l.length)(hl:l.length<2^30)(σ:ah)(js:id≠id2)(h1:σ[id]?=some (.row 65 13 184 g false (l.map bc.cells)))(h2:σ[id2]?=some (.row 65 13 184 g2 sh2 [x.cells])):
  PC prog 111 [.own id g,.i .i64 m,.own id2 g2] σ (fun r σ'=>r=.own id (g+1)∧σ'=σ.set id (.row 65 13 184 (g+1) false ((l.take m++x::l.drop m).map bc.cells))):=by
 refine PC.We h1 fun B w0 w μ vs hS hv=>?_;have a0:=hv.2 0 _ rfl;have a1:=(hv.2 1 _ rfl).gl;have a2:=hv.2 2 _ rfl;have a0:=a0.jY h1;have a2:=a2.jY h2;obtain⟨_,vals,gf,cm⟩:=hS.obj id _ h1;obtain⟨_,news,Ml,QT⟩:=hS.obj id2 _ h2
 have e:vs=#[μ id,.int .i64 m,μ id2]:=by
  obtain⟨q⟩:=vs
  match q,hv.1 with
  | [u,v,y],_=>simp at a0 a1 a2;rw[a0,a1,a2]
 rw[e];have o1:=jT.one hS cm gf.1;have o2:=jT.one hS QT Ml.1;rcases gf.2 with⟨_,hn⟩ | ⟨gb,cap,cur,s6,hB,hg,H8,zr,mq,Ib⟩
 ·rw[ae]at hn;omega
 rcases Ml.2 with⟨_,hn⟩ | ⟨vb,cap2,cur2,WW,hB2,W7,adI,aei,aeh,Zg⟩
 ·simp at hn
 have Fs:(l.map bc.cells).length=l.length:=ae ..;rw[Fs]at s6 H8 Ib gf;have Pq:vb≠gb:=fun e=>js (hS.sep id id2 _ _ gb h1 h2 (by simp) (by simp) (by rw[s6];rfl) (by rw[WW,e];rfl));have pz:news.length=13:=by simpa using Ml.1
 have Me:vals.length=l.length*13:=by rw[gf.1]
 have Cx:∀ j v,news[j]?=some v→w.cell? ⟨vb,0+j,none⟩=some v:=by
  intro j v hj;rw[← Zg,fT]at hj;split at hj
  ·simp only[World.cell?,W7,aI];simpa using hj
  ·cases hj
 have T5:vb<w.heap.size:=(bS.1 W7).1;have hlen':((l.take m++x::l.drop m).map bc.cells).length=l.length+1:=by simp;omega
 have Xk:jT w σ μ ((l.take m++x::l.drop m).map bc.cells) 13 (vals.take (m*13)++news++vals.drop (m*13)):=by
  have:=K6 (r:=x.cells) cm (by rw[Fs];exact Me) QT pz m (by rw[Fs];omega);simpa[List.map_take,List.map_drop]using this
 have Mp:(vals.take (m*13)++news++vals.drop (m*13)).length=(l.length+1)*13:=by
  simp only[List.length_append,ba,bB,Me,pz];omega
 rw[s6,WW]
 by_cases s5:l.length+1≤cap
 ·refine(Cu gb l.length cap m vb 0 cap2 cur news w hm s5 (by unfold maxLen at zr;omega) Pq hg mq pz Cx (fun v hv=>o1 v (Ib▸hv)) o2 65 65 cur2.size cur.size (by simp[World.shape?,W7]) (by simp[World.shape?,hg]) (by rw[mq];omega) (by simp[World.frozen?,W7]) (by simp[World.frozen?,W7])).mono ?_;rintro e w' ⟨rfl,rfl⟩;refine⟨_,_,rfl,?_,fun b hb=>.inl hb,?_,Xk⟩
  ·refine⟨rfl,rfl,rfl,?_,fun k hk js=>?_⟩
   ·simp only[World.setRow,World.drew,Array.size_modify];exact aw _
   ·have qR:¬ gb=k:=fun e=>js (by rw[e];rfl);simp only[World.setRow,World.drew,eS,if_neg qR]
  ·rw[hlen']
   have e1:cur.toList.take (m*13)=vals.take (m*13):=by
    rw[← Ib,C5,gG (by omega)]
   have e2:(As cur l.length m news).toList=(vals.take (m*13)++news++vals.drop (m*13))++cur.toList.drop ((l.length+1)*13):=by
    rw[As,Ib,e1]
   refine⟨Mp,.inr ⟨gb,cap,_,rfl,hB,setRow_heap w.drew gb cur _ 65 (0,0) hg,s5,zr,?_,?_⟩⟩
   ·have e3:(As cur l.length m news).size=(As cur l.length m news).toList.length:=aL.symm;rw[e3,e2,List.length_append,Mp,bB,(show cur.toList.length=cap*13 from by rw[aL,mq])];omega
   ·rw[e2,fB (by rw[Mp];exact aw _),cJ (by rw[Mp];exact aw _)]
 ·have ku:cap=l.length:=by omega
  subst ku;have iE:cur.toList=vals:=by rw[← Ib,cJ (by rw[aL,mq];exact aw _)]
  refine(Ew gb l.length m vb 0 cap2 cur news w hm (by omega) hg mq pz Cx (fun v hv=>o1 v (iE▸hv)) o2 T5).mono ?_;rintro e w' ⟨G,row,rfl,q1,q2,q3,q4,q5,q6⟩;refine⟨_,_,rfl,?_,fun b hb=>.inr ?_,?_,Xk⟩
  ·obtain⟨p1,p2,p3,p4,p5⟩:=q6;exact⟨p1,p2,p3,p4,fun k hk js=>p5 k hk (by simp)⟩
  ·simp only[iT,aa]at hb;omega
  ·rw[hlen'];refine⟨Mp,.inr ⟨w.heap.size,G,row,rfl,by have:=(bS.1 hg).1;omega,q5,q1,q2,q3,?_⟩⟩;rw[q4,iE]
theorem Gp(l:List bc)(x:bc)(id id2 g g2:Nat)(sh2:Bool)(hl:l.length<2^30)(σ:ah)(h1:σ[id]?=some (.row 65 13 184 g false (l.map bc.cells)))(h2:σ[id2]?=some (.row 65 13 184 g2 sh2 [x.cells])):
  PC prog 111 [.own id g,.i .i64 l.length,.own id2 g2] σ (fun r σ'=>r=.own id (g+1)∧σ'=σ.set id (.row 65 13 184 (g+1) false ((l++[x]).map bc.cells))):=by
 refine PC.intro func111 aaN fun aU da=>al ?_;simp only[V2,SS,seval];simp only[h1,h2,ae,VV,Int.reduceBEq,Int.reduceBNe,Nat.reduceAdd,Nat.reduceSub,Nat.reduceLeDiff,Nat.reduceEqDiff,Int.reduceToNat,reduceIte,reduceCtorEq];refine⟨⟨by omega,by omega⟩,fun h=>by simp at h,fun _=>⟨⟨by omega,by unfold maxLen;omega⟩,?_⟩⟩;exact ei (.inr rfl) rfl (Wk.refl _ _) rfl ⟨rfl,by simp⟩
theorem JC(l:List bc)(x:bc)(m id id2 g g2:Nat)(sh2:Bool)(hm:m≤l.length)(hl:l.length<2^30)(σ:ah)(js:id≠id2)(h1:σ[id]?=some (.row 65 13 184 g false (l.map bc.cells)))(h2:σ[id2]?=some (.row 65 13 184 g2 sh2 [x.cells])):
  PC prog 111 [.own id g,.i .i64 m,.own id2 g2] σ (fun r σ'=>r=.own id (g+1)∧σ'=σ.set id (.row 65 13 184 (g+1) false ((l.take m++x::l.drop m).map bc.cells))):=by
 rcases Nat.lt_or_eq_of_le hm with h | rfl
 ·exact Gn l x m id id2 g g2 sh2 h hl σ js h1 h2
 ·have:=Gp l x id id2 g g2 sh2 hl σ h1 h2
  rwa [List.take_length,o8]
theorem Ja(S:ah)(a b id g:Nat)(l:List bc)(x:bc)(ha:S[a]?=some (.box 41 [.own id g]))(hid:S[id]?=some (.row 65 13 184 g false (l.map bc.cells)))(hb:S[b]?=some (.box 65 x.cells))(k:Nat)(y:bc)(hk:l[k]?=some y):
  PC prog 109 [.i .i64 k,.ptr a 0,.ptr b 0] S (fun r σ'=>r=.b (decide (0≤eJ y x))∧σ'=S):=by
 refine PC.intro func109 XH fun aU da=>al ?_;have rG:k<l.length:=(ab.1 hk).1;have er:(l.map bc.cells).getD k []=y.cells:=by simp[List.getD_eq_getElem?_getD,hk]
 simp only[RF,SS,seval];simp only[ha,hb,hid,er,ae,VV,seval];refine⟨⟨by omega,by omega⟩,by rw[ko];exact aw _,by rw[ko];exact aw _,?_⟩;refine an (sR y x _) (by simp only[mT,VV,seval]) ?_;simp only[VV,seval];exact aP (.inr rfl) rfl ⟨rfl,rfl⟩
theorem I9(l:List bc)(x:bc)(m id g:Nat)(hl:l.length<2^39)(hm:m≤l.length)(h1:∀ (k:Nat) (y:bc),l[k]?=some y→(0≤eJ y x↔m≤k))(σ:ah)(hid:σ[id]?=some (.row 65 13 184 g false (l.map bc.cells))):
  PC prog 80 [.own id g,.agg x.cells] σ (fun r σ'=>r=.gZ [.i .i64 m,.b (match l[m]? with | some y=>eJ y x==0 | none=>false)]∧σ'=σ):=by
 refine PC.intro func80 c80 fun aU da=>al ?_;have eC:id<σ.length:=(ab.1 hid).1;have hid':∀ loc:ah,(σ++loc)[id]?=some (.row 65 13 184 g false (l.map bc.cells)):=fun loc=>by rw[az eC];exact hid
 simp only[Yp,SS,seval];simp only[bc.cells,bY.cells,En.cells,ae,hid,hid',VV,seval];refine an (z6 109 [.ptr σ.length 0,.ptr (σ.length+1) 0] l.length m (by omega) hm (by kernel_rfl) (fun k hk=>?_)) rfl ?_
 ·obtain⟨y,hy⟩:∃ y,l[k]?=some y:=⟨_,ao hk⟩;refine(Ja _ σ.length (σ.length+1) id g l x (by simp only[bc.cells,bY.cells,En.cells,VV,seval]) (hid' _) (by simp only[bc.cells,bY.cells,En.cells,VV,seval]) k y hy).mono ?_;rintro r σ' ⟨rfl,rfl⟩;refine⟨?_,rfl⟩;simp only[decide_eq_decide.2 (h1 k y hy)]
 ·simp only[ae,hid',VV,seval];have e1:((decide ((m:Int)<(l.length:Int))==true)=true)↔m<l.length:=by simp
  cases hy:l[m]? with
  | some y =>
   have H9:m<l.length:=(ab.1 hy).1;have er:(l.map bc.cells).getD m []=y.cells:=by simp[List.getD_eq_getElem?_getD,hy]
   have hd:decide ((m:Int)<(l.length:Int))=true:=by simp;omega
   refine⟨fun _=>⟨by omega,by omega⟩,.agg y.cells,fun _=>⟨by rw[er,mT],by rw[er,ko];exact aw _⟩,?_⟩;refine br (c:=true) (by simp only[hd,VV,seval]<;>rfl) (fun _=>sR y x _) (by simp only[bc.cells,bY.cells,En.cells,VV,seval]) ?_;simp only[hd,VV,seval];exact aD aU (.inr rfl) (by simp only[RS,seval];rfl) (by simp only[LW]) ⟨rfl,rfl⟩
  | none =>
   have H9:¬ m<l.length:=by simpa using hy
   have hd:decide ((m:Int)<(l.length:Int))=false:=by simp;omega
   refine⟨fun h=>absurd (e1.1 h) H9,.u,fun h=>absurd (e1.1 h) H9,?_⟩;refine br (c:=false) (v:=.i .i64 0) (by simp only[hd,VV,seval]<;>rfl) (fun h=>by simp at h) rfl ?_;simp only[hd,VV,seval];exact aD aU (.inr rfl) (by simp only[RS,seval];rfl) (by simp only[LW]) ⟨rfl,rfl⟩
set_option maxHeartbeats 1000000 in
theorem Aj(o:cp)(x:bc)(m:Nat)(ho:o.small)(hx:x.small)(gC:dQ x=0)(hp:(dV x).length≤60000)(Gu:o.log.length≤4000000)(hm:m≤o.ops.length)(h1:∀ (k:Nat) (y:bc),o.ops[k]?=some y→(0≤eJ y x↔m≤k))(σ:ah):
  PC prog 81 [.agg o.cells,.agg x.cells] σ (fun r σ'=>r=.gZ [.agg (gJ o x m).cells,.i .i64 0]∧σ'=σ):=by
 refine PC.intro func81 c81 fun aU da=>al ?_;have hlen:=ho.len;simp only[p81,SS,seval];simp only[cp.cells,bc.cells,bY.cells,En.cells,VV,seval];refine an (uP x hx _) (by simp only[bc.cells,bY.cells,En.cells,VV,seval]) ?_;simp only[GJ gC,VV,seval];refine an (Gl o.log (dV x) (by omega) (by omega) _) rfl ?_;simp only[GZ hp Gu,VV,seval];refine an (pE o ho _) (by simp only[cp.cells,VV,seval]) ?_;simp only[rS,VV,seval];refine an (I9 o.ops x m (σ.length+3) 0 (by omega) hm h1 _ (by simp only[VV,seval])) (by simp only[bc.cells,bY.cells,En.cells,VV,seval]) ?_;simp only[VV,seval];refine an (mi x hx _) (by simp only[bc.cells,bY.cells,En.cells,VV,seval]) ?_;simp only[bc.cells,bY.cells,En.cells,VV,seval];refine an (JC o.ops x m (σ.length+3) (σ.length+5) 0 0 false hm hlen _ (by omega) (by simp only[VV,seval]) (by simp only[bc.cells,bY.cells,En.cells,VV,seval])) rfl ?_;simp only[VV,seval];refine iy 3 aU (.inr rfl) (by simp only[RS,seval];rfl) rfl ?_ ?_
 ·simp only[aW,aZ,Pm.fz,kF,and_self,if_true,LW]
 ·simp only[aW,aZ,Pm.fz,kF,and_self,if_true,gJ];exact⟨rfl,trivial⟩
def qa(o:cp)(e:En)(sn:List Int):bc:=⟨⟨o.clock+1,o.number,lL sn o.number+1⟩,1,e,sn⟩
def kC(o:cp)(x:bc)(m:Nat):cp:={ gJ o x m with synced:=(gJ o x m).log.length }
theorem NY(v:List Int)(o:Int):0≤lL v o:=by
 unfold lL
 (repeat' split)<;>omega
set_option maxHeartbeats 1000000 in
theorem OA(o:cp)(e:En)(he:e.small)(ho:o.small)(hd:o.down=false)(c:Nat→Nat)(hc:uX o.ops c)(sn:List Int)(WG:ph (kH c) []=sn)(hl:lL sn o.number<128)(h0:0≤o.clock)(aU:o.clock<2^30)(m:Nat)
  (hx:(qa o e sn).small) (gC:dQ (qa o e sn)=0) (hp:(dV (qa o e sn)).length≤60000) (Gu:o.log.length≤4000000) (hm:m≤o.ops.length) (h1:∀ (k:Nat) (y:bc),o.ops[k]?=some y→(0≤eJ y (qa o e sn)↔m≤k)) (σ:ah) :
  PC prog 57 [.agg o.cells,.i .i64 1,.agg e.cells] σ (fun r σ'=>r=.gZ [.agg (kC o (qa o e sn) m).cells,.agg (qa o e sn).cells,.i .i64 0]∧σ'=σ):=by
 refine PC.intro func57 c57 fun aU da=>al ?_;have hv:=NY sn o.number;have e1:IntKind.i64.wrap (o.clock+1)=o.clock+1:=IntWalk.i64_in _ (by omega);have e2:IntKind.i64.wrap (lL sn o.number+1)=lL sn o.number+1:=IntWalk.i64_in _ (by omega);have hb:(decide (128≤lL sn o.number)||decide (1073741824≤o.clock))=false:=by simp;omega
 have hlen:(gJ o (qa o e sn) m).log.length<2^40:=by simp only[gJ,List.length_append,sH];omega
 simp only[p57,SS,seval];simp only[cp.cells,En.cells,VV,seval];refine an (Hf o ho hd c hc _) (by simp only[cp.cells,VV,seval]) ?_;simp only[WG,VV,seval];refine an (mz sn o.number _) rfl ?_;simp only[e1,e2,VV,seval];refine⟨fun h=>(by rw[hb]at h;cases h),fun _=>?_⟩;refine an (Aj o (qa o e sn) m ho hx gC hp Gu hm h1 _) (by simp only[cp.cells,bc.cells,bY.cells,En.cells,qa,VV,seval]) ?_;simp only[cp.cells,VV,seval];refine an (mi (qa o e sn) hx _) (by simp only[bc.cells,bY.cells,En.cells,qa,VV,seval]) ?_;simp only[bc.cells,bY.cells,En.cells,bO,VV,seval];refine aD aU (.inr rfl) (by simp only[RS,seval];rfl) (by simp only[LW]) ⟨rfl,rfl⟩
theorem oZ(o:cp)(e:En)(he:e.small)(Zd:cM e=0)(ho:o.small)(hd:o.down=false)(c:Nat→Nat)(hc:uX o.ops c)(sn:List Int)(WG:ph (kH c) []=sn)(hl:lL sn o.number<128)(h0:0≤o.clock)(CC:o.clock<2^30)(m:Nat)
  (hx:(qa o e sn).small) (gC:dQ (qa o e sn)=0) (hp:(dV (qa o e sn)).length≤60000) (Gu:o.log.length≤4000000) (hm:m≤o.ops.length) (h1:∀ (k:Nat) (y:bc),o.ops[k]?=some y→(0≤eJ y (qa o e sn)↔m≤k)) (σ:ah) :
  PC prog 36 [.agg o.cells,.agg e.cells] σ (fun r σ'=>r=.gZ [.agg (kC o (qa o e sn) m).cells,.agg (qa o e sn).cells,.i .i64 0]∧σ'=σ):=by
 refine PC.intro func36 c36 fun aU da=>al ?_;simp only[p36,SS,seval];simp only[cp.cells,En.cells,hd,VV,seval];refine an (mH e he _) (by simp only[En.cells,VV,seval]) ?_;simp only[Zd,VV,seval];refine an (OA o e he ho hd c hc sn WG hl h0 CC m hx gC hp Gu hm h1 _) (by simp only[cp.cells,En.cells,hd,VV,seval]) ?_;simp only[cp.cells,bc.cells,bY.cells,En.cells,VV,seval];exact aD aU (.inr rfl) (by simp only[RS,seval];rfl) (by simp only[LW]) ⟨rfl,rfl⟩
theorem Lk(l:List bc)(x:bc)(m:Nat)(hl:l.length<2^39)(hm:m≤l.length)(h1:∀ (k:Nat) (y:bc),l[k]?=some y→(0≤eJ y x↔m≤k))(rW:∀ y,l[m]?=some y→eJ y x≠0)(σ:ah):
  PC prog 80 [.sl 13 (l.map bc.cells),.agg x.cells] σ (fun r σ'=>r=.gZ [.i .i64 m,.b false]∧σ'=σ) :=
 (Ag l x m hl hm h1 σ).mono fun r σ' ⟨h,hs⟩=>⟨by
  rw[h];cases hy:l[m]? with
  | none=>rfl
  | some y=>simp[rW y hy],hs⟩
theorem FY(o:cp)(x:bc)(m:Nat)(ho:o.small)(hx:x.small)(hd:o.down=false)(gC:dQ x=0)(hp:(dV x).length≤60000)(Gu:o.log.length≤4000000)(hm:m≤o.ops.length)(h1:∀ (k:Nat) (y:bc),o.ops[k]?=some y→(0≤eJ y x↔m≤k))
  (rW:∀ y,o.ops[m]?=some y→eJ y x≠0) (js:x.aT.bP≠o.number) (σ:ah) :
  PC prog 55 [.agg o.cells,.agg x.cells] σ (fun r σ'=>r=.gZ [.agg (gJ o x m).cells,.i .i64 0]∧σ'=σ):=by
 refine PC.intro func55 c55 fun aU da=>al ?_;have hlen:=ho.len;have WU:(x.aT.bP==o.number)=false:=by simpa using js
 simp only[Yq,SS,seval];simp only[cp.cells,bc.cells,bY.cells,En.cells,hd,VV,seval];refine an (lu x hx _) (by simp only[bc.cells,bY.cells,En.cells,VV,seval]) ?_;simp only[gC,VV,seval];refine an (Lk o.ops x m (by omega) hm h1 rW _) (by simp only[bc.cells,bY.cells,En.cells,VV,seval]) ?_;simp only[VV,seval];refine⟨fun h=>by simp at h,.u,fun h=>by simp at h,?_⟩;refine br (c:=false) (v:=.i .i64 0) (by simp only[VV,seval]<;>rfl) (fun h=>by simp at h) rfl ?_;simp only[WU,VV,seval];refine an (Aj o x m ho hx gC hp Gu hm h1 _) (by simp only[cp.cells,bc.cells,bY.cells,En.cells,hd,VV,seval]) ?_;simp only[cp.cells,VV,seval];exact aD aU (.inr rfl) (by simp only[RS,seval];rfl) (by simp only[LW]) ⟨rfl,rfl⟩
theorem Al(o:cp)(ho:o.small)(hd:o.down=false)(σ:ah):PC prog 43 [.agg o.cells] σ (fun r σ'=>r=.sl 8 ((eK o.ops).map En.cells)∧σ'=σ):=by
 refine PC.intro func43 c43 fun aU da=>al ?_;have hlen:=ho.len;simp only[p43,SS,seval];simp only[cp.cells,hd,VV,seval];refine an (D3 o.ops ho.ops _) rfl ?_;simp only[VV,seval];exact aD aU (.inr rfl) (by simp only[RS,seval];rfl) (by simp only[LW]) ⟨rfl,rfl⟩
theorem F0(o:cp)(ho:o.small)(σ:ah):PC prog 19 [.agg o.cells] σ (fun r σ'=>r=.sl 8 ((eK o.ops).map En.cells)∧σ'=σ):=by
 refine PC.intro func19 c19 fun aU da=>al ?_;simp only[p19,SS,seval];simp only[cp.cells,VV,seval];refine an (w9 o.ops ho.ops _) rfl ?_;simp only[VV,seval];exact aD aU (.inr rfl) (by simp only[RS,seval];rfl) (by simp only[LW]) ⟨rfl,rfl⟩
theorem Lo(n:List bc)(o:bc):n.map bc.cells++[[.i .i64 o.aT.time,.i .i64 o.aT.bP,.i .i64 o.aT.number,.i .i64 o.kind,.sl 3 (o.entry.source.map It.cells),.sl 3 (o.entry.target.map It.cells),.s o.entry.bN,.s o.entry.next,.s o.entry.cw,.s o.entry.bV,.i .i64 o.entry.created,.i .i64 o.entry.origin,.sl 1 (o.seen.map bW)]]=(n++[o]).map bc.cells:=by
 simp[bc.cells,bY.cells,En.cells]
theorem Sc{σ:ah}{K:Exit→St→Prop}(aU:bG σ)(l:List bc)(hs:∀ x∈l,x.small)(hlen:l.length<2^39)(v:List Int):∀ (rest pre out:List bc) (g:Nat),l=pre++rest→out.length≤pre.length →
  (∀ g,(∀ j0 j2 j3 j4 j6 j7 j8 j9 cC cH cG cF cB cE cD cI cQ db de dh dm dv du dt dN dR dU,K (.exit 0) ⟨[j0,.sl 1 (v.map bW),j2,j3,j4,.own σ.length g,j6,j7,j8,j9,cC,cH,cG,cF,cB,cE,cD,cI,cQ,db,de,dh,dm,dv,du,dt,dN,dR,dU],σ++[dY g false (out++nr rest v)]⟩)) →
  fp σ.length prog HD K (rest.length+1) ⟨[.u,.sl 1 (v.map bW),.u,.u,.u,.own σ.length g,.u,.u,.u,.u,.u,.sl 13 (l.map bc.cells),.i .i64 l.length,.i .i64 pre.length,.u,.u,.u,.u,.u,.u,.u,.u,.u,.u,.u,.u,.u,.u,.u],σ++[dY g false out]⟩:=by
 intro rest
 induction rest with
 | nil =>
  intro pre out g he hm h1;have he:l=pre:=by simpa using he
  subst he;simp only[nr,Qz,bt]at h1;refine ay fun R hR=>?_;simp only[HD,VV,seval];exact⟨fun h=>by simp at h,fun _=>h1 g ..⟩
 | cons x rest ih =>
  intro pre out g he hm h1;have hl:l.length=pre.length+(rest.length+1):=by rw[he];simp
  have hx:x.small:=hs x (by rw[he];simp)
  have hw:IntKind.i64.wrap ((pre.length:Int)+1)=(((pre++[x]).length:Nat):Int):=by
   rw[aX (by omega)];simp
  have er:(List.map bc.cells l).getD pre.length []=x.cells:=by rw[he];exact jj
  have hd:decide ((pre.length:Int)<(l.length:Int))=true:=by simp;omega
  have Ya:=J6 v x.aT;have T5:=mi x hx;simp only[bc.cells,bY.cells,En.cells,aJ,aG]at Ya T5;refine ay fun R hR=>?_;simp only[HD,dY,aH,er,hd,ae,bc.cells,bY.cells,En.cells,V.pure,VV,seval];refine⟨⟨by omega,by omega⟩,?_⟩;refine an (Ya _) rfl ?_;simp only[hw,VV,seval];have H9:(out.length+1)*184≤2^47∧out.length+1≤maxLen:=by simp only[maxLen];omega
  refine⟨fun h=>?_,fun h=>?_⟩
  ·have e:nr (x::rest) v=x::nr rest v:=List.filter_cons_of_pos (by simpa using h);rw[e]at h1;refine an (T5 _) rfl ?_;simp only[ae,hw,V.pure,VV,seval];refine⟨by simpa using H9,?_⟩;rw[Lo];refine hR _ (cy [dY (g+1) false (out++[x])] [_] (b9 aU (by simp[dY])) ?_ ?_ (ih (pre++[x]) (out++[x]) (g+1) (by rw[he];simp) (by simp;omega) (by simpa using h1)))
   ·repeat' constructor
   ·simp only[LW,ag,ai,aI];omega
  ·have e:nr (x::rest) v=nr rest v:=List.filter_cons_of_neg (by simpa using h);rw[e]at h1;refine hR _ (cy [dY g false out] [_] (b9 aU (by simp[dY])) ?_ ?_ (ih (pre++[x]) out g (by rw[he];simp) (by simp;omega) h1))
   ·repeat' constructor
   ·simp only[LW,ag,ai,aI];omega
theorem L4(o:cp)(ho:o.small)(hd:o.down=false)(v:List Int)(σ:ah):PC prog 25 [.agg o.cells,.sl 1 (v.map bW)] σ (fun r σ'=>r=.sl 13 ((nr o.ops v).map bc.cells)∧σ'=σ):=by
 refine PC.intro func25 c25 fun aU da=>?_;have hlen:=ho.len;simp only[p25,SS,seval];refine bX.cut fun R hR=>?_;simp only[cp.cells,hd,VV,seval];refine hR _ ?_;clear hR R;refine bX.cut fun R hR=>?_;simp only[VV,seval];refine hR _ ?_;clear hR R;refine bX.cut fun R hR=>?_;simp only[VV,seval];refine hR _ (al ?_);clear hR R;simp only[ae,VV,seval];have JP:gh σ.length [.u,.sl 1 (v.map bW),.u,.u,.u,.nil,.u,.u,.u,.u,.u,.sl 13 (o.ops.map bc.cells),.i .i64 o.ops.length,.i .i64 (([]:List bc).length:Nat),.u,.u,.u,.u,.u,.u,.u,.u,.u,.u,.u,.u,.u,.u,.u]:=by simp only[LW]
 refine bX.wk ((((Wk.ic (ys:=[.u,.sl 1 (v.map bW),.u,.u,.u,.nil,.u,.u,.u,.u,.u,.sl 13 (o.ops.map bc.cells),.i .i64 o.ops.length,.i .i64 (([]:List bc).length:Nat),.u,.u,.u,.u,.u,.u,.u,.u,.u,.u,.u,.u,.u,.u,.u]) (by repeat' constructor)).trans (Wk.vC (aw _) aU (eW.1 JP))).trans (Wk.iZ (P:=prog) (k:=5) FD rfl)).trans (Wk.ic (ys:=[.u,.sl 1 (v.map bW),.u,.u,.u,.own σ.length 0,.u,.u,.u,.u,.u,.sl 13 (o.ops.map bc.cells),.i .i64 o.ops.length,.i .i64 (([]:List bc).length:Nat),.u,.u,.u,.u,.u,.u,.u,.u,.u,.u,.u,.u,.u,.u,.u]) ?_))
  (bX.ml (o.ops.length+1) (Sc aU o.ops ho.ops (by omega) v o.ops [] [] 0 rfl (aw _) ?_))
 ·simp only[VV,seval]
  repeat' constructor
 intro g;intros;simp only[dY,aG,VV,seval];refine iy 0 aU (.inr rfl) (by simp only[RS,seval];rfl) rfl ?_ ?_
 ·simp only[aW,aZ,cn,Pm.fz,kF,and_self,if_true,LW]
 ·simp only[aW,aZ,cn,Pm.fz,kF,and_self,if_true];exact⟨rfl,trivial⟩
end Go.Proofs.Tryz
namespace Go.Proofs.Tryz
open Go Go.Pm Go.Bt
theorem Od{σ loc:ah}{k a b c:Nat}{K0 A0 B0 C0 K A B C:Ob}{pc:bj}{KK:Exit→St→Prop}{N:Nat}{fr fr':List V}(aU:bG (gP σ k a b c K0 A0 B0 C0))(hK:kx σ.length K)(hA:kx σ.length A)(hB:kx σ.length B)(hC:kx σ.length C)(hc:nP fr fr')(hl:gh σ.length fr')
  (h:fp σ.length prog pc KK N ⟨fr',gP σ k a b c K A B C⟩):fp σ.length prog pc KK N ⟨fr,gP σ k a b c K A B C++loc⟩ :=
 Bg ((Wk.ic hc).trans (Wk.vC (by rw[jB];exact aw _) (wL aU hK hA hB hC) (eW.1 (by rw[jB];exact hl)))) h
def vu(i j:Int)(x:bc):Let:=⟨i,j,x⟩
set_option maxHeartbeats 1000000 in
theorem Sf{σ:ah}{k a b c ga gc:Nat}{K:Exit→St→Prop}(h:sb σ k a b c)(bf:List cp)(C:Ob)(Ic:kx σ.length C){K0 A0 B0 C0:Ob}(aU:bG (gP σ k a b c K0 A0 B0 C0))(i j:Int)(gb:Nat)(lets:List Let)(l:List bc)(hlen:lets.length+l.length<2^30):∀ (rest pre:List bc),l=pre++rest →
  ((∀ j0 j1 j2 j3 j4 j5 j6 j7 j8 j9 cC cH cG cF cB cE cD cI cQ db de dh dm dv du dt dN dR dU dX ej eD eL eQ eP fb fi fh fg fw fG fF fK fW gj gi gB gA gz gy gx gY gW gU iq iD iN iM iL iK jf jD jP kt kr kq k8 mP mO mN mM mL mK nL qf rj ri rh rf re q9 q8 q7 qZ qY,K (.exit 1) ⟨[j0,j1,j2,j3,j4,j5,j6,j7,j8,j9,cC,cH,cG,cF,cB,cE,cD,cI,cQ,db,de,dh,dm,dv,du,dt,dN,dR,dU,dX,ej,eD,eL,eQ,eP,fb,fi,fh,fg,fw,fG,fF,fK,fW,gj,gi,gB,gA,gz,gy,gx,gY,gW,gU,iq,iD,iN,iM,iL,iK,jf,jD,jP,kt,kr,kq,k8,mP,mO,mN,mM,mL,mK,nL,qf,rj,ri,rh,rf,re,q9,q8,q7,qZ,qY],gP σ k a b c (dB (.own a ga) (.own b (gb+l.length)) (.own c gc)) (bJ ga bf) (cv (gb+l.length) (lets++l.map (vu i j))) C⟩)) →
  fp σ.length prog HK K (rest.length+1) ⟨[.ptr k 0,.i .i64 i,.i .i64 j,.u,.u,.u,.u,.u,.u,.u,.u,.u,.u,.u,.u,.u,.u,.u,.u,.u,.u,.u,.u,.u,.u,.u,.u,.u,.u,.u,.u,.u,.u,.u,.u,.u,.u,.u,.u,.u,.u,.u,.u,.u,.u,.u,.u,.u,.u,.u,.u,.u,.u,.u,.u,.u,.u,.u,.u,.u,.u,.u,.u,.u,.u,.sl 13 (l.map bc.cells),.i .i64 l.length,.i .i64 pre.length,.u,.u,.u,.u,.u,.u,.u,.u,.u,.u,.u,.u,.u,.u,.u,.u,.u],gP σ k a b c (dB (.own a ga) (.own b (gb+pre.length)) (.own c gc)) (bJ ga bf) (cv (gb+pre.length) (lets++pre.map (vu i j))) C⟩:=by
 intro rest
 induction rest with
 | nil =>
  intro pre he h1;have he:l=pre:=by simpa using he
  subst he;refine ay fun R hR=>?_;simp only[HK,VV,seval];exact⟨fun h=>by simp at h,fun _=>h1 ..⟩
 | cons x rest ih =>
  intro pre he h1;have hl:l.length=pre.length+(rest.length+1):=by rw[he];simp
  have hw:IntKind.i64.wrap ((pre.length:Int)+1)=(((pre++[x]).length:Nat):Int):=by
   rw[aX (by omega)];simp
  have er:(List.map bc.cells l).getD pre.length []=x.cells:=by rw[he];exact jj
  have h0:(0:Int)≤(pre.length:Int):=by omega
  have h2:(pre.length:Int)<(l.length:Int):=by omega
  refine ay fun R hR=>?_;simp only[bc.cells,bY.cells,En.cells,aJ,aG]at er;simp only[HK,dB,cv,h.all,er,hw,h0,h2,ae,V.pure,maxLen,VV,seval];have Fs:(lets++pre.map (vu i j)).length=lets.length+pre.length:=by simp
  refine⟨fun _=>⟨⟨by omega,by omega⟩,?_⟩,fun hf=>by simp at hf⟩
  have e0:(lets++pre.map (vu i j)).map Let.cells++[[.i .i64 i,.i .i64 j,.i .i64 x.aT.time,.i .i64 x.aT.bP,.i .i64 x.aT.number,.i .i64 x.kind,.sl 3 (x.entry.source.map It.cells),.sl 3 (x.entry.target.map It.cells),.s x.entry.bN,.s x.entry.next,.s x.entry.cw,.s x.entry.bV,.i .i64 x.entry.created,.i .i64 x.entry.origin,.sl 1 (x.seen.map bW)]]=(lets++(pre++[x]).map (vu i j)).map Let.cells:=by
   simp[vu,Let.cells,bc.cells,bY.cells,En.cells]
  have eg:gb+pre.length+1=gb+(pre++[x]).length:=by simp;omega
  rw[e0,eg];refine hR _ (Od aU (sW h.la h.lb h.lc) trivial trivial Ic (by repeat' constructor) ?_ (ih (pre++[x]) (by rw[he];simp) h1));simp only[LW,h.lk]
set_option maxHeartbeats 1000000 in
theorem Ga{σ:ah}{k a b c ga gb gc:Nat}(h:sb σ k a b c)(bf:List cp)(lets:List Let)(dP:List (Int×Int))(Xd:dP.length<2^30)(i j:Nat)(yI:i≠j)(oi oj:cp)(hi:bf[i]?=some oi)(hj:bf[j]?=some oj)(zq:oi.down=false)(yJ:oj.down=false)
  (PK:yA ⟨bf,lets,dP⟩ i j=false) (sn:List Int) (hS:∀ σ,PC prog 26 [.agg oj.cells] σ (fun r σ'=>r=.sl 1 (sn.map bW)∧σ'=σ)) (l:List bc) (hL:∀ σ,PC prog 25 [.agg oi.cells,.sl 1 (sn.map bW)] σ (fun r σ'=>r=.sl 13 (l.map bc.cells)∧σ'=σ))
  (hlen:lets.length<2^29) (Db:l.length<2^29) :
  PC prog 11 [.ptr k 0,.i .i64 i,.i .i64 j] (gP σ k a b c (dB (.own a ga) (.own b gb) (.own c gc)) (bJ ga bf) (cv gb lets) (dW gc dP)) (fun r σ'=>if lets.length+l.length≤256 then r=.i .i64 0∧σ'=gP σ k a b c (dB (.own a ga) (.own b (gb+l.length)) (.own c gc)) (bJ ga bf) (cv (gb+l.length) (lets++l.map (vu i j))) (dW gc dP)else r=.i .i64 3∧σ'=gP σ k a b c (dB (.own a ga) (.own b gb) (.own c gc)) (bJ ga bf) (cv gb lets) (dW gc dP)):=by
 refine PC.intro func11 c11 fun uK da=>al ?_;have PJ:(bf.map cp.cells).getD i []=oi.cells:=by simp[List.getD_eq_getElem?_getD,hi]
 have PI:(bf.map cp.cells).getD j []=oj.cells:=by simp[List.getD_eq_getElem?_getD,hj]
 have pC:i<bf.length:=(ab.1 hi).1;have rk:j<bf.length:=(ab.1 hj).1;have h0:(0:Int)≤(i:Int):=by omega
 have h1:(0:Int)≤(j:Int):=by omega
 have h2:(i:Int)<(bf.length:Int):=by omega
 have h3:(j:Int)<(bf.length:Int):=by omega
 have he:((i:Int)==(j:Int))=false:=by simp;omega
 have hw:IntKind.i64.wrap ((lets.length:Int)+(l.length:Int))=((lets.length+l.length:Nat):Int):=by rw[IntWalk.i64_in _ (by omega)];omega
 have Zq:ft (bf.map cp.cells) i 5=some (.b false):=by simp[ft,hi,cp.cells,zq]
 have Yb:ft (bf.map cp.cells) j 5=some (.b false):=by simp[ft,hj,cp.cells,yJ]
 simp only[cp.cells]at PJ PI;simp only[Yr,SS,seval];simp only[dB,bJ,cv,dW,h.all,PJ,PI,h0,h1,h2,h3,he,zq,yJ,Zq,Yb,ae,VV,seval];refine⟨_,rfl,?_⟩;simp only[h.all,VV,seval];refine an (Fc ⟨bf,lets,dP⟩ (.own a ga) (.own b gb) i j c gc (by show dP.length<2^62;omega) _ ?_ ?_ ?_) rfl ?_
 ·simp only[h.all,dW]
 ·simp only[h.all,beq_self_eq_true,VV,seval]
 ·simp only[h.all,beq_self_eq_true,VV,seval]
 simp only[PK,h.all,PJ,PI,h0,h1,h2,h3,ae,VV,seval];refine an (hS _) (by simp only[cp.cells,yJ,VV,seval]) ?_;simp only[h.all,PJ,PI,h0,h1,h2,h3,ae,VV,seval];refine an (hL _) (by simp only[cp.cells,zq,VV,seval]) ?_;simp only[h.all,hw,ae,VV,seval];refine⟨fun hf=>?_,fun hf=>?_⟩
 ·have hn:¬ lets.length+l.length≤256:=by simp at hf;omega
  exact ei (.inr rfl) rfl (Wk.refl _ _) rfl (by rw[if_neg hn];exact⟨rfl,rfl⟩)
 ·have hn:lets.length+l.length≤256:=by simp at hf;omega
  have py:=fun K=>Sf (K:=K) (ga:=ga) (gc:=gc) h bf (dW gc dP) trivial uK i j gb lets l (by omega) l [] rfl;simp only[ai,aZ,bt,cn]at py;simp only[dB,bJ,cv,dW]at py;refine bX.wk (Wk.ic ?_) (bX.ml (l.length+1) (py _ ?_))
  ·repeat' constructor
  intros;simp only[VV,seval];exact ei (.inr rfl) rfl (Wk.refl _ _) rfl (by rw[if_pos hn];exact⟨rfl,rfl⟩)
def xG(x:Let):List V:=[.i .i64 x.src,.i .i64 x.dst,.i .i64 x.op.aT.time,.i .i64 x.op.aT.bP,.i .i64 x.op.aT.number,.i .i64 x.op.kind,.sl 3 (x.op.entry.source.map It.cells),.sl 3 (x.op.entry.target.map It.cells),.s x.op.entry.bN,.s x.op.entry.next,.s x.op.entry.cw,.s x.op.entry.bV,.i .i64 x.op.entry.created,.i .i64 x.op.entry.origin,.sl 1 (x.op.seen.map bW)]
theorem oR(x:Let):x.cells=xG x:=by simp[xG,Let.cells,bc.cells,bY.cells,En.cells]
set_option maxHeartbeats 1000000 in
theorem xz{σ:ah}{k a b c ga gb gc:Nat}(h:sb σ k a b c)(A C:Ob)(hA:kx σ.length A)(hC:kx σ.length C)(lets:List Let)(e:Ev)(hk:e.kind=6)(i:Nat)(hi:e.n=i)(x:Let)(hx:lets[i]?=some x)(Da:x.op.small)(hlen:lets.length<2^29):
  PC prog 13 [.ptr k 0,.agg e.cells] (gP σ k a b c (dB (.own a ga) (.own b gb) (.own c gc)) A (cv gb lets) C) (fun r σ'=>if lets.length=256 then r=.i .i64 3∧σ'=gP σ k a b c (dB (.own a ga) (.own b gb) (.own c gc)) A (cv gb lets) C else r=.i .i64 0∧σ'=gP σ k a b c (dB (.own a ga) (.own b (gb+1)) (.own c gc)) A (cv (gb+1) (lets++[x])) C):=by
 obtain⟨kind,ea,eb,em,en⟩:=e;simp only at hk hi;subst hk hi;refine PC.intro func13 c13 fun uK da=>al ?_;have er:(lets.map Let.cells).getD i []=xG x:=by simp[List.getD_eq_getElem?_getD,hx,oR]
 have pC:i<lets.length:=(ab.1 hx).1;have h0:(0:Int)≤(i:Int):=by omega
 have eC:(i:Int)<(lets.length:Int):=by omega
 have e0:lets.map Let.cells++[xG x]=(lets++[x]).map Let.cells:=by simp[oR]
 simp only[xG]at er e0;simp only[p13,SS,seval];simp only[Ev.cells,En.cells,dB,cv,h.all,er,h0,eC,ae,VV,seval];refine⟨fun hf=>?_,fun hf=>?_⟩
 ·have hn:lets.length=256:=by simp at hf;omega
  exact qL uK (sW h.la h.lb h.lc) hA trivial hC (.inr rfl) rfl (by simp only[LW]) (by rw[if_pos hn];exact⟨rfl,rfl⟩)
 ·have hn:¬ lets.length=256:=by simp at hf;omega
  refine an (Ao x Da _) (by simp only[oR,xG,VV,seval]) ?_;simp only[oR,xG,h.all,ae,V.pure,maxLen,VV,seval];refine⟨⟨by omega,by omega⟩,?_⟩;rw[e0];exact qL uK (sW h.la h.lb h.lc) hA trivial hC (.inr rfl) rfl (by simp only[LW]) (by rw[if_neg hn];exact⟨rfl,rfl⟩)
def C3(σ:ah)(k a b c:Nat)(n':Net)(err:Int)(r:V)(σ':ah):Prop :=
 r=.i .i64 err∧∃ K A B C,σ'=gP σ k a b c K A B C∧(err=0→∃ ga gb gc,K=dB (.own a ga) (.own b gb) (.own c gc)∧A=bJ ga n'.aV∧B=cv gb n'.bw∧C=dW gc n'.dP)
def jg(n':Net)(err:Int):V:=.gZ [.agg (if err=0 then n' else Net.zero).cells,.i .i64 err]
theorem Bq(σ:ah)(x0 x1 x2 x3 x4 x5 x6:Ob):sb (σ++[x0,x1,x2,x3,x4,x5,x6]) (σ.length+6) (σ.length+3) (σ.length+4) (σ.length+5):=by
 constructor<;>simp<;>omega
theorem CN{σ:ah}(aU:bG σ){x0 x1 x2:Ob}{K A B C:Ob}{n':Net}{ga gb gc:Nat}{xs:List V}(hK:K=dB (.own (σ.length+3) ga) (.own (σ.length+4) gb) (.own (σ.length+5) gc))(hA:A=bJ ga n'.aV)(hB:B=cv gb n'.bw)(hC:C=dW gc n'.dP)
  (hx:xs=[.agg [.own (σ.length+3) ga,.own (σ.length+4) gb,.own (σ.length+5) gc],.i .i64 0]):Wk prog σ.length xs (σ++[x0,x1,x2,A,B,C,K]) [.agg n'.cells,.i .i64 0] σ:=by
 subst hK hA hB hC hx;refine(Wk.EG 3 rfl).trans ((Wk.EG 4 rfl).trans ((Wk.EG 5 rfl).trans ?_));simp only[aW,aZ,Pm.fz,kF,Nat.add_left_cancel_iff,and_self,and_true,true_and,if_true,if_false,Nat.reduceEqDiff,false_and];exact Wk.EM aU (by simp only[Net.cells,LW])
set_option maxHeartbeats 2000000 in
theorem Ca(n:Net)(hn:n.small)(e:Ev)(hf:nC n e=true)(hk:e.kind=1)(n':Net)(err:Int)(hC:∀ σ k a b c,sb σ k a b c→PC prog 14 [.ptr k 0,.agg e.cells] (gP σ k a b c (dB (.own a 0) (.own b 0) (.own c 0)) (bJ 0 n.aV) (cv 0 n.bw) (dW 0 n.dP)) (C3 σ k a b c n' err))(σ:ah):
  PC prog 5 [.agg n.cells,.agg e.cells] σ (fun r σ'=>r=jg n' err∧σ'=σ):=by
 have mR:=oO n e (by omega);obtain⟨kind,ea,eb,em,en⟩:=e;simp only at hk;subst hk;refine PC.intro func5 c5 fun aU da=>al ?_;simp only[p5,SS,seval];simp only[Net.cells,Ev.cells,En.cells,ae,VV,seval];refine an (mR _) rfl ?_;simp only[hf,VV,seval];refine jc (mS n hn _) rfl ?_;rintro r σ' ⟨rfl,rfl⟩;simp only[bJ,cv,dW,beq_self_eq_true,Nat.add_assoc,Nat.reduceAdd,ae,VV,seval];have iQ:=hC (σ++[.box 26 n.cells,.box 37 (Ev.cells ⟨1,ea,eb,em,en⟩),.box 26 [.nil,.nil,.nil],.dead,.dead,.dead,.dead]) _ _ _ _ (Bq σ _ _ _ _ _ _ _);rw[nI]at iQ;simp only[cW,cU,dB,bJ,cv,dW,Net.cells,Ev.cells,En.cells]at iQ;refine jc iQ (by simp only[Ev.cells,En.cells,VV,seval]) ?_;rintro r σ' ⟨rfl,K,A,B,C,rfl,hh⟩;rw[nI];simp only[cW,cU,VV,seval];refine⟨fun he=>?_,fun he=>?_⟩
 ·have he:¬ err=0:=by simpa using he
  exact jW (xs:=[.agg [.nil,.nil,.nil],.i .i64 err]) (ys:=[.agg Net.zero.cells,.i .i64 err]) aU (.inr rfl) (by simp only[RS,seval]) (.cons (.ng (.cons (.nil 6) (.cons (.nil 15) (.cons (.nil 2) .nil)))) (.cons (.refl _) .nil)) (by simp only[Net.zero,Net.cells,LW]) ⟨by rw[jg,if_neg he];rfl,rfl⟩
 ·have he:err=0:=by simpa using he
  subst he;obtain⟨ga,gb,gc,rfl,rfl,rfl,rfl⟩:=hh rfl;simp only[dB,bJ,cv,dW,beq_self_eq_true,ae,VV,seval];exact ei (.inr rfl) (by simp only[RS,seval]) (CN aU rfl rfl rfl rfl rfl) rfl ⟨rfl,rfl⟩
set_option maxHeartbeats 2000000 in
theorem xB(n:Net)(hn:n.small)(e:Ev)(hf:nC n e=true)(hk:e.kind=3)(n':Net)(err:Int)(hC:∀ σ k a b c,sb σ k a b c→PC prog 11 [.ptr k 0,.i .i64 e.a,.i .i64 e.b] (gP σ k a b c (dB (.own a 0) (.own b 0) (.own c 0)) (bJ 0 n.aV) (cv 0 n.bw) (dW 0 n.dP)) (C3 σ k a b c n' err))(σ:ah):
  PC prog 5 [.agg n.cells,.agg e.cells] σ (fun r σ'=>r=jg n' err∧σ'=σ):=by
 have mR:=oO n e (by omega);obtain⟨kind,ea,eb,em,en⟩:=e;simp only at hk;subst hk;refine PC.intro func5 c5 fun aU da=>al ?_;simp only[p5,SS,seval];simp only[Net.cells,Ev.cells,En.cells,ae,VV,seval];refine an (mR _) rfl ?_;simp only[hf,VV,seval];refine jc (mS n hn _) rfl ?_;rintro r σ' ⟨rfl,rfl⟩;simp only[bJ,cv,dW,beq_self_eq_true,Nat.add_assoc,Nat.reduceAdd,ae,VV,seval];have iQ:=hC (σ++[.box 26 n.cells,.box 37 (Ev.cells ⟨3,ea,eb,em,en⟩),.box 26 [.nil,.nil,.nil],.dead,.dead,.dead,.dead]) _ _ _ _ (Bq σ _ _ _ _ _ _ _);rw[nI]at iQ;simp only[cW,cU,dB,bJ,cv,dW,Net.cells,Ev.cells,En.cells]at iQ;refine jc iQ (by simp only[Ev.cells,En.cells,VV,seval]) ?_;rintro r σ' ⟨rfl,K,A,B,C,rfl,hh⟩;rw[nI];simp only[cW,cU,VV,seval];refine⟨fun he=>?_,fun he=>?_⟩
 ·have he:¬ err=0:=by simpa using he
  exact jW (xs:=[.agg [.nil,.nil,.nil],.i .i64 err]) (ys:=[.agg Net.zero.cells,.i .i64 err]) aU (.inr rfl) (by simp only[RS,seval]) (.cons (.ng (.cons (.nil 6) (.cons (.nil 15) (.cons (.nil 2) .nil)))) (.cons (.refl _) .nil)) (by simp only[Net.zero,Net.cells,LW]) ⟨by rw[jg,if_neg he];rfl,rfl⟩
 ·have he:err=0:=by simpa using he
  subst he;obtain⟨ga,gb,gc,rfl,rfl,rfl,rfl⟩:=hh rfl;simp only[dB,bJ,cv,dW,beq_self_eq_true,ae,VV,seval];exact ei (.inr rfl) (by simp only[RS,seval]) (CN aU rfl rfl rfl rfl rfl) rfl ⟨rfl,rfl⟩
set_option maxHeartbeats 2000000 in
theorem Gb(n:Net)(hn:n.small)(e:Ev)(hf:nC n e=true)(hk:e.kind=6)(n':Net)(err:Int)(hC:∀ σ k a b c,sb σ k a b c→PC prog 13 [.ptr k 0,.agg e.cells] (gP σ k a b c (dB (.own a 0) (.own b 0) (.own c 0)) (bJ 0 n.aV) (cv 0 n.bw) (dW 0 n.dP)) (C3 σ k a b c n' err))(σ:ah):
  PC prog 5 [.agg n.cells,.agg e.cells] σ (fun r σ'=>r=jg n' err∧σ'=σ):=by
 have mR:=oO n e (by omega);obtain⟨kind,ea,eb,em,en⟩:=e;simp only at hk;subst hk;refine PC.intro func5 c5 fun aU da=>al ?_;simp only[p5,SS,seval];simp only[Net.cells,Ev.cells,En.cells,ae,VV,seval];refine an (mR _) rfl ?_;simp only[hf,VV,seval];refine jc (mS n hn _) rfl ?_;rintro r σ' ⟨rfl,rfl⟩;simp only[bJ,cv,dW,beq_self_eq_true,Nat.add_assoc,Nat.reduceAdd,ae,VV,seval];have iQ:=hC (σ++[.box 26 n.cells,.box 37 (Ev.cells ⟨6,ea,eb,em,en⟩),.box 26 [.nil,.nil,.nil],.dead,.dead,.dead,.dead]) _ _ _ _ (Bq σ _ _ _ _ _ _ _);rw[nI]at iQ;simp only[cW,cU,dB,bJ,cv,dW,Net.cells,Ev.cells,En.cells]at iQ;refine jc iQ (by simp only[Ev.cells,En.cells,VV,seval]) ?_;rintro r σ' ⟨rfl,K,A,B,C,rfl,hh⟩;rw[nI];simp only[cW,cU,VV,seval];refine⟨fun he=>?_,fun he=>?_⟩
 ·have he:¬ err=0:=by simpa using he
  exact jW (xs:=[.agg [.nil,.nil,.nil],.i .i64 err]) (ys:=[.agg Net.zero.cells,.i .i64 err]) aU (.inr rfl) (by simp only[RS,seval]) (.cons (.ng (.cons (.nil 6) (.cons (.nil 15) (.cons (.nil 2) .nil)))) (.cons (.refl _) .nil)) (by simp only[Net.zero,Net.cells,LW]) ⟨by rw[jg,if_neg he];rfl,rfl⟩
 ·have he:err=0:=by simpa using he
  subst he;obtain⟨ga,gb,gc,rfl,rfl,rfl,rfl⟩:=hh rfl;simp only[dB,bJ,cv,dW,beq_self_eq_true,ae,VV,seval];exact ei (.inr rfl) (by simp only[RS,seval]) (CN aU rfl rfl rfl rfl rfl) rfl ⟨rfl,rfl⟩
set_option maxHeartbeats 2000000 in
theorem Jj(n:Net)(hn:n.small)(e:Ev)(hf:nC n e=true)(hk:e.kind=7)(n':Net)(err:Int)(hC:∀ σ k a b c,sb σ k a b c→PC prog 12 [.ptr k 0,.agg e.cells] (gP σ k a b c (dB (.own a 0) (.own b 0) (.own c 0)) (bJ 0 n.aV) (cv 0 n.bw) (dW 0 n.dP)) (C3 σ k a b c n' err))(σ:ah):
  PC prog 5 [.agg n.cells,.agg e.cells] σ (fun r σ'=>r=jg n' err∧σ'=σ):=by
 have mR:=oO n e (by omega);obtain⟨kind,ea,eb,em,en⟩:=e;simp only at hk;subst hk;refine PC.intro func5 c5 fun aU da=>al ?_;simp only[p5,SS,seval];simp only[Net.cells,Ev.cells,En.cells,ae,VV,seval];refine an (mR _) rfl ?_;simp only[hf,VV,seval];refine jc (mS n hn _) rfl ?_;rintro r σ' ⟨rfl,rfl⟩;simp only[bJ,cv,dW,beq_self_eq_true,Nat.add_assoc,Nat.reduceAdd,ae,VV,seval];have iQ:=hC (σ++[.box 26 n.cells,.box 37 (Ev.cells ⟨7,ea,eb,em,en⟩),.box 26 [.nil,.nil,.nil],.dead,.dead,.dead,.dead]) _ _ _ _ (Bq σ _ _ _ _ _ _ _);rw[nI]at iQ;simp only[cW,cU,dB,bJ,cv,dW,Net.cells,Ev.cells,En.cells]at iQ;refine jc iQ (by simp only[Ev.cells,En.cells,VV,seval]) ?_;rintro r σ' ⟨rfl,K,A,B,C,rfl,hh⟩;rw[nI];simp only[cW,cU,VV,seval];refine⟨fun he=>?_,fun he=>?_⟩
 ·have he:¬ err=0:=by simpa using he
  exact jW (xs:=[.agg [.nil,.nil,.nil],.i .i64 err]) (ys:=[.agg Net.zero.cells,.i .i64 err]) aU (.inr rfl) (by simp only[RS,seval]) (.cons (.ng (.cons (.nil 6) (.cons (.nil 15) (.cons (.nil 2) .nil)))) (.cons (.refl _) .nil)) (by simp only[Net.zero,Net.cells,LW]) ⟨by rw[jg,if_neg he];rfl,rfl⟩
 ·have he:err=0:=by simpa using he
  subst he;obtain⟨ga,gb,gc,rfl,rfl,rfl,rfl⟩:=hh rfl;simp only[dB,bJ,cv,dW,beq_self_eq_true,ae,VV,seval];exact ei (.inr rfl) (by simp only[RS,seval]) (CN aU rfl rfl rfl rfl rfl) rfl ⟨rfl,rfl⟩
end Go.Proofs.Tryz
namespace Go.Proofs.Tryz
open Go Go.Pm Go.Bt Go.RowKit
theorem Bk(o:cp)(x:bc)(m:Nat)(ho:o.small)(hx:x.small)(hd:o.down=false)(gC:dQ x=0)(hm:m≤o.ops.length)(h1:∀ (k:Nat) (y:bc),o.ops[k]?=some y→(0≤eJ y x↔m≤k))
  (er:o.ops[m]?=some x) (σ:ah) :
  PC prog 55 [.agg o.cells,.agg x.cells] σ (fun r σ'=>r=.gZ [.agg o.cells,.i .i64 0]∧σ'=σ):=by
 refine PC.intro func55 c55 fun aU da=>al ?_;have hlen:=ho.len;have H9:m<o.ops.length:=(ab.1 er).1;have cm:(o.ops.map bc.cells).getD m []=x.cells:=by simp[List.getD_eq_getElem?_getD,er]
 have hp:PC prog 80 [.sl 13 (o.ops.map bc.cells),.agg x.cells] (σ++[.box 44 o.cells,.box 65 x.cells,.box 44 [.i .i64 0,.i .i64 0,.nil,.nil,.i .i64 0,.b false]]) (fun r σ'=>r=.gZ [.i .i64 m,.b true]∧σ'=σ++[.box 44 o.cells,.box 65 x.cells,.box 44 [.i .i64 0,.i .i64 0,.nil,.nil,.i .i64 0,.b false]]) :=
  (Ag o.ops x m (by omega) hm h1 _).mono fun r σ' ⟨h,hs⟩=>⟨by rw[h,er];simp[rR],hs⟩
 simp only[Yq,SS,seval];simp only[cp.cells,bc.cells,bY.cells,En.cells,aJ,aG,hd,VV,seval]at hp ⊢;refine an (lu x hx _) (by simp only[bc.cells,bY.cells,En.cells,VV,seval]) ?_;simp only[gC,VV,seval];refine an hp rfl ?_;simp only[VV,seval];refine⟨⟨by omega,by simp;omega⟩,.agg x.cells,⟨by rw[cm,mT],by rw[cm,ko];exact aw _⟩,?_⟩;refine br (c:=true) (by simp only[VV,seval]<;>rfl) (fun _=>lZ x x hx hx _) (by simp only[bc.cells,bY.cells,En.cells,VV,seval]) ?_;simp only[F5,VV,seval];refine an (nH o ho _) (by simp only[cp.cells,hd,VV,seval]) ?_;simp only[cp.cells,hd,VV,seval];exact aD aU (.inr rfl) (by simp only[RS,seval];rfl) (by simp only[LW]) ⟨rfl,rfl⟩
end Go.Proofs.Tryz
namespace Go.Proofs.Tryz
open Go Go.Pm Go.Bt
def HO(x:bc):List V:=[.i .i64 x.aT.time,.i .i64 x.aT.bP,.i .i64 x.aT.number,.i .i64 x.kind,.sl 3 (x.entry.source.map It.cells),.sl 3 (x.entry.target.map It.cells),.s x.entry.bN,.s x.entry.next,.s x.entry.cw,.s x.entry.bV,.i .i64 x.entry.created,.i .i64 x.entry.origin,.sl 1 (x.seen.map bW)]
theorem oN(x:bc):x.cells=HO x:=by simp[HO,bc.cells,bY.cells,En.cells]
theorem Ot{l:List bc}{i:Nat}{x:bc}(h:l[i]?=some x):(l.map bc.cells).getD i []=HO x:=by
 simp[List.getD_eq_getElem?_getD,h,oN]
theorem Om(l:List bc)(i:Nat)(x:bc):(l.map bc.cells).set i (HO x)=(l.set i x).map bc.cells:=by
 rw[List.map_set,oN]
theorem Oo(l:List bc)(i:Nat)(h:i<l.length):((l.map bc.cells).getD i []).drop 13=[]:=by
 have:(l.map bc.cells).getD i []=l[i].cells:=by simp[List.getD_eq_getElem?_getD,h]
 rw[this];simp[bc.cells,bY.cells,En.cells]
set_option maxHeartbeats 2000000 in
theorem LN{σ:ah}{KK:Exit→St→Prop}{id g:Nat}(hid:id<σ.length)(f:Nat)(gC:xt prog f=true)(q:bc→bc→Bool)(hq:∀ x y:bc,x.small→y.small→∀ σ,PC prog f [.agg x.cells,.agg y.cells] σ (fun r σ'=>r=.b (q x y)∧σ'=σ))(n K:Nat)(hn:n<2^30):
  ∀ (rest out junk:List bc) (prev:bc) (k2:Nat),K+k2=out.length+junk.length+1→1≤k2→n=K+k2+rest.length→(∀ x∈prev::rest,x.small) →
  (∀ junk':List bc,(out++jK q prev rest).length+junk'.length=n→(∀ j1 j2 j3 j4 j6 j7 j8 j9 cC cH cG cF cB cE cD cI cQ db de dh dm dv du dt dN dR dU dX ej eD eL eQ eP fb fi fh fg fw fG fF fK fW gj gi gB gA gz gy gx gY gW gU iq iD iN iM iL iK jf jD jP kt kr kq,KK (.exit 2) ⟨[.own id g,j1,j2,j3,j4,.i .i64 (out++jK q prev rest).length,j6,j7,j8,j9,cC,cH,cG,cF,cB,cE,cD,cI,cQ,db,de,dh,dm,dv,du,dt,dN,dR,dU,dX,ej,eD,eL,eQ,eP,fb,fi,fh,fg,fw,fG,fF,fK,fW,gj,gi,gB,gA,gz,gy,gx,gY,gW,gU,iq,iD,iN,iM,iL,iK,jf,jD,jP,kt,kr,kq],σ.set id (dY g false ((out++jK q prev rest)++junk'))⟩)) →
  fp σ.length prog Hw KK (rest.length+1) ⟨[.own id g,.fn f [],.u,.u,.u,.i .i64 out.length,.sub id g K n,.i .i64 k2,.u,.u,.u,.u,.u,.u,.u,.u,.u,.u,.u,.u,.u,.u,.u,.u,.u,.u,.u,.u,.u,.u,.u,.u,.u,.u,.u,.u,.u,.u,.u,.u,.u,.u,.u,.u,.u,.u,.u,.u,.u,.u,.u,.u,.u,.u,.u,.u,.u,.u,.u,.u,.u,.u,.u,.u,.u,.u],σ.set id (dY g false (out++(junk++prev::rest)))⟩:=by
 have g1:∀ K:Ob,(σ.set id K)[id]?=some K:=fun K=>aq hid;intro rest
 induction rest with
 | nil =>
  intro out junk prev k2 e1 e2 e3 hs h1;have hd:decide ((k2:Int)<((n - K:Nat):Int))=false:=by simp at e3 ⊢;omega
  refine ay fun R hR=>?_;simp only[Hw,dY,g1,hd,VV,seval];have:=h1 (junk++[prev]) (by simp[jK]at e3 ⊢;omega);simp only[jK,bt,dY]at this;exact this ..
 | cons y rest ih =>
  intro out junk prev k2 e1 e2 e3 hs h1;simp only[ag]at e3;have e5:IntKind.i64.wrap ((k2:Int) - 1)=((k2 - 1:Nat):Int):=by rw[IntWalk.i64_in _ (by omega)];omega
  have f0:(0:Int)≤(k2:Int):=by omega
  have f1:(k2:Int)<((n - K:Nat):Int):=by omega
  have f2:(0:Int)≤((k2 - 1:Nat):Int):=by omega
  have f3:((k2 - 1:Nat):Int)<((n - K:Nat):Int):=by omega
  have v7:=Ot (l:=out++(junk++prev::y::rest)) (i:=K+k2) (by rw[e1];exact Qt ..);have EE:=Ot (l:=out++(junk++prev::y::rest)) (i:=K+(k2 - 1)) (by rw[show K+(k2 - 1)=out.length+junk.length by omega];exact Qs ..);have nc:=Om (out++(junk++prev::y::rest)) out.length y;rw[II]at nc;have hw:IntKind.i64.wrap ((out.length:Int)+1)=(((out++[y]).length:Nat):Int):=by rw[aX (by omega)];simp
  have SL:IntKind.i64.wrap ((k2:Int)+1)=((k2+1:Nat):Int):=by rw[aX (by omega)]
  simp only[HO]at v7 EE nc;refine ay fun R hR=>?_;simp only[Hw,dY,g1,decide_true,e5,f0,f1,f2,f3,v7,EE,aH,VV,seval];refine oB rfl gC (hq y prev (hs y (by simp)) (hs prev (by simp)) _) (by simp only[oN,HO,VV,seval]) ?_;have eC:out.length<(out++(junk++prev::y::rest)).length:=by simp<;>omega
  have rX:(out.length:Int)<((out++(junk++prev::y::rest)).length:Int):=by omega
  have hz:(0:Int)≤(out.length:Int):=by omega
  simp only[g1,v7,hw,SL,f0,f1,hz,eC,rX,V.pure,ae,Oo _ _ eC,nc,ru,VV,seval];refine⟨fun h=>?_,fun h=>?_⟩
  ·have h:q y prev=false:=by simpa using h
   have e:out++jK q prev (y::rest)=(out++[y])++jK q y rest:=by simp[jK,h]
   rw[e]at h1;rw[show out++y::((junk++[prev]).tail++y::rest)=(out++[y])++((junk++[prev]).tail++y::rest)by simp];refine hR _ (bb ?_ (ih (out++[y]) (junk++[prev]).tail y (k2+1) (by simp;omega) (by omega) (by omega) (fun x hx=>hs x (bz _ hx)) h1))
   repeat' constructor
  ·have h:q y prev=true:=by simpa using h
   have e:jK q prev (y::rest)=jK q y rest:=by simp[jK,h]
   rw[e]at h1;rw[show out++(junk++prev::y::rest)=out++((junk++[prev])++y::rest)by simp];refine hR _ (bb ?_ (ih out (junk++[prev]) y (k2+1) (by simp;omega) (by omega) (by omega) (fun x hx=>hs x (bz _ hx)) h1))
   repeat' constructor
set_option maxHeartbeats 2000000 in
theorem LM{σ:ah}{KK:Exit→St→Prop}{id g:Nat}(hid:id<σ.length)(f:Nat)(gC:xt prog f=true)(q:bc→bc→Bool)(hq:∀ x y:bc,x.small→y.small→∀ σ,PC prog f [.agg x.cells,.agg y.cells] σ (fun r σ'=>r=.b (q x y)∧σ'=σ))(l:List bc)(hs:∀ x∈l,x.small)(hn:l.length<2^30):
  ∀ (rest pre:List bc) (p:bc),l=pre++p::rest →
  (jK q p rest=rest→(∀ j1 j2 j3 j4 j5 j6 j7 j8 j9 cC cH cG cF cB cE cD cI cQ db de dh dm dv du dt dN dR dU dX ej eD eL eQ eP fb fi fh fg fw fG fF fK fW gj gi gB gA gz gy gx gY gW gU iq iD iN iM iL iK jf jD jP kt kr kq,KK (.exit 0) ⟨[.own id g,j1,j2,j3,j4,j5,j6,j7,j8,j9,cC,cH,cG,cF,cB,cE,cD,cI,cQ,db,de,dh,dm,dv,du,dt,dN,dR,dU,dX,ej,eD,eL,eQ,eP,fb,fi,fh,fg,fw,fG,fF,fK,fW,gj,gi,gB,gA,gz,gy,gx,gY,gW,gU,iq,iD,iN,iM,iL,iK,jf,jD,jP,kt,kr,kq],σ.set id (dY g false l)⟩)) →
  (∀ (m:Nat) (xs:List (List V)),m≤xs.length→xs.take m=(pre++p::jK q p rest).map bc.cells→(∀ j0 j1 j2 j3 j5 j6 j7 j8 j9 cC cH cG cF cB cE cD cI cQ db de dh dm dv du dt dN dR dU dX ej eD eL eQ eP fb fi fh fg fw fG fF fK fW gj gi gB gA gz gy gx gY gW gU iq iD iN iM iL iK jf jD jP kt kr kq,KK .ret ⟨[j0,j1,j2,j3,.sub id g 0 m,j5,j6,j7,j8,j9,cC,cH,cG,cF,cB,cE,cD,cI,cQ,db,de,dh,dm,dv,du,dt,dN,dR,dU,dX,ej,eD,eL,eQ,eP,fb,fi,fh,fg,fw,fG,fF,fK,fW,gj,gi,gB,gA,gz,gy,gx,gY,gW,gU,iq,iD,iN,iM,iL,iK,jf,jD,jP,kt,kr,kq],σ.set id (.row 65 13 184 g false xs)⟩)) →
  fp σ.length prog Hv KK (rest.length+1) ⟨[.own id g,.fn f [],.u,.u,.u,.i .i64 ((pre.length+1:Nat):Int),.u,.u,.u,.u,.u,.u,.u,.u,.u,.u,.u,.u,.u,.u,.u,.u,.u,.u,.u,.u,.u,.u,.u,.u,.u,.u,.u,.u,.u,.u,.u,.u,.u,.u,.u,.u,.u,.u,.u,.u,.u,.u,.u,.u,.u,.u,.u,.u,.u,.u,.u,.u,.u,.u,.u,.u,.u,.u,.u,.u],σ.set id (dY g false l)⟩:=by
 have g1:∀ K:Ob,(σ.set id K)[id]?=some K:=fun K=>aq hid;intro rest
 induction rest with
 | nil =>
  intro pre p e h1 h2;have hd:decide (((pre.length+1:Nat):Int)<(l.length:Int))=false:=by rw[e];simp
  refine ay fun R hR=>?_;simp only[Hv,dY,g1,hd,ae,VV,seval];exact h1 rfl ..
 | cons y rest ih =>
  intro pre p e h1 h2;have hl:l.length=pre.length+(rest.length+1+1):=by rw[e];simp
  have f0:(0:Int)≤((pre.length+1:Nat):Int):=by omega
  have f1:((pre.length+1:Nat):Int)<(l.length:Int):=by omega
  have f2:(0:Int)≤(pre.length:Int):=by omega
  have f3:(pre.length:Int)<(l.length:Int):=by omega
  have f4:((pre.length+1:Nat):Int)≤(l.length:Int):=by omega
  have e5:IntKind.i64.wrap (((pre.length+1:Nat):Int) - 1)=(pre.length:Int):=by rw[IntWalk.i64_in _ (by omega)];omega
  have SL:IntKind.i64.wrap (((pre.length+1:Nat):Int)+1)=(((pre++[p]).length+1:Nat):Int):=by rw[IntWalk.i64_in _ (by omega)];simp
  have v7:=Ot (l:=l) (i:=pre.length+1) (x:=y) (by rw[e];simp);have EE:=Ot (l:=l) (i:=pre.length) (x:=p) (by rw[e];simp);have hsy:=hs y (by rw[e];simp);have NN:=hs p (by rw[e];simp);simp only[HO]at v7 EE;refine ay fun R hR=>?_;simp only[Hv,dY,g1,decide_true,e5,f0,f1,f2,f3,v7,EE,aH,ae,VV,seval];refine oB rfl gC (hq y p hsy NN _) (by simp only[oN,HO,VV,seval]) ?_;simp only[g1,v7,SL,f0,f1,f4,ae,aH,VV,seval];refine⟨fun h=>⟨tH _,?_⟩,fun h=>?_⟩
  ·have e2:jK q p (y::rest)=jK q y rest:=by simp[jK,h]
   rw[e2]at h2;have hp:(pre++[p]).length=pre.length+1:=by simp
   have el:(pre++[p])++([]++y::rest)=l:=by rw[e];simp
   have py:=fun KK=>LN (KK:=KK) (g:=g) hid f gC q hq l.length (pre.length+1) hn rest (pre++[p]) [] y 1 (by simp) (aw _) (by omega) (fun x hx=>hs x (by rw[e];exact List.mem_append_right _ (bz _ hx)));rw[el,hp]at py;refine bX.wk (Wk.ic ?_) (bX.ml (rest.length+1) (py _ ?_))
   ·repeat' constructor
   intro junk' hj;intros;clear py;have ho:pre++p::jK q y rest=(pre++[p])++jK q y rest:=by simp
   rw[ho]at h2;generalize (pre++[p])++jK q y rest=out at *;have Ua:(0:Int)≤(out.length:Int):=by omega
   have sk:(out.length:Int)≤((out++junk').length:Int):=by simp only[List.length_append];omega
   simp only[dY,g1,Ua,sk,ae,aH,ru,VV,seval];have ht:(List.map bc.cells (out++junk')).take out.length=out.map bc.cells:=by simp
   rw[ht];exact⟨tH _,Kk.2 (by rw[List.length_append,ae];omega),h2 out.length _ (by rw[List.length_append,ae];omega) (by simp) ..⟩
  ·have e2:jK q p (y::rest)=y::jK q y rest:=by simp[jK,h]
   rw[e2]at h1 h2;refine hR _ (bb ?_ (ih (pre++[p]) y (by rw[e];simp) (fun hh=>h1 (by rw[hh])) (fun m xs a b=>h2 m xs a (by rw[b];simp))))
   repeat' constructor
set_option maxHeartbeats 1000000 in
theorem GQ(f:Nat)(gC:xt prog f=true)(q:bc→bc→Bool)(hq:∀ x y:bc,x.small→y.small→∀ σ,PC prog f [.agg x.cells,.agg y.cells] σ (fun r σ'=>r=.b (q x y)∧σ'=σ))(l:List bc)(hs:∀ x∈l,x.small)(hn:l.length<2^30)(id g:Nat)(σ:ah)(ho:σ[id]?=some (dY g false l)):
  PC prog 66 [.own id g,.fn f []] σ (fun r σ'=>∃ g',r=.own id g'∧σ'=σ.set id (dY g' false (iS q l))):=by
 have hid:id<σ.length:=(ab.1 ho).1;have g1:∀ K:Ob,(σ.set id K)[id]?=some K:=fun K=>aq hid;have nc:σ.set id (dY g false l)=σ:=u3 ho;refine PC.intro func66 c66 fun aU da=>al ?_;have ho2:=ho;simp only[dY]at ho2;simp only[p66,SS,seval];simp only[ho2,ae,VV,seval];refine⟨fun h=>?_,fun h=>?_⟩
 ·have h:l.length<2:=by simp at h;omega
  have hc:iS q l=l:=by
   rcases l with _ | ⟨x,_ | ⟨y,r⟩⟩
   ·rfl
   ·rfl
   ·simp at h<;>omega
  exact ei (.inr rfl) rfl (Wk.refl _ _) rfl ⟨g,rfl,by rw[hc,nc]⟩
 ·have h:2≤l.length:=by simp at h;omega
  obtain⟨p,rest,rfl⟩:∃ p rest,l=p::rest:=by
   rcases l with _ | ⟨x,r⟩
   ·simp at h
   ·exact⟨x,r,rfl⟩
  have py:=fun KK=>LM (KK:=KK) (g:=g) hid f gC q hq (p::rest) hs hn rest [] p rfl;rw[nc]at py;refine bX.wk (Wk.ic ?_) (bX.ml (rest.length+1) (py _ ?_ ?_))
  ·repeat' constructor
  ·intro hh;intros;simp only[VV,seval];exact ei (.inr rfl) rfl (Wk.refl _ _) rfl ⟨g,rfl,by simp only[iS];rw[hh,nc]⟩
  ·intro m xs hm hx;intros;simp only[VV,seval];refine ei (.inr rfl) rfl (Wk.Uq (g1 _) 0 rfl) rfl ⟨g+1,rfl,?_⟩;rw[ru,hx];rfl
theorem Gj(a b:bc)(ha:a.small)(hb:b.small)(σ:ah):PC prog 67 [.agg a.cells,.agg b.cells] σ (fun r σ'=>r=.b (jo a b==0)∧σ'=σ):=by
 refine PC.intro func67 c67 fun aU da=>al ?_;simp only[p67,SS,seval];simp only[oN,HO,VV,seval];refine an (lZ a b ha hb _) (by simp only[oN,HO,VV,seval]) ?_;simp only[VV,seval];exact aD aU (.inr rfl) (by simp only[RS,seval];rfl) (by simp only[LW]) ⟨rfl,rfl⟩
end Go.Proofs.Tryz
namespace Go.Proofs.Tryz
open Go Go.Pm Go.Bt Go.RowKit
def k7(o:cp)(e:Int):V:=.gZ [.agg o.cells,.i .i64 e]
end Go.Proofs.Tryz
namespace Go.Proofs.Tryz
open Go Go.Pm Go.Bt
set_option maxRecDepth 20000 in
theorem tK(a b:En)(σ:ah):PC prog 69 [.agg a.cells,.agg b.cells] σ (fun r σ'=>r=.b (yg a b)∧σ'=σ):=by
 refine PC.intro func69 c69 fun aU da=>al ?_;simp only[p69,SS,seval];simp only[En.cells,VV,seval];refine an (nv a.source b.source _) rfl ?_;simp only[VV,seval];have e1:yg a b=(eM a.source b.source&&(eM a.target b.target&&(a.bN==b.bN&&(a.next==b.next&&(a.cw==b.cw&&(a.bV==b.bV&&(a.created==b.created&&a.origin==b.origin))))))):=rfl;rw[e1];refine br (by simp only[VV,seval]<;>rfl) (fun _=>nv a.target b.target _) rfl ?_;simp only[VV,seval];cases eM a.source b.source<;>simp only[VV,seval]
 ·exact aD aU (.inr rfl) (by simp only[RS,seval];rfl) (by simp only[LW]) ⟨rfl,rfl⟩
 cases eM a.target b.target<;>simp only[VV,seval]
 ·exact aD aU (.inr rfl) (by simp only[RS,seval];rfl) (by simp only[LW]) ⟨rfl,rfl⟩
 cases a.bN==b.bN<;>simp only[VV,seval]
 ·exact aD aU (.inr rfl) (by simp only[RS,seval];rfl) (by simp only[LW]) ⟨rfl,rfl⟩
 cases a.next==b.next<;>simp only[VV,seval]
 ·exact aD aU (.inr rfl) (by simp only[RS,seval];rfl) (by simp only[LW]) ⟨rfl,rfl⟩
 cases a.cw==b.cw<;>simp only[VV,seval]
 ·exact aD aU (.inr rfl) (by simp only[RS,seval];rfl) (by simp only[LW]) ⟨rfl,rfl⟩
 cases a.bV==b.bV<;>simp only[VV,seval]
 ·exact aD aU (.inr rfl) (by simp only[RS,seval];rfl) (by simp only[LW]) ⟨rfl,rfl⟩
 cases a.created==b.created<;>simp only[VV,seval]
 ·exact aD aU (.inr rfl) (by simp only[RS,seval];rfl) (by simp only[LW]) ⟨rfl,rfl⟩
 exact aD aU (.inr rfl) (by simp only[RS,seval];rfl) (by simp only[LW]) ⟨rfl,rfl⟩
theorem R7{σ:ah}{K:Exit→St→Prop}(aU:bG σ)(a b:List En)(hlen:a.length<2^62)(rH:a.length=b.length):∀ (ra rb pa pb:List En),a=pa++ra→b=pb++rb→pa.length=pb.length →
  (gm ra rb=true→∀ loc,(∀ j0 j1 j2 j3 j4 j5 j6 j7 j8 j9 cC cH cG cF cB cE cD cI cQ db de dh dm dv du dt dN dR dU dX ej eD,K (.exit 0) ⟨[j0,j1,j2,j3,j4,j5,j6,j7,j8,j9,cC,cH,cG,cF,cB,cE,cD,cI,cQ,db,de,dh,dm,dv,du,dt,dN,dR,dU,dX,ej,eD],σ++loc⟩))→(gm ra rb=false→∀ loc,(∀ j0 j1 j2 j3 j4 j5 j7 j8 j9 cC cH cG cF cB cE cD cI cQ db de dh dm dv du dt dN dR dU dX ej eD,K .ret ⟨[j0,j1,j2,j3,j4,j5,.b false,j7,j8,j9,cC,cH,cG,cF,cB,cE,cD,cI,cQ,db,de,dh,dm,dv,du,dt,dN,dR,dU,dX,ej,eD],σ++loc⟩)) →
  fp σ.length prog Hu K (ra.length+1) ⟨[.u,.sl 8 (b.map En.cells),.fn 69 [],.u,.u,.u,.u,.u,.u,.u,.u,.u,.u,.u,.u,.sl 8 (a.map En.cells),.i .i64 a.length,.i .i64 pa.length,.u,.u,.u,.u,.u,.u,.u,.u,.u,.u,.u,.u,.u,.u],σ⟩:=by
 intro ra
 induction ra with
 | nil =>
  intro rb pa pb ha hb hp h1 h2
  have:rb=[]:=by
   subst ha;subst hb;simp at rH;exact bq (by omega)
  subst this;have ha:a=pa:=by simpa using ha
  subst ha;have h1:=h1 rfl [];rw[bt]at h1;refine ay fun R hR=>?_;simp only[Hu,VV,seval];exact⟨fun h=>by simp at h,fun _=>h1 ..⟩
 | cons x ra ih =>
  intro rb pa pb ha hb hp h1 h2;cases rb with
  | nil=>subst ha;subst hb;simp at rH;omega
  | cons y rb =>
   have Ax:a.length=pa.length+(ra.length+1):=by rw[ha];simp
   have e1:(a.map En.cells).getD pa.length []=x.cells:=by rw[ha];exact jj
   have e2:(b.map En.cells).getD pa.length []=y.cells:=by rw[hb,hp];exact jj
   have hw:IntKind.i64.wrap ((pa.length:Int)+1)=(((pa++[x]).length:Nat):Int):=by
    rw[aX (by omega)];simp
   have h0:(0:Int)≤(pa.length:Int):=by omega
   have QW:(pa.length:Int)<(a.length:Int):=by omega
   have SY:(pa.length:Int)<(b.length:Int):=by omega
   simp only[En.cells]at e1 e2;refine ay fun R hR=>?_;simp only[Hu,aH,e1,e2,h0,QW,SY,hw,decide_true,ae,VV,seval];refine oB rfl (by kernel_rfl) (tK x y _) (by simp only[En.cells,VV,seval]) ?_;simp only[hw,VV,seval];refine⟨fun h=>?_,fun h=>?_⟩
   ·have h:yg x y=false:=by rw[bU]at h;exact h
    exact h2 (by simp[gm,h]) ..
   ·have h:yg x y=true:=by rw[cL]at h;exact h
    have e:gm (x::ra) (y::rb)=gm ra rb:=by simp[gm,h]
    rw[e]at h1 h2;refine hR _ (cy [] [_,_] (by rw[bt];exact aU) ?_ ?_ (by rw[bt];exact ih rb (pa++[x]) (pb++[y]) (by rw[ha];simp) (by rw[hb];simp) (by simp[hp]) h1 h2))
    ·repeat' constructor
    ·simp only[LW,Wo]
theorem CM(a b:List En)(ha:a.length<2^62)(σ:ah):PC prog 68 [.sl 8 (a.map En.cells),.sl 8 (b.map En.cells),.fn 69 []] σ (fun r σ'=>r=.b (gm a b)∧σ'=σ):=by
 refine PC.intro func68 c68 fun aU da=>al ?_;simp only[p68,SS,seval];simp only[ae,VV,seval];refine⟨fun h=>?_,fun h=>?_⟩
 ·have h:a.length≠b.length:=by simp at h;omega
  have e:gm a b=false:=by
   cases he:gm a b with
   | false=>rfl
   | true=>exact absurd (AH he) h
  exact aP (.inr rfl) rfl ⟨by rw[e];rfl,rfl⟩
 ·have h:a.length=b.length:=by simp at h;omega
  refine bX.bb ?_ (a.length+1) (R7 aU a b ha h a b [] [] rfl rfl rfl (fun ha=>?_) (fun ha=>?_))
  ·repeat' constructor
  ·intros;simp only[VV,seval];exact aD aU (.inr rfl) rfl (by simp only[LW]) ⟨by rw[ha];rfl,rfl⟩
  ·intros;exact aD aU (.inr rfl) rfl (by simp only[LW]) ⟨by rw[ha];rfl,rfl⟩
theorem N8(a b:List En)(ha:a.length<2^62)(σ:ah):PC prog 42 [.sl 8 (a.map En.cells),.sl 8 (b.map En.cells)] σ (fun r σ'=>r=.b (gm a b)∧σ'=σ):=by
 refine PC.intro func42 c42 fun aU da=>al ?_;simp only[p42,SS,seval];simp only[VV,seval];refine an (CM a b ha _) rfl ?_;simp only[VV,seval];exact aP (.inr rfl) rfl ⟨rfl,rfl⟩
def DI(bf:List cp):Bool:=match bf with
 | []=>true
 | p::_=>bf.all fun o=>!o.down&&gm (eK o.ops) (eK p.ops)
theorem yf(l:List En):gm l l=true:=by
 induction l with
 | nil=>rfl
 | cons x r ih=>simp only[gm,aB];exact⟨EN.2 rfl,ih⟩
set_option maxHeartbeats 1000000 in
theorem Se{σ:ah}{K:Exit→St→Prop}(aU:bG σ)(b:Ob)(n:Net)(hb:b=.box 26 n.cells)(p:cp)(offs0:List cp)(ho:n.aV=p::offs0)(hlen:n.aV.length<2^30)(hs:∀ o∈n.aV,o.small):∀ (rest pre:List cp),n.aV=pre++rest→(pre≠[]→p.down=false) →
  (rest.all (fun o=>!o.down&&gm (eK o.ops) (eK p.ops))=true→∀ loc,(∀ j0 j1 j2 j3 j4 j5 j6 j7 j8 j9 cC cH cG cF cB cE cD cI cQ db de dh dm dv du dt dN dR dU dX ej,K (.exit 0) ⟨[j0,j1,j2,j3,j4,j5,j6,j7,j8,j9,cC,cH,cG,cF,cB,cE,cD,cI,cQ,db,de,dh,dm,dv,du,dt,dN,dR,dU,dX,ej],σ++loc⟩))→(rest.all (fun o=>!o.down&&gm (eK o.ops) (eK p.ops))=false→∀ loc,(∀ j0 j1 j3 j4 j5 j6 j7 j8 j9 cC cH cG cF cB cE cD cI cQ db de dh dm dv du dt dN dR dU dX ej,K .ret ⟨[j0,j1,.b false,j3,j4,j5,j6,j7,j8,j9,cC,cH,cG,cF,cB,cE,cD,cI,cQ,db,de,dh,dm,dv,du,dt,dN,dR,dU,dX,ej],σ++loc⟩)) →
  fp σ.length prog Ah K (rest.length+1) ⟨[.u,.ptr σ.length 0,.u,.u,.u,.u,.sl 6 (n.aV.map cp.cells),.i .i64 n.aV.length,.i .i64 pre.length,.u,.u,.u,.u,.u,.u,.u,.u,.u,.u,.u,.u,.u,.u,.u,.u,.u,.u,.u,.u,.u,.u],σ++[b]⟩:=by
 intro rest
 induction rest with
 | nil =>
  intro pre he hp h1 h2;have he:n.aV=pre:=by simpa using he
  refine ay fun R hR=>?_;simp only[Ah,he,VV,seval];exact⟨fun h=>by simp at h,fun _=>h1 rfl ..⟩
 | cons o rest ih =>
  intro pre he hp h1 h2;subst hb;have hl:n.aV.length=pre.length+(rest.length+1):=by rw[he];simp
  have WE:=hs o (by rw[he];simp)
  have hw:IntKind.i64.wrap ((pre.length:Int)+1)=(((pre++[o]).length:Nat):Int):=by
   rw[aX (by omega)];simp
  have er:(n.aV.map cp.cells).getD pre.length []=o.cells:=by rw[he];exact jj
  have h0:(0:Int)≤(pre.length:Int):=by omega
  have h3:(pre.length:Int)<(n.aV.length:Int):=by omega
  simp only[cp.cells]at er;have Ks:(0:Int)<(n.aV.length:Int):=by omega
  have qm:(n.aV.map cp.cells).getD 0 []=p.cells:=by rw[ho];rfl
  have NN:=hs p (by rw[ho];simp);simp only[cp.cells]at qm;refine ay fun R hR=>?_;have k1:(true==false)=false:=rfl;have k2:(false==false)=true:=rfl;have k3:(true==true)=true:=rfl;have k4:(false==true)=false:=rfl;cases hd:o.down
  ·by_cases SP:pre=[]
   ·subst SP;have fC:p=o∧offs0=rest:=by rw[ho]at he;simpa using he
    obtain⟨rfl,rfl⟩:=fC;have hk:decide ((0:Int)<(0:Int))=false:=rfl;have e0:(([]:List cp).length:Int)=0:=rfl;have er:=qm;rw[e0]at h0 h3 hw;rw[e0];simp only[Ah,Net.cells,er,qm,h0,h3,Ks,hd,hw,hk,decide_true,decide_false,ae,aH,k1,k2,k3,k4,bA,bu,bI,bZ,VV,seval];refine⟨.u,?_⟩;refine br (c:=false) (v:=.u) (by simp only[k1,k2,k3,k4,bA,bu,bI,bZ,VV,seval]<;>rfl) (fun h=>by cases h) rfl ?_;simp only[cp.cells,er,qm,h0,h3,Ks,hd,hw,decide_true,decide_false,ae,k1,k2,k3,k4,bA,bu,bI,bZ,VV,seval];refine br (c:=false) (v:=.u) (by simp only[k1,k2,k3,k4,bA,bu,bI,bZ,VV,seval]<;>rfl) (fun h=>by cases h) rfl ?_;simp only[cp.cells,er,qm,h0,h3,Ks,hd,hw,decide_true,decide_false,ae,k1,k2,k3,k4,bA,bu,bI,bZ,VV,seval];refine br (c:=false) (v:=.b false) (by simp only[k1,k2,k3,k4,bA,bu,bI,bZ,VV,seval]<;>rfl) (fun h=>by cases h) rfl ?_;simp only[cp.cells,er,qm,h0,h3,Ks,hd,hw,decide_true,decide_false,ae,k1,k2,k3,k4,bA,bu,bI,bZ,VV,seval];have IH:=ih ([]++[p]) (by rw[ho];rfl) (fun _=>hd) (fun hh=>h1 (by simp only[ey,hd,yf,hh];rfl)) (fun hh=>h2 (by simp only[ey,hd,yf,hh];rfl));refine hR _ (cy [.box 26 n.cells] [_] (by have:=b9 aU (l:=[.box 26 n.cells]) (by simp only[Net.cells,ct,bK,false_imp_iff,implies_true,and_true,LW]);exact this) ?_ ?_ IH)
    ·repeat' constructor
    ·simp only[Net.cells,LW,ag,ai,aI];omega
   ·have hk:decide ((0:Int)<(pre.length:Int))=true:=by
     have:=cZ.2 SP;simp;omega
    have PF:=hp SP;have H9:(eK o.ops).length<2^62:=by have:=Cc o.ops;omega
    simp only[Ah,Net.cells,er,qm,h0,h3,Ks,hd,hw,hk,PF,decide_true,decide_false,ae,aH,k1,k2,k3,k4,bA,bu,bI,bZ,VV,seval];refine⟨_,rfl,?_⟩;refine br (c:=true) (by simp only[k1,k2,k3,k4,bA,bu,bI,bZ,VV,seval]<;>rfl) (fun _=>Al o WE hd _) (by simp only[cp.cells,hd,hk,PF,VV,seval]) ?_;simp only[cp.cells,er,qm,h0,h3,Ks,hd,hw,decide_true,decide_false,hk,PF,ae,k1,k2,k3,k4,bA,bu,bI,bZ,VV,seval];refine br (c:=true) (by simp only[k1,k2,k3,k4,bA,bu,bI,bZ,VV,seval]<;>rfl) (fun _=>Al p NN PF _) (by simp only[cp.cells,hd,hk,PF,VV,seval]) ?_;simp only[cp.cells,er,qm,h0,h3,Ks,hd,hw,decide_true,decide_false,hk,PF,ae,k1,k2,k3,k4,bA,bu,bI,bZ,VV,seval];refine br (c:=true) (by simp only[k1,k2,k3,k4,bA,bu,bI,bZ,VV,seval]<;>rfl) (fun _=>N8 (eK o.ops) (eK p.ops) H9 _) (by simp only[cp.cells,hd,hk,PF,VV,seval]) ?_;simp only[cp.cells,er,qm,h0,h3,Ks,hd,hw,decide_true,decide_false,hk,PF,ae,k1,k2,k3,k4,bA,bu,bI,bZ,VV,seval];refine⟨fun hh=>?_,fun hh=>?_⟩
    ·exact h2 (by simp only[ey,hd];rw[bU]at hh;rw[hh];rfl) ..
    ·have hh:gm (eK o.ops) (eK p.ops)=true:=by rw[cL]at hh;exact hh
     have IH:=ih (pre++[o]) (by rw[he];simp) (fun _=>PF) (fun h=>h1 (by simp only[ey,hd,hh,h];rfl)) (fun h=>h2 (by simp only[ey,hd,hh,h];rfl));refine hR _ (cy [.box 26 n.cells] [_] (by have:=b9 aU (l:=[.box 26 n.cells]) (by simp only[Net.cells,ct,bK,false_imp_iff,implies_true,and_true,LW]);exact this) ?_ ?_ IH)
     ·repeat' constructor
     ·simp only[Net.cells,LW,ag,ai,aI];omega
  ·simp only[Ah,Net.cells,er,qm,h0,h3,Ks,hd,hw,decide_true,decide_false,ae,aH,k1,k2,k3,k4,bA,bu,bI,bZ,VV,seval];refine⟨.u,?_⟩;refine br (c:=false) (v:=.u) (by simp only[k1,k2,k3,k4,bA,bu,bI,bZ,VV,seval]<;>rfl) (fun h=>by cases h) rfl ?_;simp only[cp.cells,er,qm,h0,h3,Ks,hd,hw,decide_true,decide_false,ae,k1,k2,k3,k4,bA,bu,bI,bZ,VV,seval];refine br (c:=false) (v:=.u) (by simp only[k1,k2,k3,k4,bA,bu,bI,bZ,VV,seval]<;>rfl) (fun h=>by cases h) rfl ?_;simp only[cp.cells,er,qm,h0,h3,Ks,hd,hw,decide_true,decide_false,ae,k1,k2,k3,k4,bA,bu,bI,bZ,VV,seval];refine br (c:=false) (v:=.b false) (by simp only[k1,k2,k3,k4,bA,bu,bI,bZ,VV,seval]<;>rfl) (fun h=>by cases h) rfl ?_;simp only[cp.cells,er,qm,h0,h3,Ks,hd,hw,decide_true,decide_false,ae,k1,k2,k3,k4,bA,bu,bI,bZ,VV,seval];exact h2 (by simp only[ey,hd];rfl) ..
theorem Is(n:Net)(hlen:n.aV.length<2^30)(hs:∀ o∈n.aV,o.small)(js:n.aV≠[])(σ:ah):PC prog 17 [.agg n.cells] σ (fun r σ'=>r=.b (DI n.aV)∧σ'=σ):=by
 refine PC.intro func17 c17 fun aU da=>al ?_
 obtain⟨p,offs0,ho⟩:∃ p l,n.aV=p::l:=by
  cases h:n.aV with
  | nil=>exact absurd h js
  | cons p l=>exact⟨p,l,rfl⟩
 have hS:DI n.aV=n.aV.all fun o=>!o.down&&gm (eK o.ops) (eK p.ops):=by rw[ho];rfl
 have py:=fun K=>Se (K:=K) aU (.box 26 n.cells) n rfl p offs0 ho hlen hs n.aV [] rfl (fun h=>absurd rfl h);rw[← hS]at py;simp only[Net.cells]at py;simp only[p17,SS,seval];simp only[Net.cells,ae,VV,seval];refine bX.wk (Wk.ic ?_) (bX.ml (n.aV.length+1) (py _ ?_ ?_))
 ·repeat' constructor
 ·intro hh;intros;simp only[VV,seval];exact aD aU (.inr rfl) rfl (by simp only[LW]) ⟨by rw[hh];rfl,rfl⟩
 ·intro hh;intros;exact aD aU (.inr rfl) rfl (by simp only[LW]) ⟨by rw[hh];rfl,rfl⟩
set_option maxHeartbeats 1000000 in
theorem za{σ:ah}{k a b c ga gb gc:Nat}(h:sb σ k a b c)(bf:List cp)(lets:List Let)(dP:List (Int×Int))(Xd:dP.length<2^30)(i j:Nat)(yI:i≠j)(oi oj:cp)(hi:bf[i]?=some oi)(hj:bf[j]?=some oj)(zq:oi.down=false)(yJ:oj.down=false)
  (PK:yA ⟨bf,lets,dP⟩ i j=true) :
  PC prog 11 [.ptr k 0,.i .i64 i,.i .i64 j] (gP σ k a b c (dB (.own a ga) (.own b gb) (.own c gc)) (bJ ga bf) (cv gb lets) (dW gc dP)) (fun r σ'=>r=.i .i64 8∧σ'=gP σ k a b c (dB (.own a ga) (.own b gb) (.own c gc)) (bJ ga bf) (cv gb lets) (dW gc dP)):=by
 refine PC.intro func11 c11 fun uK da=>al ?_;have pC:i<bf.length:=(ab.1 hi).1;have rk:j<bf.length:=(ab.1 hj).1;have h0:(0:Int)≤(i:Int):=by omega
 have h1:(0:Int)≤(j:Int):=by omega
 have h2:(i:Int)<(bf.length:Int):=by omega
 have h3:(j:Int)<(bf.length:Int):=by omega
 have he:((i:Int)==(j:Int))=false:=by simp;omega
 have Zq:ft (bf.map cp.cells) i 5=some (.b false):=by simp[ft,hi,cp.cells,zq]
 have Yb:ft (bf.map cp.cells) j 5=some (.b false):=by simp[ft,hj,cp.cells,yJ]
 simp only[Yr,SS,seval];simp only[dB,bJ,cv,dW,h.all,h0,h1,h2,h3,he,zq,yJ,Zq,Yb,ae,VV,seval];refine⟨_,rfl,?_⟩;simp only[h.all,VV,seval];refine an (Fc ⟨bf,lets,dP⟩ (.own a ga) (.own b gb) i j c gc (by show dP.length<2^62;omega) _ ?_ ?_ ?_) rfl ?_
 ·simp only[h.all,dW]
 ·simp only[h.all,beq_self_eq_true,VV,seval]
 ·simp only[h.all,beq_self_eq_true,VV,seval]
 simp only[PK,h.all,VV,seval];exact ei (.inr rfl) rfl (Wk.refl _ _) rfl ⟨rfl,rfl⟩
def Fo:En:=⟨[],[],[],[],[],[],0,0⟩
theorem qU(n:Net)(hn:n.small)(i:Nat)(o o':cp)(x:bc)(ho:n.aV[i]?=some o)(e:En)(hC:∀ σ,PC prog 36 [.agg o.cells,.agg e.cells] σ (fun r σ'=>r=.gZ [.agg o'.cells,.agg x.cells,.i .i64 0]∧σ'=σ))(σ:ah):
  PC prog 5 [.agg n.cells,.agg (Ev.cells ⟨1,i,0,0,e⟩)] σ (fun r σ'=>r=jg ⟨n.aV.set i o',n.bw,n.dP⟩ 0∧σ'=σ):=by
 have pC:i<n.aV.length:=(ab.1 ho).1;refine Ca n hn ⟨1,i,0,0,e⟩ (by simp[nC,H4];omega) rfl _ _ (fun σ k a b c h=>?_) σ;refine(sV h n.aV (cv 0 n.bw) (dW 0 n.dP) trivial trivial ⟨1,i,0,0,e⟩ rfl i rfl o ho o' x 0 hC (ga:=0) (gb:=0) (gc:=0)).mono ?_;rintro r σ' ⟨rfl,rfl⟩;exact⟨rfl,_,_,_,_,rfl,fun _=>⟨0,0,0,rfl,rfl,rfl,rfl⟩⟩
theorem Xw(n:Net)(hn:n.small)(a b:Nat)(ha:a<n.aV.length)(hb:b<n.aV.length)(rH:a≠b)(hc:n.dP=[])(e:En)(σ:ah):
  PC prog 5 [.agg n.cells,.agg (Ev.cells ⟨7,a,b,0,e⟩)] σ (fun r σ'=>r=jg ⟨n.aV,n.bw,[pU a b]⟩ 0∧σ'=σ):=by
 refine Jj n hn ⟨7,a,b,0,e⟩ (by simp[nC,H4];omega) rfl _ _ (fun σ k a' b' c h=>?_) σ;rw[hc];refine(Cb h (bJ 0 n.aV) (cv 0 n.bw) trivial trivial ⟨7,a,b,0,e⟩ rfl (by show(a:Int)≠b;omega) (ga:=0) (gb:=0) (gc:=0)).mono ?_;rintro r σ' ⟨rfl,rfl⟩;exact⟨rfl,_,_,_,_,rfl,fun _=>⟨0,0,1,rfl,rfl,rfl,rfl⟩⟩
theorem Qh(n:Net)(hn:n.small)(i j:Nat)(yI:i≠j)(oi oj:cp)(hi:n.aV[i]?=some oi)(hj:n.aV[j]?=some oj)(zq:oi.down=false)(yJ:oj.down=false)(PK:yA n i j=true)(e:En)(σ:ah):
  PC prog 5 [.agg n.cells,.agg (Ev.cells ⟨3,i,j,0,e⟩)] σ (fun r σ'=>r=jg Net.zero 8∧σ'=σ):=by
 have pC:i<n.aV.length:=(ab.1 hi).1;have rk:j<n.aV.length:=(ab.1 hj).1;refine xB n hn ⟨3,i,j,0,e⟩ (by simp[nC,H4];omega) rfl _ _ (fun σ k a b c h=>?_) σ;refine(za h n.aV n.bw n.dP hn.TN i j yI oi oj hi hj zq yJ PK (ga:=0) (gb:=0) (gc:=0)).mono ?_;rintro r σ' ⟨rfl,rfl⟩;exact⟨rfl,_,_,_,_,rfl,fun h=>absurd h (by decide)⟩
theorem TG(n:Net)(hn:n.small)(i j:Nat)(yI:i≠j)(oi oj:cp)(hi:n.aV[i]?=some oi)(hj:n.aV[j]?=some oj)(zq:oi.down=false)(yJ:oj.down=false)(PK:yA n i j=false)
  (sn:List Int) (hS:∀ σ,PC prog 26 [.agg oj.cells] σ (fun r σ'=>r=.sl 1 (sn.map bW)∧σ'=σ)) (l:List bc) (hL:∀ σ,PC prog 25 [.agg oi.cells,.sl 1 (sn.map bW)] σ (fun r σ'=>r=.sl 13 (l.map bc.cells)∧σ'=σ))
  (hlen:n.bw.length<2^29) (Db:l.length<2^29) (e:En) (σ:ah) :
  PC prog 5 [.agg n.cells,.agg (Ev.cells ⟨3,i,j,0,e⟩)] σ (fun r σ'=>r=jg ⟨n.aV,n.bw++l.map (vu i j),n.dP⟩ (if n.bw.length+l.length≤256 then 0 else 3)∧σ'=σ):=by
 have pC:i<n.aV.length:=(ab.1 hi).1;have rk:j<n.aV.length:=(ab.1 hj).1;refine xB n hn ⟨3,i,j,0,e⟩ (by simp[nC,H4];omega) rfl _ _ (fun σ k a b c h=>?_) σ;refine(Ga h n.aV n.bw n.dP hn.TN i j yI oi oj hi hj zq yJ PK sn hS l hL hlen Db (ga:=0) (gb:=0) (gc:=0)).mono ?_;intro r σ' hh;split at hh
 ·rename_i eC;obtain⟨rfl,rfl⟩:=hh;rw[if_pos eC];exact⟨rfl,_,_,_,_,rfl,fun _=>⟨0,_,0,rfl,rfl,rfl,rfl⟩⟩
 ·rename_i eC;obtain⟨rfl,rfl⟩:=hh;rw[if_neg eC];exact⟨rfl,_,_,_,_,rfl,fun h=>absurd h (by decide)⟩
theorem doRepeat(n:Net)(hn:n.small)(i:Nat)(x:Let)(hx:n.bw[i]?=some x)(hlen:n.bw.length<2^29)(e:En)(σ:ah):
  PC prog 5 [.agg n.cells,.agg (Ev.cells ⟨6,0,0,i,e⟩)] σ (fun r σ'=>r=jg ⟨n.aV,n.bw++[x],n.dP⟩ (if n.bw.length=256 then 3 else 0)∧σ'=σ):=by
 have pC:i<n.bw.length:=(ab.1 hx).1;refine Gb n hn ⟨6,0,0,i,e⟩ (by simp[nC,H4];omega) rfl _ _ (fun σ k a b c h=>?_) σ;refine(xz h (bJ 0 n.aV) (dW 0 n.dP) trivial trivial n.bw ⟨6,0,0,i,e⟩ rfl i rfl x hx (hn.ops x (aN hx)) hlen (ga:=0) (gb:=0) (gc:=0)).mono ?_;intro r σ' hh;split at hh
 ·rename_i eC;obtain⟨rfl,rfl⟩:=hh;rw[if_pos eC];exact⟨rfl,_,_,_,_,rfl,fun h=>absurd h (by decide)⟩
 ·rename_i eC;obtain⟨rfl,rfl⟩:=hh;rw[if_neg eC];exact⟨rfl,_,_,_,_,rfl,fun _=>⟨0,1,0,rfl,rfl,rfl,rfl⟩⟩
end Go.Proofs.Tryz
