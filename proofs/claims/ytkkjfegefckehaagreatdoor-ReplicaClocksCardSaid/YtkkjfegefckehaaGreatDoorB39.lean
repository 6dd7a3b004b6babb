/- A part of the proof of the statement of the last text of this claim; its conditions stand there. -/
import Derived.Test.YtkkjfegefckehaaGreatDoorB26
import Derived.Test.YtkkjfegefckehaaGreatDoorB38
set_option linter.all false

namespace Go.Proofs.Tryz
open Go Go.Pm Go.Bt Go.RowKit
theorem Ib:(prog.info? 29).map (·.size)=some 13:=by kernel_rfl
def FW(cur:Array Value)(n i:Nat)(news:List Value):Array Value :=
 ((cur.toList.take (i*13)++news++(cur.toList.take (n*13)).drop (i*13))++cur.toList.drop ((n+1)*13)).toArray
set_option maxRecDepth 100000 in
set_option maxHeartbeats 4000000 in
theorem Ia(g n c i vb voff vc:Nat)(cur:Array Value)(news:List Value)(w:World)(hi:i<n)(zh:n+1≤c)(aoI:c≤9223372036854775807)(hvb:vb≠g)
  (hg:w.heap[g]?=some (.cells cur 29 (0,0))) (gO:cur.size=c*13) (vX:news.length=13) (Ic:∀ j v,news[j]?=some v→w.cell? ⟨vb,voff+j,none⟩=some v)
  (h1c:∀ v∈cur.toList.take (n*13),v.oneCell'=true) (h1v:∀ v∈news,v.oneCell'=true)
  (tA tB:TypeId) (kA kB:Nat) (hsa:w.shape? vb=some (tA,kA)) (hsb:w.shape? g=some (tB,kB)) (hkB:kB≠0) (Ij:w.frozen? ⟨vb,voff,none⟩=false) (X8:w.frozen? ⟨vb,kA,none⟩=false) :
  Calls prog 116 #[.slice (some ⟨g,0,none⟩) n c,.int .i64 i,.slice (some ⟨vb,voff,none⟩) 1 vc] w fun e w' =>
   e=.returned (.slice (some ⟨g,0,none⟩) (n+1) c)∧w'=w.drew.setRow g (FW cur n i news):=by
 have hov:∀ lb cb,(callFunc 176 #[.slice (some ⟨vb,voff,none⟩) 1 vc,.slice (some ⟨g,(i+1)*13,none⟩) lb cb]).run prog w=.ok (.value (.bool false)) w:=fun lb cb=>by
  rw[run_callFunc_extern func176 (by kernel_rfl) (by kernel_rfl) (by kernel_rfl) (e:=Extern.SlicesOverlaps.overlaps #[33,33] #[4]) (by kernel_rfl),
   Lib.run_overlaps_apart w 33 4 29 underlying33 13 (fun w=>Tryz.sizeOf29 w) ⟨vb,voff,none⟩ ⟨g,(i+1)*13,none⟩ 1 vc lb cb hvb tA tB kA kB hsa hsb hkB Ij X8]
  rfl
 have Qe:IntKind.i64.wrap ((i:Int)+1)=(i:Int)+1:=by rw[IntKind.wrap_i64];omega
 have FZ:IntKind.i64.wrap ((n:Int)+1)=(n:Int)+1:=by rw[IntKind.wrap_i64];omega
 have hz2:¬ ((i:Int)=(n:Int)):=by omega
 have Tw:(0:Int)≤(i:Int)+1:=by omega
 have F0:i≤n:=by omega
 have Wr:((i:Int)+1).toNat=i+1:=by omega
 have htm:((n:Int)+1).toNat=n+1:=by omega
 have rl:¬ (c=i+1):=by omega
 have hb3:(i:Int)≤(n:Int)+1:=by omega
 have hb4:¬ (c=i):=by omega
 have hU:=underlying33
 have aQ:((cur.toList.take (n*13)).drop (i*13)).length=(n - i)*13:=by
  rw[bH,aR,aY,gO,Nat.sub_mul];have:n*13≤c*13:=cA _ (by omega);omega
 generalize qV:(cur.toList.take (n*13)).drop (i*13)=cs at aQ
 have Il:∀ j v,cs[j]?=some v→(w.drew).cell? ((⟨g,i*13,none⟩:Addr).add j)=some v:=by
  intro j v hj;rw[← qV,dV,iz]at hj;split at hj
  ·rw[Addr.add_lit];simp only[World.cell?,show w.drew.heap[g]?=some (.cells cur 29 (0,0))from hg];simpa using hj
  ·cases hj
 have mixed:prog.follows Departure.mixedOrders=true:=by kernel_rfl
 have Th:Nat.min (n+1 - i) (n - i)=n - i:=Nat.min_eq_right (by omega)
 have ai0:∀ ty dc sc,(Builtin.copy_ #[33,33] ty #[.slice (some ⟨g,(i+1)*13,none⟩) (n - i) dc,.slice (some ⟨g,i*13,none⟩) (n+1 - i) sc]).run prog w.drew=.ok (goInt (Nat.min (n+1 - i) (n - i):Nat)) (w.drew.setRow g (cur.toList.take ((i+1)*13)++cs++cur.toList.drop ((i+1)*13+cs.length)).toArray):=fun ty dc sc =>
  vH w.drew _ _ ty 29 g ((i+1)*13) _ dc ⟨g,i*13,none⟩ _ sc cur 29 cs 13 hU Ib hg (by rw[aQ,Th]) Il (by rw[aQ,gO];omega)
   (fun v hv=>h1c v (gk (qV▸hv)))
 generalize hc1:(cur.toList.take ((i+1)*13)++(cs++cur.toList.drop ((i+1)*13+(n - i)*13))).toArray=cur1
 have Wu:cur1.size=c*13:=by
  rw[← hc1];simp only[gP,List.length_append,aR,bH,aY,aQ,gO];omega
 have hg1:(w.drew.setRow g cur1).heap[g]?=some (.cells cur1 29 (0,0)):=setRow_heap w.drew g cur cur1 29 (0,0) hg;have Tg:Nat.min 1 (n+1 - i)=1:=iv (by omega)
 have aiZ:∀ ty dc,(Builtin.copy_ #[33,33] ty #[.slice (some ⟨g,i*13,none⟩) (n+1 - i) dc,.slice (some ⟨vb,voff,none⟩) 1 vc]).run prog (w.drew.setRow g cur1)=.ok (goInt (Nat.min 1 (n+1 - i):Nat)) ((w.drew.setRow g cur1).setRow g (cur1.toList.take (i*13)++news++cur1.toList.drop (i*13+news.length)).toArray):=fun ty dc =>
  vH _ _ _ ty 29 g (i*13) _ dc ⟨vb,voff,none⟩ _ vc cur1 29 news 13 hU Ib hg1 (by rw[vX,Tg]) (fun j v hj=>by
   rw[Addr.add_lit];have h0:=Ic j v hj;simp only[World.cell?,World.setRow,fU,if_neg (IS hvb)]at h0 ⊢;exact h0) (by rw[vX,Wu];omega) h1v
 go_enter func116,Tryz.ntmps116
 go_wp2_with (simp only[hov])
 go_region_law_o (refine step_copy_runI rfl _ _ 33 33 rfl _ _ (by simp[Act.eval,Act.put]) (by simp[Act.eval,Act.put]) (ai0 _ _ _) ?_)
 go_wp2_with (at_builtin;refine wpList_copy_runI _ rfl _ _ 33 33 rfl _ _ rfl rfl (aiZ _ _) ?_)
 go_ret
 refine⟨rfl,?_⟩;rw[setRow_setRow]
 have fk:((cur.toList.take ((i+1)*13))).length=(i+1)*13:=by
  rw[aR,aY,gO];omega
 have e1:cur1.toList=cur.toList.take ((i+1)*13)++(cs++cur.toList.drop ((i+1)*13+(n - i)*13)):=by rw[← hc1]
 have e2:cur1.toList.take (i*13)=cur.toList.take (i*13):=by
  rw[e1,fx (by rw[fk];omega),ye,iv (by omega)]
 have e3:cur1.toList.drop (i*13+13)=cs++cur.toList.drop ((n+1)*13):=by
  rw[e1,UJ (by rw[fk];omega),ry (by rw[fk];omega),ak];congr 2;omega
 rw[e2,e3,FW,qV];simp only[List.append_assoc]
set_option maxRecDepth 100000 in
set_option maxHeartbeats 4000000 in
theorem Kw(g n i vb voff vc:Nat)(cur:Array Value)(news:List Value)(w:World)(hi:i<n)(aoa:n≤2^30)
  (hg:w.heap[g]?=some (.cells cur 29 (0,0))) (gO:cur.size=n*13) (vX:news.length=13) (Ic:∀ j v,news[j]?=some v→w.cell? ⟨vb,voff+j,none⟩=some v)
  (h1c:∀ v∈cur.toList,v.oneCell'=true) (h1v:∀ v∈news,v.oneCell'=true) (Wn:vb<w.heap.size) :
  Calls prog 116 #[.slice (some ⟨g,0,none⟩) n n,.int .i64 i,.slice (some ⟨vb,voff,none⟩) 1 vc] w fun e w' =>
   ∃ (G:Nat) (row:Array Value),e=.returned (.slice (some ⟨w.heap.size,0,none⟩) (n+1) G)∧n+1≤G∧G≤maxLen∧row.size=G*13 ∧
    row.toList.take ((n+1)*13)=cur.toList.take (i*13)++news++cur.toList.drop (i*13)∧w'.heap[w.heap.size]?=some (.cells row 29 (0,0))∧w.grownBy w' none:=by
 obtain⟨i0,z,WB,hz0,hs0,hb0,qE⟩:=sO (T:=29) (n:=13) (by':=184) (by kernel_rfl);have hU:=underlying33;have hI:=underlying3;have mixed:prog.follows Departure.mixedOrders=true:=by kernel_rfl
 have hgw:g<w.heap.size:=(cg.1 hg).1
 have hold:(Builtin.firstCells i0.size i (.slice (some ⟨g,0,none⟩) i n)).run prog w.drew=.ok (cur.toList.take (i*13)).toArray w.drew:=by
  rw[hs0]
  exact run_firstCells_some w.drew 13 i ⟨g,0,none⟩ i n (cur.toList.take (i*13)) (by rw[aR,aY,gO];omega) (fun j v hj=>by
   rw[Addr.add_lit];rw[iz]at hj;split at hj
   ·simp only[World.cell?,show w.drew.heap[g]?=some (.cells cur 29 (0,0))from hg];simpa using hj
   ·cases hj)
 have hik:i+(n+1 - i)=n+1:=by omega
 have Qm:(n:Int)+1 - (i:Int)=((n+1 - i:Nat):Int):=by omega
 have hrz:∀ ty,(Builtin.append_ #[33,3] ty #[.slice (some ⟨g,0,none⟩) i n,.int .i64 ((n:Int)+1 - (i:Int))]).run prog w =
   .ok (.slice (some ⟨w.heap.size,0,none⟩) (n+1) (grownCap w (n+1) n 29)) (w.drew.alloc (.cells ((cur.toList.take (i*13)).toArray++Builtin.zeroCells z.cells (n+1 - i)++Builtin.zeroCells z.cells (grownCap w (n+1) n 29 - (n+1))) 29)):=fun ty=>by
  have h:=Lib.run_append_grow_zeros w 33 3 ty 29 i0 z .i64 .i64 hU hI WB hz0 (some ⟨g,0,none⟩) i n (cur.toList.take (i*13)) hold (n+1 - i) (by omega) (by omega) (by omega) (by omega) (by rw[hb0];omega) (by rw[hb0,hik];exact growslice_fits (by omega) (by omega));rw[hik]at h;rw[Qm];exact h
 have hGn:n+1≤grownCap w (n+1) n 29:=grownCap_ge w _ _ _;have hGm:grownCap w (n+1) n 29≤maxLen:=grownCap_le_maxLen w _ _ _ (by unfold maxLen;omega);generalize hG:grownCap w (n+1) n 29=G at hrz hGn hGm;have UE:∀ k,(Builtin.zeroCells z.cells k).size=k*13:=fun k=>by simp[Builtin.zeroCells,qE]
 have hRl:((cur.toList.take (i*13)).toArray++Builtin.zeroCells z.cells (n+1 - i)++Builtin.zeroCells z.cells (G - (n+1))).size=G*13:=by
  rw[lJ,lJ,UE,UE,gP,aR,aY,gO];omega
 have hRt:((cur.toList.take (i*13)).toArray++Builtin.zeroCells z.cells (n+1 - i)++Builtin.zeroCells z.cells (G - (n+1))).toList.take (i*13)=cur.toList.take (i*13):=by
  have hl:(cur.toList.take (i*13)).length=i*13:=by rw[aR,aY,gO];omega
  simp only[Lr,List.append_assoc];rw[fx (by rw[hl];exact aB _),bJ (by rw[hl];exact aB _)]
 generalize ai7:(cur.toList.take (i*13)).toArray++Builtin.zeroCells z.cells (n+1 - i)++Builtin.zeroCells z.cells (G - (n+1))=ROW at hrz hRl hRt;have hz2:¬ ((i:Int)=(n:Int)):=by omega
 have hz3:(n:Int)<(n:Int)+1:=by omega
 have Qe:IntKind.i64.wrap ((i:Int)+1)=(i:Int)+1:=by rw[IntKind.wrap_i64];omega
 have FZ:IntKind.i64.wrap ((n:Int)+1)=(n:Int)+1:=by rw[IntKind.wrap_i64];omega
 have hw3:IntKind.i64.wrap ((n:Int)+1 - (i:Int))=(n:Int)+1 - (i:Int):=by rw[IntKind.wrap_i64];omega
 have Tw:(0:Int)≤(i:Int)+1:=by omega
 have F0:i≤n:=by omega
 have Wr:((i:Int)+1).toNat=i+1:=by omega
 have hb3:(i:Int)≤(n:Int):=by omega
 have hb5:(i:Int)≤(n:Int)+1:=by omega
 have aoZ:G≤9223372036854775807:=by unfold maxLen at hGm;omega
 have hGi:¬ (G=i):=by omega
 have aoY:¬ (G=i+1):=by omega
 have hci:¬ (n=i):=by omega
 have hgN:¬ (w.heap.size=g):=by omega
 have hvN:¬ (w.heap.size=vb):=by omega
 have hgA:(w.alloc (.cells ROW 29)).drew.heap[w.heap.size]?=some (.cells ROW 29 (0,0)):=heap_alloc_new w _;have Tg:Nat.min 1 (n+1 - i)=1:=iv (by omega);have aeP:Nat.min (n - i) (n - i)=n - i:=iv (aB _)
 have ae5:∀ ty dc,(Builtin.copy_ #[33,33] ty #[.slice (some ⟨w.heap.size,i*13,none⟩) (n+1 - i) dc,.slice (some ⟨vb,voff,none⟩) 1 vc]).run prog (w.alloc (.cells ROW 29)).drew =
   .ok (goInt (Nat.min 1 (n+1 - i):Nat)) ((w.alloc (.cells ROW 29)).drew.setRow w.heap.size (ROW.toList.take (i*13)++news++ROW.toList.drop (i*13+news.length)).toArray):=fun ty dc =>
  vH _ _ _ ty 29 w.heap.size (i*13) _ dc ⟨vb,voff,none⟩ _ vc ROW 29 news 13 hU Ib hgA (by rw[vX,Tg]) (fun j v hj=>by
   rw[Addr.add_lit];exact(World.cell?_alloc_past (w:=w) _ vb (voff+j) Wn).trans (Ic j v hj)) (by rw[vX,hRl];omega) h1v
 have hRA:(ROW.toList.take (i*13)++news++ROW.toList.drop (i*13+news.length)).length=G*13:=by
  simp only[List.length_append,aR,bH,aY,hRl,vX];omega
 generalize hra:(ROW.toList.take (i*13)++news++ROW.toList.drop (i*13+news.length)).toArray=RA at ae5;have aeF:RA.size=G*13:=by rw[← hra,gP,hRA]
 have hgB:((w.alloc (.cells ROW 29)).drew.setRow w.heap.size RA).drew.heap[w.heap.size]?=some (.cells RA 29 (0,0)):=setRow_heap _ w.heap.size ROW RA 29 (0,0) hgA
 have aQ:(cur.toList.drop (i*13)).length=(n - i)*13:=by
  rw[bH,aY,gO,Nat.sub_mul]
 have aiY:∀ ty dc sc,(Builtin.copy_ #[33,33] ty #[.slice (some ⟨w.heap.size,(i+1)*13,none⟩) (n - i) dc,.slice (some ⟨g,i*13,none⟩) (n - i) sc]).run prog ((w.alloc (.cells ROW 29)).drew.setRow w.heap.size RA).drew =
   .ok (goInt (Nat.min (n - i) (n - i):Nat)) (((w.alloc (.cells ROW 29)).drew.setRow w.heap.size RA).drew.setRow w.heap.size (RA.toList.take ((i+1)*13)++cur.toList.drop (i*13)++RA.toList.drop ((i+1)*13+(cur.toList.drop (i*13)).length)).toArray):=fun ty dc sc =>
  vH _ _ _ ty 29 w.heap.size ((i+1)*13) _ dc ⟨g,i*13,none⟩ _ sc RA 29 (cur.toList.drop (i*13)) 13 hU Ib hgB (by rw[aQ,aeP]) (fun j v hj=>by
   rw[Addr.add_lit];rw[dV]at hj
   have h0:(w.alloc (.cells ROW 29)).heap[g]?=some (.cells cur 29 (0,0)):=by
    rw[Below.heap_alloc w _ g hgw];exact hg
   have h1:((w.alloc (.cells ROW 29)).drew.setRow w.heap.size RA).drew.heap[g]?=some (.cells cur 29 (0,0)):=by
    simp only[World.setRow,World.drew,fU,if_neg hgN];exact h0
   simp only[World.cell?,h1];simpa using hj) (by rw[aQ,aeF];omega) (fun v hv=>h1c v (gk hv))
 clear Qm hik hold ai7 hG hRl
 go_enter func116,Tryz.ntmps116
 go_wp2_with (first
  | (at_builtin;refine Lib.wpList_append_run _ rfl _ _ _ _ rfl _ _ rfl rfl _ _ (hrz _) ?_)
  | (at_builtin;refine wpList_copy_runI _ rfl _ _ 33 33 rfl _ _ rfl rfl (ae5 _ _) ?_))
 go_region_law_o (refine step_copy_runI rfl _ _ 33 33 rfl _ _ (by simp[Act.eval,Act.put]) (by simp[Act.eval,Act.put]) (aiY _ _ _) ?_)
 go_wp2
 go_ret
 have fk:(cur.toList.take (i*13)).length=i*13:=by rw[aR,aY,gO];omega
 have e1:RA.toList=cur.toList.take (i*13)++(news++ROW.toList.drop (i*13+news.length)):=by rw[← hra,← hRt,List.append_assoc]
 have e2:RA.toList.take ((i+1)*13)=cur.toList.take (i*13)++news:=by
  have hl:(cur.toList.take (i*13)++news).length=(i+1)*13:=by rw[List.length_append,fk,vX];omega
  rw[e1,← List.append_assoc,fx (by rw[hl];exact aB _),bJ (by rw[hl];exact aB _)]
 have IP:(RA.toList.take ((i+1)*13)++cur.toList.drop (i*13)).length=(n+1)*13:=by
  rw[e2,List.length_append,List.length_append,fk,vX,aQ];omega
 refine⟨G,_,rfl,hGn,hGm,?_,?_,setRow_heap _ _ RA _ 29 (0,0) hgB,?_⟩
 ·rw[gP,← List.append_assoc,List.length_append,IP,bH,aY,aeF];omega
 ·show List.take ((n+1)*13) (RA.toList.take ((i+1)*13)++(cur.toList.drop (i*13)++RA.toList.drop ((i+1)*13+(n - i)*13)))=_;rw[← List.append_assoc,fx (by rw[IP];exact aB _),bJ (by rw[IP];exact aB _),e2]
 ·refine⟨rfl,rfl,rfl,?_,fun k hk _=>?_⟩
  ·simp only[World.setRow,World.drew,Array.size_modify,World.alloc,Array.size_push];omega
  ·simp only[World.setRow,World.drew,fU,if_neg (show ¬ w.heap.size=k by omega)];exact Below.heap_alloc w _ k hk
theorem RR{w:World}{σ:ag}{μ:Mem}{xs:List (List V)}{r:List V}{sz:Nat}{vals news:List Value}(h:mq w σ μ xs sz vals)(hl:vals.length=xs.length*sz)(hr:mq w σ μ [r] sz news)(hn:news.length=sz)(m:Nat)(hm:m≤xs.length):
  mq w σ μ (xs.take m++r::xs.drop m) sz (vals.take (m*sz)++news++vals.drop (m*sz)):=by
 have fk:(vals.take (m*sz)).length=m*sz:=by
  rw[aR,hl];exact iv (cA _ hm)
 have S1:(xs.take m).length=m:=by rw[aR];exact iv hm
 have h1:mq w σ μ (xs.take m) sz (vals.take (m*sz)):=by
  refine⟨fun q hq=>h.1 q (ct hq),fun i j x hx=>?_⟩
  have hi:i<m:=by
   obtain⟨q,hq,_⟩:=kL hx;have:=(ae.1 hq).1;omega
  have BR:fe xs i j=some x:=by
   simp only[fe,iz,if_pos hi]at hx ⊢;exact hx
  obtain⟨q1,u,q2,q3⟩:=h.2 i j x BR
  have hj:j<sz:=by
   obtain⟨q,hq,hq2⟩:=kL BR;have:=h.1 q (bh hq);have:=(ae.1 hq2).1;omega
  refine⟨q1,u,?_,q3⟩
  have DB:i*sz+j<m*sz:=by
   have:(i+1)*sz≤m*sz:=cA _ hi;rw[Nat.add_mul,oh]at this;omega
  rw[iz,if_pos DB];exact q2
 have h2:mq w σ μ (xs.drop m) sz (vals.drop (m*sz)):=by
  refine⟨fun q hq=>h.1 q (gk hq),fun i j x hx=>?_⟩
  have BR:fe xs (m+i) j=some x:=by
   simp only[fe,dV]at hx ⊢;exact hx
  obtain⟨q1,u,q2,q3⟩:=h.2 _ j x BR;refine⟨q1,u,?_,q3⟩;rw[dV,← q2,Nat.add_mul,Nat.add_assoc]
 have h3:=(h1.append hr (by rw[fk,S1])).append h2 (by rw[List.length_append,List.length_append,fk,hn,S1,Nat.add_mul];simp);simpa using h3
theorem MC(l:List aJ)(x:aJ)(m id id2 g g2:Nat)(sh2:Bool)(hm:m<l.length)(hl:l.length<2^30)(σ:ag)(iQ:id≠id2)(h1:σ[id]?=some (.row 29 13 184 g false (l.map aJ.cells)))(h2:σ[id2]?=some (.row 29 13 184 g2 sh2 [x.cells])):
  PC prog 116 [.own id g,.i .i64 m,.own id2 g2] σ (fun r σ'=>r=.own id (g+1)∧σ'=σ.set id (.row 29 13 184 (g+1) false ((l.take m++x::l.drop m).map aJ.cells))):=by
 refine PC.aea h1 fun B w0 w μ vs hS hv=>?_;have a0:=hv.2 0 _ rfl;have a1:=(hv.2 1 _ rfl).iP;have a2:=hv.2 2 _ rfl;have a0:=a0.lX h1;have a2:=a2.lX h2;obtain⟨_,vals,gD,cP⟩:=hS.obj id _ h1;obtain⟨_,news,S7,X0⟩:=hS.obj id2 _ h2
 have e:vs=#[μ id,.int .i64 m,μ id2]:=by
  obtain⟨q⟩:=vs
  match q,hv.1 with
  | [u,v,y],_=>simp at a0 a1 a2;rw[a0,a1,a2]
 rw[e];have o1:=mq.one hS cP gD.1;have o2:=mq.one hS X0 S7.1;rcases gD.2 with⟨_,hn⟩ | ⟨gb,cap,cur,zi,hB,hg,UF,Il,qV,OD⟩
 ·rw[List.length_map]at hn;omega
 rcases S7.2 with⟨_,hn⟩ | ⟨vb,cap2,cur2,aeO,hB2,ZX,an9,aoH,aoF,aiX⟩
 ·simp at hn
 have Tk:(l.map aJ.cells).length=l.length:=List.length_map ..;rw[Tk]at zi UF OD gD;have hvb:vb≠gb:=fun e=>iQ (hS.sep id id2 _ _ gb h1 h2 (by simp) (by simp) (by rw[zi];rfl) (by rw[aeO,e];rfl));have vX:news.length=13:=by simpa using S7.1
 have Wo:vals.length=l.length*13:=by rw[gD.1]
 have Ic:∀ j v,news[j]?=some v→w.cell? ⟨vb,0+j,none⟩=some v:=by
  intro j v hj;rw[← aiX,iz]at hj;split at hj
  ·simp only[World.cell?,ZX,aK];simpa using hj
  ·cases hj
 have Wn:vb<w.heap.size:=(cg.1 ZX).1;have hlen':((l.take m++x::l.drop m).map aJ.cells).length=l.length+1:=by simp;omega
 have afa:mq w σ μ ((l.take m++x::l.drop m).map aJ.cells) 13 (vals.take (m*13)++news++vals.drop (m*13)):=by
  have:=RR (r:=x.cells) cP (by rw[Tk];exact Wo) X0 vX m (by rw[Tk];omega);simpa[List.map_take,List.map_drop]using this
 have Tb:(vals.take (m*13)++news++vals.drop (m*13)).length=(l.length+1)*13:=by
  simp only[List.length_append,aR,bH,Wo,vX];omega
 rw[zi,aeO]
 by_cases zh:l.length+1≤cap
 ·refine(Ia gb l.length cap m vb 0 cap2 cur news w hm zh (by unfold maxLen at Il;omega) hvb hg qV vX Ic (fun v hv=>o1 v (OD▸hv)) o2 29 29 cur2.size cur.size (by simp[World.shape?,ZX]) (by simp[World.shape?,hg]) (by rw[qV];omega) (by simp[World.frozen?,ZX]) (by simp[World.frozen?,ZX])).mono ?_;rintro e w' ⟨rfl,rfl⟩;refine⟨_,_,rfl,?_,fun b hb=>.inl hb,?_,afa⟩
  ·refine⟨rfl,rfl,rfl,?_,fun k hk iQ=>?_⟩
   ·simp only[World.setRow,World.drew,Array.size_modify];exact aB _
   ·have tK:¬ gb=k:=fun e=>iQ (by rw[e];rfl);simp only[World.setRow,World.drew,fU,if_neg tK]
  ·rw[hlen']
   have e1:cur.toList.take (m*13)=vals.take (m*13):=by
    rw[← OD,ye,iv (by omega)]
   have e2:(FW cur l.length m news).toList=(vals.take (m*13)++news++vals.drop (m*13))++cur.toList.drop ((l.length+1)*13):=by
    rw[FW,OD,e1]
   refine⟨Tb,.inr ⟨gb,cap,_,rfl,hB,setRow_heap w.drew gb cur _ 29 (0,0) hg,zh,Il,?_,?_⟩⟩
   ·have e3:(FW cur l.length m news).size=(FW cur l.length m news).toList.length:=aY.symm;rw[e3,e2,List.length_append,Tb,bH,(show cur.toList.length=cap*13 from by rw[aY,qV])];omega
   ·rw[e2,fx (by rw[Tb];exact aB _),bJ (by rw[Tb];exact aB _)]
 ·have nI:cap=l.length:=by omega
  subst nI;have js:cur.toList=vals:=by rw[← OD,bJ (by rw[aY,qV];exact aB _)]
  refine(Kw gb l.length m vb 0 cap2 cur news w hm (by omega) hg qV vX Ic (fun v hv=>o1 v (js▸hv)) o2 Wn).mono ?_;rintro e w' ⟨G,row,rfl,q1,q2,q3,q4,q5,q6⟩;refine⟨_,_,rfl,?_,fun b hb=>.inr ?_,?_,afa⟩
  ·obtain⟨p1,p2,p3,p4,p5⟩:=q6;exact⟨p1,p2,p3,p4,fun k hk iQ=>p5 k hk (by simp)⟩
  ·simp only[lf,aa]at hb;omega
  ·rw[hlen'];refine⟨Tb,.inr ⟨w.heap.size,G,row,rfl,by have:=(cg.1 hg).1;omega,q5,q1,q2,q3,?_⟩⟩;rw[q4,js]
theorem MD(l:List aJ)(x:aJ)(id id2 g g2:Nat)(sh2:Bool)(hl:l.length<2^30)(σ:ag)(h1:σ[id]?=some (.row 29 13 184 g false (l.map aJ.cells)))(h2:σ[id2]?=some (.row 29 13 184 g2 sh2 [x.cells])):
  PC prog 116 [.own id g,.i .i64 l.length,.own id2 g2] σ (fun r σ'=>r=.own id (g+1)∧σ'=σ.set id (.row 29 13 184 (g+1) false ((l++[x]).map aJ.cells))):=by
 refine PC.intro func116 Ld fun aQ cz=>aj ?_;simp only[adT,SS,seval];simp only[h1,h2,List.length_map,VV,reduceIte,reduceCtorEq];refine⟨⟨by omega,by omega⟩,fun h=>by simp at h,fun _=>⟨⟨by omega,by unfold maxLen;omega⟩,?_⟩⟩;exact ed (.inr rfl) rfl (Wk.refl _ _) rfl ⟨rfl,by simp⟩
theorem Qb(l:List aJ)(x:aJ)(m id id2 g g2:Nat)(sh2:Bool)(hm:m≤l.length)(hl:l.length<2^30)(σ:ag)(iQ:id≠id2)(h1:σ[id]?=some (.row 29 13 184 g false (l.map aJ.cells)))(h2:σ[id2]?=some (.row 29 13 184 g2 sh2 [x.cells])):
  PC prog 116 [.own id g,.i .i64 m,.own id2 g2] σ (fun r σ'=>r=.own id (g+1)∧σ'=σ.set id (.row 29 13 184 (g+1) false ((l.take m++x::l.drop m).map aJ.cells))):=by
 rcases Nat.lt_or_eq_of_le hm with h | rfl
 ·exact MC l x m id id2 g g2 sh2 h hl σ iQ h1 h2
 ·have:=MD l x id id2 g g2 sh2 hl σ h1 h2
  rwa [Uv,oT]
theorem Px(S:ag)(a b id g:Nat)(l:List aJ)(x:aJ)(ha:S[a]?=some (.box 33 [.own id g]))(hid:S[id]?=some (.row 29 13 184 g false (l.map aJ.cells)))(hb:S[b]?=some (.box 29 x.cells))(k:Nat)(y:aJ)(hk:l[k]?=some y):
  PC prog 113 [.i .i64 k,.ptr a 0,.ptr b 0] S (fun r σ'=>r=.b (decide (0≤da y x))∧σ'=S):=by
 refine PC.intro func113 afq fun aQ cz=>aj ?_;have tJ:k<l.length:=(ae.1 hk).1;have dY:(l.map aJ.cells).getD k []=y.cells:=by simp[List.getD_eq_getElem?_getD,hk]
 simp only[YP,SS,seval];simp only[ha,hb,hid,dY,List.length_map,VV,seval];refine⟨⟨by omega,by omega⟩,by rw[jT];exact aB _,by rw[jT];exact aB _,?_⟩;refine ai (yR y x _) (by simp only[oe,VV,seval]) ?_;simp only[VV,seval];exact aO (.inr rfl) rfl ⟨rfl,rfl⟩
theorem Pw(l:List aJ)(x:aJ)(m id g:Nat)(hl:l.length<2^39)(hm:m≤l.length)(h1:∀ (k:Nat) (y:aJ),l[k]?=some y→(0≤da y x↔m≤k))(σ:ag)(hid:σ[id]?=some (.row 29 13 184 g false (l.map aJ.cells))):
  PC prog 61 [.own id g,.agg x.cells] σ (fun r σ'=>r=.iK [.i .i64 m,.b (match l[m]? with | some y=>da y x==0 | none=>false)]∧σ'=σ):=by
 refine PC.intro func61 c61 fun aQ cz=>aj ?_;have fk:id<σ.length:=(ae.1 hid).1;have hid':∀ loc:ag,(σ++loc)[id]?=some (.row 29 13 184 g false (l.map aJ.cells)):=fun loc=>by rw[aH fk];exact hid
 simp only[p61,SS,seval];simp only[aJ.cells,bc.cells,En.cells,List.length_map,hid,hid',VV,seval];refine ai (FB 113 [.ptr σ.length 0,.ptr (σ.length+1) 0] l.length m (by omega) hm (by kernel_rfl) (fun k hk=>?_)) rfl ?_
 ·obtain⟨y,hy⟩:∃ y,l[k]?=some y:=⟨_,aw hk⟩;refine(Px _ σ.length (σ.length+1) id g l x (by simp only[VV,seval]) (hid' _) (by simp only[aJ.cells,bc.cells,En.cells,VV,seval]) k y hy).mono ?_;rintro r σ' ⟨rfl,rfl⟩;refine⟨?_,rfl⟩;simp only[decide_eq_decide.2 (h1 k y hy)]
 ·simp only[List.length_map,hid',VV,seval];have e1:((decide ((m:Int)<(l.length:Int))==true)=true)↔m<l.length:=by simp
  cases hy:l[m]? with
  | some y =>
   have E1:m<l.length:=(ae.1 hy).1;have dY:(l.map aJ.cells).getD m []=y.cells:=by simp[List.getD_eq_getElem?_getD,hy]
   have hd:decide ((m:Int)<(l.length:Int))=true:=by simp;omega
   refine⟨fun _=>⟨by omega,by omega⟩,.agg y.cells,fun _=>⟨by rw[dY,oe],by rw[dY,jT];exact aB _⟩,?_⟩;refine bg (c:=true) (by simp only[hd,VV,seval]<;>rfl) (fun _=>yR y x _) (by simp only[aJ.cells,bc.cells,En.cells,VV,seval]) ?_;simp only[hd,VV,seval];exact aG aQ (.inr rfl) (by simp only[RS,seval];rfl) (by simp only[LW]) ⟨rfl,rfl⟩
  | none =>
   have E1:¬ m<l.length:=by simpa using hy
   have hd:decide ((m:Int)<(l.length:Int))=false:=by simp;omega
   refine⟨fun h=>absurd (e1.1 h) E1,.u,fun h=>absurd (e1.1 h) E1,?_⟩;refine bg (c:=false) (v:=.i .i64 0) (by simp only[hd,VV,seval]<;>rfl) (fun h=>by simp at h) rfl ?_;simp only[hd,VV,seval];exact aG aQ (.inr rfl) (by simp only[RS,seval];rfl) (by simp only[LW]) ⟨rfl,rfl⟩
set_option maxHeartbeats 1000000 in
theorem Am(o:cc)(x:aJ)(m:Nat)(ho:o.small)(hx:x.small)(fD:cw x=0)(hp:(bX x).length≤60000)(qp:o.log.length≤4000000)(hm:m≤o.ops.length)(h1:∀ (k:Nat) (y:aJ),o.ops[k]?=some y→(0≤da y x↔m≤k))(σ:ag):
  PC prog 63 [.agg o.cells,.agg x.cells] σ (fun r σ'=>r=.iK [.agg (fR o x m).cells,.i .i64 0]∧σ'=σ):=by
 refine PC.intro func63 c63 fun aQ cz=>aj ?_;have hlen:=ho.len;simp only[p63,SS,seval];simp only[cc.cells,aJ.cells,bc.cells,En.cells,VV,seval];refine ai (v8 x hx _) (by simp only[aJ.cells,bc.cells,En.cells,VV,seval]) ?_;simp only[DU fD,VV,seval];refine ai (MB o.log (bX x) (by omega) (by omega) _) rfl ?_;simp only[Nh hp qp,VV,seval];refine ai (tR o ho _) (by simp only[cc.cells,VV,seval]) ?_;simp only[xc,VV,seval];refine ai (Pw o.ops x m (σ.length+3) 0 (by omega) hm h1 _ (by simp only[VV,seval])) (by simp only[aJ.cells,bc.cells,En.cells,VV,seval]) ?_;simp only[VV,seval];refine ai (nQ x hx _) (by simp only[aJ.cells,bc.cells,En.cells,VV,seval]) ?_;simp only[aJ.cells,bc.cells,En.cells,VV,seval];refine ai (Qb o.ops x m (σ.length+3) (σ.length+5) 0 0 false hm hlen _ (by omega) (by simp only[VV,seval]) (by simp only[aJ.cells,bc.cells,En.cells,VV,seval])) rfl ?_;simp only[VV,seval];refine gg 3 aQ (.inr rfl) (by simp only[RS,seval];rfl) rfl ?_ ?_
 ·simp only[ay,az,Pm.fz,kc,and_self,if_true,LW]
 ·simp only[ay,az,Pm.fz,kc,and_self,if_true,fR];exact⟨rfl,trivial⟩
def sA(o:cc)(e:En)(sn:List Int):aJ:=⟨⟨o.clock+1,o.number,je sn o.number+1⟩,1,e,sn⟩
def k7(o:cc)(x:aJ)(m:Nat):cc:={ fR o x m with synced:=(fR o x m).log.length }
theorem Ml:pH [.i .i64 0,.i .i64 0,.i .i64 0,.i .i64 0,.nil,.nil,.s [],.s [],.s [],.s [],.i .i64 0,.i .i64 0,.nil] eY.cells:=by
 simp only[aJ.cells,bc.cells,En.cells,eY,az,aq,ak]
 repeat first | exact .nil | refine .cons (.refl _) ?_ | refine .cons (.nil _) ?_
theorem Sv(o:cc)(e:En)(he:e.small)(ho:o.small)(hd:o.down=false)(c:Nat→Nat)(hc:jR o.ops c)(sn:List Int)(Ig:nc (gj c) []=sn)(hl:128≤je sn o.number∨2^30≤o.clock)(σ:ag):
  PC prog 59 [.agg o.cells,.i .i64 1,.agg e.cells] σ (fun r σ'=>r=.iK [.agg cc.zero.cells,.agg eY.cells,.i .i64 3]∧σ'=σ):=by
 refine PC.intro func59 c59 fun aQ cz=>aj ?_;simp only[p59,SS,seval];simp only[cc.cells,En.cells,VV,seval];refine ai (o9 o ho hd c hc _) (by simp only[cc.cells,VV,seval]) ?_;simp only[Ig,VV,seval];refine ai (iY sn o.number _) rfl ?_;simp only[VV,seval];have hb:(decide (128≤je sn o.number)||decide (1073741824≤o.clock))=true:=by simp;omega
 exact⟨fun _=>dv aQ (.inr rfl) (by simp only[kO,sj,VV,seval]) (.cons (Cv.ir (pg 0)) (.cons (Cv.ir Ml) (.cons (.refl _) .nil))) (by simp only[cc.cells,aJ.cells,bc.cells,En.cells,aq,ak,LW]) ⟨rfl,rfl⟩,fun h=>by rw[hb]at h;cases h⟩
theorem Ns(v:List Int)(o:Int):0≤je v o:=by
 unfold je
 (repeat' split)<;>omega
set_option maxHeartbeats 1000000 in
theorem Vq(o:cc)(e:En)(he:e.small)(ho:o.small)(hd:o.down=false)(c:Nat→Nat)(hc:jR o.ops c)(sn:List Int)(Ig:nc (gj c) []=sn)(hl:je sn o.number<128)(h0:0≤o.clock)(aQ:o.clock<2^30)(m:Nat)
  (hx:(sA o e sn).small) (fD:cw (sA o e sn)=0) (hp:(bX (sA o e sn)).length≤60000) (qp:o.log.length≤4000000) (hm:m≤o.ops.length) (h1:∀ (k:Nat) (y:aJ),o.ops[k]?=some y→(0≤da y (sA o e sn)↔m≤k)) (σ:ag) :
  PC prog 59 [.agg o.cells,.i .i64 1,.agg e.cells] σ (fun r σ'=>r=.iK [.agg (k7 o (sA o e sn) m).cells,.agg (sA o e sn).cells,.i .i64 0]∧σ'=σ):=by
 refine PC.intro func59 c59 fun aQ cz=>aj ?_;have hv:=Ns sn o.number;have e1:IntKind.i64.wrap (o.clock+1)=o.clock+1:=IntWalk.i64_in _ (by omega);have e2:IntKind.i64.wrap (je sn o.number+1)=je sn o.number+1:=IntWalk.i64_in _ (by omega);have hb:(decide (128≤je sn o.number)||decide (1073741824≤o.clock))=false:=by simp;omega
 have hlen:(fR o (sA o e sn) m).log.length<2^40:=by simp only[fR,List.length_append,ig];omega
 simp only[p59,SS,seval];simp only[cc.cells,En.cells,VV,seval];refine ai (o9 o ho hd c hc _) (by simp only[cc.cells,VV,seval]) ?_;simp only[Ig,VV,seval];refine ai (iY sn o.number _) rfl ?_;simp only[e1,e2,VV,seval];refine⟨fun h=>(by rw[hb]at h;cases h),fun _=>?_⟩;refine ai (Am o (sA o e sn) m ho hx fD hp qp hm h1 _) (by simp only[cc.cells,aJ.cells,bc.cells,En.cells,sA,VV,seval]) ?_;simp only[cc.cells,VV,seval];refine ai (nQ (sA o e sn) hx _) (by simp only[aJ.cells,bc.cells,En.cells,sA,VV,seval]) ?_;simp only[aJ.cells,bc.cells,En.cells,aL,VV,seval];refine aG aQ (.inr rfl) (by simp only[RS,seval];rfl) (by simp only[LW]) ⟨rfl,rfl⟩
theorem K6(o:cc)(e:En)(he:e.small)(fD:cy e=0)(ho:o.small)(hd:o.down=false)(c:Nat→Nat)(hc:jR o.ops c)(sn:List Int)(Ig:nc (gj c) []=sn)(hl:128≤je sn o.number∨2^30≤o.clock)(σ:ag):
  PC prog 17 [.agg o.cells,.agg e.cells] σ (fun r σ'=>r=.iK [.agg cc.zero.cells,.agg eY.cells,.i .i64 3]∧σ'=σ):=by
 refine PC.intro func17 c17 fun aQ cz=>aj ?_;simp only[p17,SS,seval];simp only[cc.cells,En.cells,hd,VV,seval];refine ai (kF e he _) (by simp only[En.cells,VV,seval]) ?_;simp only[fD,VV,seval];refine ai (Sv o e he ho hd c hc sn Ig hl _) (by simp only[cc.cells,En.cells,hd,VV,seval]) ?_;simp only[cc.cells,aJ.cells,bc.cells,En.cells,VV,seval];exact aG aQ (.inr rfl) (by simp only[RS,seval];rfl) (by simp only[LW]) ⟨rfl,rfl⟩
theorem D3(o:cc)(e:En)(he:e.small)(aiR:cy e=0)(ho:o.small)(hd:o.down=false)(c:Nat→Nat)(hc:jR o.ops c)(sn:List Int)(Ig:nc (gj c) []=sn)(hl:je sn o.number<128)(h0:0≤o.clock)(DD:o.clock<2^30)(m:Nat)
  (hx:(sA o e sn).small) (fD:cw (sA o e sn)=0) (hp:(bX (sA o e sn)).length≤60000) (qp:o.log.length≤4000000) (hm:m≤o.ops.length) (h1:∀ (k:Nat) (y:aJ),o.ops[k]?=some y→(0≤da y (sA o e sn)↔m≤k)) (σ:ag) :
  PC prog 17 [.agg o.cells,.agg e.cells] σ (fun r σ'=>r=.iK [.agg (k7 o (sA o e sn) m).cells,.agg (sA o e sn).cells,.i .i64 0]∧σ'=σ):=by
 refine PC.intro func17 c17 fun aQ cz=>aj ?_;simp only[p17,SS,seval];simp only[cc.cells,En.cells,hd,VV,seval];refine ai (kF e he _) (by simp only[En.cells,VV,seval]) ?_;simp only[aiR,VV,seval];refine ai (Vq o e he ho hd c hc sn Ig hl h0 DD m hx fD hp qp hm h1 _) (by simp only[cc.cells,En.cells,hd,VV,seval]) ?_;simp only[cc.cells,aJ.cells,bc.cells,En.cells,VV,seval];exact aG aQ (.inr rfl) (by simp only[RS,seval];rfl) (by simp only[LW]) ⟨rfl,rfl⟩
theorem JQ(l:List aJ)(x:aJ)(m:Nat)(hl:l.length<2^39)(hm:m≤l.length)(h1:∀ (k:Nat) (y:aJ),l[k]?=some y→(0≤da y x↔m≤k))(qT:∀ y,l[m]?=some y→da y x≠0)(σ:ag):
  PC prog 61 [.sl 13 (l.map aJ.cells),.agg x.cells] σ (fun r σ'=>r=.iK [.i .i64 m,.b false]∧σ'=σ) :=
 (Ai l x m hl hm h1 σ).mono fun r σ' ⟨h,hs⟩=>⟨by
  rw[h];cases hy:l[m]? with
  | none=>rfl
  | some y=>simp[qT y hy],hs⟩
theorem wW(o:cc)(x:aJ)(m:Nat)(ho:o.small)(hx:x.small)(hd:o.down=false)(fD:cw x=0)(hp:(bX x).length≤60000)(qp:o.log.length≤4000000)(hm:m≤o.ops.length)(h1:∀ (k:Nat) (y:aJ),o.ops[k]?=some y→(0≤da y x↔m≤k))
  (qT:∀ y,o.ops[m]?=some y→da y x≠0) (iQ:x.aA.aS≠o.number) (σ:ag) :
  PC prog 19 [.agg o.cells,.agg x.cells] σ (fun r σ'=>r=.iK [.agg (fR o x m).cells,.i .i64 0]∧σ'=σ):=by
 refine PC.intro func19 c19 fun aQ cz=>aj ?_;have hlen:=ho.len;have KH:(x.aA.aS==o.number)=false:=by simpa using iQ
 simp only[YL,SS,seval];simp only[cc.cells,aJ.cells,bc.cells,En.cells,hd,VV,seval];refine ai (kj x hx _) (by simp only[aJ.cells,bc.cells,En.cells,VV,seval]) ?_;simp only[fD,VV,seval];refine ai (JQ o.ops x m (by omega) hm h1 qT _) (by simp only[aJ.cells,bc.cells,En.cells,VV,seval]) ?_;simp only[VV,seval];refine⟨fun h=>by simp at h,.u,fun h=>by simp at h,?_⟩;refine bg (c:=false) (v:=.i .i64 0) (by simp only[VV,seval]<;>rfl) (fun h=>by simp at h) rfl ?_;simp only[KH,VV,seval];refine ai (Am o x m ho hx fD hp qp hm h1 _) (by simp only[cc.cells,aJ.cells,bc.cells,En.cells,hd,VV,seval]) ?_;simp only[cc.cells,VV,seval];exact aG aQ (.inr rfl) (by simp only[RS,seval];rfl) (by simp only[LW]) ⟨rfl,rfl⟩
theorem pP(o:cc)(ho:o.small)(hd:o.down=false)(σ:ag):PC prog 24 [.agg o.cells] σ (fun r σ'=>r=.sl 8 ((cq o.ops).map En.cells)∧σ'=σ):=by
 refine PC.intro func24 c24 fun aQ cz=>aj ?_;have hlen:=ho.len;simp only[p24,SS,seval];simp only[cc.cells,hd,VV,seval];refine ai (J6 o.ops ho.ops _) rfl ?_;simp only[VV,seval];exact aG aQ (.inr rfl) (by simp only[RS,seval];rfl) (by simp only[LW]) ⟨rfl,rfl⟩
theorem T4(o:cc)(ho:o.small)(hd:o.down=false)(hs:o.synced=0)(σ:ag):PC prog 15 [.agg o.cells,.i .i64 0] σ (fun r σ'=>r=.agg (cc.cells ⟨o.number,0,[],[],0,true⟩)∧σ'=σ):=by
 refine PC.intro func15 c15 fun aQ cz=>aj ?_;have qp:=ho.log;simp only[p15,SS,seval];simp only[cc.cells,hd,hs,VV,seval];refine ai (ou o ho _) (by simp only[cc.cells,hd,hs,VV,seval]) ?_;have e1:IntKind.i64.wrap (o.log.length:Int)=o.log.length:=ll (by omega);have e2:((o.log.length:Int)<0)=False:=eq_false (by omega);have e3:IntKind.i64.wrap 0=0:=by decide
 simp only[cc.cells,hd,hs,aL,e1,e2,e3,Int.lt_irrefl,if_false,Int.sub_zero,Int.sub_self,Int.add_zero,VV,Nat.reduceAdd,Nat.reduceLeDiff,Int.reduceToNat,reduceIte,reduceCtorEq];refine⟨⟨by decide,by decide,by omega⟩,?_⟩;refine dv aQ (.inr rfl) (by simp only[RS,seval];rfl) (.cons (Cv.ir (.cons (.refl _) (.cons (.refl _) (.cons (.nil _) (.cons (.refl _) (.cons (.refl _) (.cons (.refl _) .nil))))))) .nil) (by simp only[LW]) ⟨rfl,rfl⟩
theorem GS(o:cc)(x:aJ)(m:Nat)(ho:o.small)(hx:x.small)(hd:o.down=false)(fD:cw x=0)(hm:m≤o.ops.length)(h1:∀ (k:Nat) (y:aJ),o.ops[k]?=some y→(0≤da y x↔m≤k))
  (dY:o.ops[m]?=some x) (σ:ag) :
  PC prog 19 [.agg o.cells,.agg x.cells] σ (fun r σ'=>r=.iK [.agg o.cells,.i .i64 0]∧σ'=σ):=by
 refine PC.intro func19 c19 fun aQ cz=>aj ?_;have hlen:=ho.len;have E1:m<o.ops.length:=(ae.1 dY).1;have cP:(o.ops.map aJ.cells).getD m []=x.cells:=by simp[List.getD_eq_getElem?_getD,dY]
 have hp:PC prog 61 [.sl 13 (o.ops.map aJ.cells),.agg x.cells] (σ++[.box 36 o.cells,.box 29 x.cells,.box 36 [.i .i64 0,.i .i64 0,.nil,.nil,.i .i64 0,.b false]]) (fun r σ'=>r=.iK [.i .i64 m,.b true]∧σ'=σ++[.box 36 o.cells,.box 29 x.cells,.box 36 [.i .i64 0,.i .i64 0,.nil,.nil,.i .i64 0,.b false]]) :=
  (Ai o.ops x m (by omega) hm h1 _).mono fun r σ' ⟨h,hs⟩=>⟨by rw[h,dY];simp[xb],hs⟩
 simp only[YL,SS,seval];simp only[cc.cells,aJ.cells,bc.cells,En.cells,aq,ak,hd,VV,seval]at hp ⊢;refine ai (kj x hx _) (by simp only[aJ.cells,bc.cells,En.cells,VV,seval]) ?_;simp only[fD,VV,seval];refine ai hp rfl ?_;simp only[VV,seval];refine⟨⟨by omega,by simp;omega⟩,.agg x.cells,⟨by rw[cP,oe],by rw[cP,jT];exact aB _⟩,?_⟩;refine bg (c:=true) (by simp only[VV,seval]<;>rfl) (fun _=>su x x hx hx _) (by simp only[aJ.cells,bc.cells,En.cells,VV,seval]) ?_;simp only[Mj,VV,seval];refine ai (ou o ho _) (by simp only[cc.cells,hd,VV,seval]) ?_;simp only[cc.cells,hd,VV,seval];exact aG aQ (.inr rfl) (by simp only[RS,seval];rfl) (by simp only[LW]) ⟨rfl,rfl⟩
theorem QL(l:List aJ)(hl:∀ x∈l,x.aA.number≤128):∃ c,jR l c:=by
 have least:∀ (p:Nat→Prop) (n:Nat),p n→∃ j,j≤n∧p j∧∀ k,k<j→¬ p k:=by
  intro p n
  induction n using Nat.strongRecOn with
  | ind n ih =>
   intro hp
   by_cases h:∃ k,k<n∧p k
   ·obtain⟨k,hk,hpk⟩:=h;obtain⟨j,h1,h2,h3⟩:=ih k hk hpk;exact⟨j,by omega,h2,h3⟩
   ·exact⟨n,aB _,hp,fun k hk hpk=>h ⟨k,hk,hpk⟩⟩
 have each:∀ o:Nat,∃ j:Nat,j≤128∧(∀ x∈l,kG x≠((o:Int),(j:Int)+1))∧∀ k:Nat,k<j→∃ x∈l,kG x=((o:Int),(k:Int)+1):=by
  intro o
  obtain⟨j,h1,h2,h3⟩:=least (fun j=>∀ x∈l,kG x≠((o:Int),(j:Int)+1)) 128 (fun x hx he=>by
   have:=hl x hx;simp only[kG,aI]at he;omega)
  refine⟨j,h1,h2,fun k hk=>?_⟩;refine bo fun hn=>h3 k hk fun x hx he=>hn ⟨x,hx,he⟩
 exact⟨fun o=>Classical.choose (each o),fun o _=>by have:=(Fp (each o)).1;omega,fun o _ j hj=>(Fp (each o)).2.2 j hj,fun o _ x hx=>(Fp (each o)).2.1 x hx⟩
theorem mV{n:Int}{arr:List aJ}(h:yd n arr)(hn:0≤n∧n<8):∃ c,jR (dz arr) c∧(∀ o:Nat,o<8→c o≤128)∧c n.toNat=lq n arr:=by
 obtain⟨c,hc⟩:=QL (dz arr) fun x hx=>(mi (h.op x (dA.1 hx)).ok).number.2
 have WA:∀ (x:aJ) (o j:Nat),kG x=((o:Int),(j:Int)+1)↔x.aA.aS=o∧x.aA.number=(j:Int)+1:=by
  intro x o j;simp[kG]
 refine⟨c,hc,fun o ho=>?_,?_⟩
 ·rcases Nat.eq_zero_or_pos (c o)with h0 | h0
  ·omega
  ·obtain⟨x,hx,he⟩:=hc.has o ho (c o - 1) (by omega);have h1:=(mi (h.op x (dA.1 hx)).ok).number;have h2:=((WA x o (c o - 1)).1 he).2;omega
 ·have e:((n.toNat:Nat):Int)=n:=by omega
  have h1:¬ c n.toNat<lq n arr:=fun fk=>by
   obtain⟨x,hx,h2,h3⟩:=(h.XL (c n.toNat)).2 fk;exact hc.no n.toNat (by omega) x (dA.2 hx) ((WA x _ _).2 ⟨by omega,h3⟩)
  have h2:¬ lq n arr<c n.toNat:=fun fk=>by
   obtain⟨x,hx,he⟩:=hc.has n.toNat (by omega) (lq n arr) fk;have h3:=(WA x _ _).1 he;have:=(h.XL (lq n arr)).1 ⟨x,dA.1 hx,by omega,h3.2⟩;omega
  omega
def jU(c:Nat→Nat):List Int:=eJ (gj c)
theorem Gj(c:Nat→Nat)(o:Int):je (gj c) o=if o<0∨8≤o then 0 else(c o.toNat:Int):=by
 have hl:(gj c).length=8:=by simp[gj]
 by_cases h:o<0∨8≤o
 ·rw[if_pos h,je,if_pos (by rw[hl];omega)]
 ·obtain⟨i,rfl⟩:∃ i:Nat,o=i:=⟨o.toNat,by omega⟩
  have e:(gj c).getD i 0=c i:=by
   rw[List.getD_eq_getElem?_getD,gj,aZ,ky (by omega)];rfl
  rw[if_neg h,je,if_neg (by rw[hl];omega),an,e,if_neg (by omega)]
theorem Jt(c:Nat→Nat)(hc:∀ o:Nat,o<8→c o≤128):eJ (jU c)=jU c∧(∀ n∈jU c,n≤128)∧(jU c).length≤8:=by
 refine⟨LB _,fun n hn=>?_,?_⟩
 ·obtain⟨o,rfl⟩:=OR hn;rw[Gj];split
  ·omega
  ·have:=hc o.toNat (by omega);omega
 ·rw[jU,vB];exact lP _ _ 8
theorem lM(c:Nat→Nat){n:Int}(hn:0≤n∧n<8):je (jU c) n=(c n.toNat:Int):=by
 rw[jU,I9,Gj,if_neg (by omega)]
def iA(n:Int)(arr:List aJ)(kind:Int)(e:En)(c:Nat→Nat):aJ:=⟨⟨fh arr+1,n,(lq n arr:Int)+1⟩,kind,e,jU c⟩
theorem yN{n:Int}{arr:List aJ}(h:yd n arr)(x:aJ):k9 (dz arr) x≤(dz arr).length∧∀ (k:Nat) (y:aJ),(dz arr)[k]?=some y→(0≤da y x↔k9 (dz arr) x≤k) :=
 ⟨Ou _ _,vW (nS h.one) x⟩
theorem s6{n:Int}{arr:List aJ}{k:Nat}(h:yd n arr)(hn:0≤n∧n<8)(hl:arr.length≤180){c:Nat→Nat}(hc:jR (dz arr) c)(Cb:c n.toNat=lq n arr)(s t:Int)(hx:Ln (iA n arr 1 (cJ s t) c))(ho:lq n arr<128)(DD:fh arr<2^30)(σ:ag):
  PC prog 17 [.agg (cp n arr k).cells,.agg (cJ s t).cells] σ (fun r σ'=>r=.iK [.agg (cp n (arr++[iA n arr 1 (cJ s t) c]) (arr.length+1)).cells,.agg (iA n arr 1 (cJ s t) c).cells,.i .i64 0]∧σ'=σ):=by
 have e:sA (cp n arr k) (cJ s t) (jU c)=iA n arr 1 (cJ s t) c:=by
  simp only[sA,iA,cp,lM c hn,Cb]
 have qp:=mR h.op;have hp:=yN h (iA n arr 1 (cJ s t) c)
 have:=D3 (cp n arr k) (cJ s t) (jt _ _) (mS _ _) (fC h (by omega)) rfl c hc (jU c) rfl (by simp only[cp];rw[lM c hn];omega) (nz fun x hx=>(h.op x hx).ok).1 DD (k9 (dz arr) (iA n arr 1 (cJ s t) c))
  (by rw[e];exact hx.small) (by rw[e];exact hx.ok) (by rw[e];exact bZ hx.enc (by decide)) (by simp only[cp];omega) hp.1 (by rw[e];exact hp.2) σ
 rw[e]at this
 rwa [k7,xd]at this
theorem rm{n:Int}{arr:List aJ}{k:Nat}(h:yd n arr)(hn:0≤n∧n<8)(hl:arr.length≤180){c:Nat→Nat}(hc:jR (dz arr) c)(Cb:c n.toNat=lq n arr)(s t:Int)(ho:128≤lq n arr∨2^30≤fh arr)(σ:ag):
  PC prog 17 [.agg (cp n arr k).cells,.agg (cJ s t).cells] σ (fun r σ'=>r=.iK [.agg cc.zero.cells,.agg eY.cells,.i .i64 3]∧σ'=σ) :=
 K6 (cp n arr k) (cJ s t) (jt _ _) (mS _ _) (fC h (by omega)) rfl c hc (jU c) rfl (by simp only[cp];rw[lM c hn];omega) σ
theorem HV{n:Int}{arr:List aJ}(h:yd n arr)(hn:0≤n∧n<8){c:Nat→Nat}(Ej:∀ o:Nat,o<8→c o≤128)(Cb:c n.toNat=lq n arr)(s t:Int)(ho:lq n arr<128)(DD:fh arr<2^30):Ln (iA n arr 1 (cJ s t) c):=by
 obtain⟨s1,s2,s3⟩:=Jt c Ej;have h0:=(nz fun x hx=>(h.op x hx).ok).1;refine⟨N8 ?_ s1 s2 ?_,C9 s3,bZ (J5 s3) (by decide)⟩
 ·simp only[gf,decide_eq_true_eq];omega
 ·rw[lM c hn,Cb];omega
def dS(o:cc)(e:Int):V:=.iK [.agg o.cells,.i .i64 e]
theorem yE(o:cc)(x:aJ)(hd:o.down=true)(σ:ag):PC prog 19 [.agg o.cells,.agg x.cells] σ (fun r σ'=>r=dS cc.zero 15∧σ'=σ):=by
 refine PC.intro func19 c19 fun aQ cz=>aj ?_;simp only[YL,SS,seval];simp only[cc.cells,aJ.cells,bc.cells,En.cells,hd,VV,seval];exact dv aQ (.inr rfl) (by simp only[RS,seval]) (.cons (Cv.ir (pg 0)) (.cons (.refl _) .nil)) (by simp only[cc.cells,LW]) ⟨rfl,rfl⟩
theorem JE(o:cc)(x:aJ)(hx:x.small)(hd:o.down=false)(fD:cw x≠0)(σ:ag):PC prog 19 [.agg o.cells,.agg x.cells] σ (fun r σ'=>r=dS cc.zero (cw x)∧σ'=σ):=by
 refine PC.intro func19 c19 fun aQ cz=>aj ?_;have iQ:(cw x != 0)=true:=by simpa using fD
 simp only[YL,SS,seval];simp only[cc.cells,aJ.cells,bc.cells,En.cells,hd,VV,seval];refine ai (kj x hx _) (by simp only[aJ.cells,bc.cells,En.cells,VV,seval]) ?_;simp only[iQ,VV,seval];exact dv aQ (.inr rfl) (by simp only[RS,seval]) (.cons (Cv.ir (pg 0)) (.cons (.refl _) .nil)) (by simp only[cc.cells,LW]) ⟨rfl,rfl⟩
theorem JC(o:cc)(x:aJ)(m:Nat)(ho:o.small)(hx:x.small)(hd:o.down=false)(fD:cw x=0)(hm:m≤o.ops.length)(h1:∀ (k:Nat) (y:aJ),o.ops[k]?=some y→(0≤da y x↔m≤k))
  (qT:∀ y,o.ops[m]?=some y→da y x≠0) (iQ:x.aA.aS=o.number) (σ:ag) :
  PC prog 19 [.agg o.cells,.agg x.cells] σ (fun r σ'=>r=dS cc.zero 11∧σ'=σ):=by
 refine PC.intro func19 c19 fun aQ cz=>aj ?_;have hlen:=ho.len;have KH:(x.aA.aS==o.number)=true:=by simpa using iQ
 simp only[YL,SS,seval];simp only[cc.cells,aJ.cells,bc.cells,En.cells,hd,VV,seval];refine ai (kj x hx _) (by simp only[aJ.cells,bc.cells,En.cells,VV,seval]) ?_;simp only[fD,VV,seval];refine ai (JQ o.ops x m (by omega) hm h1 qT _) (by simp only[aJ.cells,bc.cells,En.cells,VV,seval]) ?_;simp only[VV,seval];refine⟨fun h=>by simp at h,.u,fun h=>by simp at h,?_⟩;refine bg (c:=false) (v:=.i .i64 0) (by simp only[VV,seval]<;>rfl) (fun h=>by simp at h) rfl ?_;simp only[KH,VV,seval];exact dv aQ (.inr rfl) (by simp only[RS,seval]) (.cons (Cv.ir (pg 0)) (.cons (.refl _) .nil)) (by simp only[cc.cells,LW]) ⟨rfl,rfl⟩
theorem EE(o:cc)(x y:aJ)(m:Nat)(ho:o.small)(hx:x.small)(hd:o.down=false)(fD:cw x=0)(hm:m≤o.ops.length)(h1:∀ (k:Nat) (y:aJ),o.ops[k]?=some y→(0≤da y x↔m≤k))
  (dY:o.ops[m]?=some y) (hy:y.small) (he:da y x=0) (hc:mP y x≠0) (σ:ag) :
  PC prog 19 [.agg o.cells,.agg x.cells] σ (fun r σ'=>r=dS cc.zero 11∧σ'=σ):=by
 refine PC.intro func19 c19 fun aQ cz=>aj ?_;have hlen:=ho.len;have E1:m<o.ops.length:=(ae.1 dY).1;have cP:(o.ops.map aJ.cells).getD m []=y.cells:=by simp[List.getD_eq_getElem?_getD,dY]
 have hb:(mP y x==0)=false:=by simpa using hc
 have hp:PC prog 61 [.sl 13 (o.ops.map aJ.cells),.agg x.cells] (σ++[.box 36 o.cells,.box 29 x.cells,.box 36 [.i .i64 0,.i .i64 0,.nil,.nil,.i .i64 0,.b false]]) (fun r σ'=>r=.iK [.i .i64 m,.b true]∧σ'=σ++[.box 36 o.cells,.box 29 x.cells,.box 36 [.i .i64 0,.i .i64 0,.nil,.nil,.i .i64 0,.b false]]) :=
  (Ai o.ops x m (by omega) hm h1 _).mono fun r σ' ⟨h,hs⟩=>⟨by rw[h,dY];simp[he],hs⟩
 simp only[YL,SS,seval];simp only[cc.cells,aJ.cells,bc.cells,En.cells,aq,ak,hd,VV,seval]at hp ⊢;refine ai (kj x hx _) (by simp only[aJ.cells,bc.cells,En.cells,VV,seval]) ?_;simp only[fD,VV,seval];refine ai hp rfl ?_;simp only[VV,seval];refine⟨⟨by omega,by simp;omega⟩,.agg y.cells,⟨by rw[cP,oe],by rw[cP,jT];exact aB _⟩,?_⟩;refine bg (c:=true) (by simp only[VV,seval]<;>rfl) (fun _=>su y x hy hx _) (by simp only[aJ.cells,bc.cells,En.cells,VV,seval]) ?_;simp only[hb,VV,seval];exact dv aQ (.inr rfl) (by simp only[RS,seval]) (.cons (Cv.ir (pg 0)) (.cons (.refl _) .nil)) (by simp only[cc.cells,LW]) ⟨rfl,rfl⟩
theorem sZ(o:cc)(e:En)(hd:o.down=true)(σ:ag):PC prog 17 [.agg o.cells,.agg e.cells] σ (fun r σ'=>r=.iK [.agg cc.zero.cells,.agg eY.cells,.i .i64 15]∧σ'=σ):=by
 refine PC.intro func17 c17 fun aQ cz=>aj ?_;simp only[p17,SS,seval];simp only[cc.cells,En.cells,hd,VV,seval];exact dv aQ (.inr rfl) (by simp only[RS,seval]) (.cons (Cv.ir (pg 0)) (.cons (Cv.ir Ml) (.cons (.refl _) .nil))) (by simp only[cc.cells,aJ.cells,bc.cells,En.cells,aq,ak,LW]) ⟨rfl,rfl⟩
def jD(o:cc)(bY:Int):Nat:=o.synced.toNat+min bY.toNat (o.log.length - o.synced.toNat)
def jd(o:cc)(bY:Int):cc:=if o.down then o else⟨o.number,0,[],o.log.take (jD o bY),jD o bY,true⟩
theorem QK(o:cc)(bY:Int)(ho:o.small)(hs:0≤o.synced∧o.synced≤o.log.length)(σ:ag):PC prog 15 [.agg o.cells,.i .i64 bY] σ (fun r σ'=>r=.agg (jd o bY).cells∧σ'=σ):=by
 refine PC.intro func15 c15 fun aQ cz=>aj ?_;have qp:=ho.log;obtain⟨y,hy⟩:∃ y:Nat,o.synced=y:=⟨o.synced.toNat,by omega⟩;have eS:(if o.synced<0 then 0 else o.synced)=(y:Int):=by rw[hy,if_neg (by omega)]
 have eR:IntKind.i64.wrap ((o.log.length:Int) - (y:Int))=((o.log.length - y:Nat):Int):=by rw[IntWalk.i64_in _ (by omega)];omega
 have eR0:(if((o.log.length - y:Nat):Int)<0 then 0 else((o.log.length - y:Nat):Int))=((o.log.length - y:Nat):Int):=if_neg (by omega);have eL:IntKind.i64.wrap ((o.log.length:Int) - ((o.log.length - y:Nat):Int))=(y:Int):=by rw[IntWalk.i64_in _ (by omega)];omega
 have eM:(if((o.log.length - y:Nat):Int)<(if bY<0 then 0 else bY)then((o.log.length - y:Nat):Int)else if bY<0 then 0 else bY)=((min bY.toNat (o.log.length - y):Nat):Int):=by
  (repeat' split)<;>omega
 have eF:IntKind.i64.wrap ((y:Int)+((min bY.toNat (o.log.length - y):Nat):Int))=((jD o bY:Nat):Int):=by
  rw[IntWalk.i64_in _ (by omega),jD,hy,an];omega
 have hk:jD o bY≤o.log.length:=by rw[jD,hy,an];omega
 have eT:(al o.log).take (jD o bY)=al (o.log.take (jD o bY)):=by simp[al,List.map_take]
 have eN:(o.log.take (jD o bY)).length=jD o bY:=by rw[aR];omega
 simp only[p15,SS,seval];simp only[cc.cells,VV,seval];refine ai (ou o ho _) (by simp only[cc.cells,VV,seval]) ?_;simp only[cc.cells,VV,seval];refine⟨fun hd=>?_,fun hd=>?_⟩
 ·rw[show jd o bY=o from if_pos hd];exact aG aQ (.inr rfl) (by simp only[RS,seval];rfl) (by simp only[LW]) ⟨rfl,rfl⟩
 ·rw[show jd o bY=⟨o.number,0,[],o.log.take (jD o bY),jD o bY,true⟩from if_neg (by rw[hd];simp)];simp only[aL,eS,eR,eR0,eL,eM,eF,an,eT,eN,VV,seval];refine⟨⟨by omega,by omega⟩,?_⟩;refine dv aQ (.inr rfl) (by simp only[RS,seval]) (.cons (Cv.ir (.cons (.refl _) (.cons (.refl _) (.cons (.nil _) (.cons (.refl _) (.cons (.refl _) (.cons (.refl _) .nil))))))) .nil) (by simp only[LW]) ⟨rfl,rfl⟩
theorem NF(n:Int)(h:0≤n)(h8:n<8)(σ:ag):PC prog 14 [.i .i64 n] σ (fun r σ'=>r=.iK [.agg (cc.cells ⟨n,0,[],[],0,false⟩),.i .i64 0]∧σ'=σ):=by
 refine PC.intro func14 Yg fun aQ cz=>aj ?_;have e1:decide (n<0)=false:=by simp;omega
 have e2:decide (8≤n)=false:=by simp;omega
 simp only[p14,SS,seval];simp only[e1,e2,VV,seval];refine dv aQ (.inr rfl) (by simp only[RS,seval]) (.cons (Cv.ir (.cons (.refl _) (.cons (.refl _) (.cons (.nil _) (.cons (.nil _) (.cons (.refl _) (.cons (.refl _) .nil))))))) (.cons (.refl _) .nil)) (by simp only[LW]) ⟨rfl,rfl⟩
theorem wB(a b:List UInt8)(σ:ag):PC prog 26 [.sl 1 (al a),.sl 1 (al b)] σ (fun r σ'=>r=.b (a==b)∧σ'=σ):=by
 refine PC.intro func26 c26 fun aQ cz=>aj ?_;simp only[p26,SS,seval];simp only[gK,VV,seval];exact aO (.inr rfl) (by simp only[RS,seval];rfl) ⟨rfl,rfl⟩
theorem eO(o:cc)(ho:o.small)(σ:ag):PC prog 51 [.agg o.cells,.agg o.cells] σ (fun r σ'=>r=.b true∧σ'=σ):=by
 refine PC.intro func51 c51 fun aQ cz=>aj ?_;have hl:=ho.log;have e1:nm o.ops o.ops=true:=rJ.2 rfl;have e2:(o.down==o.down)=true:=by cases o.down<;>rfl
 simp only[p51,SS,seval];simp only[cc.cells,VV,seval];refine bg (by simp only[VV,seval]<;>rfl) (fun _=>rf o.ops o.ops _) rfl ?_;simp only[e1,VV,seval];refine bg (by simp only[VV,seval]<;>rfl) (fun _=>wB o.log o.log _) rfl ?_;simp only[e2,VV,seval];exact aG aQ (.inr rfl) (by simp only[RS,seval];rfl) (by simp only[LW]) ⟨rfl,rfl⟩
def jQ(l:List aJ)(f n:Int):Option aJ:=l.find? fun y=>y.aA.aS==f&&y.aA.number==n
def sC:Option aJ→V
 | some y=>.iK [.agg y.cells,.b true]
 | none=>.iK [.agg eY.cells,.b false]
set_option maxHeartbeats 1000000 in
theorem Zc{σ:ag}{K:Exit→St→Prop}{q:List V}(hq:q.length=13)(aQ:bP (σ++[.box 29 q]))(l:List aJ)(hlen:l.length<2^40)(f n:Int):∀ (rest pre:List aJ),l=pre++rest →
  (jQ rest f n=none→(∀ j0 j1 j2 j3 j4 j5 j7 j8 j9 cT cS cX cR cN cM cL cW df dn dx dy dD dI dH dG dX ez eA eH eW,K (.exit 0) ⟨[j0,j1,j2,j3,j4,j5,.ptr σ.length 0,j7,j8,j9,cT,cS,cX,cR,cN,cM,cL,cW,df,dn,dx,dy,dD,dI,dH,dG,dX,ez,eA,eH,eW],σ++[.box 29 q]⟩)) →
  (∀ y loc,jQ rest f n=some y→(∀ j0 j1 j2 j3 j4 j5 j8 j9 cT cS cX cR cN cM cL cW df dn dx dy dD dI dH dG dX ez eA eH eW,K .ret ⟨[j0,j1,j2,j3,j4,j5,.ptr σ.length 0,.b true,j8,j9,cT,cS,cX,cR,cN,cM,cL,cW,df,dn,dx,dy,dD,dI,dH,dG,dX,ez,eA,eH,eW],σ++(.box 29 y.cells::loc)⟩)) →
  fO σ.length prog NO K (rest.length+1) ⟨[.u,.i .i64 f,.i .i64 n,.u,.u,.u,.ptr σ.length 0,.u,.u,.u,.sl 13 (l.map aJ.cells),.i .i64 l.length,.i .i64 pre.length,.u,.u,.u,.u,.u,.u,.u,.u,.u,.u,.u,.u,.u,.u,.u,.u,.u,.u],σ++[.box 29 q]⟩:=by
 intro rest
 induction rest with
 | nil =>
  intro pre he h1 h2;have he:l=pre:=by simpa using he
  subst he;refine ax fun R hR=>?_;simp only[NO,VV,seval];exact⟨fun h=>by simp at h,fun _=>h1 rfl ..⟩
 | cons y rest ih =>
  intro pre he h1 h2;have hl:l.length=pre.length+(rest.length+1):=by rw[he];simp
  have hw:IntKind.i64.wrap ((pre.length:Int)+1)=(((pre++[y]).length:Nat):Int):=by
   rw[aV (by omega)];simp
  have dY:(List.map aJ.cells l).getD pre.length []=y.cells:=by rw[he];exact ki
  have hd:decide ((pre.length:Int)<(l.length:Int))=true:=by simp;omega
  refine ax fun R hR=>?_;simp only[NO,an,dY,hd,List.length_map,aJ.cells,bc.cells,En.cells,VV,seval];refine⟨⟨by omega,by omega⟩,fun h=>?_,fun h=>?_⟩
  ·have e:jQ (y::rest) f n=some y:=by simp only[jQ,List.find?_cons,h]
   have h13:q.drop 13=[]:=ry (by omega);refine⟨by omega,?_⟩;simp only[h13];exact h2 y _ e ..
  ·have e:jQ (y::rest) f n=jQ rest f n:=by simp only[jQ,List.find?_cons,h]
   rw[e]at h1 h2;simp only[hw,seval];refine hR _ (cH [.box 29 q] [_] aQ ?_ ?_ (ih (pre++[y]) (by rw[he];simp) h1 h2))
   ·repeat' constructor
   ·simp only[LW,ab,ah,aK];omega
theorem pL(l:List aJ)(hlen:l.length<2^40)(f n:Int)(σ:ag):PC prog 76 [.sl 13 (l.map aJ.cells),.i .i64 f,.i .i64 n] σ (fun r σ'=>r=sC (jQ l f n)∧σ'=σ):=by
 refine PC.intro func76 c76 fun aQ cz=>aj ?_;have zk:bP (σ++[.box 29 [.i .i64 0,.i .i64 0,.i .i64 0,.i .i64 0,.nil,.nil,.s [],.s [],.s [],.s [],.i .i64 0,.i .i64 0,.nil]]):=bU aQ (by simp only[bV,bD,false_imp_iff,implies_true,LW]);simp only[p76,SS,seval];simp only[List.length_map,VV,seval];refine bA.aW ?_ (l.length+1) (Zc rfl zk l hlen f n l [] rfl (fun h=>?_) (fun y loc h=>?_))
 ·repeat' constructor
 ·intros;simp only[h,sC,VV,seval];exact dv aQ (.inr rfl) (by simp only[RS,seval]) (.cons (Cv.ir Ml) (.cons (.refl _) .nil)) (by simp only[aJ.cells,bc.cells,En.cells,aq,ak,LW]) ⟨rfl,rfl⟩
 ·intros;simp only[h,sC,aJ.cells,bc.cells,En.cells,VV,seval];exact aG aQ (.inr rfl) (by simp only[RS,seval];rfl) (by simp only[LW]) ⟨rfl,rfl⟩
set_option maxHeartbeats 1000000 in
theorem Y8{σ:ag}{K:Exit→St→Prop}(l:List aJ)(hlen:l.length<2^30)(hs:∀ o∈l,o.small)(x:aJ)(hx:x.small):∀ (rest pre:List aJ),l=pre++rest →
  (∀ j1 j2 j4 j6 j7 j8 j9 cT cS cX cR cN cM cL cW df dn dx dy dD dI dH dG dX ez eA eH eW fg fi,K (.exit 0) ⟨[.sl 13 (l.map aJ.cells),j1,j2,.ptr σ.length 0,j4,.i .i64 (pre.length+xa x rest:Nat),j6,j7,j8,j9,cT,cS,cX,cR,cN,cM,cL,cW,df,dn,dx,dy,dD,dI,dH,dG,dX,ez,eA,eH,eW,fg,fi],σ++[.box 29 x.cells]⟩) →
  fO σ.length prog NL K (rest.length+1) ⟨[.sl 13 (l.map aJ.cells),.u,.u,.ptr σ.length 0,.u,.i .i64 pre.length,.u,.u,.u,.u,.u,.u,.u,.u,.u,.u,.u,.u,.u,.u,.u,.u,.u,.u,.u,.u,.u,.u,.u,.u,.u,.u,.u],σ++[.box 29 x.cells]⟩:=by
 intro rest
 induction rest with
 | nil =>
  intro pre he h1;have he:l=pre:=by simpa using he
  subst he;have hd:decide ((l.length:Int)<(l.length:Int))=false:=by simp
  simp only[xa,bC]at h1;refine ax fun R hR=>?_;simp only[NL,hd,List.length_map,aJ.cells,bc.cells,En.cells,VV,seval];refine⟨by simp,.u,by simp,?_⟩;refine bg (c:=false) (v:=.i .i64 0) (by simp only[VV,seval]<;>rfl) (fun h=>by simp at h) rfl ?_;simp only[VV,seval];exact h1 ..
 | cons y rest ih =>
  intro pre he h1;have hy:=hs y (by rw[he];simp);have E1:l.length=pre.length+(rest.length+1):=by rw[he];simp
  have hw:IntKind.i64.wrap ((pre.length:Int)+1)=(((pre++[y]).length:Nat):Int):=by
   rw[aV (by omega)];simp
  have dY:(List.map aJ.cells l).getD pre.length []=y.cells:=by rw[he];exact ki
  have hd:decide ((pre.length:Int)<(l.length:Int))=true:=by simp;omega
  refine ax fun R hR=>?_;simp only[NL,an,dY,hd,aJ.cells,bc.cells,En.cells,List.length_map,VV,seval];refine⟨⟨by omega,by omega⟩,_,rfl,?_⟩;refine bg (by simp only[VV,seval]<;>rfl) (fun _=>rI y x hy hx _) rfl ?_;simp only[xa]at h1;simp only[hw,VV,seval];refine⟨fun h=>?_,fun h=>?_⟩
  ·rw[if_pos (of_decide_eq_true h)]at h1;have e:pre.length+(xa x rest+1)=(pre++[y]).length+xa x rest:=by simp;omega
   rw[e]at h1;refine hR _ (aW ?_ (ih (pre++[y]) (by rw[he];simp) h1))
   repeat' constructor
  ·rw[if_neg (of_decide_eq_false h)]at h1;simp only[bC]at h1;exact h1 ..
set_option maxHeartbeats 2000000 in
theorem GY(l:List aJ)(x:aJ)(hl:l.length<2^30)(hs:∀ o∈l,o.small)(hx:x.small)(σ:ag):PC prog 88 [.sl 13 (l.map aJ.cells),.agg x.cells] σ (fun r σ'=>r=.sl 13 ((R7 l x).map aJ.cells)∧σ'=σ):=by
 refine PC.intro func88 c88 fun aQ cz=>?_;simp only[p88,SS,seval];refine bA.cutAt (.more (.more (.one _ _))) fun R hR=>?_;simp only[aJ.cells,bc.cells,En.cells,VV,seval];refine bA.wk (Wk.ej (ys:=[.sl 13 (l.map aJ.cells),.u,.u,.ptr σ.length 0,.u,.i .i64 (([]:List aJ).length:Nat),.u,.u,.u,.u,.u,.u,.u,.u,.u,.u,.u,.u,.u,.u,.u,.u,.u,.u,.u,.u,.u,.u,.u,.u,.u,.u,.u]) ?_) (bA.pd (l.length+1) (Y8 l hl hs x hx l [] rfl ?_))
 ·repeat' constructor
 intros;simp only[ah,aK,VV,seval];refine hR _ (bA.ej (fr':=[.sl 13 (l.map aJ.cells),.u,.u,.ptr σ.length 0,.u,.i .i64 (xa x l:Nat),.u,.u,.u,.u,.u,.u,.u,.u,.u,.u,.u,.u,.u,.u,.u,.u,.u,.u,.u,.u,.u,.u,.u,.u,.u,.u,.u]) (aj ?_) (by repeat' constructor));clear hR R;have hk:=NG x l;unfold R7;generalize xa x l=k at hk ⊢;have ht:(l.map aJ.cells).take k=(l.take k).map aJ.cells:=List.map_take.symm;have Z1:((l.map aJ.cells).drop k).take (l.length - k)=(l.drop k).map aJ.cells:=by rw[← List.map_drop];exact bJ (by simp)
 have fk:(l.take k).length=k:=by simp;omega
 cases ZV:((l.take k).map aJ.cells).isEmpty with
 | true =>
  have hk0:l.take k=[]:=by simpa using ZV
  simp only[ht,ZV,an,aJ.cells,bc.cells,En.cells,List.length_map,rv,aD,V.pure,maxLen,VV,seval];simp only[Z1,fk,List.length_map,bH,seval];refine⟨by omega,by omega,by omega,by omega,by omega,by omega,gg 1 aQ (.inr rfl) (by simp only[RS,seval];rfl) rfl ?_ ?_⟩
  ·simp only[ay,az,Pm.fz,kc,and_self,if_true,LW]
  ·simp only[ay,az,Pm.fz,kc,and_self,if_true];refine⟨?_,trivial⟩;simp[Pm.one,hk0,aJ.cells,bc.cells,En.cells]
 | false =>
  simp only[ht,ZV,an,aJ.cells,bc.cells,En.cells,List.length_map,aD,V.pure,maxLen,VV,seval];simp only[Z1,fk,List.length_append,List.length_map,bH,VV,seval];refine⟨by omega,by omega,by omega,by omega,by omega,by omega,by omega,gg 1 aQ (.inr rfl) (by simp only[RS,seval];rfl) rfl ?_ ?_⟩
  ·simp only[ay,az,Pm.fz,kc,and_self,if_true,LW]
  ·simp only[ay,az,Pm.fz,kc,and_self,if_true];refine⟨?_,trivial⟩;simp[Pm.one,aJ.cells,bc.cells,En.cells]
theorem VY{σ:ag}{K:Exit→St→Prop}{bx:List V}(n:Int)(hb:bx[0]?=some (.i .i64 n))(aQ:bP (σ++[.box 36 bx]))(l:List aJ)(hlen:l.length<2^40):∀ (rest pre:List aJ) (c:Nat),l=pre++rest→c≤pre.length →
  (∀ j0 j1 j2 j4 j5 j6 j7 j8 j9 cT cS cX cR cN cM cL cW df dn dx dy dD,K (.exit 0) ⟨[j0,j1,j2,.i .i64 (c+(rest.filter fun x=>x.aA.aS==n).length:Nat),j4,j5,j6,j7,j8,j9,cT,cS,cX,cR,cN,cM,cL,cW,df,dn,dx,dy,dD],σ++[.box 36 bx]⟩) →
  fO σ.length prog Hw K (rest.length+1) ⟨[.u,.ptr σ.length 0,.u,.i .i64 c,.u,.u,.u,.sl 13 (l.map aJ.cells),.i .i64 l.length,.i .i64 pre.length,.u,.u,.u,.u,.u,.u,.u,.u,.u,.u,.u,.u,.u],σ++[.box 36 bx]⟩:=by
 intro rest
 induction rest with
 | nil =>
  intro pre c he hc h1;have he:l=pre:=by simpa using he
  subst he;simp only[mZ,ah,bC]at h1;refine ax fun R hR=>?_;simp only[Hw,VV,seval];exact⟨fun h=>by simp at h,fun _=>h1 ..⟩
 | cons y rest ih =>
  intro pre c he hc h1;have hl:l.length=pre.length+(rest.length+1):=by rw[he];simp
  have hw:IntKind.i64.wrap ((pre.length:Int)+1)=(((pre++[y]).length:Nat):Int):=by
   rw[aV (by omega)];simp
  have FZ:IntKind.i64.wrap ((c:Int)+1)=((c+1:Nat):Int):=aV (by omega);have dY:(List.map aJ.cells l).getD pre.length []=y.cells:=by rw[he];exact ki
  have hd:decide ((pre.length:Int)<(l.length:Int))=true:=by simp;omega
  refine ax fun R hR=>?_;simp only[Hw,an,dY,hd,hb,List.length_map,aJ.cells,bc.cells,En.cells,VV,seval];refine⟨⟨by omega,by omega⟩,fun h=>?_,fun h=>?_⟩
  ·have e:(List.filter (fun x=>x.aA.aS==n) (y::rest)).length=(List.filter (fun x=>x.aA.aS==n) rest).length+1:=by
    rw[fQ,if_pos h,ab]
   rw[e]at h1;simp only[hw,FZ,seval];refine hR _ (cH [.box 36 bx] [_] aQ ?_ ?_ (ih (pre++[y]) (c+1) (by rw[he];simp) (by simp;omega) (by rw[show c+1+(List.filter (fun x=>x.aA.aS==n) rest).length=c+((List.filter (fun x=>x.aA.aS==n) rest).length+1)by omega];exact h1)))
   ·repeat' constructor
   ·simp only[LW,ab,ah,aK];omega
  ·have e:List.filter (fun x=>x.aA.aS==n) (y::rest)=List.filter (fun x=>x.aA.aS==n) rest:=by
    rw[fQ,if_neg (by rw[h];simp)]
   rw[e]at h1;simp only[hw,seval];refine hR _ (cH [.box 36 bx] [_] aQ ?_ ?_ (ih (pre++[y]) c (by rw[he];simp) (by simp;omega) h1))
   ·repeat' constructor
   ·simp only[LW,ab,ah,aK];omega
theorem JJ(o:cc)(ho:o.small)(σ:ag):PC prog 133 [.agg o.cells] σ (fun r σ'=>r=.i .i64 ((o.ops.filter fun x=>x.aA.aS==o.number).length:Nat)∧σ'=σ):=by
 refine PC.intro func133 aks fun aQ cz=>aj ?_;have Oy:=ho.len;have zk:bP (σ++[.box 36 [.i .i64 o.number,.i .i64 o.clock,.sl 13 (o.ops.map aJ.cells),.sl 1 (al o.log),.i .i64 o.synced,.b o.down]]):=bU aQ (by simp only[bV,bD,false_imp_iff,implies_true,LW]);simp only[adD,SS,seval];simp only[cc.cells,List.length_map,VV,seval];refine bA.aW (fr':=[.u,.ptr σ.length 0,.u,.i .i64 (0:Nat),.u,.u,.u,.sl 13 (o.ops.map aJ.cells),.i .i64 o.ops.length,.i .i64 (([]:List aJ).length:Nat),.u,.u,.u,.u,.u,.u,.u,.u,.u,.u,.u,.u,.u]) ?_ (o.ops.length+1) (VY o.number rfl zk o.ops (by omega) o.ops [] 0 rfl (aB _) ?_)
 ·repeat' constructor
 intros;simp only[aK,VV,seval];exact aG aQ (.inr rfl) (by simp only[RS,seval];rfl) (by simp only[LW]) ⟨rfl,rfl⟩
def CC(vs:List Int):Ob:=.row 3 1 8 0 false (vs.map bj)
theorem KV{l:List aJ}{f n:Int}(h:∃ x∈l,kG x=(f,n)):∃ y,jQ l f n=some y:=by
 obtain⟨x,hx,he⟩:=h;simp only[kG,aI]at he;cases hf:jQ l f n with
 | some y=>exact⟨y,rfl⟩
 | none =>
  have:=qz.1 hf x hx;simp[he.1,he.2]at this
theorem KW{l:List aJ}{f n:Int}(h:∀ x∈l,kG x≠(f,n)):jQ l f n=none:=by
 refine qz.2 fun x hx hc=>h x hx ?_;simp only[aC,beq_iff_eq]at hc;simp[kG,hc.1,hc.2]
set_option maxHeartbeats 1000000 in
theorem SD{σ:ag}{K:Exit→St→Prop}{bx:List V}(aQ:bP σ)(l:List aJ)(hl:l.length<2^40)(hb:bx[2]?=some (.sl 13 (l.map aJ.cells)))(Z5:gM (σ.length+2) bx)(o:Nat)(ho:o<8)(c:Nat)(hc:c≤128)(h1:∀ j:Nat,j<c→∃ y,jQ l o ((j:Int)+1)=some y)(h2:c<128→jQ l o ((c:Int)+1)=none):
  ∀ (N j:Nat) (vs:List Int),j+N=c→vs.length=8→vs[o]?=some (j:Int) →
  (∀ vs' loc,vs'.length=8→vs'[o]?=some (c:Int)→(∀ q,q≠o→vs'[q]?=vs[q]?)→(∀ j0 j2 j4 j5 j6 j7 j8 cS cX cR cN cM cL cW df dn dx dy dD dI dH dG dX ez eA eH eW fg fi ft fw fG fM fL fK fX gi,K (.exit 2) ⟨[j0,.ptr σ.length 0,j2,.own (σ.length+1) 0,j4,j5,j6,j7,j8,.i .i64 8,.i .i64 o,cS,cX,cR,cN,cM,cL,cW,df,dn,dx,dy,dD,dI,dH,dG,dX,ez,eA,eH,eW,fg,fi,ft,fw,fG,fM,fL,fK,fX,gi],σ++(.box 36 bx::CC vs'::loc)⟩)) →
  fO σ.length prog JZ K (N+1) ⟨[.u,.ptr σ.length 0,.u,.own (σ.length+1) 0,.i .i64 o,.u,.u,.u,.u,.i .i64 8,.i .i64 o,.u,.u,.u,.u,.u,.u,.u,.u,.u,.u,.u,.u,.u,.u,.u,.u,.u,.u,.u,.u,.u,.u,.u,.u,.u,.u,.u,.u,.u,.u],σ++[.box 36 bx,CC vs]⟩:=by
 intro N
 induction N with
 | zero =>
  intro j vs hj hv ha h3;obtain rfl:j=c:=by omega
  have dY:fe (vs.map bj) o 0=some (.i .i64 (j:Int)):=by simp[fe,bj,ha]
  refine ax fun R hR=>?_;simp only[JZ,CC,dY,hb,List.length_map,hv,an,VV,seval];refine⟨⟨by omega,by omega⟩,fun h=>?_,fun h=>h3 vs [] hv ha (fun _ _=>rfl) ..⟩;have aeT:j<128:=by have:=of_decide_eq_true h;omega
  have e1:IntKind.i64.wrap ((j:Int)+1)=(j:Int)+1:=IntWalk.i64_in _ (by omega);have hk:=h2 aeT;refine⟨⟨by omega,by omega⟩,?_⟩;simp only[e1];intro X;refine ai (pL l hl o ((j:Int)+1) _) rfl ?_;simp only[hk,sC,aJ.cells,bc.cells,En.cells,eY,VV,seval];exact h3 vs _ hv ha (fun _ _=>rfl) ..
 | succ N ih =>
  intro j vs hj hv ha h3;have dY:fe (vs.map bj) o 0=some (.i .i64 (j:Int)):=by simp[fe,bj,ha]
  have hd:decide ((j:Int)<128)=true:=by simp;omega
  have e1:IntKind.i64.wrap ((j:Int)+1)=((j+1:Nat):Int):=aV (by omega);obtain⟨y,hy⟩:=h1 j (by omega);refine ax fun R hR=>?_;simp only[JZ,CC,dY,hb,hd,List.length_map,hv,an,VV,seval];refine⟨⟨by omega,by omega⟩,⟨by omega,by omega⟩,?_⟩;intro X;have e2:((j+1:Nat):Int)=(j:Int)+1:=rfl;rw[← e2]at hy;simp only[e1];refine ai (pL l hl o ((j+1:Nat):Int) _) rfl ?_;simp only[hy,e1,sC,aJ.cells,bc.cells,En.cells,dY,List.length_map,hv,an,VV,seval]
  have es:(vs.map bj).set o (V.i .i64 ((j+1:Nat):Int)::((vs.map bj).getD o []).drop 1)=(vs.set o ((j+1:Nat):Int)).map bj:=by
   have:(vs.map bj).getD o []=bj j:=by simp[List.getD_eq_getElem?_getD,ha]
   rw[this,List.map_set];rfl
  rw[es];refine⟨⟨by omega,by omega⟩,⟨by omega,by omega⟩,ho,?_⟩;refine hR _ (cH [.box 36 bx,CC (vs.set o ((j+1:Nat):Int))] [_] ?_ ?_ ?_ (ih (j+1) (vs.set o ((j+1:Nat):Int)) (by omega) (by simp[hv]) (by simp[hv,ho]) fun vs' loc q1 q2 q3=>h3 vs' loc q1 q2 fun q hq=>by rw[q3 q hq,bn (IS hq)]))
  ·refine bU aQ ?_;simp only[CC,bV,bD,false_imp_iff,implies_true,and_true,ab,ah,aK];exact Z5
  ·repeat' constructor
  ·simp only[LW,ab,ah,aK];omega
set_option maxHeartbeats 1000000 in
theorem SC{σ:ag}{K:Exit→St→Prop}{bx:List V}(aQ:bP σ)(l:List aJ)(hl:l.length<2^40)(hb:bx[2]?=some (.sl 13 (l.map aJ.cells)))(Z5:gM (σ.length+2) bx)(c:Nat→Nat)(hc:∀ o:Nat,o<8→c o≤128)(h1:∀ o:Nat,o<8→∀ j:Nat,j<c o→∃ y,jQ l o ((j:Int)+1)=some y)(h2:∀ o:Nat,o<8→jQ l o ((c o:Int)+1)=none):
  ∀ (N o:Nat) (vs:List Int),o+N=8→vs.length=8→(∀ q,q<o→vs[q]?=some (c q:Int))→(∀ q,o≤q→q<8→vs[q]?=some 0) →
  ((∀ j0 j1 j2 j4 j5 j6 j7 j8 j9 cT cS cX cR cN cM cL cW df dn dx dy dD dI dH dG dX ez eA eH eW fg fi ft fw fG fM fL fK fX gi,K (.exit 0) ⟨[j0,j1,j2,.own (σ.length+1) 0,j4,j5,j6,j7,j8,j9,cT,cS,cX,cR,cN,cM,cL,cW,df,dn,dx,dy,dD,dI,dH,dG,dX,ez,eA,eH,eW,fg,fi,ft,fw,fG,fM,fL,fK,fX,gi],σ++[.box 36 bx,CC (gj c)]⟩)) →
  fO σ.length prog N1 K (N+1) ⟨[.u,.ptr σ.length 0,.u,.own (σ.length+1) 0,.u,.u,.u,.u,.u,.i .i64 8,.i .i64 o,.u,.u,.u,.u,.u,.u,.u,.u,.u,.u,.u,.u,.u,.u,.u,.u,.u,.u,.u,.u,.u,.u,.u,.u,.u,.u,.u,.u,.u,.u],σ++[.box 36 bx,CC vs]⟩:=by
 intro N
 induction N with
 | zero =>
  intro o vs ho hv ha hz h3;obtain rfl:o=8:=by omega
  have e:vs=gj c:=by
   apply kg;intro q
   by_cases hq:q<8
   ·rw[ha q hq];simp[gj,hq]
   ·rw[bR (by omega),bR (by simp[gj];omega)]
  rw[e];refine ax fun R hR=>?_;simp only[N1,VV,seval]
  first
   | exact h3 ..
   | exact⟨fun h=>by simp at h,fun _=>h3 ..⟩
 | succ N ih =>
  intro o vs ho hv ha hz h3;have hd:decide ((o:Int)<8)=true:=by simp;omega
  have hw:IntKind.i64.wrap ((o:Int)+1)=((o+1:Nat):Int):=aV (by omega);refine ax fun R hR=>?_;simp only[N1,hd,VV,seval];refine bA.wk (Wk.ej (ys:=[.u,.ptr σ.length 0,.u,.own (σ.length+1) 0,.i .i64 o,.u,.u,.u,.u,.i .i64 8,.i .i64 o,.u,.u,.u,.u,.u,.u,.u,.u,.u,.u,.u,.u,.u,.u,.u,.u,.u,.u,.u,.u,.u,.u,.u,.u,.u,.u,.u,.u,.u,.u]) ?_) (bA.pd (c o+1) (SD aQ l hl hb Z5 o (by omega) (c o) (hc o (by omega)) (h1 o (by omega)) (fun _=>h2 o (by omega)) (c o) 0 vs (by omega) hv (hz o (aB _) (by omega)) ?_))
  ·repeat' constructor
  intro vs' loc q1 q2 q3;intros;simp only[hw,VV,seval];refine hR _ (cH [.box 36 bx,CC vs'] loc ?_ ?_ ?_ (ih (o+1) vs' (by omega) q1 (fun q hq=>?_) (fun q hq hq8=>?_) h3))
  ·refine bU aQ ?_;simp only[CC,bV,bD,false_imp_iff,implies_true,and_true,ab,ah,aK];exact Z5
  ·repeat' constructor
  ·simp only[LW,ab,ah,aK];omega
  ·by_cases e:q=o
   ·subst e;exact q2
   ·rw[q3 q e];exact ha q (by omega)
  ·rw[q3 q (by omega)];exact hz q (by omega) hq8
set_option maxHeartbeats 1000000 in
theorem CI(o:cc)(ho:o.small)(c:Nat→Nat)(hc:jR o.ops c)(Ej:∀ q:Nat,q<8→c q≤128)(σ:ag):PC prog 36 [.agg o.cells] σ (fun r σ'=>r=.sl 1 ((jU c).map bj)∧σ'=σ):=by
 refine PC.intro func36 c36 fun aQ cz=>?_;have Oy:=ho.len;simp only[p36,SS,seval];refine bA.cutAt (.more (.more (.one _ _))) fun R hR=>?_;simp only[cc.cells,VV,seval];refine⟨⟨.inl trivial,by decide⟩,?_⟩;have WA:∀ (x:aJ) (q j:Nat),kG x=((q:Int),(j:Int)+1)→kG x=((q:Int),(j:Int)+1):=fun _ _ _ h=>h;refine bA.wk (Wk.ej (ys:=[.u,.ptr σ.length 0,.u,.own (σ.length+1) 0,.u,.u,.u,.u,.u,.i .i64 8,.i .i64 (0:Nat),.u,.u,.u,.u,.u,.u,.u,.u,.u,.u,.u,.u,.u,.u,.u,.u,.u,.u,.u,.u,.u,.u,.u,.u,.u,.u,.u,.u,.u,.u]) ?_) (bA.pd (8+1) (SC (bx:=[.i .i64 o.number,.i .i64 o.clock,.sl 13 (o.ops.map aJ.cells),.sl 1 (al o.log),.i .i64 o.synced,.b o.down]) aQ o.ops (by omega) rfl (by simp only[LW]) c Ej (fun q hq j hj=>KV (hc.has q hq j hj)) (fun q hq=>KW (hc.no q hq)) 8 0 [0,0,0,0,0,0,0,0] rfl rfl (fun q hq=>by omega) (fun q _ hq=>?_) ?_))
 ·repeat' constructor
 ·rcases q with _ | _ | _ | _ | _ | _ | _ | _ | q<;>first | rfl | omega
 intros;simp only[VV,seval];refine hR _ (bA.wk ((Wk.fz (σ.length+1) (E:=3) (sz:=1) (by':=8) (g:=0) (sh:=false) (rows:=(gj c).map bj) (by rw[nC];rfl)).trans (Wk.ej (ys:=[.u,.u,.u,.sl 1 ((gj c).map bj),.u,.u,.u,.u,.u,.u,.u,.u,.u,.u,.u,.u,.u,.u,.u,.u,.u,.u,.u,.u,.u,.u,.u,.u,.u,.u,.u,.u,.u,.u,.u,.u,.u,.u,.u,.u,.u]) ?_)) (aj ?_))
 ·simp only[ay,az,Pm.fz,kc,and_self,if_true]
  repeat' constructor
 simp only[kb,CC,VV,seval];refine ai (w9 (gj c) _) rfl ?_;simp only[VV,seval];exact aG aQ (.inr rfl) (by simp only[RS,seval];rfl) (by simp only[LW]) ⟨rfl,rfl⟩
end Go.Proofs.Tryz
