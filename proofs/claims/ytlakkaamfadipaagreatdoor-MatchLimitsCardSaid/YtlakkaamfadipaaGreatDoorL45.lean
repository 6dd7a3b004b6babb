/- A part of a proof; the claim's last text says of what. -/
import Derived.Test.YtlakkaamfadipaaGreatDoorL33
import Derived.Test.YtlakkaamfadipaaGreatDoorL38
import Derived.Test.YtlakkaamfadipaaGreatDoorL39
import Derived.Test.YtlakkaamfadipaaGreatDoorL41
set_option linter.all false

set_option maxRecDepth 4000
set_option maxHeartbeats 1000000
namespace Go.Proofs.Tryz
open Go Go.Pm Go.Bt
def gG(E:Nat×Nat×Nat)(J:ae)(L:List LE)(G2:List (GK×(Nat×Nat)))(G3:List (TK×(Nat×Nat)))(next:Int)(g:Nat)(M:List dP)(T:ae):ae :=
 mg E J L G2 G3 (C2 J.length (.own (J.length+5) g) next) (ff g M::T)
theorem P9:Ti prog 108 11 176:=nD (by kernel_rfl)
theorem zo(J:ae):PC prog 26 [] J (fun r J'=>r=.ptr (J.length+4) 0∧J'=gG Wi J [] [] [] 0 0 [] []):=by
 refine PC.intro func26 c26 fun bz er=>aB ?_;simp only[p26,SS,seval];simp only[VV,seval];refine aA (Ia _) rfl ?_;simp only[VV,seval];refine fO (.inr rfl) (by simp only[RS,seval];rfl) (Wk.wZ (id:=J.length+4) (j:=1) (cs:=[.ptr (J.length+3) 0,.nil,.i .i64 0]) (T:=105) P9 (by simp) rfl) rfl ⟨rfl,?_⟩;simp[gG,mg,C2,ff,qT,emap]
theorem xj(e:En)(h1:e.aeq.length<2^40)(h2:e.aex.length<2^40)(J:ae):PC prog 69 [.agg e.aen] J (fun r J'=>r=.agg e.aen∧J'=J):=by
 refine PC.intro func69 c69 fun bz er=>aB ?_;simp only[p69,SS,seval];simp only[En.aen,VV,seval];refine aA (qk e.aeq h1 _) rfl ?_;simp only[VV,seval];refine aA (qk e.aex h2 _) rfl ?_;simp only[V.pure,VV,seval];exact bu bz (.inr rfl) (by simp only[RS,seval];rfl) (by simp[LW]) ⟨rfl,rfl⟩
theorem A0{E:Nat×Nat×Nat}(J:ae)(L:List LE)(G2:List (GK×(Nat×Nat)))(G3:List (TK×(Nat×Nat)))(next:Int)(g:Nat)(M:List dP)(T:ae)(hs:kg M)(hl:M.length<2^30)(k:List UInt8)(X:ae):
  PC prog 68 [.ptr (J.length+4) 0,.s k] (gG E J L G2 G3 next g M T++X) (fun r J'=>r=.fa [.i .i64 (fG M k),.b (decide (k∈M.map dP.key))]∧J'=gG E J L G2 G3 next g M T++X):=by
 refine PC.intro func68 c68 fun bz er=>aB ?_;simp only[p68,SS,seval];have hb:(gG E J L G2 G3 next g M T++X)[J.length+4]?=some (C2 J.length (.own (J.length+5) g) next):=by simp[gG,mg]
 have hr:(gG E J L G2 G3 next g M T++X)[J.length+5]?=some (ff g M):=by simp[gG,mg]
 generalize gG E J L G2 G3 next g M T++X=S at *
 simp only[C2]at hb;simp only[hb,VV,seval];refine aA (R5 M hs k (J.length+5) g hl S hr) rfl ?_;simp only[VV,seval];exact fO (.inr rfl) rfl (Wk.refl _ _) rfl ⟨rfl,rfl⟩
theorem Ey(l:List dP)(x:dP)(id g:Nat)(hl:l.length<2^30)(J:ae)(h1:J[id]?=some (ff g l)):
  PC prog 71 [.own id g,.i .i64 l.length,.sl 11 [x.aen]] J (fun r J'=>r=.own id (g+1)∧J'=J.set id (ff (g+1) (l++[x]))):=by
 refine PC.intro func71 c71 fun bz er=>aB ?_;simp only[ff]at h1;simp only[p71,SS,seval];simp only[h1,aj,VV,Int.reduceBEq,Int.reduceBNe,Nat.reduceAdd,Nat.reduceSub,Nat.reduceLeDiff,Nat.reduceEqDiff,Int.reduceToNat,reduceIte,reduceCtorEq];refine⟨⟨by omega,by omega⟩,fun h=>by simp at h,fun _=>⟨⟨by omega,by unfold maxLen;omega⟩,?_⟩⟩;exact fO (.inr rfl) rfl (Wk.refl _ _) rfl ⟨rfl,by simp[ff]⟩
end Go.Proofs.Tryz
namespace Go.Proofs.Tryz
open Go Go.Pm Go.Bt Go.RowKit
theorem AQ:(prog.info? 108).map (·.size)=some 11:=by kernel_rfl
def s6(cur:Array Value)(n i:Nat)(news:List Value):Array Value :=
 ((cur.toList.take (i*11)++news++(cur.toList.take (n*11)).drop (i*11))++cur.toList.drop ((n+1)*11)).toArray
set_option maxRecDepth 100000 in
set_option maxHeartbeats 4000000 in
theorem ye(g n c i vb voff vc:Nat)(cur:Array Value)(news:List Value)(w:World)(hi:i<n)(rN:n+1≤c)(acO:c≤9223372036854775807)(Wn:vb≠g)
  (hg:w.heap[g]?=some (.cells cur 108 (0,0))) (eI:cur.size=c*11) (sg:news.length=11) (s8:∀ j v,news[j]?=some v→w.cell? ⟨vb,voff+j,none⟩=some v)
  (Y2:∀ v∈cur.toList.take (n*11),v.oneCell'=true) (Y1:∀ v∈news,v.oneCell'=true)
  (tA tB:TypeId) (kA kB:Nat) (hsa:w.shape? vb=some (tA,kA)) (UU:w.shape? g=some (tB,kB)) (hkB:kB≠0) (xO:w.frozen? ⟨vb,voff,none⟩=false) (hfe:w.frozen? ⟨vb,kA,none⟩=false) :
  Calls prog 71 #[.slice (some ⟨g,0,none⟩) n c,.int .i64 i,.slice (some ⟨vb,voff,none⟩) 1 vc] w fun e w' =>
   e=.returned (.slice (some ⟨g,0,none⟩) (n+1) c)∧w'=w.drew.setRow g (s6 cur n i news):=by
 have hov:∀ lb cb,(callFunc 136 #[.slice (some ⟨vb,voff,none⟩) 1 vc,.slice (some ⟨g,(i+1)*11,none⟩) lb cb]).run prog w=.ok (.value (.bool false)) w:=fun lb cb=>by
  rw[run_callFunc_extern func136 (by kernel_rfl) (by kernel_rfl) (by kernel_rfl) (e:=Extern.SlicesOverlaps.overlaps #[103,103] #[4]) (by kernel_rfl),
   Lib.run_overlaps_apart w 103 4 108 underlying103 11 (fun w=>Tryz.sizeOf108 w) ⟨vb,voff,none⟩ ⟨g,(i+1)*11,none⟩ 1 vc lb cb Wn tA tB kA kB hsa UU hkB xO hfe]
  rfl
 have QP:IntKind.i64.wrap ((i:Int)+1)=(i:Int)+1:=by rw[IntKind.wrap_i64];omega
 have Bn:IntKind.i64.wrap ((n:Int)+1)=(n:Int)+1:=by rw[IntKind.wrap_i64];omega
 have XK:¬ ((i:Int)=(n:Int)):=by omega
 have Br:(0:Int)≤(i:Int)+1:=by omega
 have CV:i≤n:=by omega
 have htn:((i:Int)+1).toNat=i+1:=by omega
 have htm:((n:Int)+1).toNat=n+1:=by omega
 have iX:¬ (c=i+1):=by omega
 have hb3:(i:Int)≤(n:Int)+1:=by omega
 have hb4:¬ (c=i):=by omega
 have hU:=underlying103
 have bz:((cur.toList.take (n*11)).drop (i*11)).length=(n - i)*11:=by
  rw[bJ,ba,aF,eI,Nat.sub_mul];have:n*11≤c*11:=aY _ (by omega);omega
 generalize kN:(cur.toList.take (n*11)).drop (i*11)=cs at bz
 have wI:∀ j v,cs[j]?=some v→(w.drew).cell? ((⟨g,i*11,none⟩:Addr).add j)=some v:=by
  intro j v hj;rw[← kN,cv,dp]at hj;split at hj
  ·rw[Addr.add_lit];simp only[World.cell?,show w.drew.heap[g]?=some (.cells cur 108 (0,0))from hg];simpa using hj
  ·cases hj
 have mixed:prog.follows Departure.mixedOrders=true:=by kernel_rfl
 have KP:Nat.min (n+1 - i) (n - i)=n - i:=Nat.min_eq_right (by omega)
 have YL:∀ ty dc sc,(Builtin.copy_ #[103,103] ty #[.slice (some ⟨g,(i+1)*11,none⟩) (n - i) dc,.slice (some ⟨g,i*11,none⟩) (n+1 - i) sc]).run prog w.drew=.ok (goInt (Nat.min (n+1 - i) (n - i):Nat)) (w.drew.setRow g (cur.toList.take ((i+1)*11)++cs++cur.toList.drop ((i+1)*11+cs.length)).toArray):=fun ty dc sc =>
  pz w.drew _ _ ty 108 g ((i+1)*11) _ dc ⟨g,i*11,none⟩ _ sc cur 108 cs 11 hU AQ hg (by rw[bz,KP]) wI (by rw[bz,eI];omega)
   (fun v hv=>Y2 v (dh (kN▸hv)))
 generalize Sx:(cur.toList.take ((i+1)*11)++(cs++cur.toList.drop ((i+1)*11+(n - i)*11))).toArray=cur1
 have yf:cur1.size=c*11:=by
  rw[← Sx];simp only[de,al,ba,bJ,aF,bz,eI];omega
 have CW:(w.drew.setRow g cur1).heap[g]?=some (.cells cur1 108 (0,0)):=setRow_heap w.drew g cur cur1 108 (0,0) hg;have CT:Nat.min 1 (n+1 - i)=1:=gn (by omega)
 have YK:∀ ty dc,(Builtin.copy_ #[103,103] ty #[.slice (some ⟨g,i*11,none⟩) (n+1 - i) dc,.slice (some ⟨vb,voff,none⟩) 1 vc]).run prog (w.drew.setRow g cur1)=.ok (goInt (Nat.min 1 (n+1 - i):Nat)) ((w.drew.setRow g cur1).setRow g (cur1.toList.take (i*11)++news++cur1.toList.drop (i*11+news.length)).toArray):=fun ty dc =>
  pz _ _ _ ty 108 g (i*11) _ dc ⟨vb,voff,none⟩ _ vc cur1 108 news 11 hU AQ CW (by rw[sg,CT]) (fun j v hj=>by
   rw[Addr.add_lit];have h0:=s8 j v hj;simp only[World.cell?,World.setRow,bH,aC (PS Wn)]at h0 ⊢;exact h0) (by rw[sg,yf];omega) Y1
 go_enter func71,Tryz.ntmps71
 go_wp2_with (simp only[hov])
 go_region_law_o (refine step_copy_runI rfl _ _ 103 103 rfl _ _ (by simp[Act.eval,Act.put]) (by simp[Act.eval,Act.put]) (YL _ _ _) ?_)
 go_wp2_with (at_builtin;refine wpList_copy_runI _ rfl _ _ 103 103 rfl _ _ rfl rfl (YK _ _) ?_)
 go_ret
 refine⟨rfl,?_⟩;rw[setRow_setRow]
 have cM:((cur.toList.take ((i+1)*11))).length=(i+1)*11:=by
  rw[ba,aF,eI];omega
 have e1:cur1.toList=cur.toList.take ((i+1)*11)++(cs++cur.toList.drop ((i+1)*11+(n - i)*11)):=by rw[← Sx]
 have e2:cur1.toList.take (i*11)=cur.toList.take (i*11):=by
  rw[e1,dC (by rw[cM];omega),qP,gn (by omega)]
 have e3:cur1.toList.drop (i*11+11)=cs++cur.toList.drop ((n+1)*11):=by
  rw[e1,List.drop_append_of_le_length (by rw[cM];omega),mO (by rw[cM];omega),bh];congr 2;omega
 rw[e2,e3,s6,kN];simp only[aM]
set_option maxRecDepth 100000 in
set_option maxHeartbeats 4000000 in
theorem AO(g n i vb voff vc:Nat)(cur:Array Value)(news:List Value)(w:World)(hi:i<n)(aca:n≤2^30)
  (hg:w.heap[g]?=some (.cells cur 108 (0,0))) (eI:cur.size=n*11) (sg:news.length=11) (s8:∀ j v,news[j]?=some v→w.cell? ⟨vb,voff+j,none⟩=some v)
  (Y2:∀ v∈cur.toList,v.oneCell'=true) (Y1:∀ v∈news,v.oneCell'=true) (XO:vb<w.heap.size) :
  Calls prog 71 #[.slice (some ⟨g,0,none⟩) n n,.int .i64 i,.slice (some ⟨vb,voff,none⟩) 1 vc] w fun e w' =>
   ∃ (G:Nat) (row:Array Value),e=.returned (.slice (some ⟨w.heap.size,0,none⟩) (n+1) G)∧n+1≤G∧G≤maxLen∧row.size=G*11 ∧
    row.toList.take ((n+1)*11)=cur.toList.take (i*11)++news++cur.toList.drop (i*11)∧w'.heap[w.heap.size]?=some (.cells row 108 (0,0))∧w.grownBy w' none:=by
 obtain⟨i0,z,NV,XL,Md,hb0,lh⟩:=AP (T:=108) (n:=11) (by':=176) (by kernel_rfl);have hU:=underlying103;have hI:=underlying3;have mixed:prog.follows Departure.mixedOrders=true:=by kernel_rfl
 have Wv:g<w.heap.size:=(aN.1 hg).1
 have hold:(Builtin.firstCells i0.size i (.slice (some ⟨g,0,none⟩) i n)).run prog w.drew=.ok (cur.toList.take (i*11)).toArray w.drew:=by
  rw[Md]
  exact run_firstCells_some w.drew 11 i ⟨g,0,none⟩ i n (cur.toList.take (i*11)) (by rw[ba,aF,eI];omega) (fun j v hj=>by
   rw[Addr.add_lit];rw[dp]at hj;split at hj
   ·simp only[World.cell?,show w.drew.heap[g]?=some (.cells cur 108 (0,0))from hg];simpa using hj
   ·cases hj)
 have Yx:i+(n+1 - i)=n+1:=by omega
 have Gl:(n:Int)+1 - (i:Int)=((n+1 - i:Nat):Int):=by omega
 have XY:∀ ty,(Builtin.append_ #[103,3] ty #[.slice (some ⟨g,0,none⟩) i n,.int .i64 ((n:Int)+1 - (i:Int))]).run prog w =
   .ok (.slice (some ⟨w.heap.size,0,none⟩) (n+1) (grownCap w (n+1) n 108)) (w.drew.alloc (.cells ((cur.toList.take (i*11)).toArray++Builtin.zeroCells z.cells (n+1 - i)++Builtin.zeroCells z.cells (grownCap w (n+1) n 108 - (n+1))) 108)):=fun ty=>by
  have h:=Lib.run_append_grow_zeros w 103 3 ty 108 i0 z .i64 .i64 hU hI NV XL (some ⟨g,0,none⟩) i n (cur.toList.take (i*11)) hold (n+1 - i) (by omega) (by omega) (by omega) (by omega) (by rw[hb0];omega) (by rw[hb0,Yx];exact growslice_fits (by omega) (by omega));rw[Yx]at h;rw[Gl];exact h
 have hGn:n+1≤grownCap w (n+1) n 108:=grownCap_ge w _ _ _;have YZ:grownCap w (n+1) n 108≤maxLen:=grownCap_le_maxLen w _ _ _ (by unfold maxLen;omega);generalize hG:grownCap w (n+1) n 108=G at XY hGn YZ;have IZ:∀ k,(Builtin.zeroCells z.cells k).size=k*11:=fun k=>by simp[Builtin.zeroCells,lh]
 have WG:((cur.toList.take (i*11)).toArray++Builtin.zeroCells z.cells (n+1 - i)++Builtin.zeroCells z.cells (G - (n+1))).size=G*11:=by
  rw[jW,jW,IZ,IZ,de,ba,aF,eI];omega
 have hRt:((cur.toList.take (i*11)).toArray++Builtin.zeroCells z.cells (n+1 - i)++Builtin.zeroCells z.cells (G - (n+1))).toList.take (i*11)=cur.toList.take (i*11):=by
  have hl:(cur.toList.take (i*11)).length=i*11:=by rw[ba,aF,eI];omega
  simp only[DC,aM];rw[dC (by rw[hl];exact aq _),ca (by rw[hl];exact aq _)]
 generalize YY:(cur.toList.take (i*11)).toArray++Builtin.zeroCells z.cells (n+1 - i)++Builtin.zeroCells z.cells (G - (n+1))=ROW at XY WG hRt;have XK:¬ ((i:Int)=(n:Int)):=by omega
 have hz3:(n:Int)<(n:Int)+1:=by omega
 have QP:IntKind.i64.wrap ((i:Int)+1)=(i:Int)+1:=by rw[IntKind.wrap_i64];omega
 have Bn:IntKind.i64.wrap ((n:Int)+1)=(n:Int)+1:=by rw[IntKind.wrap_i64];omega
 have hw3:IntKind.i64.wrap ((n:Int)+1 - (i:Int))=(n:Int)+1 - (i:Int):=by rw[IntKind.wrap_i64];omega
 have Br:(0:Int)≤(i:Int)+1:=by omega
 have CV:i≤n:=by omega
 have htn:((i:Int)+1).toNat=i+1:=by omega
 have hb3:(i:Int)≤(n:Int):=by omega
 have hb5:(i:Int)≤(n:Int)+1:=by omega
 have ac0:G≤9223372036854775807:=by unfold maxLen at YZ;omega
 have hGi:¬ (G=i):=by omega
 have acZ:¬ (G=i+1):=by omega
 have hci:¬ (n=i):=by omega
 have hgN:¬ (w.heap.size=g):=by omega
 have hvN:¬ (w.heap.size=vb):=by omega
 have hgA:(w.alloc (.cells ROW 108)).drew.heap[w.heap.size]?=some (.cells ROW 108 (0,0)):=heap_alloc_new w _;have CT:Nat.min 1 (n+1 - i)=1:=gn (by omega);have U8:Nat.min (n - i) (n - i)=n - i:=gn (aq _)
 have Vt:∀ ty dc,(Builtin.copy_ #[103,103] ty #[.slice (some ⟨w.heap.size,i*11,none⟩) (n+1 - i) dc,.slice (some ⟨vb,voff,none⟩) 1 vc]).run prog (w.alloc (.cells ROW 108)).drew =
   .ok (goInt (Nat.min 1 (n+1 - i):Nat)) ((w.alloc (.cells ROW 108)).drew.setRow w.heap.size (ROW.toList.take (i*11)++news++ROW.toList.drop (i*11+news.length)).toArray):=fun ty dc =>
  pz _ _ _ ty 108 w.heap.size (i*11) _ dc ⟨vb,voff,none⟩ _ vc ROW 108 news 11 hU AQ hgA (by rw[sg,CT]) (fun j v hj=>by
   rw[Addr.add_lit];exact(World.cell?_alloc_past (w:=w) _ vb (voff+j) XO).trans (s8 j v hj)) (by rw[sg,WG];omega) Y1
 have hRA:(ROW.toList.take (i*11)++news++ROW.toList.drop (i*11+news.length)).length=G*11:=by
  simp only[al,ba,bJ,aF,WG,sg];omega
 generalize hra:(ROW.toList.take (i*11)++news++ROW.toList.drop (i*11+news.length)).toArray=RA at Vt;have UW:RA.size=G*11:=by rw[← hra,de,hRA]
 have hgB:((w.alloc (.cells ROW 108)).drew.setRow w.heap.size RA).drew.heap[w.heap.size]?=some (.cells RA 108 (0,0)):=setRow_heap _ w.heap.size ROW RA 108 (0,0) hgA
 have bz:(cur.toList.drop (i*11)).length=(n - i)*11:=by
  rw[bJ,aF,eI,Nat.sub_mul]
 have YJ:∀ ty dc sc,(Builtin.copy_ #[103,103] ty #[.slice (some ⟨w.heap.size,(i+1)*11,none⟩) (n - i) dc,.slice (some ⟨g,i*11,none⟩) (n - i) sc]).run prog ((w.alloc (.cells ROW 108)).drew.setRow w.heap.size RA).drew =
   .ok (goInt (Nat.min (n - i) (n - i):Nat)) (((w.alloc (.cells ROW 108)).drew.setRow w.heap.size RA).drew.setRow w.heap.size (RA.toList.take ((i+1)*11)++cur.toList.drop (i*11)++RA.toList.drop ((i+1)*11+(cur.toList.drop (i*11)).length)).toArray):=fun ty dc sc =>
  pz _ _ _ ty 108 w.heap.size ((i+1)*11) _ dc ⟨g,i*11,none⟩ _ sc RA 108 (cur.toList.drop (i*11)) 11 hU AQ hgB (by rw[bz,U8]) (fun j v hj=>by
   rw[Addr.add_lit];rw[cv]at hj
   have h0:(w.alloc (.cells ROW 108)).heap[g]?=some (.cells cur 108 (0,0)):=by
    rw[Below.heap_alloc w _ g Wv];exact hg
   have h1:((w.alloc (.cells ROW 108)).drew.setRow w.heap.size RA).drew.heap[g]?=some (.cells cur 108 (0,0)):=by
    simp only[World.setRow,World.drew,bH,aC hgN];exact h0
   simp only[World.cell?,h1];simpa using hj) (by rw[bz,UW];omega) (fun v hv=>Y2 v (dh hv))
 clear Gl Yx hold YY hG WG
 go_enter func71,Tryz.ntmps71
 go_wp2_with (first
  | (at_builtin;refine Lib.wpList_append_run _ rfl _ _ _ _ rfl _ _ rfl rfl _ _ (XY _) ?_)
  | (at_builtin;refine wpList_copy_runI _ rfl _ _ 103 103 rfl _ _ rfl rfl (Vt _ _) ?_))
 go_region_law_o (refine step_copy_runI rfl _ _ 103 103 rfl _ _ (by simp[Act.eval,Act.put]) (by simp[Act.eval,Act.put]) (YJ _ _ _) ?_)
 go_wp2
 go_ret
 have cM:(cur.toList.take (i*11)).length=i*11:=by rw[ba,aF,eI];omega
 have e1:RA.toList=cur.toList.take (i*11)++(news++ROW.toList.drop (i*11+news.length)):=by rw[← hra,← hRt,aM]
 have e2:RA.toList.take ((i+1)*11)=cur.toList.take (i*11)++news:=by
  have hl:(cur.toList.take (i*11)++news).length=(i+1)*11:=by rw[al,cM,sg];omega
  rw[e1,← List.append_assoc,dC (by rw[hl];exact aq _),ca (by rw[hl];exact aq _)]
 have EF:(RA.toList.take ((i+1)*11)++cur.toList.drop (i*11)).length=(n+1)*11:=by
  rw[e2,al,al,cM,sg,bz];omega
 refine⟨G,_,rfl,hGn,YZ,?_,?_,setRow_heap _ _ RA _ 108 (0,0) hgB,?_⟩
 ·rw[de,← List.append_assoc,al,EF,bJ,aF,UW];omega
 ·show List.take ((n+1)*11) (RA.toList.take ((i+1)*11)++(cur.toList.drop (i*11)++RA.toList.drop ((i+1)*11+(n - i)*11)))=_;rw[← List.append_assoc,dC (by rw[EF];exact aq _),ca (by rw[EF];exact aq _),e2]
 ·refine⟨rfl,rfl,rfl,?_,fun k hk _=>?_⟩
  ·simp only[World.setRow,World.drew,Array.size_modify,World.alloc,Array.size_push];omega
  ·simp only[World.setRow,World.drew,bH,aC (show ¬ w.heap.size=k by omega)];exact Below.heap_alloc w _ k hk
theorem Hk{w:World}{J:ae}{μ:Mem}{xs:List (List V)}{r:List V}{sz:Nat}{vals news:List Value}(h:gR w J μ xs sz vals)(hl:vals.length=xs.length*sz)(hr:gR w J μ [r] sz news)(hn:news.length=sz)(m:Nat)(hm:m≤xs.length):
  gR w J μ (xs.take m++r::xs.drop m) sz (vals.take (m*sz)++news++vals.drop (m*sz)):=by
 have cM:(vals.take (m*sz)).length=m*sz:=by
  rw[ba,hl];exact gn (aY _ hm)
 have Mb:(xs.take m).length=m:=by rw[ba];exact gn hm
 have h1:gR w J μ (xs.take m) sz (vals.take (m*sz)):=by
  refine⟨fun q hq=>h.1 q (df hq),fun i j x hx=>?_⟩
  have hi:i<m:=by
   obtain⟨q,hq,_⟩:=eP hx;have:=(ab.1 hq).1;omega
  have ub:eV xs i j=some x:=by
   simp only[eV,dp,aQ hi]at hx ⊢;exact hx
  obtain⟨q1,u,q2,q3⟩:=h.2 i j x ub
  have hj:j<sz:=by
   obtain⟨q,hq,CL⟩:=eP ub;have:=h.1 q (aL hq);have:=(ab.1 CL).1;omega
  refine⟨q1,u,?_,q3⟩
  have s9:i*sz+j<m*sz:=by
   have:(i+1)*sz≤m*sz:=aY _ hi;rw[bO,eG]at this;omega
  rw[dp,aQ s9];exact q2
 have h2:gR w J μ (xs.drop m) sz (vals.drop (m*sz)):=by
  refine⟨fun q hq=>h.1 q (dh hq),fun i j x hx=>?_⟩
  have ub:eV xs (m+i) j=some x:=by
   simp only[eV,cv]at hx ⊢;exact hx
  obtain⟨q1,u,q2,q3⟩:=h.2 _ j x ub;refine⟨q1,u,?_,q3⟩;rw[cv,← q2,bO,iF]
 have h3:=(h1.append hr (by rw[cM,Mb])).append h2 (by rw[al,al,cM,hn,Mb,bO];simp);simpa using h3
theorem CE(l:List dP)(x:dP)(m id id2 g g2:Nat)(sh2:Bool)(hm:m<l.length)(hl:l.length<2^30)(J:ae)(gr:id≠id2)(h1:J[id]?=some (.row 108 11 176 g false (l.map dP.aen)))(h2:J[id2]?=some (.row 108 11 176 g2 sh2 [x.aen])):
  PC prog 71 [.own id g,.i .i64 m,.own id2 g2] J (fun r J'=>r=.own id (g+1)∧J'=J.set id (.row 108 11 176 (g+1) false ((l.take m++x::l.drop m).map dP.aen))):=by
 refine PC.Uy h1 fun B w0 w μ vs hS hv=>?_;have a0:=hv.2 0 _ rfl;have a1:=(hv.2 1 _ rfl).dI;have a2:=hv.2 2 _ rfl;have a0:=a0.iL h1;have a2:=a2.iL h2;obtain⟨_,vals,eu,bT⟩:=hS.obj id _ h1;obtain⟨_,news,KH,zg⟩:=hS.obj id2 _ h2
 have e:vs=#[μ id,.int .i64 m,μ id2]:=by
  obtain⟨q⟩:=vs
  match q,hv.1 with
  | [u,v,y],_=>simp at a0 a1 a2;rw[a0,a1,a2]
 rw[e];have o1:=gR.one hS bT eu.1;have o2:=gR.one hS zg KH.1;rcases eu.2 with⟨_,hn⟩ | ⟨gb,cap,cur,jX,hB,hg,CQ,wI,kN,Bq⟩
 ·rw[aj]at hn;omega
 rcases KH.2 with⟨_,hn⟩ | ⟨vb,cap2,cur2,U7,hB2,DK,ab8,acL,acK,YI⟩
 ·simp at hn
 have DH:(l.map dP.aen).length=l.length:=aj ..;rw[DH]at jX CQ Bq eu;have Wn:vb≠gb:=fun e=>gr (hS.sep id id2 _ _ gb h1 h2 (by simp) (by simp) (by rw[jX];rfl) (by rw[U7,e];rfl));have sg:news.length=11:=by simpa using KH.1
 have I0:vals.length=l.length*11:=by rw[eu.1]
 have s8:∀ j v,news[j]?=some v→w.cell? ⟨vb,0+j,none⟩=some v:=by
  intro j v hj;rw[← YI,dp]at hj;split at hj
  ·simp only[World.cell?,DK,bj];simpa using hj
  ·cases hj
 have XO:vb<w.heap.size:=(aN.1 DK).1;have hlen':((l.take m++x::l.drop m).map dP.aen).length=l.length+1:=by simp;omega
 have AV:gR w J μ ((l.take m++x::l.drop m).map dP.aen) 11 (vals.take (m*11)++news++vals.drop (m*11)):=by
  have:=Hk (r:=x.aen) bT (by rw[DH];exact I0) zg sg m (by rw[DH];omega);simpa[DO,V3]using this
 have KJ:(vals.take (m*11)++news++vals.drop (m*11)).length=(l.length+1)*11:=by
  simp only[al,ba,bJ,I0,sg];omega
 rw[jX,U7]
 by_cases rN:l.length+1≤cap
 ·refine(ye gb l.length cap m vb 0 cap2 cur news w hm rN (by unfold maxLen at wI;omega) Wn hg kN sg s8 (fun v hv=>o1 v (Bq▸hv)) o2 108 108 cur2.size cur.size (by simp[World.shape?,DK]) (by simp[World.shape?,hg]) (by rw[kN];omega) (by simp[World.frozen?,DK]) (by simp[World.frozen?,DK])).mono ?_;rintro e w' ⟨rfl,rfl⟩;refine⟨_,_,rfl,?_,fun b hb=>.inl hb,?_,AV⟩
  ·refine⟨rfl,rfl,rfl,?_,fun k hk gr=>?_⟩
   ·simp only[World.setRow,World.drew,Array.size_modify];exact aq _
   ·have ny:¬ gb=k:=fun e=>gr (by rw[e];rfl);simp only[World.setRow,World.drew,bH,aC ny]
  ·rw[hlen']
   have e1:cur.toList.take (m*11)=vals.take (m*11):=by
    rw[← Bq,qP,gn (by omega)]
   have e2:(s6 cur l.length m news).toList=(vals.take (m*11)++news++vals.drop (m*11))++cur.toList.drop ((l.length+1)*11):=by
    rw[s6,Bq,e1]
   refine⟨KJ,.inr ⟨gb,cap,_,rfl,hB,setRow_heap w.drew gb cur _ 108 (0,0) hg,rN,wI,?_,?_⟩⟩
   ·have e3:(s6 cur l.length m news).size=(s6 cur l.length m news).toList.length:=aF.symm;rw[e3,e2,al,KJ,bJ,(show cur.toList.length=cap*11 from by rw[aF,kN])];omega
   ·rw[e2,dC (by rw[KJ];exact aq _),ca (by rw[KJ];exact aq _)]
 ·have jL:cap=l.length:=by omega
  subst jL;have lX:cur.toList=vals:=by rw[← Bq,ca (by rw[aF,kN];exact aq _)]
  refine(AO gb l.length m vb 0 cap2 cur news w hm (by omega) hg kN sg s8 (fun v hv=>o1 v (lX▸hv)) o2 XO).mono ?_;rintro e w' ⟨G,row,rfl,q1,q2,q3,q4,q5,q6⟩;refine⟨_,_,rfl,?_,fun b hb=>.inr ?_,?_,AV⟩
  ·obtain⟨p1,p2,p3,p4,p5⟩:=q6;exact⟨p1,p2,p3,p4,fun k hk gr=>p5 k hk (by simp)⟩
  ·simp only[fR,aa]at hb;omega
  ·rw[hlen'];refine⟨KJ,.inr ⟨w.heap.size,G,row,rfl,by have:=(aN.1 hg).1;omega,q5,q1,q2,q3,?_⟩⟩;rw[q4,lX]
end Go.Proofs.Tryz
set_option maxRecDepth 8000
set_option maxHeartbeats 4000000
namespace Go.Proofs.Tryz
open Go Go.Pm Go.Bt
theorem H8(l:List dP)(x:dP)(m id id2 g:Nat)(hm:m≤l.length)(hl:l.length<2^30)(J:ae)(gr:id≠id2)(h1:J[id]?=some (ff g l))(h2:J[id2]?=some (.row 108 11 176 0 false [x.aen])):
  PC prog 71 [.own id g,.i .i64 m,.own id2 0] J (fun r J'=>r=.own id (g+1)∧∃ sh,J'=(J.set id2 (.row 108 11 176 0 sh [x.aen])).set id (ff (g+1) (l.take m++x::l.drop m))):=by
 rcases Nat.lt_or_eq_of_le hm with h | h
 ·refine(CE l x m id id2 g 0 false h hl J gr h1 h2).mono fun v J' hv=>?_;exact⟨hv.1,false,by rw[tI h2];exact hv.2⟩
 ·subst h;refine PC.wk (Wk.fz id2 h2) ?_
  have e:[V.own id g,.i .i64 l.length,.own id2 0].map (fz id2 0 11 [x.aen])=[V.own id g,.i .i64 l.length,.sl 11 [x.aen]]:=by
   simp[Pm.fz,wU,gr]
  rw[e];refine(Ey l x id g hl _ (by rw[ay gr.symm];exact h1)).mono fun v J' hv=>?_;exact⟨hv.1,true,by rw[hv.2];simp⟩
theorem yU{α:Type}[DecidableEq α]{E n:Nat}{o o':Ob}{T X:ae}{G:List (α×(Nat×Nat))}{f:α→List (Int×Int)}(h:Bt.fB E n (o::T) G f)(ho:∀ g ps,o≠fM E g ps):Bt.fB E n (o'::(T++X)) G f :=
 ⟨h.nodup,fun k r g hk=>by
  obtain⟨j,h1,h2⟩:=h.row k r g hk;cases j with
  | zero=>exact absurd (by simpa using h2) (ho g (f k))
  | succ j =>
   refine⟨j+1,h1,?_⟩;simp only[bA]at h2 ⊢;rw[ag (ab.1 h2).1];exact h2,h.uB,h.inj⟩
theorem yo.swap{n:Nat}{g:Nat}{M:List dP}{o':Ob}{T X:ae}{L:List LE}{G2:List (GK×(Nat×Nat))}{G3:List (TK×(Nat×Nat))}(h:yo n (ff g M::T) L G2 G3):yo n (o'::(T++X)) L G2 G3 :=
 ⟨h.keys,h.aew,fun e he=>by
  obtain⟨j,h1,h2⟩:=h.cls e he;cases j with
  | zero=>simp[ff]at h2
  | succ j =>
   refine⟨j+1,h1,?_⟩;simp only[bA]at h2 ⊢;rw[ag (ab.1 h2).1];exact h2,
  yU h.p2 (fun g ps hh=>by simp[ff,fM]at hh),yU h.p3 (fun g ps hh=>by simp[ff,fM]at hh),h.Y4⟩
theorem u7{E:Nat×Nat×Nat}(J:ae)(L:List LE)(G2:List (GK×(Nat×Nat)))(G3:List (TK×(Nat×Nat)))(next:Int)(g:Nat)(M:List dP)(T X:ae):gG E J L G2 G3 next g M T++X=mg E J L G2 G3 (C2 J.length (.own (J.length+5) g) next) (ff g M::(T++X)):=by
 simp[gG,mg]
theorem Hs{E:Nat×Nat×Nat}(J:ae)(L:List LE)(G2:List (GK×(Nat×Nat)))(G3:List (TK×(Nat×Nat)))(next:Int)(hn:0≤next∧next<2^60)(g:Nat)(M:List dP)(T:ae)(hI:yo J.length (ff g M::T) L G2 G3)(hid:bo next L=none)(hL:L.length<1024)(hM:M.length<1024)(hs:kg M)
  (e:En) (he:e.aew) (h0:cG e=0) (ik:aV e ∉ M.map dP.key) (Ps:(cd e.aeq).length<2^27) :
  PC prog 27 [.ptr (J.length+4) 0,.agg e.aen] (gG E J L G2 G3 next g M T) (fun r S'=>r=.i .i64 0∧∃ T' m G2' G3',S'=gG E J (L++[(next,(cd e.aeq,m))]) G2' G3' (next+1) (g+1) (M.take (fG M (aV e))++⟨next,aV e,e,cd e.aeq⟩::M.drop (fG M (aV e))) T' ∧
   yo J.length (ff (g+1) (M.take (fG M (aV e))++⟨next,aV e,e,cd e.aeq⟩::M.drop (fG M (aV e)))::T') (L++[(next,(cd e.aeq,m))]) G2' G3'):=by
 refine PC.intro func27 Y8 fun bz er=>aB ?_;have e1:=he.aeq;have e2:=he.px;have e3:=he.aex;simp only[Wd,SS,seval];simp only[En.aen,↓IT,VV,seval];refine aA (jI e he _) (by simp only[En.aen,VV,seval]) ?_;simp only[h0,↓IT,VV,seval];refine aA (sU e he _) (by simp only[En.aen,VV,seval]) ?_;simp only[↓IT,VV,seval];refine aA (A0 J L G2 G3 next g M T hs (by omega) (aV e) _) rfl ?_;have hd:decide (aV e∈M.map dP.key)=false:=pj ik;have QZ:decide ((1024:Int)≤(M.length:Int))=false:=by simp;omega
 have hw:IntKind.i64.wrap (next+1)=next+1:=IntWalk.i64_in _ (by omega)
 obtain⟨N,hlen⟩:∃ N,∀ nx g M,(gG E J L G2 G3 nx g M T).length=N:=⟨J.length+(T.length+6),fun nx g M=>by simp[gG,mg]⟩;have PB:∀ nx g M X,(gG E J L G2 G3 nx g M T++X)[N]?=X[0]?:=fun nx g M X=>by rw[← hlen nx g M,aw (aq _)];simp
 have NW:∀ nx g M X j,(gG E J L G2 G3 nx g M T++X)[N+j]?=X[j]?:=fun nx g M X j=>by rw[← hlen nx g M,aw (by omega)];simp
 have Mc:∀ nx g M X j o,(gG E J L G2 G3 nx g M T++X).set (N+j) o=gG E J L G2 G3 nx g M T++X.set j o:=fun nx g M X j o=>by rw[← hlen nx g M,bZ _ _ (by omega)];simp
 have Md:∀ nx g M X o,(gG E J L G2 G3 nx g M T++X).set N o=gG E J L G2 G3 nx g M T++X.set 0 o:=fun nx g M X o=>by rw[← hlen nx g M,bZ _ _ (aq _)];simp
 have hb:∀ nx g M X,(gG E J L G2 G3 nx g M T++X)[J.length+4]?=some (.box 105 [.ptr (J.length+3) 0,.own (J.length+5) g,.i .i64 nx]):=fun nx g M X=>by simp[gG,mg,C2]
 have hr:∀ nx g M X,(gG E J L G2 G3 nx g M T++X)[J.length+5]?=some (.row 108 11 176 g false (M.map dP.aen)):=fun nx g M X=>by simp[gG,mg,ff]
 have iS:∀ nx nx' g M X,(gG E J L G2 G3 nx g M T++X).set (J.length+4) (.box 105 [.ptr (J.length+3) 0,.own (J.length+5) g,.i .i64 nx'])=gG E J L G2 G3 nx' g M T++X:=fun nx nx' g M X=>by simp[gG,mg,C2]
 have UQ:∀ nx g g' M M' X,((gG E J L G2 G3 nx g M T++X).set (J.length+5) (ff g' M')).set (J.length+4) (.box 105 [.ptr (J.length+3) 0,.own (J.length+5) g',.i .i64 nx])=gG E J L G2 G3 nx g' M' T++X:=fun nx g g' M M' X=>by simp[gG,mg,C2]
 generalize hM':M.take (fG M (aV e))++⟨next,aV e,e,cd e.aeq⟩::M.drop (fG M (aV e))=M';simp only[hlen,PB,NW,Md,Mc,hb,hr,hd,QZ,aj,↓IT,VV,seval];intro X;refine aA (xj e (by omega) (by omega) _) (by simp only[En.aen,VV,seval]) ?_;simp only[En.aen,hlen,PB,NW,Md,Mc,hb,hr,↓IT,VV,seval];intro X2;refine aA (mR e.aeq (by omega) (by omega) _) rfl ?_;simp only[En.aen,hw,iS,hlen,PB,NW,Md,Mc,hb,hr,↓IT,V.pure,VV,seval]
 have hNl:J.length+5<N:=by
  have:=hlen 0 0 M;simp only[gG,mg,al,ai]at this;omega
 refine fJ (H8 M ⟨next,aV e,e,cd e.aeq⟩ (fG M (aV e)) (J.length+5) (N+2) g (AJ _ _) (by omega) _ (by omega) (hr _ _ _ _) (by rw[NW];rfl)) rfl ?_;rintro _ _ ⟨rfl,sh,rfl⟩;rw[hM'];have iX:∀ nx g M X o,((gG E J L G2 G3 nx g M T++X).set (J.length+5) o)[J.length+4]?=some (.box 105 [.ptr (J.length+3) 0,.own (J.length+5) g,.i .i64 nx]):=fun nx g M X o=>by rw[ay (by omega)];exact hb ..
 simp only[En.aen,iX,UQ,hlen,PB,NW,Md,Mc,hb,↓IT,V.pure,VV,seval];refine⟨?_,?_⟩
 ·have cM:J.length+5<(gG E J L G2 G3 (next+1) g M T++[Ob.box 37 [.sl 3 (e.aeq.map It.aen),.sl 3 (e.aex.map It.aen),.s e.bV,.s e.next,.s e.cC,.s e.bU,.i .i64 e.aey,.i .i64 e.aeA],Ob.box 108 [.i .i64 next,.s (aV e),.sl 3 (e.aeq.map It.aen),.sl 3 (e.aex.map It.aen),.s e.bV,.s e.next,.s e.cC,.s e.bU,.i .i64 e.aey,.i .i64 e.aeA,.sl 3 ((cd e.aeq).map It.aen)],Ob.row 108 11 176 0 sh [dP.aen ⟨next,aV e,e,cd e.aeq⟩]]).length:=(ab.1 (hr (next+1) g M _)).1;rw[ak cM];simp[ff]
 rw[u7];refine fJ (ze _ _ L G2 G3 J hI.swap next hid hL (cd e.aeq) Ps) rfl ?_;rintro r S' ⟨rfl,T',m,G2',G3',rfl,hI',hG⟩;have QR:T'[0]?=some (ff (g+1) M'):=hG.2 0 _ rfl (by simp[ff,still])
 obtain⟨T2,rfl⟩:∃ T2,T'=ff (g+1) M'::T2:=by
  cases T' with
  | nil=>simp at QR
  | cons o T2=>simp only[au,aa]at QR;exact⟨T2,by rw[QR]⟩
 simp only[↓IT,VV,seval];exact fO (.inr rfl) rfl (Wk.refl _ _) rfl ⟨rfl,T2,m,G2',G3',rfl,hI'⟩
end Go.Proofs.Tryz
set_option maxRecDepth 8000
set_option maxHeartbeats 4000000
namespace Go.Proofs.Tryz
open Go Go.Pm Go.Bt
theorem Hr{E:Nat×Nat×Nat}(J:ae)(L:List LE)(G2:List (GK×(Nat×Nat)))(G3:List (TK×(Nat×Nat)))(next:Int)(hn:0≤next∧next<2^60)(g:Nat)(M:List dP)(T:ae)(hI:yo J.length (ff g M::T) L G2 G3)(hid:bo next L=none)(hL:L.length≤1024)(hM:M.length≤1024)(hs:kg M)
  (e:En) (he:e.aew) (h0:cG e=0) (s0:dP) (Gk:M[fG M (aV e)]?=some s0) (Ij:s0.key=aV e) (l0:List It) (m0:Nat) (Wr:bo s0.id L=some (l0,m0)) (Ps:(cd e.aeq).length<2^27) :
  PC prog 27 [.ptr (J.length+4) 0,.agg e.aen] (gG E J L G2 G3 next g M T) (fun r S'=>r=.i .i64 0∧∃ E' T' m G2' G3',S'=gG E' J (iM L s0.id++[(next,(cd e.aeq,m))]) G2' G3' (next+1) g (M.set (fG M (aV e)) ⟨next,aV e,e,cd e.aeq⟩) T' ∧
   yo J.length (ff g (M.set (fG M (aV e)) ⟨next,aV e,e,cd e.aeq⟩)::T') (iM L s0.id++[(next,(cd e.aeq,m))]) G2' G3'):=by
 refine PC.intro func27 Y8 fun bz er=>aB ?_;have e1:=he.aeq;have e2:=he.px;have e3:=he.aex;simp only[Wd,SS,seval];simp only[En.aen,↓IT,VV,seval];refine aA (jI e he _) (by simp only[En.aen,VV,seval]) ?_;simp only[h0,↓IT,VV,seval];refine aA (sU e he _) (by simp only[En.aen,VV,seval]) ?_;simp only[↓IT,VV,seval];refine aA (A0 J L G2 G3 next g M T hs (by omega) (aV e) _) rfl ?_;have hd:decide (aV e∈M.map dP.key)=true:=Bf ((uY hs _).2 ⟨s0,Gk,Ij⟩);have hw:IntKind.i64.wrap (next+1)=next+1:=IntWalk.i64_in _ (by omega)
 obtain⟨N,hlen⟩:∃ N,∀ nx g M,(gG E J L G2 G3 nx g M T).length=N:=⟨J.length+(T.length+6),fun nx g M=>by simp[gG,mg]⟩;have PB:∀ nx g M X,(gG E J L G2 G3 nx g M T++X)[N]?=X[0]?:=fun nx g M X=>by rw[← hlen nx g M,aw (aq _)];simp
 have NW:∀ nx g M X j,(gG E J L G2 G3 nx g M T++X)[N+j]?=X[j]?:=fun nx g M X j=>by rw[← hlen nx g M,aw (by omega)];simp
 have Mc:∀ nx g M X j o,(gG E J L G2 G3 nx g M T++X).set (N+j) o=gG E J L G2 G3 nx g M T++X.set j o:=fun nx g M X j o=>by rw[← hlen nx g M,bZ _ _ (by omega)];simp
 have Md:∀ nx g M X o,(gG E J L G2 G3 nx g M T++X).set N o=gG E J L G2 G3 nx g M T++X.set 0 o:=fun nx g M X o=>by rw[← hlen nx g M,bZ _ _ (aq _)];simp
 have hb:∀ nx g M X,(gG E J L G2 G3 nx g M T++X)[J.length+4]?=some (.box 105 [.ptr (J.length+3) 0,.own (J.length+5) g,.i .i64 nx]):=fun nx g M X=>by simp[gG,mg,C2]
 have hr:∀ nx g M X,(gG E J L G2 G3 nx g M T++X)[J.length+5]?=some (.row 108 11 176 g false (M.map dP.aen)):=fun nx g M X=>by simp[gG,mg,ff]
 have iS:∀ nx nx' g M X,(gG E J L G2 G3 nx g M T++X).set (J.length+4) (.box 105 [.ptr (J.length+3) 0,.own (J.length+5) g,.i .i64 nx'])=gG E J L G2 G3 nx' g M T++X:=fun nx nx' g M X=>by simp[gG,mg,C2]
 have UQ:∀ nx g g' M M' X,((gG E J L G2 G3 nx g M T++X).set (J.length+5) (ff g' M')).set (J.length+4) (.box 105 [.ptr (J.length+3) 0,.own (J.length+5) g',.i .i64 nx])=gG E J L G2 G3 nx g' M' T++X:=fun nx g g' M M' X=>by simp[gG,mg,C2]
 have oE:fG M (aV e)<M.length:=(ab.1 Gk).1;have eJ:(M.map dP.aen).getD (fG M (aV e)) []=s0.aen:=by simp[ar,Gk]
 have Gn:(0:Int)≤((fG M (aV e):Nat):Int):=by omega
 have Su:((fG M (aV e):Nat):Int)<(M.length:Int):=by omega
 simp only[hlen,PB,NW,Md,Mc,hb,hr,hd,aj,↓IT,VV,seval];intro X;refine aA (xj e (by omega) (by omega) _) (by simp only[En.aen,VV,seval]) ?_;simp only[En.aen,hlen,PB,NW,Md,Mc,hb,hr,↓IT,VV,seval];intro X2;refine aA (mR e.aeq (by omega) (by omega) _) rfl ?_;simp only[En.aen,hw,iS,hlen,PB,NW,Md,Mc,hb,hr,↓IT,V.pure,VV,seval];have YU:eV (M.map dP.aen) (fG M (aV e)) 0=some (.i .i64 s0.id):=by simp[eV,Gk,dP.aen]
 have hNe:N=J.length+(T.length+6):=by
  have:=hlen 0 0 M;simp only[gG,mg,al,ai]at this;omega
 simp only[eJ,YU,Gn,Su,aj,aX,V.pure,VV,seval];rw[u7];refine fJ (H9 _ _ L G2 G3 J hI.swap s0.id l0 m0 Wr hL) rfl ?_;rintro _ S' ⟨rfl,E',T',G2',G3',rfl,hI',hG⟩;have QR:T'[0]?=some (ff g M):=hG.2 0 _ rfl (by simp[ff,still])
 obtain⟨T2,rfl⟩:∃ T2,T'=ff g M::T2:=by
  cases T' with
  | nil=>simp at QR
  | cons o T2=>simp only[au,aa]at QR;exact⟨T2,by rw[QR]⟩
 have EA:=hG.2 (T.length+1) _ (by simp;rfl) rfl;have Gh:=hG.2 (T.length+2) _ (by simp;rfl) rfl;simp only[bA]at EA Gh;have hS':∀ M',mg E' J (iM L s0.id) G2' G3' (C2 J.length (.own (J.length+5) g) (next+1)) (ff g M'::T2)=gG E' J (iM L s0.id) G2' G3' (next+1) g M' T2:=fun M'=>rfl;rw[hS'];have hb':∀ M',(gG E' J (iM L s0.id) G2' G3' (next+1) g M' T2)[J.length+4]?=some (.box 105 [.ptr (J.length+3) 0,.own (J.length+5) g,.i .i64 (next+1)]):=fun M'=>by simp[gG,mg,C2]
 have hr':∀ M',(gG E' J (iM L s0.id) G2' G3' (next+1) g M' T2)[J.length+5]?=some (.row 108 11 176 g false (M'.map dP.aen)):=fun M'=>by simp[gG,mg,ff]
 have Bo:∀ M',(gG E' J (iM L s0.id) G2' G3' (next+1) g M' T2)[N]?=T2[T.length]?:=fun M'=>by
  unfold gG mg;rw[hNe,aw (by omega),(by omega:J.length+(T.length+6) - J.length=T.length+6)];simp only[bA]
 have DG:∀ M',(gG E' J (iM L s0.id) G2' G3' (next+1) g M' T2)[N+1]?=T2[T.length+1]?:=fun M'=>by
  unfold gG mg;rw[hNe,aw (by omega),(by omega:J.length+(T.length+6)+1 - J.length=T.length+1+6)];simp only[bA]
 have Ii:(M.map dP.aen).set (fG M (aV e)) (dP.aen ⟨next,aV e,e,cd e.aeq⟩)=(M.set (fG M (aV e)) ⟨next,aV e,e,cd e.aeq⟩).map dP.aen:=by rw[List.map_set]
 have hst':∀ M' M'',(gG E' J (iM L s0.id) G2' G3' (next+1) g M' T2).set (J.length+5) (.row 108 11 176 g false (M''.map dP.aen))=gG E' J (iM L s0.id) G2' G3' (next+1) g M'' T2:=fun M' M''=>by simp[gG,mg,ff]
 have hd0:(s0.aen).drop 11=[]:=rfl;simp only[dP.aen]at Ii;simp only[hb',hr',Bo,DG,EA,Gh,eJ,hd0,Ii,hst',Gn,Su,aj,aX,↓IT,V.pure,VV,seval];refine⟨oE,?_⟩;rw[← hS'];have hdl:(iM L s0.id).length<L.length:=zG.2 ⟨_,u6 Wr,by simp⟩;have Rc:=hI'.swap (o':=ff g (M.set (fG M (aV e)) ⟨next,aV e,e,cd e.aeq⟩)) (X:=[]);rw[bF]at Rc;refine fJ (ze _ _ (iM L s0.id) G2' G3' J Rc next (by rw[oX,hid,ite_self]) (by omega) (cd e.aeq) Ps) rfl ?_;rintro r S' ⟨rfl,T',m,G2'',G3'',rfl,hI3,hG3⟩;have XW:T'[0]?=some (ff g (M.set (fG M (aV e)) ⟨next,aV e,e,cd e.aeq⟩)):=hG3.2 0 _ rfl (by simp[ff,still])
 obtain⟨T3,rfl⟩:∃ T3,T'=ff g (M.set (fG M (aV e)) ⟨next,aV e,e,cd e.aeq⟩)::T3:=by
  cases T' with
  | nil=>simp at XW
  | cons o T3=>simp only[au,aa]at XW;exact⟨T3,by rw[XW]⟩
 simp only[↓IT,VV,seval];exact fO (.inr rfl) rfl (Wk.refl _ _) rfl ⟨rfl,E',T3,m,G2'',G3'',rfl,hI3⟩
end Go.Proofs.Tryz
set_option maxRecDepth 8000
set_option maxHeartbeats 4000000
namespace Go.Proofs.Tryz
open Go Go.Pm Go.Bt
def fH(M:List dP)(e:En):Int:=if cG e≠0 then cG e else if aV e∈M.map dP.key∨M.length<1024 then 0 else 3
theorem Ht{E:Nat×Nat×Nat}(J:ae)(L:List LE)(G2:List (GK×(Nat×Nat)))(G3:List (TK×(Nat×Nat)))(next:Int)(g:Nat)(M:List dP)(T:ae)(hs:kg M)(hM:M.length≤1024)
  (e:En) (he:e.aew) (h0:fH M e≠0) :
  PC prog 27 [.ptr (J.length+4) 0,.agg e.aen] (gG E J L G2 G3 next g M T) (fun r S'=>r=.i .i64 (fH M e)∧S'=gG E J L G2 G3 next g M T):=by
 refine PC.intro func27 Y8 fun bz er=>aB ?_;have e1:=he.aeq;have e2:=he.px;have e3:=he.aex;have hb:∀ X,(gG E J L G2 G3 next g M T++X)[J.length+4]?=some (.box 105 [.ptr (J.length+3) 0,.own (J.length+5) g,.i .i64 next]):=fun X=>by simp[gG,mg,C2]
 have hr:∀ X,(gG E J L G2 G3 next g M T++X)[J.length+5]?=some (.row 108 11 176 g false (M.map dP.aen)):=fun X=>by simp[gG,mg,ff]
 simp only[Wd,SS,seval];simp only[En.aen,↓IT,VV,seval];refine aA (jI e he _) (by simp only[En.aen,VV,seval]) ?_;simp only[↓IT,VV,seval];refine⟨fun h=>?_,fun h=>?_⟩
 ·have h:cG e≠0:=by simpa using h
  exact bu bz (.inr rfl) (by simp only[RS,seval];rfl) (by simp[LW]) ⟨by rw[fH,aQ h];rfl,rfl⟩
 have h:cG e=0:=by simpa using h
 rw[fH,aC (by simp[h])]at h0;have hp:¬ (aV e∈M.map dP.key∨M.length<1024):=fun hp=>h0 (aQ hp);refine aA (sU e he _) (by simp only[En.aen,VV,seval]) ?_;simp only[↓IT,VV,seval];refine aA (A0 J L G2 G3 next g M T hs (by omega) (aV e) _) rfl ?_;have hd:decide (aV e∈M.map dP.key)=false:=pj fun h=>hp (.inl h)
 have QZ:decide ((1024:Int)≤(M.length:Int))=true:=by
  have:¬ M.length<1024:=fun h=>hp (.inr h);simp;omega
 simp only[hb,hr,hd,QZ,aj,↓IT,VV,seval];exact bu bz (.inr rfl) (by simp only[RS,seval];rfl) (by simp[LW]) ⟨by rw[fH,aC (by simp[h]),aC hp];rfl,rfl⟩
def mo(next:Int)(e:En):dP:=⟨next,aV e,e,cd e.aeq⟩
def sJ(M:List dP)(next:Int)(e:En):List dP :=
 if fH M e=0 then(if aV e∈M.map dP.key then M.set (fG M (aV e)) (mo next e)else M.take (fG M (aV e))++mo next e::M.drop (fG M (aV e)))else M
def oS(M:List dP)(next:Int)(e:En):Int:=if fH M e=0 then next+1 else next
def DE(s:dP):Int×List It:=(s.id,s.cd)
def Ma(e:LE):Int×List It:=(e.1,e.2.1)
def Be(J:ae)(M:List dP)(next:Int)(S:ae):Prop :=
 ∃ E L G2 G3 g T,S=gG E J L G2 G3 next g M T∧yo J.length (ff g M::T) L G2 G3∧(L.map Ma).Perm (M.map DE)∧∀ e∈L,e.1<next
theorem Be.app{J:ae}{M:List dP}{next:Int}{S:ae}(h:Be J M next S)(X:ae):Be J M next (S++X):=by
 obtain⟨E,L,G2,G3,g,T,rfl,hI,hp,hn⟩:=h;exact⟨E,L,G2,G3,g,T++X,u7 ..,hI.swap,hp,hn⟩
theorem yo.WW(n:Nat)(T:ae):yo n T [] [] [] :=
 ⟨iU,fun e he=>by simp at he,fun e he=>by simp at he,⟨iU,fun k r g h=>by simp[bo,db]at h,fun k h=>rfl,fun k k' r g g' h=>by simp[bo,db]at h⟩,
  ⟨iU,fun k r g h=>by simp[bo,db]at h,fun k h=>rfl,fun k k' r g g' h=>by simp[bo,db]at h⟩,fun k r g k' r' g' h=>by simp[bo,db]at h⟩
theorem Be.new(J:ae):Be J [] 0 (gG Wi J [] [] [] 0 0 [] []) :=
 ⟨Wi,[],[],[],0,[],rfl,yo.WW _ _,List.Perm.refl _,fun e he=>by cases he⟩
theorem Be.pre{J:ae}{M:List dP}{next:Int}{S:ae}(h:Be J M next S):∃ loc,S=J++loc:=by
 obtain⟨E,L,G2,G3,g,T,rfl,_⟩:=h;exact⟨_,rfl⟩
theorem JT{L:List LE}{A B:List dP}{s0:dP}(hn:(L.map (·.1)).Nodup)(hp:(L.map Ma).Perm ((A++s0::B).map DE)):((iM L s0.id).map Ma).Perm ((A++B).map DE):=by
 have lM:(((A++s0::B).map DE).map (·.1)).Nodup:=(hp.map _).nodup_iff.1 (by rw[gB];exact hn)
 have e1:(iM L s0.id).map Ma=(L.map Ma).filter fun p=>!decide (p.1=s0.id):=by
  unfold iM;rw[List.filter_map];rfl
 rw[e1];refine(hp.filter _).trans ?_
 have hA:∀ p∈A.map DE,(!decide (p.1=s0.id))=true:=fun p hp=>by
  obtain⟨x,hx,rfl⟩:=aT.1 hp
  have:x.id≠s0.id:=fun e=>by
   simp only[cQ,az,fu]at lM;exact lM.2.2 x.id (aT.2 ⟨_,fx hx,rfl⟩) s0.id (me ..) e
  simp[DE,this]
 have hB:∀ p∈B.map DE,(!decide (p.1=s0.id))=true:=fun p hp=>by
  obtain⟨x,hx,rfl⟩:=aT.1 hp
  have:x.id≠s0.id:=fun e=>by
   simp only[cQ,az,fu]at lM;exact(cP.1 lM.2.1).1 (aT.2 ⟨_,fx hx,e⟩)
  simp[DE,this]
 rw[cQ,az,gT,iW (by simp[DE]),iQ.2 hA,iQ.2 hB,cQ]
theorem JS{L:List LE}{M:List dP}(hn:(L.map (·.1)).Nodup)(hp:(L.map Ma).Perm (M.map DE)){k:Nat}{s0:dP}(hk:M[k]?=some s0):((iM L s0.id).map Ma).Perm ((M.take k++M.drop (k+1)).map DE):=by
 have oE:=(ab.1 hk).1
 have eM:M.take k++s0::M.drop (k+1)=M:=by
  have h1:M.drop k=s0::M.drop (k+1):=by
   rw[eC oE,(ab.1 hk).2]
  rw[← h1,jS]
 exact JT hn (by rw[eM];exact hp)
theorem JP{J:ae}{M:List dP}{next:Int}{S:ae}(h:Be J M next S)(hn:0≤next∧next<2^60)(hs:kg M)(hM:M.length≤1024)(e:En)(he:e.aew)(Ps:(cd e.aeq).length<2^27):
  PC prog 27 [.ptr (J.length+4) 0,.agg e.aen] S (fun r S'=>r=.i .i64 (fH M e)∧Be J (sJ M next e) (oS M next e) S'):=by
 obtain⟨E,L,G2,G3,g,T,rfl,hI,hp,cM⟩:=h
 have hid:bo next L=none:=by
  cases hg:bo next L with
  | none=>rfl
  | some v=>have:=cM _ (u6 hg);simp at this
 have hLM:L.length=M.length:=by have:=hp.length_eq;simpa using this
 by_cases h0:fH M e=0
 ·have h1:cG e=0:=by
   unfold fH at h0;split at h0
   ·exact h0
   ·rename_i h;simpa using h
  by_cases hk:aV e∈M.map dP.key
  ·obtain⟨s0,Gk,Ij⟩:=(uY hs _).1 hk;have nO:(s0.id,s0.cd)∈L.map Ma:=hp.mem_iff.2 (aT.2 ⟨s0,aL Gk,rfl⟩);obtain⟨x,hx,ub⟩:=aT.1 nO
   have hgx:∃ v,bo s0.id L=some v:=by
    have:s0.id∈L.map (·.1):=aT.2 ⟨x,hx,by have:=congrArg Prod.fst ub;exact this⟩;exact lH.1 ((fE _ _).1 this)
   obtain⟨⟨l0,m0⟩,Wr⟩:=hgx;refine(Hr J L G2 G3 next hn g M T hI hid (by omega) hM hs e he h1 s0 Gk Ij l0 m0 Wr Ps).mono ?_;rintro r S' ⟨rfl,E',T',m,G2',G3',rfl,hI'⟩;refine⟨by rw[h0],?_⟩;rw[sJ,aQ h0,aQ hk,oS,aQ h0];refine⟨E',_,G2',G3',g,T',rfl,hI',?_,fun x hx=>?_⟩
   ·have oE:=(ab.1 Gk).1;rw[cQ,GQ,aQ oE];have h2:=JS hI.keys hp Gk;simp only[cQ,az]at h2 ⊢;refine(h2.append_right _).trans ?_;rw[aM];exact jU _ (List.perm_append_comm.trans (List.Perm.refl _))
   ·rcases bQ.1 hx with h2 | h2
    ·have:=cM x (cc.1 h2).1;omega
    ·simp only[cR]at h2;subst h2;simp;omega
  ·have hM':M.length<1024:=by
    unfold fH at h0;rw[aC (by simp[h1])]at h0;split at h0
    ·rename_i h2;rcases h2 with h2 | h2
     ·exact absurd h2 hk
     ·exact h2
    ·cases h0
   refine(Hs J L G2 G3 next hn g M T hI hid (by omega) hM' hs e he h1 hk Ps).mono ?_;rintro r S' ⟨rfl,T',m,G2',G3',rfl,hI'⟩;refine⟨by rw[h0],?_⟩;rw[sJ,aQ h0,aC hk,oS,aQ h0];refine⟨E,_,G2',G3',g+1,T',rfl,hI',?_,fun x hx=>?_⟩
   ·rw[cQ,cQ,az];refine(hp.append_right _).trans ?_;have h3:M.map DE=(M.take (fG M (aV e))).map DE++(M.drop (fG M (aV e))).map DE:=by rw[← List.map_append,jS]
    rw[h3,aM];exact jU _ List.perm_append_comm
   ·rcases bQ.1 hx with h2 | h2
    ·have:=cM x h2;omega
    ·simp only[cR]at h2;subst h2;simp;omega
 ·refine(Ht J L G2 G3 next g M T hs hM e he h0).mono ?_;rintro r S' ⟨rfl,rfl⟩;rw[sJ,aC h0,oS,aC h0];exact⟨rfl,E,L,G2,G3,g,T,rfl,hI,hp,cM⟩
end Go.Proofs.Tryz
set_option maxHeartbeats 1000000
namespace Go.Proofs.Tryz
open Go Go.Pm Go.Bt
structure IM (M:List dP):Prop where
 len:M.length≤1024
 Mo:kg M
 ok:∀ s∈M,s.key=aV s.en∧s.cd=cd s.en.aeq∧cG s.en=0∧s.en.aew
theorem IM.nil:IM []:=⟨by decide,by simp[kg],fun s hs=>by cases hs⟩
theorem IM.join{M:List dP}(h:IM M){s:dP}(hs:s∈M):gN s.en=s.key:=by
 obtain⟨h1,_,h2,_⟩:=h.ok s hs;rw[h1,aV,aC (by rw[h2];decide)]
theorem IM.keys{M:List dP}(h:IM M):(M.map dP.en).map gN=M.map dP.key:=by
 rw[gB];exact cD fun s hs=>h.join hs
theorem IM.aew{M:List dP}(h:IM M):∀ e∈M.map dP.en,e.aew:=fun e he=>by
 obtain⟨s,hs,rfl⟩:=aT.1 he;exact(h.ok s hs).2.2.2
theorem DX{M:List dP}(hs:kg M)(k:List UInt8):∀ s∈M.take (fG M k),eB s.key k<0:=fun s hm=>by
 obtain⟨i,hi⟩:=cU.1 hm;rw[dp]at hi;split at hi
 ·rename_i h;exact(s4 hs k i s hi).2 h
 ·cases hi
theorem E1{M:List dP}(hs:kg M)(k:List UInt8):∀ s∈M.drop (fG M k),¬ eB s.key k<0:=fun s hm h=>by
 obtain⟨i,hi⟩:=cU.1 hm;rw[cv]at hi;have:=(s4 hs k _ s hi).1 h;omega
theorem MQ{M:List dP}(h:IM M)(next:Int)(e:En)(he:e.aew):IM (sJ M next e):=by
 unfold sJ;split
 ·rename_i h0
  have h1:cG e=0:=by
   unfold fH at h0;split at h0
   ·exact h0
   ·rename_i h;simpa using h
  have pE:(mo next e).key=aV (mo next e).en∧(mo next e).cd=cd (mo next e).en.aeq∧cG (mo next e).en=0∧(mo next e).en.aew:=⟨rfl,rfl,h1,he⟩;have acj:=AJ M (aV e)
  have key:∀ B:List dP,(∀ s∈B,s∈M)→kg B→(∀ s∈B,eB (aV e) s.key<0)→fG M (aV e)+1+B.length≤1024→IM (M.take (fG M (aV e))++mo next e::B):=fun B b1 b2 b3 b4 =>
   ⟨by rw[al,ba,ai];omega,by
    unfold kg;rw[cQ,az,List.pairwise_append,gS];have hA:((M.take (fG M (aV e))).map dP.key).Pairwise fun a b=>eB a b<0:=by rw[DO];exact h.Mo.sublist (List.take_sublist _ _)
    refine⟨hA,⟨fun y hy=>?_,b2⟩,fun a ha b hb=>?_⟩
    ·obtain⟨s,hs,rfl⟩:=aT.1 hy;exact b3 s hs
    ·obtain⟨s,hs,rfl⟩:=aT.1 ha;have h3:=DX h.Mo _ s hs;rcases bn.1 hb with rfl | hb
     ·exact h3
     ·obtain⟨t,ht,rfl⟩:=aT.1 hb;exact kQ h3 (b3 t ht),fun s hs=>by
    rcases bQ.1 hs with h2 | h2
    ·exact h.ok s (df h2)
    ·rcases bn.1 h2 with rfl | h2
     ·exact pE
     ·exact h.ok s (b1 s h2)⟩
  split
  ·rename_i hk;obtain⟨s0,Gk,Ij⟩:=(uY h.Mo _).1 hk;have oE:=(ab.1 Gk).1;rw[GQ,aQ oE];refine key _ (fun s hs=>dh hs) ?_ (fun s hs=>?_) (by rw[bJ];have:=h.len;omega)
   ·unfold kg;rw[V3];exact h.Mo.sublist (List.drop_sublist _ _)
   ·obtain⟨i,hi⟩:=cU.1 hs;rw[cv]at hi;have u5:=(ab.1 hi).1;have:=sb.1 h.Mo (fG M (aV e)) (fG M (aV e)+1+i) (by rw[aj];omega) (by rw[aj];omega) (by omega);rw[List.getElem_map,List.getElem_map,(ab.1 Gk).2,(ab.1 hi).2,Ij]at this;exact this
  ·rename_i hk
   have hl:M.length<1024:=by
    unfold fH at h0;rw[aC (by simp[h1])]at h0;split at h0
    ·rename_i h2;exact h2.elim (fun h=>absurd h hk) id
    ·cases h0
   refine key _ (fun s hs=>dh hs) ?_ (fun s hs=>?_) (by rw[bJ];omega)
   ·unfold kg;rw[V3];exact h.Mo.sublist (List.drop_sublist _ _)
   ·have h2:=E1 h.Mo _ s hs;have h3:s.key≠aV e:=fun e2=>hk (aT.2 ⟨s,dh hs,e2⟩);have h4:=jM.ku s.key (aV e);have h5:eB s.key (aV e)≠0:=fun h=>h3 (lN.1 h);omega
 ·exact h
end Go.Proofs.Tryz
set_option maxRecDepth 4000
set_option maxHeartbeats 1000000
namespace Go.Proofs.Tryz
open Go Go.Pm Go.Bt
theorem mN{S:ae}{i:Nat}{o:Ob}(h:S[i]?=some o)(l:ae):(S++l)[i]?=some o:=by
 rw[ag (ab.1 h).1];exact h
theorem OW{ea eb ec:Nat}{S:ae}(x m1 m2 m3:Nat)(hx:S[x]?=some (.box 170 [.mp m1,.mp m2,.mp m3]))(L:List LE)(hLn:L.length<2^20)(h1:S[m1]?=some (.map 3 ea (emap dq wv L)))(G2:List (GK×(Nat×Nat)))(f2:GK→List (Int×Int))(h2:S[m2]?=some (.map 184 eb (emap mj ko G2)))
  (zg:∀ k r g,bo k G2=some (r,g)→S[r]?=some (fM 190 g (f2 k))) (EE:∀ k,bo k G2=none→f2 k=[]) (AS:∀ k,∀ p∈f2 k,0≤p.2) (Q4:∀ k,(f2 k).length<2^30)
  (G3:List (TK×(Nat×Nat))) (f3:TK→List (Int×Int)) (h3:S[m3]?=some (.map 150 ec (emap fw ko G3)))
  (KD:∀ k r g,bo k G3=some (r,g)→S[r]?=some (fM 190 g (f3 k))) (ED:∀ k,bo k G3=none→f3 k=[]) (NX:∀ k,∀ p∈f3 k,0≤p.2) (Q3:∀ k,(f3 k).length<2^30)
  (q:List It) (hl:q.length<2^27) (xN:∀ g∈bK (aI q),0≤g.2) (Gs:∀ p∈gV [] q,0≤p.2)
  (hm:gF (nf f2 (bK (aI q)))+gF (ng f3 (gV [] q))≤2^40) (p:Int) (hp : -(2^40)≤p∧p≤2^40)
  (hq:(gp q).ok (2^40)∧0≤fV q∧fV q≤2^40) (hL:∀ e∈L,(gp e.2.1).ok (2^40)∧0≤fV e.2.1∧fV e.2.1≤2^40) :
  PC prog 58 [.ptr x 0,.sl 3 (q.map It.aen),.i .i64 p] S (fun r S'=>∃ (D:List (TK×Int)) (E:List LE),D.Perm (gV [] q)∧E.Perm L∧r=.sl 1 ((((E.filter (p8 q (cI (cI [] (nf f2 (bK (aI q)))) (ng f3 D)) p)).map (·.1)).mergeSort fun x y=>decide (x≤y)).map cq)∧S'=S):=by
 refine PC.intro func58 c58 fun bz er=>aB ?_;simp only[p58,SS,seval];simp only[VV,seval];refine aA (yD q hl _) rfl ?_;simp only[Qd,oo,sV,VV,seval];generalize hT:[Ob.box 162 _,Ob.map 150 3 _,Ob.box 162 _,Ob.box 162 _]=T4;have hTl:T4.length=4:=by rw[← hT];rfl
 have e3:(S++T4)[S.length+1]?=some (.map 150 3 (emap fw dq (gV [] q))):=by rw[← hT];simp
 have e7:(S++T4)[S.length+3]?=some (.box 162 (oo q (S.length+1))):=by rw[← hT];simp[oo,sV]
 refine fJ (G9 (S:=S++T4) x m1 m2 m3 (S.length+1) (mN hx _) G2 f2 (mN h2 _) (fun k r g h=>mN (zg k r g h) _) EE AS Q4 G3 f3 (mN h3 _) (fun k r g h=>mN (KD k r g h) _) ED NX Q3 q hl e3 xN Gs hm) rfl ?_;rintro r S' ⟨D,ps,cur,hD,rfl,rfl⟩;have e8:∀ a b c,(S++T4++[a,b,c])[(S++T4).length+1]?=some b:=fun a b c=>by rw[aw (by omega)];simp
 have e8':=e8 (.box 162 (oo q (S.length+1))) (.map 3 160 (emap dq lL (cI (cI [] (nf f2 (bK (aI q)))) (ng f3 D)))) (.iter false (S.length+1) 3 (emap fw dq (gV [] q)).length ps cur);have e7':=mN e7 [.box 162 (oo q (S.length+1)),.map 3 160 (emap dq lL (cI (cI [] (nf f2 (bK (aI q)))) (ng f3 D))),.iter false (S.length+1) 3 (emap fw dq (gV [] q)).length ps cur];have hx':=mN (mN hx T4) [.box 162 (oo q (S.length+1)),.map 3 160 (emap dq lL (cI (cI [] (nf f2 (bK (aI q)))) (ng f3 D))),.iter false (S.length+1) 3 (emap fw dq (gV [] q)).length ps cur];have h1':=mN (mN h1 T4) [.box 162 (oo q (S.length+1)),.map 3 160 (emap dq lL (cI (cI [] (nf f2 (bK (aI q)))) (ng f3 D))),.iter false (S.length+1) 3 (emap fw dq (gV [] q)).length ps cur];have QU:∃ l7,S++T4++[.box 162 (oo q (S.length+1)),.map 3 160 (emap dq lL (cI (cI [] (nf f2 (bK (aI q)))) (ng f3 D))),.iter false (S.length+1) 3 (emap fw dq (gV [] q)).length ps cur]=S++l7:=⟨_,aM ..⟩;generalize S++T4++[Ob.box 162 (oo q (S.length+1)),.map 3 160 (emap dq lL (cI (cI [] (nf f2 (bK (aI q)))) (ng f3 D))),.iter false (S.length+1) 3 (emap fw dq (gV [] q)).length ps cur]=S5 at e8' e7' hx' h1' QU ⊢;simp only[hx',h1',VV,seval];rw[al]at e8'
 have CS:IX (nf f2 (bK (aI q))):=fun i hi=>by
  obtain⟨g,hg,hi⟩:=gJ.1 hi;exact Ge (xN g hg) (AS _) i hi
 have Sq:IX (ng f3 D):=fun i hi=>by
  obtain⟨g,hg,hi⟩:=gJ.1 hi;exact uZ (Gs g (hD.mem_iff.1 hg)) (NX _) i hi
 have hsD:gF (ng f3 D)=gF (ng f3 (gV [] q)):=oH _ hD;have hO:OB (2^40) (cI (cI [] (nf f2 (bK (aI q)))) (ng f3 D)):=((OB.nil.apply _ CS).apply _ Sq).mono (by omega);refine cE.bk (fr':=(uu 2 (.i .i64 p::uu 4 (.ptr (S.length+3) 0::.mp (S.length+T4.length+1)::.nil::uu 11 (.it (S5.length+0)::uu 28 []))))) (by repeat' constructor) ((emap dq wv L).length+1) (QB m1 (S.length+3) (S.length+T4.length+1) (S.length+1) L hLn h1' q e7' _ hO e8' p hp hq hL 0 _ (List.range (emap dq wv L).length) none [] .nil [.iter false m1 ea (emap dq wv L).length (List.range (emap dq wv L).length) none] (by simp) lf (by simp[emap]) (by simp[emap]) (by simp) (.inl ⟨rfl,rfl⟩) ?_);rintro E v' T' hE AV;rw[lY,kn]at hE;rw[bh]at AV;simp only[JE];intros;rcases AV with⟨KL,rfl⟩ | ⟨j,g,rfl,hj0,hj⟩
 ·simp only[VV,seval];refine aA (PC.MI Tryz.Pf) rfl ?_;obtain⟨l7,rfl⟩:=QU;simp only[aM,VV,seval];refine uW (ys:=[.sl 1 []]) bz (.inr rfl) (by simp only[RS,seval];rfl) ?_ ?_ ⟨D,E,hD,hE,by rw[KL];simp;rfl,rfl⟩
  ·exact .cons (.nil _) .nil
  ·simp[LW]
 ·simp only[VV,seval];have hj':∀ o,(S5++T').set (S5.length+j) o=S5++T'.set j o:=fun o=>by rw[bZ _ _ (by omega)];simp
  have hjx:(S5++T')[S5.length+j]?=T'[j]?:=by rw[aw (by omega)];simp
  have hEl:=hE.length_eq;have si:=dQ (p8 q (cI (cI [] (nf f2 (bK (aI q)))) (ng f3 D)) p) E;refine aA (PC.Jx Tryz.Pf _ (by rw[aj];omega) (hjx.trans hj)) rfl ?_;rw[hj'];have jr:=(ab.1 hj).1;obtain⟨l7,rfl⟩:=QU;simp only[aM,al,VV,seval];refine sH (l7.length+j) bz (.inr rfl) (by simp only[RS,seval];rfl) (by rw[aw (by omega),eY,ak jr]) ?_ ⟨D,E,hD,hE,?_,rfl⟩
  ·simp[fz,wU,LW,iF]
  ·simp only[fz,wU,iF,az,dj];simp;rfl
end Go.Proofs.Tryz
set_option maxRecDepth 8000
set_option maxHeartbeats 2000000
namespace Go.Proofs.Tryz
open Go Go.Pm Go.Bt
end Go.Proofs.Tryz
