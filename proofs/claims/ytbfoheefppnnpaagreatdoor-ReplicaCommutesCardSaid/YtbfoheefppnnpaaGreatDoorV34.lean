/- A part of the proof of the statement of the last text of this claim: for every two lists of integers ReplicaCommutes returns true and leaves the memory as it was. -/
import Derived.WalkKit
import Derived.Laws.Externs
import Derived.Test.YtbfoheefppnnpaaGreatDoorV17
import Derived.Test.YtbfoheefppnnpaaGreatDoorV18
import Derived.Test.YtbfoheefppnnpaaGreatDoorV23
import Derived.Test.YtbfoheefppnnpaaGreatDoorV33
set_option linter.all false

namespace Go.Proofs.Tryz
open Go Go.Pm Go.Bt Go.RowKit
theorem infoOp:(Tryz.prog.info? 35).map (·.size)=some 13:=by kernel_rfl
def insSh (cur:Array Value) (n i:Nat) (news:List Value):Array Value :=
 ((cur.toList.take (i*13)++news++(cur.toList.take (n*13)).drop (i*13))++cur.toList.drop ((n+1)*13)).toArray
set_option maxRecDepth 100000 in
set_option maxHeartbeats 4000000 in
theorem insert_shift (g n c i vb voff vc:Nat) (cur:Array Value) (news:List Value) (w:World) (hi:i<n) (hroom:n+1≤c) (hc63:c≤9223372036854775807) (hvb:vb≠g)
  (hg:w.heap[g]?=some (.cells cur 35 (0,0))) (hsz:cur.size=c*13) (hnl:news.length=13) (hvs:∀ j v,news[j]?=some v→w.cell? ⟨vb,voff+j,none⟩=some v)
  (h1c:∀ v∈cur.toList.take (n*13),v.oneCell'=true) (h1v:∀ v∈news,v.oneCell'=true)
  (tA tB:TypeId) (kA kB:Nat) (hsa:w.shape? vb=some (tA,kA)) (hsb:w.shape? g=some (tB,kB)) (hkB:kB≠0) (hfa:w.frozen? ⟨vb,voff,none⟩=false) (hfe:w.frozen? ⟨vb,kA,none⟩=false) :
  Calls Tryz.prog 62 #[.slice (some ⟨g,0,none⟩) n c,.int .i64 i,.slice (some ⟨vb,voff,none⟩) 1 vc] w fun e w' =>
   e=.returned (.slice (some ⟨g,0,none⟩) (n+1) c)∧w'=w.drew.setRow g (insSh cur n i news):=by
 have hov:∀ lb cb,(callFunc 95 #[.slice (some ⟨vb,voff,none⟩) 1 vc,.slice (some ⟨g,(i+1)*13,none⟩) lb cb]).run Tryz.prog w=.ok (.value (.bool false)) w:=fun lb cb=>by
  rw [run_callFunc_extern Tryz.func95 (by kernel_rfl) (by kernel_rfl) (by kernel_rfl) (e:=Extern.SlicesOverlaps.overlaps #[25,25] #[4]) (by kernel_rfl),
   Lib.run_overlaps_apart w 25 4 35 Tryz.underlying25 13 (fun w=>Tryz.sizeOf35 w) ⟨vb,voff,none⟩ ⟨g,(i+1)*13,none⟩ 1 vc lb cb hvb tA tB kA kB hsa hsb hkB hfa hfe]
  rfl
 have hw1:IntKind.i64.wrap ((i:Int)+1)=(i:Int)+1:=by rw [IntKind.wrap_i64];omega
 have hw2:IntKind.i64.wrap ((n:Int)+1)=(n:Int)+1:=by rw [IntKind.wrap_i64];omega
 have hz2:¬ ((i:Int)=(n:Int)):=by omega
 have hb1:(0:Int)≤(i:Int)+1:=by omega
 have hin:i≤n:=by omega
 have htn:((i:Int)+1).toNat=i+1:=by omega
 have htm:((n:Int)+1).toNat=n+1:=by omega
 have hb2:¬ (c=i+1):=by omega
 have hb3:(i:Int)≤(n:Int)+1:=by omega
 have hb4:¬ (c=i):=by omega
 have hU:=Tryz.underlying25
 have hcl:((cur.toList.take (n*13)).drop (i*13)).length=(n - i)*13:=by
  rw [List.length_drop,List.length_take,Array.length_toList,hsz,Nat.sub_mul]
  have:n*13≤c*13:=Nat.mul_le_mul_right _ (by omega)
  omega
 generalize hcs:(cur.toList.take (n*13)).drop (i*13)=cs at hcl
 have hcm:∀ j v,cs[j]?=some v→(w.drew).cell? ((⟨g,i*13,none⟩:Addr).add j)=some v:=by
  intro j v hj
  rw [← hcs,List.getElem?_drop,List.getElem?_take] at hj
  split at hj
  ·rw [Addr.add_lit]
   simp only [World.cell?,show w.drew.heap[g]?=some (.cells cur 35 (0,0)) from hg]
   simpa using hj
  ·cases hj
 have mixed:Tryz.prog.follows Departure.mixedOrders=true:=by kernel_rfl
 have hmin:Nat.min (n+1 - i) (n - i)=n - i:=Nat.min_eq_right (by omega)
 have hcp1:∀ ty dc sc,(Builtin.copy_ #[25,25] ty #[.slice (some ⟨g,(i+1)*13,none⟩) (n - i) dc,.slice (some ⟨g,i*13,none⟩) (n+1 - i) sc]).run Tryz.prog w.drew=.ok (goInt (Nat.min (n+1 - i) (n - i):Nat)) (w.drew.setRow g (cur.toList.take ((i+1)*13)++cs++cur.toList.drop ((i+1)*13+cs.length)).toArray):=fun ty dc sc =>
  run_copyK w.drew _ _ ty 35 g ((i+1)*13) _ dc ⟨g,i*13,none⟩ _ sc cur 35 cs 13 hU infoOp hg (by rw [hcl,hmin]) hcm (by rw [hcl,hsz];omega)
   (fun v hv=>h1c v (List.mem_of_mem_drop (hcs▸hv)))
 generalize hc1:(cur.toList.take ((i+1)*13)++(cs++cur.toList.drop ((i+1)*13+(n - i)*13))).toArray=cur1
 have hs1:cur1.size=c*13:=by
  rw [← hc1]
  simp only [List.size_toArray,List.length_append,List.length_take,List.length_drop,Array.length_toList,hcl,hsz]
  omega
 have hg1:(w.drew.setRow g cur1).heap[g]?=some (.cells cur1 35 (0,0)):=setRow_heap w.drew g cur cur1 35 (0,0) hg
 have hmin2:Nat.min 1 (n+1 - i)=1:=Nat.min_eq_left (by omega)
 have hcp2:∀ ty dc,(Builtin.copy_ #[25,25] ty #[.slice (some ⟨g,i*13,none⟩) (n+1 - i) dc,.slice (some ⟨vb,voff,none⟩) 1 vc]).run Tryz.prog (w.drew.setRow g cur1)=.ok (goInt (Nat.min 1 (n+1 - i):Nat)) ((w.drew.setRow g cur1).setRow g (cur1.toList.take (i*13)++news++cur1.toList.drop (i*13+news.length)).toArray):=fun ty dc =>
  run_copyK _ _ _ ty 35 g (i*13) _ dc ⟨vb,voff,none⟩ _ vc cur1 35 news 13 hU infoOp hg1 (by rw [hnl,hmin2]) (fun j v hj=>by
   rw [Addr.add_lit]
   have h0:=hvs j v hj
   simp only [World.cell?,World.setRow,Array.getElem?_modify,if_neg (Ne.symm hvb)] at h0 ⊢
   exact h0) (by rw [hnl,hs1];omega) h1v
 go_enter Tryz.func62,Tryz.ntmps62
 go_wp2_with (simp only [hov])
 go_region_law_o (refine step_copy_runI rfl _ _ 25 25 rfl _ _ (by simp [Act.eval,Act.put]) (by simp [Act.eval,Act.put]) (hcp1 _ _ _) ?_)
 go_wp2_with (at_builtin;refine wpList_copy_runI _ rfl _ _ 25 25 rfl _ _ rfl rfl (hcp2 _ _) ?_)
 go_ret
 refine ⟨rfl,?_⟩
 rw [setRow_setRow]
 have hlt:((cur.toList.take ((i+1)*13))).length=(i+1)*13:=by
  rw [List.length_take,Array.length_toList,hsz]
  omega
 have e1:cur1.toList=cur.toList.take ((i+1)*13)++(cs++cur.toList.drop ((i+1)*13+(n - i)*13)):=by rw [← hc1]
 have e2:cur1.toList.take (i*13)=cur.toList.take (i*13):=by
  rw [e1,List.take_append_of_le_length (by rw [hlt];omega),List.take_take,Nat.min_eq_left (by omega)]
 have e3:cur1.toList.drop (i*13+13)=cs++cur.toList.drop ((n+1)*13):=by
  rw [e1,List.drop_append_of_le_length (by rw [hlt];omega),List.drop_eq_nil_of_le (by rw [hlt];omega),List.nil_append]
  congr 2
  omega
 rw [e2,e3,insSh,hcs]
 simp only [List.append_assoc]
set_option maxRecDepth 100000 in
set_option maxHeartbeats 4000000 in
theorem insert_grow (g n i vb voff vc:Nat) (cur:Array Value) (news:List Value) (w:World) (hi:i<n) (hn50:n≤2^30)
  (hg:w.heap[g]?=some (.cells cur 35 (0,0))) (hsz:cur.size=n*13) (hnl:news.length=13) (hvs:∀ j v,news[j]?=some v→w.cell? ⟨vb,voff+j,none⟩=some v)
  (h1c:∀ v∈cur.toList,v.oneCell'=true) (h1v:∀ v∈news,v.oneCell'=true) (hvw:vb<w.heap.size) :
  Calls Tryz.prog 62 #[.slice (some ⟨g,0,none⟩) n n,.int .i64 i,.slice (some ⟨vb,voff,none⟩) 1 vc] w fun e w' =>
   ∃ (G:Nat) (row:Array Value),e=.returned (.slice (some ⟨w.heap.size,0,none⟩) (n+1) G)∧n+1≤G∧G≤maxLen∧row.size=G*13 ∧
    row.toList.take ((n+1)*13)=cur.toList.take (i*13)++news++cur.toList.drop (i*13)∧w'.heap[w.heap.size]?=some (.cells row 35 (0,0))∧w.grownBy w' none:=by
 obtain ⟨i0,z,hi0,hz0,hs0,hb0,hzs⟩:=info_of (T:=35) (n:=13) (by':=184) (by kernel_rfl)
 have hU:=Tryz.underlying25
 have hI:=Tryz.underlying3
 have mixed:Tryz.prog.follows Departure.mixedOrders=true:=by kernel_rfl
 have hgw:g<w.heap.size:=(Array.getElem?_eq_some_iff.1 hg).1
 have hold:(Builtin.firstCells i0.size i (.slice (some ⟨g,0,none⟩) i n)).run Tryz.prog w.drew=.ok (cur.toList.take (i*13)).toArray w.drew:=by
  rw [hs0]
  exact run_firstCells_some w.drew 13 i ⟨g,0,none⟩ i n (cur.toList.take (i*13)) (by rw [List.length_take,Array.length_toList,hsz];omega) (fun j v hj=>by
   rw [Addr.add_lit]
   rw [List.getElem?_take] at hj
   split at hj
   ·simp only [World.cell?,show w.drew.heap[g]?=some (.cells cur 35 (0,0)) from hg]
    simpa using hj
   ·cases hj)
 have hik:i+(n+1 - i)=n+1:=by omega
 have hkk:(n:Int)+1 - (i:Int)=((n+1 - i:Nat):Int):=by omega
 have hrz:∀ ty,(Builtin.append_ #[25,3] ty #[.slice (some ⟨g,0,none⟩) i n,.int .i64 ((n:Int)+1 - (i:Int))]).run Tryz.prog w =
   .ok (.slice (some ⟨w.heap.size,0,none⟩) (n+1) (grownCap w (n+1) n 35)) (w.drew.alloc (.cells ((cur.toList.take (i*13)).toArray++Builtin.zeroCells z.cells (n+1 - i)++Builtin.zeroCells z.cells (grownCap w (n+1) n 35 - (n+1))) 35)):=fun ty=>by
  have h:=Lib.run_append_grow_zeros w 25 3 ty 35 i0 z .i64 .i64 hU hI hi0 hz0 (some ⟨g,0,none⟩) i n (cur.toList.take (i*13)) hold (n+1 - i) (by omega) (by omega) (by omega) (by omega) (by rw [hb0];omega) (by rw [hb0,hik];exact growslice_fits (by omega) (by omega))
  rw [hik] at h
  rw [hkk]
  exact h
 have hGn:n+1≤grownCap w (n+1) n 35:=grownCap_ge w _ _ _
 have hGm:grownCap w (n+1) n 35≤maxLen:=grownCap_le_maxLen w _ _ _ (by unfold maxLen;omega)
 generalize hG:grownCap w (n+1) n 35=G at hrz hGn hGm
 have hzc:∀ k,(Builtin.zeroCells z.cells k).size=k*13:=fun k=>by simp [Builtin.zeroCells,hzs]
 have hRl:((cur.toList.take (i*13)).toArray++Builtin.zeroCells z.cells (n+1 - i)++Builtin.zeroCells z.cells (G - (n+1))).size=G*13:=by
  rw [Array.size_append,Array.size_append,hzc,hzc,List.size_toArray,List.length_take,Array.length_toList,hsz]
  omega
 have hRt:((cur.toList.take (i*13)).toArray++Builtin.zeroCells z.cells (n+1 - i)++Builtin.zeroCells z.cells (G - (n+1))).toList.take (i*13)=cur.toList.take (i*13):=by
  have hl:(cur.toList.take (i*13)).length=i*13:=by rw [List.length_take,Array.length_toList,hsz];omega
  simp only [Array.toList_append,List.append_assoc]
  rw [List.take_append_of_le_length (by rw [hl];exact Nat.le_refl _),List.take_of_length_le (by rw [hl];exact Nat.le_refl _)]
 generalize hROW:(cur.toList.take (i*13)).toArray++Builtin.zeroCells z.cells (n+1 - i)++Builtin.zeroCells z.cells (G - (n+1))=ROW at hrz hRl hRt
 have hz2:¬ ((i:Int)=(n:Int)):=by omega
 have hz3:(n:Int)<(n:Int)+1:=by omega
 have hw1:IntKind.i64.wrap ((i:Int)+1)=(i:Int)+1:=by rw [IntKind.wrap_i64];omega
 have hw2:IntKind.i64.wrap ((n:Int)+1)=(n:Int)+1:=by rw [IntKind.wrap_i64];omega
 have hw3:IntKind.i64.wrap ((n:Int)+1 - (i:Int))=(n:Int)+1 - (i:Int):=by rw [IntKind.wrap_i64];omega
 have hb1:(0:Int)≤(i:Int)+1:=by omega
 have hin:i≤n:=by omega
 have htn:((i:Int)+1).toNat=i+1:=by omega
 have hb3:(i:Int)≤(n:Int):=by omega
 have hb5:(i:Int)≤(n:Int)+1:=by omega
 have hG63:G≤9223372036854775807:=by unfold maxLen at hGm;omega
 have hGi:¬ (G=i):=by omega
 have hGim:¬ (G=i+1):=by omega
 have hci:¬ (n=i):=by omega
 have hgN:¬ (w.heap.size=g):=by omega
 have hvN:¬ (w.heap.size=vb):=by omega
 have hgA:(w.alloc (.cells ROW 35)).drew.heap[w.heap.size]?=some (.cells ROW 35 (0,0)):=heap_alloc_new w _
 have hmin2:Nat.min 1 (n+1 - i)=1:=Nat.min_eq_left (by omega)
 have hminB:Nat.min (n - i) (n - i)=n - i:=Nat.min_eq_left (Nat.le_refl _)
 have hcpA:∀ ty dc,(Builtin.copy_ #[25,25] ty #[.slice (some ⟨w.heap.size,i*13,none⟩) (n+1 - i) dc,.slice (some ⟨vb,voff,none⟩) 1 vc]).run Tryz.prog (w.alloc (.cells ROW 35)).drew =
   .ok (goInt (Nat.min 1 (n+1 - i):Nat)) ((w.alloc (.cells ROW 35)).drew.setRow w.heap.size (ROW.toList.take (i*13)++news++ROW.toList.drop (i*13+news.length)).toArray):=fun ty dc =>
  run_copyK _ _ _ ty 35 w.heap.size (i*13) _ dc ⟨vb,voff,none⟩ _ vc ROW 35 news 13 hU infoOp hgA (by rw [hnl,hmin2]) (fun j v hj=>by
   rw [Addr.add_lit]
   exact (World.cell?_alloc_past (w:=w) _ vb (voff+j) hvw).trans (hvs j v hj)) (by rw [hnl,hRl];omega) h1v
 have hRA:(ROW.toList.take (i*13)++news++ROW.toList.drop (i*13+news.length)).length=G*13:=by
  simp only [List.length_append,List.length_take,List.length_drop,Array.length_toList,hRl,hnl]
  omega
 generalize hra:(ROW.toList.take (i*13)++news++ROW.toList.drop (i*13+news.length)).toArray=RA at hcpA
 have hras:RA.size=G*13:=by rw [← hra,List.size_toArray,hRA]
 have hgB:((w.alloc (.cells ROW 35)).drew.setRow w.heap.size RA).drew.heap[w.heap.size]?=some (.cells RA 35 (0,0)):=setRow_heap _ w.heap.size ROW RA 35 (0,0) hgA
 have hcl:(cur.toList.drop (i*13)).length=(n - i)*13:=by
  rw [List.length_drop,Array.length_toList,hsz,Nat.sub_mul]
 have hcpB:∀ ty dc sc,(Builtin.copy_ #[25,25] ty #[.slice (some ⟨w.heap.size,(i+1)*13,none⟩) (n - i) dc,.slice (some ⟨g,i*13,none⟩) (n - i) sc]).run Tryz.prog ((w.alloc (.cells ROW 35)).drew.setRow w.heap.size RA).drew =
   .ok (goInt (Nat.min (n - i) (n - i):Nat)) (((w.alloc (.cells ROW 35)).drew.setRow w.heap.size RA).drew.setRow w.heap.size (RA.toList.take ((i+1)*13)++cur.toList.drop (i*13)++RA.toList.drop ((i+1)*13+(cur.toList.drop (i*13)).length)).toArray):=fun ty dc sc =>
  run_copyK _ _ _ ty 35 w.heap.size ((i+1)*13) _ dc ⟨g,i*13,none⟩ _ sc RA 35 (cur.toList.drop (i*13)) 13 hU infoOp hgB (by rw [hcl,hminB]) (fun j v hj=>by
   rw [Addr.add_lit]
   rw [List.getElem?_drop] at hj
   have h0:(w.alloc (.cells ROW 35)).heap[g]?=some (.cells cur 35 (0,0)):=by
    rw [Below.heap_alloc w _ g hgw];exact hg
   have h1:((w.alloc (.cells ROW 35)).drew.setRow w.heap.size RA).drew.heap[g]?=some (.cells cur 35 (0,0)):=by
    simp only [World.setRow,World.drew,Array.getElem?_modify,if_neg hgN]
    exact h0
   simp only [World.cell?,h1]
   simpa using hj) (by rw [hcl,hras];omega) (fun v hv=>h1c v (List.mem_of_mem_drop hv))
 clear hkk hik hold hROW hG hRl
 go_enter Tryz.func62,Tryz.ntmps62
 go_wp2_with (first
  | (at_builtin;refine Lib.wpList_append_run _ rfl _ _ _ _ rfl _ _ rfl rfl _ _ (hrz _) ?_)
  | (at_builtin;refine wpList_copy_runI _ rfl _ _ 25 25 rfl _ _ rfl rfl (hcpA _ _) ?_))
 go_region_law_o (refine step_copy_runI rfl _ _ 25 25 rfl _ _ (by simp [Act.eval,Act.put]) (by simp [Act.eval,Act.put]) (hcpB _ _ _) ?_)
 go_wp2
 go_ret
 have hlt:(cur.toList.take (i*13)).length=i*13:=by rw [List.length_take,Array.length_toList,hsz];omega
 have e1:RA.toList=cur.toList.take (i*13)++(news++ROW.toList.drop (i*13+news.length)):=by rw [← hra,← hRt,List.append_assoc]
 have e2:RA.toList.take ((i+1)*13)=cur.toList.take (i*13)++news:=by
  have hl:(cur.toList.take (i*13)++news).length=(i+1)*13:=by rw [List.length_append,hlt,hnl];omega
  rw [e1,← List.append_assoc,List.take_append_of_le_length (by rw [hl];exact Nat.le_refl _),List.take_of_length_le (by rw [hl];exact Nat.le_refl _)]
 have hl2:(RA.toList.take ((i+1)*13)++cur.toList.drop (i*13)).length=(n+1)*13:=by
  rw [e2,List.length_append,List.length_append,hlt,hnl,hcl];omega
 refine ⟨G,_,rfl,hGn,hGm,?_,?_,setRow_heap _ _ RA _ 35 (0,0) hgB,?_⟩
 ·rw [List.size_toArray,← List.append_assoc,List.length_append,hl2,List.length_drop,Array.length_toList,hras]
  omega
 ·show List.take ((n+1)*13) (RA.toList.take ((i+1)*13)++(cur.toList.drop (i*13)++RA.toList.drop ((i+1)*13+(n - i)*13)))=_
  rw [← List.append_assoc,List.take_append_of_le_length (by rw [hl2];exact Nat.le_refl _),List.take_of_length_le (by rw [hl2];exact Nat.le_refl _),e2]
 ·refine ⟨rfl,rfl,rfl,?_,fun k hk _=>?_⟩
  ·simp only [World.setRow,World.drew,Array.size_modify,World.alloc,Array.size_push]
   omega
  ·simp only [World.setRow,World.drew,Array.getElem?_modify,if_neg (show ¬ w.heap.size=k by omega)]
   exact Below.heap_alloc w _ k hk
theorem rowR_ins {w:World} {σ:Store} {μ:Mem} {xs:List (List V)} {r:List V} {sz:Nat} {vals news:List Value} (h:RowR w σ μ xs sz vals) (hl:vals.length=xs.length*sz) (hr:RowR w σ μ [r] sz news) (hn:news.length=sz) (m:Nat) (hm:m≤xs.length) :
  RowR w σ μ (xs.take m++r::xs.drop m) sz (vals.take (m*sz)++news++vals.drop (m*sz)):=by
 have hlt:(vals.take (m*sz)).length=m*sz:=by
  rw [List.length_take,hl]
  exact Nat.min_eq_left (Nat.mul_le_mul_right _ hm)
 have hxt:(xs.take m).length=m:=by rw [List.length_take];exact Nat.min_eq_left hm
 have h1:RowR w σ μ (xs.take m) sz (vals.take (m*sz)):=by
  refine ⟨fun q hq=>h.1 q (List.mem_of_mem_take hq),fun i j x hx=>?_⟩
  have hi:i<m:=by
   obtain ⟨q,hq,_⟩:=at2_some hx
   have:=(List.getElem?_eq_some_iff.1 hq).1
   omega
  have hx2:at2 xs i j=some x:=by
   simp only [at2,List.getElem?_take,if_pos hi] at hx ⊢
   exact hx
  obtain ⟨q1,u,q2,q3⟩:=h.2 i j x hx2
  have hj:j<sz:=by
   obtain ⟨q,hq,hq2⟩:=at2_some hx2
   have:=h.1 q (List.mem_of_getElem? hq)
   have:=(List.getElem?_eq_some_iff.1 hq2).1
   omega
  refine ⟨q1,u,?_,q3⟩
  have hlt2:i*sz+j<m*sz:=by
   have:(i+1)*sz≤m*sz:=Nat.mul_le_mul_right _ hi
   rw [Nat.add_mul,Nat.one_mul] at this
   omega
  rw [List.getElem?_take,if_pos hlt2]
  exact q2
 have h2:RowR w σ μ (xs.drop m) sz (vals.drop (m*sz)):=by
  refine ⟨fun q hq=>h.1 q (List.mem_of_mem_drop hq),fun i j x hx=>?_⟩
  have hx2:at2 xs (m+i) j=some x:=by
   simp only [at2,List.getElem?_drop] at hx ⊢
   exact hx
  obtain ⟨q1,u,q2,q3⟩:=h.2 _ j x hx2
  refine ⟨q1,u,?_,q3⟩
  rw [List.getElem?_drop,← q2,Nat.add_mul,Nat.add_assoc]
 have h3:=(h1.append hr (by rw [hlt,hxt])).append h2 (by rw [List.length_append,List.length_append,hlt,hn,hxt,Nat.add_mul];simp)
 simpa using h3
theorem insert_mid (l:List Opr) (x:Opr) (m id id2 g g2:Nat) (sh2:Bool) (hm:m<l.length) (hl:l.length<2^30) (σ:Store) (hne:id≠id2) (h1:σ[id]?=some (.row 35 13 184 g false (l.map Opr.cells))) (h2:σ[id2]?=some (.row 35 13 184 g2 sh2 [x.cells])) :
  PC Tryz.prog 62 [.own id g,.i .i64 m,.own id2 g2] σ (fun r σ'=>r=.own id (g+1)∧σ'=σ.set id (.row 35 13 184 (g+1) false ((l.take m++x::l.drop m).map Opr.cells))):=by
 refine PC.ofUpd h1 fun B w0 w μ vs hS hv=>?_
 have a0:=hv.2 0 _ rfl
 have a1:=(hv.2 1 _ rfl).inv_i
 have a2:=hv.2 2 _ rfl
 have a0:=a0.inv_own h1
 have a2:=a2.inv_own h2
 obtain ⟨_,vals,hown,hrow⟩:=hS.obj id _ h1
 obtain ⟨_,news,hown2,hrow2⟩:=hS.obj id2 _ h2
 have e:vs=#[μ id,.int .i64 m,μ id2]:=by
  obtain ⟨q⟩:=vs
  match q,hv.1 with
  | [u,v,y],_=>simp at a0 a1 a2;rw [a0,a1,a2]
 rw [e]
 have o1:=RowR.one hS hrow hown.1
 have o2:=RowR.one hS hrow2 hown2.1
 rcases hown.2 with ⟨_,hn⟩ | ⟨gb,cap,cur,hmu,hB,hg,hnc,hcm,hcs,hct⟩
 ·rw [List.length_map] at hn;omega
 rcases hown2.2 with ⟨_,hn⟩ | ⟨vb,cap2,cur2,hmu2,hB2,hg2,hnc2,hcm2,hcs2,hct2⟩
 ·simp at hn
 have hll:(l.map Opr.cells).length=l.length:=List.length_map ..
 rw [hll] at hmu hnc hct hown
 have hvb:vb≠gb:=fun e=>hne (hS.sep id id2 _ _ gb h1 h2 (by simp) (by simp) (by rw [hmu];rfl) (by rw [hmu2,e];rfl))
 have hnl:news.length=13:=by simpa using hown2.1
 have hvl:vals.length=l.length*13:=by rw [hown.1]
 have hvs:∀ j v,news[j]?=some v→w.cell? ⟨vb,0+j,none⟩=some v:=by
  intro j v hj
  rw [← hct2,List.getElem?_take] at hj
  split at hj
  ·simp only [World.cell?,hg2,Nat.zero_add];simpa using hj
  ·cases hj
 have hvw:vb<w.heap.size:=(Array.getElem?_eq_some_iff.1 hg2).1
 have hlen':((l.take m++x::l.drop m).map Opr.cells).length=l.length+1:=by simp;omega
 have hRow:RowR w σ μ ((l.take m++x::l.drop m).map Opr.cells) 13 (vals.take (m*13)++news++vals.drop (m*13)):=by
  have:=rowR_ins (r:=x.cells) hrow (by rw [hll];exact hvl) hrow2 hnl m (by rw [hll];omega)
  simpa [List.map_take,List.map_drop] using this
 have hnl2:(vals.take (m*13)++news++vals.drop (m*13)).length=(l.length+1)*13:=by
  simp only [List.length_append,List.length_take,List.length_drop,hvl,hnl];omega
 rw [hmu,hmu2]
 by_cases hroom:l.length+1≤cap
 ·refine (insert_shift gb l.length cap m vb 0 cap2 cur news w hm hroom (by unfold maxLen at hcm;omega) hvb hg hcs hnl hvs (fun v hv=>o1 v (hct▸hv)) o2 35 35 cur2.size cur.size (by simp [World.shape?,hg2]) (by simp [World.shape?,hg]) (by rw [hcs];omega) (by simp [World.frozen?,hg2]) (by simp [World.frozen?,hg2])).mono ?_
  rintro e w' ⟨rfl,rfl⟩
  refine ⟨_,_,rfl,?_,fun b hb=>.inl hb,?_,hRow⟩
  ·refine ⟨rfl,rfl,rfl,?_,fun k hk hne=>?_⟩
   ·simp only [World.setRow,World.drew,Array.size_modify];exact Nat.le_refl _
   ·have hk2:¬ gb=k:=fun e=>hne (by rw [e];rfl)
    simp only [World.setRow,World.drew,Array.getElem?_modify,if_neg hk2]
  ·rw [hlen']
   have e1:cur.toList.take (m*13)=vals.take (m*13):=by
    rw [← hct,List.take_take,Nat.min_eq_left (by omega)]
   have e2:(insSh cur l.length m news).toList=(vals.take (m*13)++news++vals.drop (m*13))++cur.toList.drop ((l.length+1)*13):=by
    rw [insSh,hct,e1]
   refine ⟨hnl2,.inr ⟨gb,cap,_,rfl,hB,setRow_heap w.drew gb cur _ 35 (0,0) hg,hroom,hcm,?_,?_⟩⟩
   ·have e3:(insSh cur l.length m news).size=(insSh cur l.length m news).toList.length:=Array.length_toList.symm
    rw [e3,e2,List.length_append,hnl2,List.length_drop,(show cur.toList.length=cap*13 from by rw [Array.length_toList,hcs])]
    omega
   ·rw [e2,List.take_append_of_le_length (by rw [hnl2];exact Nat.le_refl _),List.take_of_length_le (by rw [hnl2];exact Nat.le_refl _)]
 ·have hcap:cap=l.length:=by omega
  subst hcap
  have hall:cur.toList=vals:=by rw [← hct,List.take_of_length_le (by rw [Array.length_toList,hcs];exact Nat.le_refl _)]
  refine (insert_grow gb l.length m vb 0 cap2 cur news w hm (by omega) hg hcs hnl hvs (fun v hv=>o1 v (hall▸hv)) o2 hvw).mono ?_
  rintro e w' ⟨G,row,rfl,q1,q2,q3,q4,q5,q6⟩
  refine ⟨_,_,rfl,?_,fun b hb=>.inr ?_,?_,hRow⟩
  ·obtain ⟨p1,p2,p3,p4,p5⟩:=q6
   exact ⟨p1,p2,p3,p4,fun k hk hne=>p5 k hk (by simp)⟩
  ·simp only [blk,Option.some.injEq] at hb;omega
  ·rw [hlen']
   refine ⟨hnl2,.inr ⟨w.heap.size,G,row,rfl,by have:=(Array.getElem?_eq_some_iff.1 hg).1;omega,q5,q1,q2,q3,?_⟩⟩
   rw [q4,hall]
theorem insert_end (l:List Opr) (x:Opr) (id id2 g g2:Nat) (sh2:Bool) (hl:l.length<2^30) (σ:Store) (h1:σ[id]?=some (.row 35 13 184 g false (l.map Opr.cells))) (h2:σ[id2]?=some (.row 35 13 184 g2 sh2 [x.cells])) :
  PC Tryz.prog 62 [.own id g,.i .i64 l.length,.own id2 g2] σ (fun r σ'=>r=.own id (g+1)∧σ'=σ.set id (.row 35 13 184 (g+1) false ((l++[x]).map Opr.cells))):=by
 refine PC.intro Tryz.func62 c62 fun hcl hwf=>wpc_sound ?_
 simp only [p62,SS,seval]
 simp only [h1,h2,List.length_map,VV,reduceIte,reduceCtorEq]
 refine ⟨⟨by omega,by omega⟩,fun h=>by simp at h,fun _=>⟨⟨by omega,by unfold maxLen;omega⟩,?_⟩⟩
 exact ret_wk (.inr rfl) rfl (Wk.refl _ _) rfl ⟨rfl,by simp⟩
theorem insert_pc (l:List Opr) (x:Opr) (m id id2 g g2:Nat) (sh2:Bool) (hm:m≤l.length) (hl:l.length<2^30) (σ:Store) (hne:id≠id2) (h1:σ[id]?=some (.row 35 13 184 g false (l.map Opr.cells))) (h2:σ[id2]?=some (.row 35 13 184 g2 sh2 [x.cells])) :
  PC Tryz.prog 62 [.own id g,.i .i64 m,.own id2 g2] σ (fun r σ'=>r=.own id (g+1)∧σ'=σ.set id (.row 35 13 184 (g+1) false ((l.take m++x::l.drop m).map Opr.cells))):=by
 rcases Nat.lt_or_eq_of_le hm with h | rfl
 ·exact insert_mid l x m id id2 g g2 sh2 h hl σ hne h1 h2
 ·have:=insert_end l x id id2 g g2 sh2 hl σ h1 h2
  rwa [List.take_length,List.drop_length]
theorem placeOwnF (S:Store) (a b id g:Nat) (l:List Opr) (x:Opr) (ha:S[a]?=some (.box 25 [.own id g])) (hid:S[id]?=some (.row 35 13 184 g false (l.map Opr.cells))) (hb:S[b]?=some (.box 35 x.cells)) (k:Nat) (y:Opr) (hk:l[k]?=some y) :
  PC Tryz.prog 54 [.i .i64 k,.ptr a 0,.ptr b 0] S (fun r σ'=>r=.b (decide (0≤ordNo y x))∧σ'=S):=by
 refine PC.intro Tryz.func54 c54 fun hcl hwf=>wpc_sound ?_
 have hkl:k<l.length:=(List.getElem?_eq_some_iff.1 hk).1
 have hat:(l.map Opr.cells).getD k []=y.cells:=by simp [List.getD_eq_getElem?_getD,hk]
 simp only [p54,SS,seval]
 simp only [ha,hb,hid,hat,List.length_map,VV,seval]
 refine ⟨⟨by omega,by omega⟩,by rw [cells_len];exact Nat.le_refl _,by rw [cells_len];exact Nat.le_refl _,?_⟩
 refine call_eq (order_pc y x _) (by simp only [cells_take,VV,seval]) ?_
 simp only [VV,seval]
 exact ret_end0 (.inr rfl) rfl ⟨rfl,rfl⟩
theorem place_own (l:List Opr) (x:Opr) (m id g:Nat) (hl:l.length<2^39) (hm:m≤l.length) (h1:∀ (k:Nat) (y:Opr),l[k]?=some y→(0≤ordNo y x↔m≤k)) (σ:Store) (hid:σ[id]?=some (.row 35 13 184 g false (l.map Opr.cells))) :
  PC Tryz.prog 25 [.own id g,.agg x.cells] σ (fun r σ'=>r=.tup [.i .i64 m,.b (match l[m]? with | some y=>ordNo y x==0 | none=>false)]∧σ'=σ):=by
 refine PC.intro Tryz.func25 c25 fun hcl hwf=>wpc_sound ?_
 have hlt:id<σ.length:=(List.getElem?_eq_some_iff.1 hid).1
 have hid':∀ loc:Store,(σ++loc)[id]?=some (.row 35 13 184 g false (l.map Opr.cells)):=fun loc=>by rw [List.getElem?_append_left hlt];exact hid
 simp only [p25,SS,seval]
 simp only [Opr.cells,Stamp.cells,En.cells,List.length_map,hid,hid',VV,seval]
 refine call_eq (search_pc 54 [.ptr σ.length 0,.ptr (σ.length+1) 0] l.length m (by omega) hm (by kernel_rfl) (fun k hk=>?_)) rfl ?_
 ·obtain ⟨y,hy⟩:∃ y,l[k]?=some y:=⟨_,List.getElem?_eq_getElem hk⟩
  refine (placeOwnF _ σ.length (σ.length+1) id g l x (by simp only [VV,seval]) (hid' _) (by simp only [Opr.cells,Stamp.cells,En.cells,VV,seval]) k y hy).mono ?_
  rintro r σ' ⟨rfl,rfl⟩
  refine ⟨?_,rfl⟩
  simp only [decide_eq_decide.2 (h1 k y hy)]
 ·simp only [List.length_map,hid',VV,seval]
  have e1:((decide ((m:Int)<(l.length:Int))==true)=true)↔m<l.length:=by simp
  cases hy:l[m]? with
  | some y =>
   have hml:m<l.length:=(List.getElem?_eq_some_iff.1 hy).1
   have hat:(l.map Opr.cells).getD m []=y.cells:=by simp [List.getD_eq_getElem?_getD,hy]
   have hd:decide ((m:Int)<(l.length:Int))=true:=by simp;omega
   refine ⟨fun _=>⟨by omega,by omega⟩,.agg y.cells,fun _=>⟨by rw [hat,cells_take],by rw [hat,cells_len];exact Nat.le_refl _⟩,?_⟩
   refine callg_eq (c:=true) (by simp only [hd,VV,seval]<;>rfl) (fun _=>order_pc y x _) (by simp only [Opr.cells,Stamp.cells,En.cells,VV,seval]) ?_
   simp only [hd,VV,seval]
   exact ret_end hcl (.inr rfl) (by simp only [RS,seval];rfl) (by simp only [LW]) ⟨rfl,rfl⟩
  | none =>
   have hml:¬ m<l.length:=by simpa using hy
   have hd:decide ((m:Int)<(l.length:Int))=false:=by simp;omega
   refine ⟨fun h=>absurd (e1.1 h) hml,.u,fun h=>absurd (e1.1 h) hml,?_⟩
   refine callg_eq (c:=false) (v:=.i .i64 0) (by simp only [hd,VV,seval]<;>rfl) (fun h=>by simp at h) rfl ?_
   simp only [hd,VV,seval]
   exact ret_end hcl (.inr rfl) (by simp only [RS,seval];rfl) (by simp only [LW]) ⟨rfl,rfl⟩
set_option maxHeartbeats 1000000 in
theorem offAdd_pc (o:Off) (x:Opr) (m:Nat) (ho:o.small) (hx:x.small) (hok:opErr x=0) (hp:(encBody x).length≤60000) (hlog:o.log.length≤1000000) (hm:m≤o.ops.length) (h1:∀ (k:Nat) (y:Opr),o.ops[k]?=some y→(0≤ordNo y x↔m≤k)) (σ:Store) :
  PC Tryz.prog 28 [.agg o.cells,.agg x.cells] σ (fun r σ'=>r=.tup [.agg (putOff o x m).cells,.i .i64 0]∧σ'=σ):=by
 refine PC.intro Tryz.func28 c28 fun hcl hwf=>wpc_sound ?_
 have hlen:=ho.len
 simp only [p28,SS,seval]
 simp only [Off.cells,Opr.cells,Stamp.cells,En.cells,VV,seval]
 refine call_eq (encode_pc x hx _) (by simp only [Opr.cells,Stamp.cells,En.cells,VV,seval]) ?_
 simp only [enc_ok hok,VV,seval]
 refine call_eq (jAppend_pc o.log (encBody x) (by omega) (by omega) _) rfl ?_
 simp only [appendF_ok hp hlog,VV,seval]
 refine call_eq (viewOffice_own o ho _) (by simp only [Off.cells,VV,seval]) ?_
 simp only [opRow0,VV,seval]
 refine call_eq (place_own o.ops x m (σ.length+3) 0 (by omega) hm h1 _ (by simp only [VV,seval])) (by simp only [Opr.cells,Stamp.cells,En.cells,VV,seval]) ?_
 simp only [VV,seval]
 refine call_eq (viewOp_pc x hx _) (by simp only [Opr.cells,Stamp.cells,En.cells,VV,seval]) ?_
 simp only [Opr.cells,Stamp.cells,En.cells,VV,seval]
 refine call_eq (insert_pc o.ops x m (σ.length+3) (σ.length+5) 0 0 false hm hlen _ (by omega) (by simp only [VV,seval]) (by simp only [Opr.cells,Stamp.cells,En.cells,VV,seval])) rfl ?_
 simp only [VV,seval]
 refine ret_fz 3 hcl (.inr rfl) (by simp only [RS,seval];rfl) rfl ?_ ?_
 ·simp only [List.map_cons,List.map_nil,Pm.fz,fz1,and_self,if_true,LW]
 ·simp only [List.map_cons,List.map_nil,Pm.fz,fz1,and_self,if_true,putOff]
  exact ⟨rfl,trivial⟩
def mkOp (o:Off) (e:En) (sn:List Int):Opr:=⟨⟨o.clock+1,o.number,vAt sn o.number+1⟩,1,e,sn⟩
def madeOff (o:Off) (x:Opr) (m:Nat):Off:={ putOff o x m with synced:=(putOff o x m).log.length }
theorem vAt_pos (v:List Int) (o:Int):0≤vAt v o:=by
 unfold vAt
 (repeat' split)<;>omega
set_option maxHeartbeats 1000000 in
theorem made_ok (o:Off) (e:En) (he:e.small) (ho:o.small) (hd:o.down=false) (c:Nat→Nat) (hc:Counts o.ops c) (sn:List Int) (hsn:vJoin (countL c) []=sn) (hl:vAt sn o.number<128) (h0:0≤o.clock) (hcl:o.clock<2^30) (m:Nat)
  (hx:(mkOp o e sn).small) (hok:opErr (mkOp o e sn)=0) (hp:(encBody (mkOp o e sn)).length≤60000) (hlog:o.log.length≤1000000) (hm:m≤o.ops.length) (h1:∀ (k:Nat) (y:Opr),o.ops[k]?=some y→(0≤ordNo y (mkOp o e sn)↔m≤k)) (σ:Store) :
  PC Tryz.prog 34 [.agg o.cells,.i .i64 1,.agg e.cells] σ (fun r σ'=>r=.tup [.agg (madeOff o (mkOp o e sn) m).cells,.agg (mkOp o e sn).cells,.i .i64 0]∧σ'=σ):=by
 refine PC.intro Tryz.func34 c34 fun hcl hwf=>wpc_sound ?_
 have hv:=vAt_pos sn o.number
 have e1:IntKind.i64.wrap (o.clock+1)=o.clock+1:=IntWalk.i64_in _ (by omega)
 have e2:IntKind.i64.wrap (vAt sn o.number+1)=vAt sn o.number+1:=IntWalk.i64_in _ (by omega)
 have hb:(decide (128≤vAt sn o.number)||decide (1073741824≤o.clock))=false:=by simp;omega
 have hlen:(putOff o (mkOp o e sn) m).log.length<2^40:=by simp only [putOff,List.length_append,recF_len];omega
 simp only [p34,SS,seval]
 simp only [Off.cells,En.cells,VV,seval]
 refine call_eq (seen_pc o ho hd c hc _) (by simp only [Off.cells,VV,seval]) ?_
 simp only [hsn,VV,seval]
 refine call_eq (stampAt_pc sn o.number _) rfl ?_
 simp only [e1,e2,VV,seval]
 refine ⟨fun h=>(by rw [hb] at h;cases h),fun _=>?_⟩
 refine call_eq (offAdd_pc o (mkOp o e sn) m ho hx hok hp hlog hm h1 _) (by simp only [Off.cells,Opr.cells,Stamp.cells,En.cells,mkOp,VV,seval]) ?_
 simp only [Off.cells,VV,seval]
 refine call_eq (viewOp_pc (mkOp o e sn) hx _) (by simp only [Opr.cells,Stamp.cells,En.cells,mkOp,VV,seval]) ?_
 simp only [Opr.cells,Stamp.cells,En.cells,bytesV_length,VV,seval]
 refine ret_end hcl (.inr rfl) (by simp only [RS,seval];rfl) (by simp only [LW]) ⟨rfl,rfl⟩
theorem confirm_ok (o:Off) (e:En) (he:e.small) (heok:entryErr e=0) (ho:o.small) (hd:o.down=false) (c:Nat→Nat) (hc:Counts o.ops c) (sn:List Int) (hsn:vJoin (countL c) []=sn) (hl:vAt sn o.number<128) (h0:0≤o.clock) (hck:o.clock<2^30) (m:Nat)
  (hx:(mkOp o e sn).small) (hok:opErr (mkOp o e sn)=0) (hp:(encBody (mkOp o e sn)).length≤60000) (hlog:o.log.length≤1000000) (hm:m≤o.ops.length) (h1:∀ (k:Nat) (y:Opr),o.ops[k]?=some y→(0≤ordNo y (mkOp o e sn)↔m≤k)) (σ:Store) :
  PC Tryz.prog 16 [.agg o.cells,.agg e.cells] σ (fun r σ'=>r=.tup [.agg (madeOff o (mkOp o e sn) m).cells,.agg (mkOp o e sn).cells,.i .i64 0]∧σ'=σ):=by
 refine PC.intro Tryz.func16 c16 fun hcl hwf=>wpc_sound ?_
 simp only [p16,SS,seval]
 simp only [Off.cells,En.cells,hd,VV,seval]
 refine call_eq (memValidate_pc e he _) (by simp only [En.cells,VV,seval]) ?_
 simp only [heok,VV,seval]
 refine call_eq (made_ok o e he ho hd c hc sn hsn hl h0 hck m hx hok hp hlog hm h1 _) (by simp only [Off.cells,En.cells,hd,VV,seval]) ?_
 simp only [Off.cells,Opr.cells,Stamp.cells,En.cells,VV,seval]
 exact ret_end hcl (.inr rfl) (by simp only [RS,seval];rfl) (by simp only [LW]) ⟨rfl,rfl⟩
theorem place_no (l:List Opr) (x:Opr) (m:Nat) (hl:l.length<2^39) (hm:m≤l.length) (h1:∀ (k:Nat) (y:Opr),l[k]?=some y→(0≤ordNo y x↔m≤k)) (hno:∀ y,l[m]?=some y→ordNo y x≠0) (σ:Store) :
  PC Tryz.prog 25 [.sl 13 (l.map Opr.cells),.agg x.cells] σ (fun r σ'=>r=.tup [.i .i64 m,.b false]∧σ'=σ) :=
 (place_pc' l x m hl hm h1 σ).mono fun r σ' ⟨h,hs⟩=>⟨by
  rw [h]
  cases hy:l[m]? with
  | none=>rfl
  | some y=>simp [hno y hy],hs⟩
theorem receive_pc (o:Off) (x:Opr) (m:Nat) (ho:o.small) (hx:x.small) (hd:o.down=false) (hok:opErr x=0) (hp:(encBody x).length≤60000) (hlog:o.log.length≤1000000) (hm:m≤o.ops.length) (h1:∀ (k:Nat) (y:Opr),o.ops[k]?=some y→(0≤ordNo y x↔m≤k))
  (hno:∀ y,o.ops[m]?=some y→ordNo y x≠0) (hne:x.stamp.office≠o.number) (σ:Store) :
  PC Tryz.prog 9 [.agg o.cells,.agg x.cells] σ (fun r σ'=>r=.tup [.agg (putOff o x m).cells,.i .i64 0]∧σ'=σ):=by
 refine PC.intro Tryz.func9 c9 fun hcl hwf=>wpc_sound ?_
 have hlen:=ho.len
 have hne2:(x.stamp.office==o.number)=false:=by simpa using hne
 simp only [p9,SS,seval]
 simp only [Off.cells,Opr.cells,Stamp.cells,En.cells,hd,VV,seval]
 refine call_eq (opValidate_pc x hx _) (by simp only [Opr.cells,Stamp.cells,En.cells,VV,seval]) ?_
 simp only [hok,VV,seval]
 refine call_eq (place_no o.ops x m (by omega) hm h1 hno _) (by simp only [Opr.cells,Stamp.cells,En.cells,VV,seval]) ?_
 simp only [VV,seval]
 refine ⟨fun h=>by simp at h,.u,fun h=>by simp at h,?_⟩
 refine callg_eq (c:=false) (v:=.i .i64 0) (by simp only [VV,seval]<;>rfl) (fun h=>by simp at h) rfl ?_
 simp only [hne2,VV,seval]
 refine call_eq (offAdd_pc o x m ho hx hok hp hlog hm h1 _) (by simp only [Off.cells,Opr.cells,Stamp.cells,En.cells,hd,VV,seval]) ?_
 simp only [Off.cells,VV,seval]
 exact ret_end hcl (.inr rfl) (by simp only [RS,seval];rfl) (by simp only [LW]) ⟨rfl,rfl⟩
theorem memory_pc (o:Off) (ho:o.small) (hd:o.down=false) (σ:Store):PC Tryz.prog 13 [.agg o.cells] σ (fun r σ'=>r=.sl 8 ((memoryOf o.ops).map En.cells)∧σ'=σ):=by
 refine PC.intro Tryz.func13 c13 fun hcl hwf=>wpc_sound ?_
 have hlen:=ho.len
 simp only [p13,SS,seval]
 simp only [Off.cells,hd,VV,seval]
 refine call_eq (opMemory_pc o.ops ho.ops _) rfl ?_
 simp only [VV,seval]
 exact ret_end hcl (.inr rfl) (by simp only [RS,seval];rfl) (by simp only [LW]) ⟨rfl,rfl⟩
theorem crash_pc (o:Off) (ho:o.small) (hd:o.down=false) (hs:o.synced=0) (σ:Store):PC Tryz.prog 18 [.agg o.cells,.i .i64 0] σ (fun r σ'=>r=.agg (Off.cells ⟨o.number,0,[],[],0,true⟩)∧σ'=σ):=by
 refine PC.intro Tryz.func18 c18 fun hcl hwf=>wpc_sound ?_
 have hlog:=ho.log
 simp only [p18,SS,seval]
 simp only [Off.cells,hd,hs,VV,Nat.reduceAdd]
 refine call_eq (viewOffice_pc o ho _) (by simp only [Off.cells,hd,hs,VV]) ?_
 have e1:IntKind.i64.wrap (o.log.length:Int)=o.log.length:=wrap_nat (by omega)
 have e2:((o.log.length:Int)<0)=False:=eq_false (by omega)
 have e3:IntKind.i64.wrap 0=0:=by decide
 simp only [Off.cells,hd,hs,bytesV_length,e1,e2,e3,Int.lt_irrefl,if_false,Int.sub_zero,Int.sub_self,Int.add_zero,VV,Nat.reduceAdd,Nat.reduceLeDiff,Int.reduceToNat,reduceIte,reduceCtorEq]
 refine ⟨⟨by decide,by decide,by omega⟩,?_⟩
 refine ret_cvs hcl (.inr rfl) (by simp only [RS,Nat.reduceAdd,reduceIte];rfl) (.cons (Cv.aggs (.cons (.refl _) (.cons (.refl _) (.cons (.nil _) (.cons (.refl _) (.cons (.refl _) (.cons (.refl _) .nil))))))) .nil) (by simp only [LW]) ⟨rfl,rfl⟩
theorem receive_same (o:Off) (x:Opr) (m:Nat) (ho:o.small) (hx:x.small) (hd:o.down=false) (hok:opErr x=0) (hm:m≤o.ops.length) (h1:∀ (k:Nat) (y:Opr),o.ops[k]?=some y→(0≤ordNo y x↔m≤k))
  (hat:o.ops[m]?=some x) (σ:Store) :
  PC Tryz.prog 9 [.agg o.cells,.agg x.cells] σ (fun r σ'=>r=.tup [.agg o.cells,.i .i64 0]∧σ'=σ):=by
 refine PC.intro Tryz.func9 c9 fun hcl hwf=>wpc_sound ?_
 have hlen:=ho.len
 have hml:m<o.ops.length:=(List.getElem?_eq_some_iff.1 hat).1
 have hrow:(o.ops.map Opr.cells).getD m []=x.cells:=by simp [List.getD_eq_getElem?_getD,hat]
 have hp:PC Tryz.prog 25 [.sl 13 (o.ops.map Opr.cells),.agg x.cells] (σ++[.box 38 o.cells,.box 35 x.cells,.box 38 [.i .i64 0,.i .i64 0,.nil,.nil,.i .i64 0,.b false]]) (fun r σ'=>r=.tup [.i .i64 m,.b true]∧σ'=σ++[.box 38 o.cells,.box 35 x.cells,.box 38 [.i .i64 0,.i .i64 0,.nil,.nil,.i .i64 0,.b false]]) :=
  (place_pc' o.ops x m (by omega) hm h1 _).mono fun r σ' ⟨h,hs⟩=>⟨by rw [h,hat];simp [ordNo_self],hs⟩
 simp only [p9,SS,seval]
 simp only [Off.cells,Opr.cells,Stamp.cells,En.cells,List.cons_append,List.nil_append,hd,VV,seval] at hp ⊢
 refine call_eq (opValidate_pc x hx _) (by simp only [Opr.cells,Stamp.cells,En.cells,VV,seval]) ?_
 simp only [hok,VV,seval]
 refine call_eq hp rfl ?_
 simp only [VV,seval]
 refine ⟨⟨by omega,by simp;omega⟩,.agg x.cells,⟨by rw [hrow,cells_take],by rw [hrow,cells_len];exact Nat.le_refl _⟩,?_⟩
 refine callg_eq (c:=true) (by simp only [VV,seval]<;>rfl) (fun _=>opCompare_pc x x hx hx _) (by simp only [Opr.cells,Stamp.cells,En.cells,VV,seval]) ?_
 simp only [opOrd_self,VV,seval]
 refine call_eq (viewOffice_pc o ho _) (by simp only [Off.cells,hd,VV,seval]) ?_
 simp only [Off.cells,hd,VV,seval]
 exact ret_end hcl (.inr rfl) (by simp only [RS,seval];rfl) (by simp only [LW]) ⟨rfl,rfl⟩
theorem receive_any {M:List Opr} (hM:Pool M) {o:Off} (h:Recv M o) {x:Opr} (hx:x∈M) (σ:Store) :
  PC Tryz.prog 9 [.agg o.cells,.agg x.cells] σ (fun r σ'=>r=.tup [.agg (recvO o x).cells,.i .i64 0]∧σ'=σ):=by
 have hg:=hM.gen x hx
 have hs:=h.small hM
 by_cases hk:o.ops.any (fun y=>ordNo y x==0)=true
 ·rw [recvO,if_pos hk]
  exact receive_same o x (idxN o.ops x) hs hg.small h.down hg.ok (idxN_le _ _) (idxN_spec h.sort x) (idxN_at h.sort ((known_iff hM h hx).1 hk)) σ
 ·rw [recvO,if_neg hk]
  refine receive_pc o x (idxN o.ops x) hs hg.small h.down hg.ok (gen_enc hg) (by have:=h.log;have:=h.len;have:=hM.len;omega) (idxN_le _ _) (idxN_spec h.sort x) (fun y hy he=>hk ?_) (by rw [h.num];exact hM.off x hx) σ
  rw [List.any_eq_true]
  exact ⟨y,List.mem_of_getElem? hy,by simpa using he⟩
theorem counts_ex (l:List Opr) (hl:∀ x∈l,x.stamp.number≤128):∃ c,Counts l c:=by
 have least:∀ (p:Nat→Prop) (n:Nat),p n→∃ j,j≤n∧p j∧∀ k,k<j→¬ p k:=by
  intro p n
  induction n using Nat.strongRecOn with
  | ind n ih =>
   intro hp
   by_cases h:∃ k,k<n∧p k
   ·obtain ⟨k,hk,hpk⟩:=h
    obtain ⟨j,h1,h2,h3⟩:=ih k hk hpk
    exact ⟨j,by omega,h2,h3⟩
   ·exact ⟨n,Nat.le_refl _,hp,fun k hk hpk=>h ⟨k,hk,hpk⟩⟩
 have each:∀ o:Nat,∃ j:Nat,j≤128∧(∀ x∈l,keyNo x≠((o:Int),(j:Int)+1))∧∀ k:Nat,k<j→∃ x∈l,keyNo x=((o:Int),(k:Int)+1):=by
  intro o
  obtain ⟨j,h1,h2,h3⟩:=least (fun j=>∀ x∈l,keyNo x≠((o:Int),(j:Int)+1)) 128 (fun x hx he=>by
   have:=hl x hx
   simp only [keyNo,Prod.mk.injEq] at he
   omega)
  refine ⟨j,h1,h2,fun k hk=>?_⟩
  refine Classical.byContradiction fun hn=>h3 k hk fun x hx he=>hn ⟨x,hx,he⟩
 exact ⟨fun o=>Classical.choose (each o),fun o _=>by have:=(Classical.choose_spec (each o)).1;omega,fun o _ j hj=>(Classical.choose_spec (each o)).2.2 j hj,fun o _ x hx=>(Classical.choose_spec (each o)).2.1 x hx⟩
end Go.Proofs.Tryz
