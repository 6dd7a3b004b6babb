/- A part of the proof of the statement of the last text of this claim: for every two integers ReplicaLimits returns true and leaves the memory as it was. -/
import Derived.Test.YthjfjghcbjiphaaGreatDoorW1
import Derived.Test.YthjfjghcbjiphaaGreatDoorW16
import Derived.Test.YthjfjghcbjiphaaGreatDoorW18
import Derived.Test.YthjfjghcbjiphaaGreatDoorW29
import Derived.Test.YthjfjghcbjiphaaGreatDoorW30
set_option linter.all false

namespace Go.Proofs.Tryz
open Go Go.Pm Go.Bt Go.RowKit
theorem sortNil_pc (f : Nat) (caps : List V) (σ : Store) : PC Tryz.prog 35 [.nil,.fn f caps] σ (fun r σ' => r = .tup [] ∧ σ' = σ) := by
 refine PC.ofCalls fun w μ vs hv => ?_
 have a0 := (hv.2 0 _ rfl).inv_nil
 have e : vs = #[.slice none 0 0,vs.getD 1 undef] := by
  obtain ⟨q⟩ := vs
  match q,hv.1 with
  | [u,v],_ => simp at a0 ⊢; exact a0
 rw [e]
 exact ⟨_,AnyF.slices_SortFunc_none Tryz.sortf none 0 _ w,.tup [] #[] rfl (by simp)⟩
theorem first_nil (σ : Store) : PC Tryz.prog 68 [.sl 1 []] σ (fun r σ' => r = .i .i64 0 ∧ σ' = σ) := by
 refine PC.intro Tryz.func68 c68 fun hcl hwf => wpc_sound ?_
 simp only [p68,List.length_cons,List.length_nil,List.replicate,List.cons_append,List.nil_append,Nat.reduceAdd,Nat.reduceSub]
 simp only [VV,Int.reduceBEq,Int.reduceBNe,pexec,xexec,binV,Nat.reduceAdd,Nat.reduceSub,Nat.reduceLeDiff,Nat.reduceEqDiff,Int.reduceToNat,reduceIte,reduceCtorEq]
 exact ⟨fun _ => ret_end0 (.inr rfl) rfl ⟨rfl,rfl⟩,fun h => by simp at h⟩
theorem read_nil (σ : Store) : PC Tryz.prog 33 [.sl 1 []] σ (fun r σ' => r = .tup [.nil,.i .i64 0] ∧ σ' = σ) := by
 refine PC.intro Tryz.func33 c33 fun hcl hwf => wpc_sound ?_
 simp only [p33,List.length_cons,List.length_nil,List.replicate,List.cons_append,List.nil_append,Nat.reduceAdd,Nat.reduceSub]
 simp only [VV,Int.reduceBEq,Int.reduceBNe,pexec,xexec,binV,Nat.reduceAdd,Nat.reduceSub,Nat.reduceLeDiff,Nat.reduceEqDiff,Int.reduceToNat,reduceIte,reduceCtorEq]
 refine PWc.rnd 1 (rnd_step fun R hR => ?_)
 simp only [p33_0,VV,Int.reduceBEq,Int.reduceBNe,pexec,xexec,binV,Nat.reduceAdd,Nat.reduceSub,Nat.reduceLeDiff,Nat.reduceEqDiff,Int.reduceToNat,reduceIte,reduceCtorEq]
 refine ⟨by decide,?_⟩
 refine call_eq (first_nil _) rfl ?_
 simp only [VV,Int.reduceBEq,Int.reduceBNe,pexec,xexec,binV,Nat.reduceAdd,Nat.reduceSub,Nat.reduceLeDiff,Nat.reduceEqDiff,Int.reduceToNat,reduceIte,reduceCtorEq]
 exact ret_end0 (.inr rfl) rfl ⟨rfl,rfl⟩
theorem repair_nil (σ : Store) : PC Tryz.prog 32 [.sl 1 []] σ (fun r σ' => r = .sl 1 [] ∧ σ' = σ) := by
 refine PC.intro Tryz.func32 c32 fun hcl hwf => wpc_sound ?_
 simp only [p32,List.length_cons,List.length_nil,List.replicate,List.cons_append,List.nil_append,Nat.reduceAdd,Nat.reduceSub]
 simp only [VV,Int.reduceBEq,Int.reduceBNe,pexec,xexec,binV,Nat.reduceAdd,Nat.reduceSub,Nat.reduceLeDiff,Nat.reduceEqDiff,Int.reduceToNat,reduceIte,reduceCtorEq]
 refine call_eq (read_nil _) rfl ?_
 simp only [VV,Int.reduceBEq,Int.reduceBNe,pexec,xexec,binV,Nat.reduceAdd,Nat.reduceSub,Nat.reduceLeDiff,Nat.reduceEqDiff,Int.reduceToNat,reduceIte,reduceCtorEq]
 refine ⟨by decide,?_⟩
 refine call_eq (cloneBytes_pc [] (by decide) _) rfl ?_
 simp only [VV,Int.reduceBEq,Int.reduceBNe,pexec,xexec,binV,Nat.reduceAdd,Nat.reduceSub,Nat.reduceLeDiff,Nat.reduceEqDiff,Int.reduceToNat,reduceIte,reduceCtorEq]
 exact ret_end0 (.inr rfl) rfl ⟨rfl,rfl⟩
theorem restart_nil (n : Int) (σ : Store) : PC Tryz.prog 14 [.agg (Off.cells ⟨n,0,[],[],0,true⟩)] σ (fun r σ' => r = .tup [.agg (Off.cells ⟨n,0,[],[],0,false⟩),.i .i64 0] ∧ σ' = σ) := by
 refine PC.intro Tryz.func14 c14 fun hcl hwf => wpc_sound ?_
 simp only [p14,List.length_cons,List.length_nil,List.replicate,List.cons_append,List.nil_append,Nat.reduceAdd,Nat.reduceSub]
 simp only [Off.cells,bytesV,List.map_nil,VV,Int.reduceBEq,Int.reduceBNe,pexec,xexec,binV,Nat.reduceAdd,Nat.reduceSub,Nat.reduceLeDiff,Nat.reduceEqDiff,Int.reduceToNat,reduceIte,reduceCtorEq]
 intro X
 refine call_eq (repair_nil _) rfl ?_
 simp only [VV,Int.reduceBEq,Int.reduceBNe,pexec,xexec,binV,Nat.reduceAdd,Nat.reduceSub,Nat.reduceLeDiff,Nat.reduceEqDiff,Int.reduceToNat,reduceIte,reduceCtorEq]
 refine call_eq (read_nil _) rfl ?_
 simp only [VV,Int.reduceBEq,Int.reduceBNe,pexec,xexec,binV,Nat.reduceAdd,Nat.reduceSub,Nat.reduceLeDiff,Nat.reduceEqDiff,Int.reduceToNat,reduceIte,reduceCtorEq]
 refine PWc.rnd 1 (rnd_step fun R hR => ?_)
 simp only [p14_0,VV,Int.reduceBEq,Int.reduceBNe,pexec,xexec,binV,Nat.reduceAdd,Nat.reduceSub,Nat.reduceLeDiff,Nat.reduceEqDiff,Int.reduceToNat,reduceIte,reduceCtorEq]
 refine ⟨fun h => by simp at h,fun _ => ?_⟩
 refine call_eq (sortNil_pc 36 [] _) rfl ?_
 simp only [VV,Int.reduceBEq,Int.reduceBNe,pexec,xexec,binV,Nat.reduceAdd,Nat.reduceSub,Nat.reduceLeDiff,Nat.reduceEqDiff,Int.reduceToNat,reduceIte,reduceCtorEq]
 refine ret_cvs hcl (.inr rfl) (by simp only [resVs,resV,W]; rfl) (.cons (Cv.aggs (.cons (.refl _) (.cons (.refl _) (.cons (.nil _) (.cons (.refl _) (.cons (.refl _) (.cons (.refl _) .nil))))))) (.cons (.refl _) .nil)) (by simp only [LW]) ⟨rfl,rfl⟩
def cAt (k n : Nat) : Nat → Nat := fun o => if o = k then n else 0
theorem counts_at {l : List Opr} {k n : Nat} (hn : n < 2 ^ 40) (h1 : ∀ j : Nat,j < n → ∃ x ∈ l,keyNo x = ((k : Int),(j : Int) + 1)) (h2 : ∀ x ∈ l,∃ j : Nat,j < n ∧ keyNo x = ((k : Int),(j : Int) + 1)) : Counts l (cAt k n) := by
 refine ⟨fun o _ => ?_,fun o _ j hj => ?_,fun o _ x hx he => ?_⟩
 ·unfold cAt; split <;> omega
 ·unfold cAt at hj
  split at hj
  ·rename_i h; subst h; exact h1 j hj
  ·omega
 ·obtain ⟨j,hj,h3⟩ := h2 x hx
  rw [h3] at he
  simp only [Prod.mk.injEq] at he
  obtain ⟨h4,h5⟩ := he
  have : k = o := by omega
  subst this
  simp only [cAt,if_true] at h5
  omega
theorem counts_I (i : Nat) (hi : i < 1000) : Counts (offI i).ops (cAt 1 i) := by
 rw [offI_ops]
 refine counts_at (by omega) (fun j hj => ⟨opI j,List.mem_map.2 ⟨j,List.mem_range.2 hj,rfl⟩,rfl⟩) (fun x hx => ?_)
 obtain ⟨j,hj,rfl⟩ := List.mem_map.1 hx
 exact ⟨j,List.mem_range.1 hj,rfl⟩
theorem seen_I (i : Nat) (hi : i < 129) : vJoin (countL (cAt 1 i)) [] = seenI i := by
 have : ∀ i : Fin 129,vJoin (countL (cAt 1 i.1)) [] = seenI i.1 := by decide +kernel
 exact this ⟨i,hi⟩
theorem mkOp_I (i : Nat) (hi : i < 129) : mkOp (offI i) (entryE i (i / 3)) (seenI i) = opI i := by
 simp only [mkOp,opI,opOf,offI_clock,offI_number,seenI_at i hi]
theorem confirmI_pc (i : Nat) (hi : i < 128) (σ : Store) : PC Tryz.prog 6 [.agg (offI i).cells,.agg (entryE i (i / 3)).cells] σ (fun r σ' => r = .tup [.agg (offI (i + 1)).cells,.agg (opI i).cells,.i .i64 0] ∧ σ' = σ) := by
 have e := mkOp_I i (by omega)
 have := confirm_ok (offI i) (entryE i (i / 3)) (entryE_small _ _) (entryE_ok _ _) (offI_small i (by omega)) (offI_down i) (cAt 1 i) (counts_I i (by omega)) (seenI i) (seen_I i (by omega)) (by rw [offI_number,seenI_at i (by omega)]; omega) (by rw [offI_clock]; omega) (by rw [offI_clock]; omega) (offI i).ops.length
  (by rw [e]; exact opI_small i) (by rw [e]; exact opI_ok i hi) (by rw [e]; exact opOf_len (seenI_len i)) (by have := offI_log i; omega) (Nat.le_refl _) (by rw [e]; exact offI_last i) σ
 rwa [e] at this
theorem confirmL_pc (s t : Int) (σ : Store) : PC Tryz.prog 6 [.agg (offI 128).cells,.agg (entryE s t).cells] σ (fun r σ' => r = .tup [.agg Off.zero.cells,.agg zeroOp.cells,.i .i64 3] ∧ σ' = σ) :=
 confirm_lim (offI 128) (entryE s t) (entryE_small _ _) (entryE_ok _ _) (offI_small 128 (by omega)) (offI_down 128) (cAt 1 128) (counts_I 128 (by omega)) (seenI 128) (seen_I 128 (by omega)) (.inl (by rw [offI_number,seenI_at 128 (by omega)]; decide)) σ
theorem entry_pc (s t : Int) (σ : Store) : PC Tryz.prog 7 [.i .i64 s,.i .i64 t] σ (fun r σ' => r = .agg (entryE s t).cells ∧ σ' = σ) := by
 refine PC.intro Tryz.func7 c7 fun hcl hwf => wpc_sound ?_
 simp only [p7,List.length_cons,List.length_nil,List.replicate,List.cons_append,List.nil_append,Nat.reduceAdd,Nat.reduceSub]
 have hs := place_range (x := s) (n := 3) (by decide)
 have ht := place_range (x := t) (n := 4) (by decide)
 have e1 : at2 [[V.s [83,97,118,101]],[V.s [120]],[V.s [114,101,100]]] (place s 3).toNat 0 = some (.s (srcL.getD (place s 3).toNat [])) := by
  rcases (show (place s 3).toNat = 0 ∨ (place s 3).toNat = 1 ∨ (place s 3).toNat = 2 by omega) with h | h | h <;> rw [h] <;> rfl
 have e2 : at2 [[V.s [97]],[V.s [98]],[V.s [99]],[V.s [100]]] (place t 4).toNat 0 = some (.s (tgtL.getD (place t 4).toNat [])) := by
  rcases (show (place t 4).toNat = 0 ∨ (place t 4).toNat = 1 ∨ (place t 4).toNat = 2 ∨ (place t 4).toNat = 3 by omega) with h | h | h | h <;> rw [h] <;> rfl
 simp only [VV,Int.reduceBEq,Int.reduceBNe,pexec,xexec,binV,Nat.reduceAdd,Nat.reduceSub,Nat.reduceLeDiff,Nat.reduceEqDiff,Int.reduceToNat,reduceIte,reduceCtorEq]
 refine call_eq (place_pc s 3 (by decide) (by decide) _) rfl ?_
 simp only [e1,V.pure,VV,Int.reduceBEq,Int.reduceBNe,pexec,xexec,binV,Nat.reduceAdd,Nat.reduceSub,Nat.reduceLeDiff,Nat.reduceEqDiff,Int.reduceToNat,reduceIte,reduceCtorEq]
 refine ⟨⟨hs.1,hs.2⟩,?_⟩
 refine call_eq (place_pc t 4 (by decide) (by decide) _) rfl ?_
 simp only [e1,e2,V.pure,VV,Int.reduceBEq,Int.reduceBNe,pexec,xexec,binV,Nat.reduceAdd,Nat.reduceSub,Nat.reduceLeDiff,Nat.reduceEqDiff,Int.reduceToNat,reduceIte,reduceCtorEq]
 refine ⟨⟨hs.1,hs.2⟩,⟨ht.1,ht.2⟩,?_⟩
 exact ret_cvs hcl (.inr rfl) (by simp only [resVs,resV,W]; rfl) (.cons (Cv.aggs (.cons (.lit _ _) (.cons (.lit _ _) (.cons (.refl _) (.cons (.refl _) (.cons (.refl _) (.cons (.refl _) (.cons (.refl _) (.cons (.refl _) .nil))))))))) .nil) (by simp only [LW]) ⟨rfl,rfl⟩
def kX : Opr := opOf 1 2 1 (entryE 0 0) []
def o2 : Off := ⟨2,0,[],[],0,false⟩
def o1 : Off := ⟨1,0,[],[],0,false⟩
theorem kX_ok : opErr kX = 0 := opOf_ok (by decide) (by decide +kernel) (by simp) (by decide)
theorem kX_small : kX.small := opOf_small (by simp)
theorem kX_len : (encBody kX).length ≤ 92 := opOf_len (by simp)
theorem o2_small : o2.small := ⟨by simp [o2],by simp [o2],by simp [o2]⟩
theorem o1_small : o1.small := ⟨by simp [o1],by simp [o1],by simp [o1]⟩
theorem counts_0 : Counts [] (cAt 0 0) := counts_at (by decide) (fun j hj => by omega) (by simp)
theorem put_small {o : Off} {x : Opr} {m : Nat} (ho : o.small) (hx : x.small) (h1 : o.ops.length < 1000) (h2 : o.log.length < 1000000) (h3 : (encBody x).length ≤ 92) (hm : m ≤ o.ops.length) : (putOff o x m).small := by
 refine ⟨fun y hy => ?_,?_,?_⟩
 ·simp only [putOff,List.mem_append,List.mem_cons] at hy
  rcases hy with hy | rfl | hy
  ·exact ho.ops y (List.mem_of_mem_take hy)
  ·exact hx
  ·exact ho.ops y (List.mem_of_mem_drop hy)
 ·simp only [putOff,List.length_append,List.length_take,List.length_cons,List.length_drop]; omega
 ·simp only [putOff,List.length_append,recF_len]; omega
theorem made_small {o : Off} {x : Opr} {m : Nat} (ho : o.small) (hx : x.small) (h1 : o.ops.length < 1000) (h2 : o.log.length < 1000000) (h3 : (encBody x).length ≤ 92) (hm : m ≤ o.ops.length) : (madeOff o x m).small :=
 let h := put_small ho hx h1 h2 h3 hm
 ⟨h.ops,h.len,h.log⟩
theorem kConfirm_pc (σ : Store) : PC Tryz.prog 6 [.agg o2.cells,.agg (entryE 0 0).cells] σ (fun r σ' => r = .tup [.agg (madeOff o2 kX 0).cells,.agg kX.cells,.i .i64 0] ∧ σ' = σ) :=
 confirm_ok o2 (entryE 0 0) (entryE_small _ _) (entryE_ok _ _) o2_small rfl (cAt 0 0) counts_0 [] (by decide +kernel) (by decide) (by decide) (by decide) 0 kX_small kX_ok kX_len (by decide) (Nat.le_refl _) (by simp [o2]) σ
theorem kReceive_pc (σ : Store) : PC Tryz.prog 9 [.agg o1.cells,.agg kX.cells] σ (fun r σ' => r = .tup [.agg (putOff o1 kX 0).cells,.i .i64 0] ∧ σ' = σ) :=
 receive_pc o1 kX 0 o1_small kX_small rfl kX_ok kX_len (by decide) (Nat.le_refl _) (by simp [o1]) (by simp [o1]) (by decide) σ
theorem kPut_small : (putOff o1 kX 0).small := put_small o1_small kX_small (by decide) (by decide) kX_len (by decide)
theorem kMade_small : (madeOff o2 kX 0).small := made_small o2_small kX_small (by decide) (by decide) kX_len (by decide)
theorem kSeen_pc (σ : Store) : PC Tryz.prog 18 [.agg (putOff o1 kX 0).cells] σ (fun r σ' => r = .sl 1 (([0,0,1] : List Int).map iRow) ∧ σ' = σ) := by
 have hk : (putOff o1 kX 0).ops = [kX] := rfl
 have hc : Counts (putOff o1 kX 0).ops (cAt 2 1) := by
  rw [hk]
  refine counts_at (by decide) (fun j hj => ⟨kX,by simp,?_⟩) (fun x hx => ⟨0,by decide,?_⟩)
  ·obtain rfl : j = 0 := by omega
   rfl
  ·simp only [List.mem_cons,List.not_mem_nil,or_false] at hx
   rw [hx]; rfl
 have := seen_pc (putOff o1 kX 0) kPut_small rfl (cAt 2 1) hc σ
 rwa [show vJoin (countL (cAt 2 1)) [] = [0,0,1] from by decide +kernel] at this
theorem newI (n : Int) (h : 0 ≤ n) (h8 : n < 8) (σ : Store) : PC Tryz.prog 4 [.i .i64 n] σ (fun r σ' => r = .tup [.agg (Off.cells ⟨n,0,[],[],0,false⟩),.i .i64 0] ∧ σ' = σ) := by
 have := new_pc n σ
 rwa [show newOff n = (⟨n,0,[],[],0,false⟩,0) from by rw [newOff,if_neg (by omega)]] at this
theorem kMem : memoryOf [] = [] := by decide +kernel
set_option maxHeartbeats 1000000 in
theorem known39_pc (σ : Store) : PC Tryz.prog 8 [] σ (fun r σ' => r = .b true ∧ σ' = σ) := by
 refine PC.intro Tryz.func8 c8 fun hcl hwf => wpc_sound ?_
 have hb : bytesV [] = [] := rfl
 have hk1 : kX.stamp.time = 1 := rfl
 have hk2 : kX.stamp.office = 2 := rfl
 have hk3 : kX.stamp.number = 1 := rfl
 simp only [p8,List.length_cons,List.length_nil,List.replicate,List.cons_append,List.nil_append,Nat.reduceAdd,Nat.reduceSub]
 simp only [VV,Int.reduceBEq,Int.reduceBNe,pexec,xexec,binV,Nat.reduceAdd,Nat.reduceSub,Nat.reduceLeDiff,Nat.reduceEqDiff,Int.reduceToNat,reduceIte,reduceCtorEq]
 refine call_eq (newI 2 (by decide) (by decide) _) rfl ?_
 simp only [Off.cells,hb,List.map_nil,VV,Int.reduceBEq,Int.reduceBNe,pexec,xexec,binV,Nat.reduceAdd,Nat.reduceSub,Nat.reduceLeDiff,Nat.reduceEqDiff,Int.reduceToNat,reduceIte,reduceCtorEq]
 intro X
 refine call_eq (entry_pc 0 0 _) rfl ?_
 simp only [VV,Int.reduceBEq,Int.reduceBNe,pexec,xexec,binV,Nat.reduceAdd,Nat.reduceSub,Nat.reduceLeDiff,Nat.reduceEqDiff,Int.reduceToNat,reduceIte,reduceCtorEq]
 intro X
 refine call_eq (kConfirm_pc _) rfl ?_
 simp only [Off.cells,Opr.cells,Stamp.cells,En.cells,VV,Int.reduceBEq,Int.reduceBNe,pexec,xexec,binV,Nat.reduceAdd,Nat.reduceSub,Nat.reduceLeDiff,Nat.reduceEqDiff,Int.reduceToNat,reduceIte,reduceCtorEq]
 refine call_eq (newI 1 (by decide) (by decide) _) rfl ?_
 simp only [Off.cells,hb,List.map_nil,VV,Int.reduceBEq,Int.reduceBNe,pexec,xexec,binV,Nat.reduceAdd,Nat.reduceSub,Nat.reduceLeDiff,Nat.reduceEqDiff,Int.reduceToNat,reduceIte,reduceCtorEq]
 refine call_eq (kReceive_pc _) rfl ?_
 simp only [Off.cells,VV,Int.reduceBEq,Int.reduceBNe,pexec,xexec,binV,Nat.reduceAdd,Nat.reduceSub,Nat.reduceLeDiff,Nat.reduceEqDiff,Int.reduceToNat,reduceIte,reduceCtorEq]
 refine call_eq (crash_pc (putOff o1 kX 0) kPut_small rfl rfl _) rfl ?_
 simp only [Off.cells,hb,List.map_nil,VV,Int.reduceBEq,Int.reduceBNe,pexec,xexec,binV,Nat.reduceAdd,Nat.reduceSub,Nat.reduceLeDiff,Nat.reduceEqDiff,Int.reduceToNat,reduceIte,reduceCtorEq]
 refine call_eq (restart_nil (putOff o1 kX 0).number _) rfl ?_
 simp only [Off.cells,hb,List.map_nil,hk1,hk2,hk3,cellsEq,scalEq,VV,Int.reduceBEq,Int.reduceBNe,pexec,xexec,binV,Nat.reduceAdd,Nat.reduceSub,Nat.reduceLeDiff,Nat.reduceEqDiff,Int.reduceToNat,reduceIte,reduceCtorEq]
 refine callg_eq (by simp only [VV,Int.reduceBEq,Int.reduceBNe,pexec,xexec,binV,Nat.reduceAdd,Nat.reduceSub,Nat.reduceLeDiff,Nat.reduceEqDiff,Int.reduceToNat,reduceIte,reduceCtorEq] <;> rfl) (fun _ => memory_pc (putOff o1 kX 0) kPut_small rfl _) rfl ?_
 simp only [VV,Int.reduceBEq,Int.reduceBNe,pexec,xexec,binV,Nat.reduceAdd,Nat.reduceSub,Nat.reduceLeDiff,Nat.reduceEqDiff,Int.reduceToNat,reduceIte,reduceCtorEq]
 refine callg_eq (by simp only [VV,Int.reduceBEq,Int.reduceBNe,pexec,xexec,binV,Nat.reduceAdd,Nat.reduceSub,Nat.reduceLeDiff,Nat.reduceEqDiff,Int.reduceToNat,reduceIte,reduceCtorEq] <;> rfl) (fun _ => memory_pc (madeOff o2 kX 0) kMade_small rfl _) rfl ?_
 simp only [VV,Int.reduceBEq,Int.reduceBNe,pexec,xexec,binV,Nat.reduceAdd,Nat.reduceSub,Nat.reduceLeDiff,Nat.reduceEqDiff,Int.reduceToNat,reduceIte,reduceCtorEq]
 refine callg_eq (by simp only [VV,Int.reduceBEq,Int.reduceBNe,pexec,xexec,binV,Nat.reduceAdd,Nat.reduceSub,Nat.reduceLeDiff,Nat.reduceEqDiff,Int.reduceToNat,reduceIte,reduceCtorEq] <;> rfl) (fun _ => r16SameEntries_pc (memoryOf (putOff o1 kX 0).ops) (memoryOf (madeOff o2 kX 0).ops) _) rfl ?_
 have hee : ensEq (memoryOf (putOff o1 kX 0).ops) (memoryOf (madeOff o2 kX 0).ops) = true := ensEq_iff.2 rfl
 simp only [hee,VV,Int.reduceBEq,Int.reduceBNe,pexec,xexec,binV,Nat.reduceAdd,Nat.reduceSub,Nat.reduceLeDiff,Nat.reduceEqDiff,Int.reduceToNat,reduceIte,reduceCtorEq]
 refine callg_eq (by simp only [VV,Int.reduceBEq,Int.reduceBNe,pexec,xexec,binV,Nat.reduceAdd,Nat.reduceSub,Nat.reduceLeDiff,Nat.reduceEqDiff,Int.reduceToNat,reduceIte,reduceCtorEq] <;> rfl) (fun _ => memory_pc ⟨(putOff o1 kX 0).number,0,[],[],0,false⟩ ⟨by simp,by simp,by simp⟩ rfl _) rfl ?_
 simp only [kMem,List.map_nil,V.pure,VV,Int.reduceBEq,Int.reduceBNe,pexec,xexec,binV,Nat.reduceAdd,Nat.reduceSub,Nat.reduceLeDiff,Nat.reduceEqDiff,Int.reduceToNat,reduceIte,reduceCtorEq]
 refine callg_eq (by simp only [VV,Int.reduceBEq,Int.reduceBNe,pexec,xexec,binV,Nat.reduceAdd,Nat.reduceSub,Nat.reduceLeDiff,Nat.reduceEqDiff,Int.reduceToNat,reduceIte,reduceCtorEq] <;> rfl) (fun _ => kSeen_pc _) rfl ?_
 simp only [V.pure,VV,Int.reduceBEq,Int.reduceBNe,pexec,xexec,binV,Nat.reduceAdd,Nat.reduceSub,Nat.reduceLeDiff,Nat.reduceEqDiff,Int.reduceToNat,reduceIte,reduceCtorEq]
 refine callg_eq (by simp only [VV,Int.reduceBEq,Int.reduceBNe,pexec,xexec,binV,Nat.reduceAdd,Nat.reduceSub,Nat.reduceLeDiff,Nat.reduceEqDiff,Int.reduceToNat,reduceIte,reduceCtorEq] <;> rfl) (fun _ => PC.wk (args' := [.sl 1 (([0,0,1] : List Int).map iRow),.sl 1 (([0,0,1] : List Int).map iRow)]) (Wk.cvs (.cons (.refl _) (.cons (.lit _ _) .nil))) (r3SameInts_pc [0,0,1] [0,0,1] _)) rfl ?_
 simp only [VV,Int.reduceBEq,Int.reduceBNe,pexec,xexec,binV,Nat.reduceAdd,Nat.reduceSub,Nat.reduceLeDiff,Nat.reduceEqDiff,Int.reduceToNat,reduceIte,reduceCtorEq]
 refine ret_end hcl (.inr rfl) (by simp only [resVs,resV,W]; rfl) (by simp only [LW]) ⟨?_,rfl⟩
 rfl
def q0 : Off := ⟨0,0,[],[],0,false⟩
def x1 (t : Int) : Opr := opOf t 1 1 (entryE 0 0) []
def q1 (t : Int) : Off := putOff q0 (x1 t) 0
def x2 : Opr := opOf (2 ^ 30) 0 1 (entryE 1 1) [0,1]
def r1 : Off := madeOff (q1 (2 ^ 30 - 1)) x2 0
def x0 : Opr := opOf 1 0 1 (entryE 2 2) []
theorem q0_small : q0.small := ⟨by simp [q0],by simp [q0],by simp [q0]⟩
theorem x1_small (t : Int) : (x1 t).small := opOf_small (by simp)
theorem x2_small : x2.small := opOf_small (by simp)
theorem x1_len (t : Int) : (encBody (x1 t)).length ≤ 92 := opOf_len (by simp)
theorem x2_len : (encBody x2).length ≤ 92 := opOf_len (by simp)
theorem q1_log (t : Int) : (q1 t).log.length ≤ 100 := by
 have := x1_len t
 simp only [q1,putOff,q0,List.nil_append,recF_len]; omega
theorem q1_small (t : Int) : (q1 t).small := put_small q0_small (x1_small t) (by decide) (by decide) (x1_len t) (by decide)
theorem q1_ops (t : Int) : (q1 t).ops = [x1 t] := rfl
theorem tReceive_pc (t : Int) (h : 1 ≤ t) (h2 : t ≤ 2 ^ 30) (σ : Store) : PC Tryz.prog 9 [.agg q0.cells,.agg (x1 t).cells] σ (fun r σ' => r = .tup [.agg (q1 t).cells,.i .i64 0] ∧ σ' = σ) :=
 receive_pc q0 (x1 t) 0 q0_small (x1_small t) rfl (opOf_ok (by simp only [stampOk,decide_eq_true_eq]; omega) (by decide +kernel) (by simp) (by decide)) (x1_len t) (by decide) (Nat.le_refl _) (by simp [q0]) (by simp [q0]) (by simp [x1,opOf,q0]) σ
theorem q1_counts (t : Int) : Counts (q1 t).ops (cAt 1 1) := by
 rw [q1_ops]
 refine counts_at (by decide) (fun j hj => ⟨x1 t,by simp,?_⟩) (fun x hx => ⟨0,by decide,?_⟩)
 ·obtain rfl : j = 0 := by omega
  rfl
 ·simp only [List.mem_cons,List.not_mem_nil,or_false] at hx
  rw [hx]; rfl
theorem tConfirm_lim (s t : Int) (σ : Store) : PC Tryz.prog 6 [.agg (q1 (2 ^ 30)).cells,.agg (entryE s t).cells] σ (fun r σ' => r = .tup [.agg Off.zero.cells,.agg zeroOp.cells,.i .i64 3] ∧ σ' = σ) :=
 confirm_lim (q1 (2 ^ 30)) (entryE s t) (entryE_small _ _) (entryE_ok _ _) (q1_small _) rfl (cAt 1 1) (q1_counts _) [0,1] (by decide +kernel) (.inr (by decide)) σ
theorem x2_eq : mkOp (q1 (2 ^ 30 - 1)) (entryE 1 1) [0,1] = x2 := rfl
theorem tConfirm_ok (σ : Store) : PC Tryz.prog 6 [.agg (q1 (2 ^ 30 - 1)).cells,.agg (entryE 1 1).cells] σ (fun r σ' => r = .tup [.agg r1.cells,.agg x2.cells,.i .i64 0] ∧ σ' = σ) := by
 have := confirm_ok (q1 (2 ^ 30 - 1)) (entryE 1 1) (entryE_small _ _) (entryE_ok _ _) (q1_small _) rfl (cAt 1 1) (q1_counts _) [0,1] (by decide +kernel) (by decide) (by decide) (by decide) 0
  (by rw [x2_eq]; exact x2_small) (by rw [x2_eq]; exact opOf_ok (by decide) (by decide +kernel) (by simp) (by decide)) (by rw [x2_eq]; exact x2_len) (by have := q1_log (2 ^ 30 - 1); omega) (Nat.zero_le _) (fun k y hy => by
   rw [q1_ops] at hy
   obtain ⟨_,rfl⟩ : k = 0 ∧ y = x1 (2 ^ 30 - 1) := by
    cases k with
    | zero => simp only [List.getElem?_cons_zero,Option.some.injEq] at hy; exact ⟨rfl,hy.symm⟩
    | succ k => simp at hy
   rw [x2_eq,ordNo_gt (by decide)]; simp) σ
 rwa [x2_eq] at this
theorem r1_ops : r1.ops = [x2,x1 (2 ^ 30 - 1)] := rfl
theorem r1_counts : Counts r1.ops (fun o => if o < 2 then 1 else 0) := by
 rw [r1_ops]
 refine ⟨fun o _ => by split <;> decide,fun o _ j hj => ?_,fun o _ x hx he => ?_⟩
 ·split at hj
  ·obtain rfl : j = 0 := by omega
   rcases (show o = 0 ∨ o = 1 by omega) with rfl | rfl
   ·exact ⟨x2,by simp,rfl⟩
   ·exact ⟨x1 (2 ^ 30 - 1),by simp,rfl⟩
  ·omega
 ·have hn : keyNo x = (0,1) ∨ keyNo x = (1,1) := by
   simp only [List.mem_cons,List.not_mem_nil,or_false] at hx
   rcases hx with rfl | rfl
   ·exact .inl rfl
   ·exact .inr rfl
  rcases hn with h | h <;> rw [h] at he <;> simp only [Prod.mk.injEq] at he <;> obtain ⟨h1,h2⟩ := he <;> rw [if_pos (by omega)] at h2 <;> omega
theorem tConfirm2_lim (s t : Int) (σ : Store) : PC Tryz.prog 6 [.agg r1.cells,.agg (entryE s t).cells] σ (fun r σ' => r = .tup [.agg Off.zero.cells,.agg zeroOp.cells,.i .i64 3] ∧ σ' = σ) :=
 confirm_lim r1 (entryE s t) (entryE_small _ _) (entryE_ok _ _) (made_small (q1_small _) x2_small (by decide) (by have := q1_log (2 ^ 30 - 1); omega) x2_len (Nat.zero_le _)) rfl _ r1_counts [1,1] (by decide +kernel) (.inr (by decide)) σ
theorem tConfirm_zero (σ : Store) : PC Tryz.prog 6 [.agg Off.zero.cells,.agg (entryE 2 2).cells] σ (fun r σ' => r = .tup [.agg (madeOff Off.zero x0 0).cells,.agg x0.cells,.i .i64 0] ∧ σ' = σ) :=
 confirm_ok Off.zero (entryE 2 2) (entryE_small _ _) (entryE_ok _ _) q0_small rfl (cAt 0 0) counts_0 [] (by decide +kernel) (by decide) (by decide) (by decide) 0 (opOf_small (by simp)) (opOf_ok (by decide) (by decide +kernel) (by simp) (by decide)) (opOf_len (by simp)) (by decide) (Nat.le_refl _) (by simp [Off.zero]) σ
def ofB (i : Nat) : Ob := .box 25 (offI i).cells
set_option maxHeartbeats 2000000 in
theorem loop3 {σ : Store} {K : Exit → St → Prop} (N : Nat) (hN : N ≤ 129) (tm : Int) (hcl : Closed σ) (h1 : N ≤ 128 → (∀ j0 j2 j3 j4 j5 j6 j7 j8 j9 j10 j11 j12 j13 j14 j15 j16 j17 j18 j19 j20 j21 j22 j23 j24 j25 j26 j27 j28 j29 j30 j31 j32 j33 j34 j35 j36 j37 j38 j39 j40 j41 j42 j43 j44 j45 j46 j47 j48 j49 j50 j51 j52 j53 j54 j55 j56 j57 j58 j59 j60 j61 j62 j63 j64 j65 j66 j67 j68 j69 j70 j71 j72 j73 j74 j75 j76 j77 j78 j79 j80 j81 j82 j83 j84 j85 j86 j87 j88 j89 j90 j91 j92 j93 j94 j95 j96 j97 j98 j99 j100 j101 j102 j103 j104 j105 j106 j107 j108 j109 j110 j111 j112 j113 j114 j115 j116 j117 j118 j119 j120 j121 j122,K (.exit 0) ⟨[j0,.i .i64 tm,j2,j3,j4,j5,j6,j7,j8,j9,j10,j11,j12,j13,j14,j15,j16,j17,j18,j19,j20,j21,j22,j23,j24,j25,j26,j27,j28,j29,j30,j31,j32,j33,j34,j35,j36,j37,j38,j39,j40,j41,j42,j43,j44,j45,j46,j47,j48,j49,j50,j51,j52,j53,j54,j55,j56,j57,j58,j59,j60,j61,j62,j63,j64,j65,j66,j67,j68,j69,j70,j71,j72,j73,j74,j75,j76,j77,j78,j79,j80,j81,j82,j83,j84,j85,j86,j87,j88,j89,j90,j91,j92,j93,j94,j95,j96,j97,j98,j99,j100,j101,j102,j103,j104,j105,j106,j107,j108,j109,j110,j111,j112,j113,j114,j115,j116,j117,j118,j119,j120,j121,j122],σ ++ [ofB N]⟩))
  (h2 : ∀ loc : Store,(∀ j0 j1 j2 j3 j5 j6 j7 j8 j9 j10 j11 j12 j13 j14 j15 j16 j17 j18 j19 j20 j21 j22 j23 j24 j25 j26 j27 j28 j29 j30 j31 j32 j33 j34 j35 j36 j37 j38 j39 j40 j41 j42 j43 j44 j45 j46 j47 j48 j49 j50 j51 j52 j53 j54 j55 j56 j57 j58 j59 j60 j61 j62 j63 j64 j65 j66 j67 j68 j69 j70 j71 j72 j73 j74 j75 j76 j77 j78 j79 j80 j81 j82 j83 j84 j85 j86 j87 j88 j89 j90 j91 j92 j93 j94 j95 j96 j97 j98 j99 j100 j101 j102 j103 j104 j105 j106 j107 j108 j109 j110 j111 j112 j113 j114 j115 j116 j117 j118 j119 j120 j121 j122,K .ret ⟨[j0,j1,j2,j3,.b true,j5,j6,j7,j8,j9,j10,j11,j12,j13,j14,j15,j16,j17,j18,j19,j20,j21,j22,j23,j24,j25,j26,j27,j28,j29,j30,j31,j32,j33,j34,j35,j36,j37,j38,j39,j40,j41,j42,j43,j44,j45,j46,j47,j48,j49,j50,j51,j52,j53,j54,j55,j56,j57,j58,j59,j60,j61,j62,j63,j64,j65,j66,j67,j68,j69,j70,j71,j72,j73,j74,j75,j76,j77,j78,j79,j80,j81,j82,j83,j84,j85,j86,j87,j88,j89,j90,j91,j92,j93,j94,j95,j96,j97,j98,j99,j100,j101,j102,j103,j104,j105,j106,j107,j108,j109,j110,j111,j112,j113,j114,j115,j116,j117,j118,j119,j120,j121,j122],σ ++ loc⟩)) : ∀ (R i : Nat),i + R = N → i ≤ 128 →
  Rnd σ.length Tryz.prog p3_0 K (R + 1) ⟨[.i .i64 N,.i .i64 tm,.u,.u,.u,.ptr σ.length 0,.u,.i .i64 i,.u,.u,.u,.u,.u,.u,.u,.u,.u,.u,.u,.u,.u,.u,.u,.u,.u,.u,.u,.u,.u,.u,.u,.u,.u,.u,.u,.u,.u,.u,.u,.u,.u,.u,.u,.u,.u,.u,.u,.u,.u,.u,.u,.u,.u,.u,.u,.u,.u,.u,.u,.u,.u,.u,.u,.u,.u,.u,.u,.u,.u,.u,.u,.u,.u,.u,.u,.u,.u,.u,.u,.u,.u,.u,.u,.u,.u,.u,.u,.u,.u,.u,.u,.u,.u,.u,.u,.u,.u,.u,.u,.u,.u,.u,.u,.u,.u,.u,.u,.u,.u,.u,.u,.u,.u,.u,.u,.u,.u,.u,.u,.u,.u,.u,.u],σ ++ [ofB i]⟩ := by
 intro R
 induction R with
 | zero =>
  intro i hi hi2
  obtain rfl : i = N := by omega
  have hd : decide ((i : Int) < (i : Int)) = false := by simp
  refine rnd_step fun R hR => ?_
  simp only [p3_0,hd,VV,Int.reduceBEq,Int.reduceBNe,pexec,xexec,binV,Nat.reduceAdd,Nat.reduceSub,Nat.reduceLeDiff,Nat.reduceEqDiff,Int.reduceToNat,reduceIte,reduceCtorEq]
  exact h1 hi2 ..
 | succ R ih =>
  intro i hi hi2
  have hd : decide ((i : Int) < (N : Int)) = true := by simp; omega
  have e3 : IntKind.i64.wrap ((i : Int).tdiv 3) = (i : Int) / 3 := by
   rw [Int.tdiv_eq_ediv_of_nonneg (by omega),IntWalk.i64_in _ (by omega)]
  have a2 : σ.length + 1 + 1 = σ.length + 2 := rfl
  refine rnd_step fun R hR => ?_
  simp only [p3_0,hd,ofB,Off.cells,e3,a2,VV,Int.reduceBEq,Int.reduceBNe,pexec,xexec,binV,Nat.reduceAdd,Nat.reduceSub,Nat.reduceLeDiff,Nat.reduceEqDiff,Int.reduceToNat,reduceIte,reduceCtorEq]
  refine ⟨by decide,fun X Y => ?_⟩
  refine call_eq (entry_pc i ((i : Int) / 3) _) rfl ?_
  simp only [VV,Int.reduceBEq,Int.reduceBNe,pexec,xexec,binV,Nat.reduceAdd,Nat.reduceSub,Nat.reduceLeDiff,Nat.reduceEqDiff,Int.reduceToNat,reduceIte,reduceCtorEq]
  intro X Y
  rcases Nat.lt_or_eq_of_le hi2 with hlt | rfl
  ·have hd2 : decide ((i : Int) < 128) = true := by simp; omega
   have e1 : IntKind.i64.wrap ((i : Int) + 1) = ((i + 1 : Nat) : Int) := by rw [wrap_succ (by omega)]
   have k1 : (opI i).stamp.time = ((i + 1 : Nat) : Int) := rfl
   have k2 : (opI i).stamp.office = 1 := rfl
   have k3 : (opI i).stamp.number = ((i + 1 : Nat) : Int) := rfl
   have k4 : (((i + 1 : Nat) : Int) == ((i + 1 : Nat) : Int)) = true := beq_self_eq_true _
   refine call_eq (confirmI_pc i hlt _) rfl ?_
   simp only [Off.cells,Opr.cells,Stamp.cells,En.cells,hd2,e1,k1,k2,k3,k4,cellsEq,scalEq,a2,VV,Int.reduceBEq,Int.reduceBNe,pexec,xexec,binV,Nat.reduceAdd,Nat.reduceSub,Nat.reduceLeDiff,Nat.reduceEqDiff,Int.reduceToNat,reduceIte,reduceCtorEq]
   refine hR _ (rnd_drop [ofB (i + 1)] [_,_] (closed_add hcl ?_) (by repeat first | exact .nil | refine .cons (.refl _) ?_ | refine .cons (.forget _) ?_) ?_ (ih (i + 1) (by omega) (by omega)))
   ·simp only [ofB,Off.cells,List.forall_mem_cons,List.not_mem_nil,false_imp_iff,implies_true,and_true,LW]
   ·simp only [LW,List.length_cons,List.length_nil,Nat.zero_add]; omega
  ·have hd2 : decide (((128 : Nat) : Int) < 128) = false := by decide
   refine call_eq (confirmL_pc _ _ _) rfl ?_
   simp only [Off.cells,Opr.cells,Stamp.cells,En.cells,hd2,a2,VV,Int.reduceBEq,Int.reduceBNe,pexec,xexec,binV,Nat.reduceAdd,Nat.reduceSub,Nat.reduceLeDiff,Nat.reduceEqDiff,Int.reduceToNat,reduceIte,reduceCtorEq]
   refine callg_eq (by simp only [VV,Int.reduceBEq,Int.reduceBNe,pexec,xexec,binV,Nat.reduceAdd,Nat.reduceSub,Nat.reduceLeDiff,Nat.reduceEqDiff,Int.reduceToNat,reduceIte,reduceCtorEq] <;> rfl) (fun _ => known39_pc _) rfl ?_
   simp only [VV,Int.reduceBEq,Int.reduceBNe,pexec,xexec,binV,Nat.reduceAdd,Nat.reduceSub,Nat.reduceLeDiff,Nat.reduceEqDiff,Int.reduceToNat,reduceIte,reduceCtorEq]
   exact h2 _ ..
set_option maxRecDepth 4000 in
set_option maxHeartbeats 2000000 in
theorem replicaLimits_pc (n time : Int) (σ : Store) : PC Tryz.prog 3 [.i .i64 n,.i .i64 time] σ (fun r σ' => r = .b true ∧ σ' = σ) := by
 refine PC.intro Tryz.func3 c3 fun hcl hwf => wpc_sound ?_
 have hb : bytesV [] = [] := rfl
 have hn := place_range (x := n) (n := 3) (by decide)
 have ht := place_range (x := time) (n := 2) (by decide)
 obtain ⟨k,hk⟩ : ∃ k : Nat,place n 3 = k := ⟨(place n 3).toNat,by omega⟩
 have e1 : IntKind.i64.wrap (127 + (k : Int)) = ((127 + k : Nat) : Int) := by
  rw [IntWalk.i64_in _ (by omega)]; omega
 simp only [p3,List.length_cons,List.length_nil,List.replicate,List.cons_append,List.nil_append,Nat.reduceAdd,Nat.reduceSub]
 simp only [VV,Int.reduceBEq,Int.reduceBNe,pexec,xexec,binV,Nat.reduceAdd,Nat.reduceSub,Nat.reduceLeDiff,Nat.reduceEqDiff,Int.reduceToNat,reduceIte,reduceCtorEq]
 refine call_eq (newI 1 (by decide) (by decide) _) rfl ?_
 simp only [Off.cells,hb,List.map_nil,VV,Int.reduceBEq,Int.reduceBNe,pexec,xexec,binV,Nat.reduceAdd,Nat.reduceSub,Nat.reduceLeDiff,Nat.reduceEqDiff,Int.reduceToNat,reduceIte,reduceCtorEq]
 refine call_eq (place_pc n 3 (by decide) (by decide) _) rfl ?_
 simp only [hk,e1,VV,Int.reduceBEq,Int.reduceBNe,pexec,xexec,binV,Nat.reduceAdd,Nat.reduceSub,Nat.reduceLeDiff,Nat.reduceEqDiff,Int.reduceToNat,reduceIte,reduceCtorEq]
 refine PWc.rnd_cvs ?_ (127 + k + 1) (loop3 (127 + k) (by omega) time hcl (fun h => ?_) (fun loc => ?_) (127 + k) 0 (by omega) (by omega))
 ·repeat first | exact .nil | refine .cons (.refl _) ?_ | refine .cons (.forget _) ?_
 ·intros
  simp only [ofB,Off.cells,VV,Int.reduceBEq,Int.reduceBNe,pexec,xexec,binV,Nat.reduceAdd,Nat.reduceSub,Nat.reduceLeDiff,Nat.reduceEqDiff,Int.reduceToNat,reduceIte,reduceCtorEq]
  refine call_eq (newI 0 (by decide) (by decide) _) rfl ?_
  simp only [Off.cells,hb,List.map_nil,VV,Int.reduceBEq,Int.reduceBNe,pexec,xexec,binV,Nat.reduceAdd,Nat.reduceSub,Nat.reduceLeDiff,Nat.reduceEqDiff,Int.reduceToNat,reduceIte,reduceCtorEq]
  refine call_eq (place_pc time 2 (by decide) (by decide) _) rfl ?_
  have a2 : σ.length + 2 + 1 = σ.length + 3 := rfl
  have a4 : σ.length + 4 + 1 = σ.length + 5 := rfl
  have w0 : IntKind.i64.wrap (1073741823 + 0) = 1073741823 := by decide
  have w1 : IntKind.i64.wrap (1073741823 + 1) = 1073741824 := by decide
  rcases (show place time 2 = 0 ∨ place time 2 = 1 by omega) with h0 | h0
  ·simp only [h0,w0,VV,Int.reduceBEq,Int.reduceBNe,pexec,xexec,binV,Nat.reduceAdd,Nat.reduceSub,Nat.reduceLeDiff,Nat.reduceEqDiff,Int.reduceToNat,reduceIte,reduceCtorEq]
   refine call_eq (entry_pc 0 0 _) rfl ?_
   simp only [En.cells,VV,Int.reduceBEq,Int.reduceBNe,pexec,xexec,binV,Nat.reduceAdd,Nat.reduceSub,Nat.reduceLeDiff,Nat.reduceEqDiff,Int.reduceToNat,reduceIte,reduceCtorEq]
   refine call_cv (zs := [.agg q0.cells,.agg (x1 1073741823).cells]) (.cons (.refl _) (.cons (Cv.aggs ?_) .nil)) (tReceive_pc 1073741823 (by decide) (by decide) _) ?_
   ·repeat first | exact .nil | refine .cons (.refl _) ?_ | refine .cons (.lit _ _) ?_ | refine .cons (.nil _) ?_
   simp only [Off.cells,a2,VV,Int.reduceBEq,Int.reduceBNe,pexec,xexec,binV,Nat.reduceAdd,Nat.reduceSub,Nat.reduceLeDiff,Nat.reduceEqDiff,Int.reduceToNat,reduceIte,reduceCtorEq]
   intro X Y
   refine call_eq (entry_pc 1 1 _) rfl ?_
   simp only [VV,Int.reduceBEq,Int.reduceBNe,pexec,xexec,binV,Nat.reduceAdd,Nat.reduceSub,Nat.reduceLeDiff,Nat.reduceEqDiff,Int.reduceToNat,reduceIte,reduceCtorEq]
   intro X Y
   refine call_eq (tConfirm_ok _) rfl ?_
   simp only [Off.cells,Opr.cells,Stamp.cells,En.cells,a2,a4,VV,Int.reduceBEq,Int.reduceBNe,pexec,xexec,binV,Nat.reduceAdd,Nat.reduceSub,Nat.reduceLeDiff,Nat.reduceEqDiff,Int.reduceToNat,reduceIte,reduceCtorEq]
   intro X Y
   refine call_eq (entry_pc 2 2 _) rfl ?_
   simp only [VV,Int.reduceBEq,Int.reduceBNe,pexec,xexec,binV,Nat.reduceAdd,Nat.reduceSub,Nat.reduceLeDiff,Nat.reduceEqDiff,Int.reduceToNat,reduceIte,reduceCtorEq]
   intro X Y
   refine call_eq (tConfirm2_lim 2 2 _) rfl ?_
   have k1 : x2.stamp.time = 1073741824 := rfl
   simp only [Off.cells,Opr.cells,Stamp.cells,En.cells,a4,k1,VV,Int.reduceBEq,Int.reduceBNe,pexec,xexec,binV,Nat.reduceAdd,Nat.reduceSub,Nat.reduceLeDiff,Nat.reduceEqDiff,Int.reduceToNat,reduceIte,reduceCtorEq]
   refine callg_eq (by simp only [VV,Int.reduceBEq,Int.reduceBNe,pexec,xexec,binV,Nat.reduceAdd,Nat.reduceSub,Nat.reduceLeDiff,Nat.reduceEqDiff,Int.reduceToNat,reduceIte,reduceCtorEq] <;> rfl) (fun _ => known39_pc _) rfl ?_
   simp only [VV,Int.reduceBEq,Int.reduceBNe,pexec,xexec,binV,Nat.reduceAdd,Nat.reduceSub,Nat.reduceLeDiff,Nat.reduceEqDiff,Int.reduceToNat,reduceIte,reduceCtorEq]
   exact ret_end hcl (.inr rfl) (by simp only [resVs,resV,W]; rfl) (by simp only [LW]) ⟨rfl,rfl⟩
  ·simp only [h0,w1,VV,Int.reduceBEq,Int.reduceBNe,pexec,xexec,binV,Nat.reduceAdd,Nat.reduceSub,Nat.reduceLeDiff,Nat.reduceEqDiff,Int.reduceToNat,reduceIte,reduceCtorEq]
   refine call_eq (entry_pc 0 0 _) rfl ?_
   simp only [En.cells,VV,Int.reduceBEq,Int.reduceBNe,pexec,xexec,binV,Nat.reduceAdd,Nat.reduceSub,Nat.reduceLeDiff,Nat.reduceEqDiff,Int.reduceToNat,reduceIte,reduceCtorEq]
   refine call_cv (zs := [.agg q0.cells,.agg (x1 1073741824).cells]) (.cons (.refl _) (.cons (Cv.aggs ?_) .nil)) (tReceive_pc 1073741824 (by decide) (by decide) _) ?_
   ·repeat first | exact .nil | refine .cons (.refl _) ?_ | refine .cons (.lit _ _) ?_ | refine .cons (.nil _) ?_
   simp only [Off.cells,a2,VV,Int.reduceBEq,Int.reduceBNe,pexec,xexec,binV,Nat.reduceAdd,Nat.reduceSub,Nat.reduceLeDiff,Nat.reduceEqDiff,Int.reduceToNat,reduceIte,reduceCtorEq]
   intro X Y
   refine call_eq (entry_pc 1 1 _) rfl ?_
   simp only [VV,Int.reduceBEq,Int.reduceBNe,pexec,xexec,binV,Nat.reduceAdd,Nat.reduceSub,Nat.reduceLeDiff,Nat.reduceEqDiff,Int.reduceToNat,reduceIte,reduceCtorEq]
   intro X Y
   refine call_eq (tConfirm_lim 1 1 _) rfl ?_
   simp only [Off.cells,Opr.cells,Stamp.cells,En.cells,a2,a4,VV,Int.reduceBEq,Int.reduceBNe,pexec,xexec,binV,Nat.reduceAdd,Nat.reduceSub,Nat.reduceLeDiff,Nat.reduceEqDiff,Int.reduceToNat,reduceIte,reduceCtorEq]
   intro X Y
   refine call_eq (entry_pc 2 2 _) rfl ?_
   simp only [VV,Int.reduceBEq,Int.reduceBNe,pexec,xexec,binV,Nat.reduceAdd,Nat.reduceSub,Nat.reduceLeDiff,Nat.reduceEqDiff,Int.reduceToNat,reduceIte,reduceCtorEq]
   intro X Y
   refine call_eq (tConfirm_zero _) rfl ?_
   simp only [Off.cells,Opr.cells,Stamp.cells,En.cells,a4,VV,Int.reduceBEq,Int.reduceBNe,pexec,xexec,binV,Nat.reduceAdd,Nat.reduceSub,Nat.reduceLeDiff,Nat.reduceEqDiff,Int.reduceToNat,reduceIte,reduceCtorEq]
   refine callg_eq (by simp only [VV,Int.reduceBEq,Int.reduceBNe,pexec,xexec,binV,Nat.reduceAdd,Nat.reduceSub,Nat.reduceLeDiff,Nat.reduceEqDiff,Int.reduceToNat,reduceIte,reduceCtorEq] <;> rfl) (fun _ => PC.wk (args' := [.agg zeroOp.cells,.agg zeroOp.cells]) (Wk.cvs (.cons (.refl _) (.cons (Cv.aggs op0) .nil))) (r36SameOp_pc zeroOp zeroOp _)) rfl ?_
   have ho : opEq zeroOp zeroOp = true := by decide +kernel
   simp only [ho,VV,Int.reduceBEq,Int.reduceBNe,pexec,xexec,binV,Nat.reduceAdd,Nat.reduceSub,Nat.reduceLeDiff,Nat.reduceEqDiff,Int.reduceToNat,reduceIte,reduceCtorEq]
   refine callg_eq (by simp only [VV,Int.reduceBEq,Int.reduceBNe,pexec,xexec,binV,Nat.reduceAdd,Nat.reduceSub,Nat.reduceLeDiff,Nat.reduceEqDiff,Int.reduceToNat,reduceIte,reduceCtorEq] <;> rfl) (fun _ => known39_pc _) rfl ?_
   simp only [VV,Int.reduceBEq,Int.reduceBNe,pexec,xexec,binV,Nat.reduceAdd,Nat.reduceSub,Nat.reduceLeDiff,Nat.reduceEqDiff,Int.reduceToNat,reduceIte,reduceCtorEq]
   exact ret_end hcl (.inr rfl) (by simp only [resVs,resV,W]; rfl) (by simp only [LW]) ⟨rfl,rfl⟩
 ·intros
  simp only [VV,Int.reduceBEq,Int.reduceBNe,pexec,xexec,binV,Nat.reduceAdd,Nat.reduceSub,Nat.reduceLeDiff,Nat.reduceEqDiff,Int.reduceToNat,reduceIte,reduceCtorEq]
  exact ret_end hcl (.inr rfl) (by simp only [resVs,resV,W]; rfl) (by simp only [LW]) ⟨rfl,rfl⟩
end Go.Proofs.Tryz
