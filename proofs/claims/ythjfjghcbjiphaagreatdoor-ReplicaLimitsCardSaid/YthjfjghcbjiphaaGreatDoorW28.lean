/- A part of the proof of the statement of the last text of this claim: for every two integers ReplicaLimits returns true and leaves the memory as it was. -/
import Derived.Test.YthjfjghcbjiphaaGreatDoorW24
import Derived.Test.YthjfjghcbjiphaaGreatDoorW26
set_option linter.all false

namespace Go.Proofs.Tryz
open Go Go.Pm Go.Bt
theorem opOrd_zero {a b : Opr} (h : orI [cmpI a.stamp.office b.stamp.office,cmpI a.stamp.number b.stamp.number,cmpI a.stamp.time b.stamp.time,cmpI a.kind b.kind] = 0) : opOrd a b = cmpB (encode a).1 (encode b).1 := by
 simp only [opOrd,h,ne_eq,not_true,if_false]
theorem opOrd_some {a b : Opr} (h : orI [cmpI a.stamp.office b.stamp.office,cmpI a.stamp.number b.stamp.number,cmpI a.stamp.time b.stamp.time,cmpI a.kind b.kind] ≠ 0) :
  opOrd a b = orI [cmpI a.stamp.office b.stamp.office,cmpI a.stamp.number b.stamp.number,cmpI a.stamp.time b.stamp.time,cmpI a.kind b.kind] := by
 simp only [opOrd,if_pos h]
set_option maxHeartbeats 1000000 in
theorem opCompare_pc (a b : Opr) (ha : a.small) (hb : b.small) (σ : Store) : PC Tryz.prog 21 [.agg a.cells,.agg b.cells] σ (fun r σ' => r = .i .i64 (opOrd a b) ∧ σ' = σ) := by
 refine PC.intro Tryz.func21 c21 fun hcl hwf => wpc_sound ?_
 simp only [p21,List.length_cons,List.length_nil,List.replicate,List.cons_append,List.nil_append,Nat.reduceAdd,Nat.reduceSub]
 simp only [Opr.cells,Stamp.cells,En.cells,VV,Int.reduceBEq,Int.reduceBNe,pexec,xexec,binV,Nat.reduceAdd,Nat.reduceSub,Nat.reduceLeDiff,Nat.reduceEqDiff,Int.reduceToNat,reduceIte,reduceCtorEq]
 refine ⟨?_,?_⟩
 all_goals
  refine call_eq (cmpI_pc _ _ _) rfl ?_
  simp only [VV,Int.reduceBEq,Int.reduceBNe,pexec,xexec,binV,Nat.reduceAdd,Nat.reduceSub,Nat.reduceLeDiff,Nat.reduceEqDiff,Int.reduceToNat,reduceIte,reduceCtorEq]
  refine call_eq (cmpI_pc _ _ _) rfl ?_
  simp only [VV,Int.reduceBEq,Int.reduceBNe,pexec,xexec,binV,Nat.reduceAdd,Nat.reduceSub,Nat.reduceLeDiff,Nat.reduceEqDiff,Int.reduceToNat,reduceIte,reduceCtorEq]
  refine call_eq (cmpI_pc _ _ _) rfl ?_
  simp only [VV,Int.reduceBEq,Int.reduceBNe,pexec,xexec,binV,Nat.reduceAdd,Nat.reduceSub,Nat.reduceLeDiff,Nat.reduceEqDiff,Int.reduceToNat,reduceIte,reduceCtorEq]
  refine call_eq (cmpI_pc _ _ _) rfl ?_
  simp only [VV,Int.reduceBEq,Int.reduceBNe,pexec,xexec,binV,Nat.reduceAdd,Nat.reduceSub,Nat.reduceLeDiff,Nat.reduceEqDiff,Int.reduceToNat,reduceIte,reduceCtorEq]
  refine call_cv (zs := [.sl 1 ([cmpI a.stamp.office b.stamp.office,cmpI a.stamp.number b.stamp.number,cmpI a.stamp.time b.stamp.time,cmpI a.kind b.kind].map iRow)]) (.cons (.lit _ _) .nil) (orI_pc _ _) ?_
  simp only [VV,Int.reduceBEq,Int.reduceBNe,pexec,xexec,binV,Nat.reduceAdd,Nat.reduceSub,Nat.reduceLeDiff,Nat.reduceEqDiff,Int.reduceToNat,reduceIte,reduceCtorEq]
  refine ⟨fun h => ?_,fun h => ?_⟩
  ·have h : orI [cmpI a.stamp.office b.stamp.office,cmpI a.stamp.number b.stamp.number,cmpI a.stamp.time b.stamp.time,cmpI a.kind b.kind] ≠ 0 := by simpa using h
   rw [opOrd_some h]
   exact ret_end hcl (.inr rfl) (by simp only [resVs,resV,W]; rfl) (by simp only [LW]) ⟨rfl,rfl⟩
  ·have h : orI [cmpI a.stamp.office b.stamp.office,cmpI a.stamp.number b.stamp.number,cmpI a.stamp.time b.stamp.time,cmpI a.kind b.kind] = 0 := by simpa using h
   rw [opOrd_zero h]
   refine call_eq (encode_pc a ha _) rfl ?_
   simp only [VV,Int.reduceBEq,Int.reduceBNe,pexec,xexec,binV,Nat.reduceAdd,Nat.reduceSub,Nat.reduceLeDiff,Nat.reduceEqDiff,Int.reduceToNat,reduceIte,reduceCtorEq]
   refine call_eq (encode_pc b hb _) rfl ?_
   simp only [VV,Int.reduceBEq,Int.reduceBNe,pexec,xexec,binV,Nat.reduceAdd,Nat.reduceSub,Nat.reduceLeDiff,Nat.reduceEqDiff,Int.reduceToNat,reduceIte,reduceCtorEq]
   refine call_eq (bytesCompare_pc (encode a).1 (encode b).1 _) rfl ?_
   simp only [VV,Int.reduceBEq,Int.reduceBNe,pexec,xexec,binV,Nat.reduceAdd,Nat.reduceSub,Nat.reduceLeDiff,Nat.reduceEqDiff,Int.reduceToNat,reduceIte,reduceCtorEq]
   exact ret_end hcl (.inr rfl) (by simp only [resVs,resV,W]; rfl) (by simp only [LW]) ⟨rfl,rfl⟩
theorem opWins_pc (a b : Opr) (ha : a.small) (hb : b.small) (σ : Store) : PC Tryz.prog 131 [.agg a.cells,.agg b.cells] σ (fun r σ' => r = .b (wins a b) ∧ σ' = σ) := by
 refine PC.intro Tryz.func131 c131 fun hcl hwf => wpc_sound ?_
 simp only [p131,List.length_cons,List.length_nil,List.replicate,List.cons_append,List.nil_append,Nat.reduceAdd,Nat.reduceSub]
 simp only [Opr.cells,Stamp.cells,En.cells,VV,Int.reduceBEq,Int.reduceBNe,pexec,xexec,binV,Nat.reduceAdd,Nat.reduceSub,Nat.reduceLeDiff,Nat.reduceEqDiff,Int.reduceToNat,reduceIte,reduceCtorEq]
 refine call_eq (stampCompare_pc a.stamp b.stamp _) rfl ?_
 simp only [VV,Int.reduceBEq,Int.reduceBNe,pexec,xexec,binV,Nat.reduceAdd,Nat.reduceSub,Nat.reduceLeDiff,Nat.reduceEqDiff,Int.reduceToNat,reduceIte,reduceCtorEq]
 refine callg_eq (by simp only [VV,Int.reduceBEq,Int.reduceBNe,pexec,xexec,binV,Nat.reduceAdd,Nat.reduceSub,Nat.reduceLeDiff,Nat.reduceEqDiff,Int.reduceToNat,reduceIte,reduceCtorEq] <;> rfl) (fun _ => opCompare_pc a b ha hb _) rfl ?_
 simp only [VV,Int.reduceBEq,Int.reduceBNe,pexec,xexec,binV,Nat.reduceAdd,Nat.reduceSub,Nat.reduceLeDiff,Nat.reduceEqDiff,Int.reduceToNat,reduceIte,reduceCtorEq]
 refine ret_end hcl (.inr rfl) (by simp only [resVs,resV,W]; rfl) (by simp only [LW]) ⟨?_,rfl⟩
 simp only [Pm.one,List.getD_cons_zero,List.getD_cons_succ,wins,V.b.injEq]
 by_cases h1 : 0 < cmpStamp a.stamp b.stamp <;> by_cases h2 : cmpStamp a.stamp b.stamp = 0 <;> simp [h1,h2]
end Go.Proofs.Tryz
