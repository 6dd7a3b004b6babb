/- A part of the proof that OperationKeeps returns true and leaves its argument as it was, for every input. -/
import Derived.Test.YtdhbodgefhojnaaGreatDoorK25
import Derived.Test.YtdhbodgefhojnaaGreatDoorK28
set_option linter.all false

namespace Go.Proofs.Tryz
open Go Go.Pm Go.Bt
theorem opOrd_zero {a b : Opr} (h : orI [cmpI a.stamp.office b.stamp.office,cmpI a.stamp.number b.stamp.number,cmpI a.stamp.time b.stamp.time,cmpI a.kind b.kind] = 0) : opOrd a b = cmpB (encode a).1 (encode b).1 := by
 simp only [opOrd,h,ne_eq,not_true,if_false]
theorem opOrd_some {a b : Opr} (h : orI [cmpI a.stamp.office b.stamp.office,cmpI a.stamp.number b.stamp.number,cmpI a.stamp.time b.stamp.time,cmpI a.kind b.kind] ≠ 0) :
  opOrd a b = orI [cmpI a.stamp.office b.stamp.office,cmpI a.stamp.number b.stamp.number,cmpI a.stamp.time b.stamp.time,cmpI a.kind b.kind] := by
 simp only [opOrd,if_pos h]
theorem opCompare_pc (a b : Opr) (ha : a.small) (hb : b.small) (σ : Store) : PC Tryz.prog 26 [.agg a.cells,.agg b.cells] σ (fun r σ' => r = .i .i64 (opOrd a b) ∧ σ' = σ) := by
 refine PC.intro Tryz.func26 c26 fun hcl hwf => wpc_sound ?_
 simp only [p26,List.length_cons,List.length_nil,List.replicate,List.cons_append,List.nil_append,Nat.reduceAdd,Nat.reduceSub]
 simp only [Opr.cells,Stamp.cells,En.cells,VV,pexec,xexec,binV,Nat.reduceAdd,Nat.reduceLeDiff]
 refine ⟨?_,?_⟩
 all_goals
  refine call_eq (cmpI_pc _ _ _) rfl ?_
  simp only [VV,pexec,binV]
  refine call_eq (cmpI_pc _ _ _) rfl ?_
  simp only [VV,pexec,binV]
  refine call_eq (cmpI_pc _ _ _) rfl ?_
  simp only [VV,pexec,binV]
  refine call_eq (cmpI_pc _ _ _) rfl ?_
  simp only [VV,pexec]
  refine call_cv (zs := [.sl 1 ([cmpI a.stamp.office b.stamp.office,cmpI a.stamp.number b.stamp.number,cmpI a.stamp.time b.stamp.time,cmpI a.kind b.kind].map iRow)]) (.cons (.lit _ _) .nil) (orI_pc _ _) ?_
  simp only [VV,pexec,binV,Nat.reduceAdd,reduceIte]
  refine ⟨fun h => ?_,fun h => ?_⟩
  ·have h : orI [cmpI a.stamp.office b.stamp.office,cmpI a.stamp.number b.stamp.number,cmpI a.stamp.time b.stamp.time,cmpI a.kind b.kind] ≠ 0 := by simpa using h
   rw [opOrd_some h]
   exact ret_end hcl (.inr rfl) (by simp only [resVs,resV,W]; rfl) (by simp only [LW]) ⟨rfl,rfl⟩
  ·have h : orI [cmpI a.stamp.office b.stamp.office,cmpI a.stamp.number b.stamp.number,cmpI a.stamp.time b.stamp.time,cmpI a.kind b.kind] = 0 := by simpa using h
   rw [opOrd_zero h]
   refine call_eq (encode_pc a ha _) rfl ?_
   simp only [VV,pexec,Nat.reduceAdd]
   refine call_eq (encode_pc b hb _) rfl ?_
   simp only [VV,pexec]
   refine call_eq (bytesCompare_pc (encode a).1 (encode b).1 _) rfl ?_
   simp only [VV,pexec]
   exact ret_end hcl (.inr rfl) (by simp only [resVs,resV,W]; rfl) (by simp only [LW]) ⟨rfl,rfl⟩
theorem opWins_pc (a b : Opr) (ha : a.small) (hb : b.small) (σ : Store) : PC Tryz.prog 28 [.agg a.cells,.agg b.cells] σ (fun r σ' => r = .b (wins a b) ∧ σ' = σ) := by
 refine PC.intro Tryz.func28 c28 fun hcl hwf => wpc_sound ?_
 simp only [p28,List.length_cons,List.length_nil,List.replicate,List.cons_append,List.nil_append,Nat.reduceAdd,Nat.reduceSub]
 simp only [Opr.cells,Stamp.cells,En.cells,VV,pexec,xexec,Nat.reduceAdd,Nat.reduceLeDiff]
 refine call_eq (stampCompare_pc a.stamp b.stamp _) rfl ?_
 simp only [VV,pexec,binV,Nat.reduceAdd,reduceIte]
 refine callg_eq (by simp only [VV] <;> rfl) (fun _ => opCompare_pc a b ha hb _) rfl ?_
 simp only [VV,pexec,binV,reduceIte]
 refine ret_end hcl (.inr rfl) (by simp only [resVs,resV,W]; rfl) (by simp only [LW]) ⟨?_,rfl⟩
 simp only [Pm.one,wins,V.b.injEq]
 by_cases h1 : 0 < cmpStamp a.stamp b.stamp <;> by_cases h2 : cmpStamp a.stamp b.stamp = 0 <;> simp [h1,h2]
theorem opConcurrent_pc (a b : Opr) (σ : Store) : PC Tryz.prog 30 [.agg a.cells,.agg b.cells] σ (fun r σ' => r = .b (concurrent a b) ∧ σ' = σ) := by
 refine PC.intro Tryz.func30 c30 fun hcl hwf => wpc_sound ?_
 simp only [p30,List.length_cons,List.length_nil,List.replicate,List.cons_append,List.nil_append,Nat.reduceAdd,Nat.reduceSub]
 simp only [Opr.cells,Stamp.cells,En.cells,VV,pexec,xexec,binV,Nat.reduceAdd,Nat.reduceLeDiff,reduceIte]
 refine callg_eq (by simp only [VV] <;> rfl) (fun _ => covers_pc a.seen b.stamp _) rfl ?_
 simp only [VV,pexec,Nat.reduceAdd,Nat.reduceLeDiff]
 refine callg_eq (by simp only [VV] <;> rfl) (fun _ => covers_pc b.seen a.stamp _) rfl ?_
 simp only [VV,pexec]
 refine ret_end hcl (.inr rfl) (by simp only [resVs,resV,W]; rfl) (by simp only [LW]) ⟨?_,rfl⟩
 simp only [Pm.one,concurrent]
end Go.Proofs.Tryz
