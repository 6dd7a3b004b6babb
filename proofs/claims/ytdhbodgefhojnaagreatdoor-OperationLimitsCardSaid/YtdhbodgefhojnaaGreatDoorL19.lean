/- A part of the proof of the statement of the last text of this claim: for every input the law returns true and leaves its argument as it was. -/
import Derived.Test.YtdhbodgefhojnaaGreatDoorL10
import Derived.Test.YtdhbodgefhojnaaGreatDoorL11
import Derived.Test.YtdhbodgefhojnaaGreatDoorL18
set_option linter.unusedSectionVars false
set_option linter.unusedVariables false
set_option linter.unusedSimpArgs false
set_option linter.constructorNameAsVariable false

set_option linter.unusedSimpArgs false
namespace Go.Proofs.Tryz
open Go Go.Pm Go.Bt

theorem tag_pc (s : List UInt8) (σ : Store) : PC Tryz.prog 168 [.s s] σ (fun r σ' => r = .tup [.agg (tagOf s).1.cells, .b (tagOf s).2] ∧ σ' = σ) := by
  refine PC.intro Tryz.func168 c168 fun hcl hwf => wpc_sound ?_
  have hlen := wf_s (hwf 0 _ rfl).1
  simp only [p168, List.length_cons, List.length_nil, List.replicate, List.cons_append, List.nil_append, Nat.reduceAdd, Nat.reduceSub]
  simp only [W, pexec, xexec, binV, Nat.reduceAdd, Nat.reduceSub, Nat.reduceLeDiff, Nat.reduceEqDiff, Int.reduceToNat, reduceIte, reduceCtorEq, Int.reduceBEq, Int.reduceBNe, Bool.true_or, Bool.false_or, Bool.or_true, Bool.or_false, Bool.and_false, Bool.false_and, Nat.sub_zero, bytesOf, byteOfRow, UInt8.ofNat_toNat]
  refine call_eq (hasPrefix_pc s [47] _) rfl ?_
  simp only [W, pexec, xexec, binV, Nat.reduceAdd, Nat.reduceSub, Nat.reduceLeDiff, Nat.reduceEqDiff, Int.reduceToNat, reduceIte, reduceCtorEq, Int.reduceBEq, Int.reduceBNe, Bool.true_or, Bool.false_or, Bool.or_true, Bool.or_false, Bool.and_false, Bool.false_and, Nat.sub_zero, bytesOf, byteOfRow, UInt8.ofNat_toNat]
  refine ⟨fun hp => ?_, fun hp => ?_⟩
  · have hl : 1 ≤ s.length := by
      simp only [hasPrefix, Bool.and_eq_true, decide_eq_true_eq] at hp
      simpa using hp.1
    have e0 : (s.drop 1).take (s.length - 1) = s.drop 1 := by
      rw [List.take_of_length_le]; simp
    refine ⟨by omega, ?_⟩
    refine call_eq (cut_pc (s.drop 1) 58 _) (by simp only [List.map_cons, List.map_nil, W, pexec, xexec, binV, Nat.reduceAdd, Nat.reduceSub, Nat.reduceLeDiff, Nat.reduceEqDiff, Int.reduceToNat, reduceIte, reduceCtorEq, Int.reduceBEq, Int.reduceBNe, Bool.true_or, Bool.false_or, Bool.or_true, Bool.or_false, Bool.and_false, Bool.false_and, Nat.sub_zero, bytesOf, byteOfRow, UInt8.ofNat_toNat]; rw [e0]) ?_
    simp only [W, pexec, xexec, binV, Nat.reduceAdd, Nat.reduceSub, Nat.reduceLeDiff, Nat.reduceEqDiff, Int.reduceToNat, reduceIte, reduceCtorEq, Int.reduceBEq, Int.reduceBNe, Bool.true_or, Bool.false_or, Bool.or_true, Bool.or_false, Bool.and_false, Bool.false_and, Nat.sub_zero, bytesOf, byteOfRow, UInt8.ofNat_toNat]
    generalize hq : cutAt (s.drop 1) 58 = q
    obtain ⟨a, b, f⟩ := q
    refine callg_eq (c := false) (v := .b false) (by simp only [W, pexec, xexec, binV, Nat.reduceAdd, Nat.reduceSub, Nat.reduceLeDiff, Nat.reduceEqDiff, Int.reduceToNat, reduceIte, reduceCtorEq, Int.reduceBEq, Int.reduceBNe, Bool.true_or, Bool.false_or, Bool.or_true, Bool.or_false, Bool.and_false, Bool.false_and, Nat.sub_zero, bytesOf, byteOfRow, UInt8.ofNat_toNat] <;> rfl) (fun h => by simp at h) rfl ?_
    simp only [W, pexec, xexec, binV, Nat.reduceAdd, Nat.reduceSub, Nat.reduceLeDiff, Nat.reduceEqDiff, Int.reduceToNat, reduceIte, reduceCtorEq, Int.reduceBEq, Int.reduceBNe, Bool.true_or, Bool.false_or, Bool.or_true, Bool.or_false, Bool.and_false, Bool.false_and, Nat.sub_zero, bytesOf, byteOfRow, UInt8.ofNat_toNat]
    refine call_eq (number_pc a _) rfl ?_
    simp only [W, pexec, xexec, binV, Nat.reduceAdd, Nat.reduceSub, Nat.reduceLeDiff, Nat.reduceEqDiff, Int.reduceToNat, reduceIte, reduceCtorEq, Int.reduceBEq, Int.reduceBNe, Bool.true_or, Bool.false_or, Bool.or_true, Bool.or_false, Bool.and_false, Bool.false_and, Nat.sub_zero, bytesOf, byteOfRow, UInt8.ofNat_toNat]
    cases f with
    | false =>
      have e : tagOf s = (⟨0, [], 0⟩, false) := by unfold tagOf; simp only [hp, if_true, hq]; simp
      simp only [W, pexec, xexec, binV, Nat.reduceAdd, Nat.reduceSub, Nat.reduceLeDiff, Nat.reduceEqDiff, Int.reduceToNat, reduceIte, reduceCtorEq, Int.reduceBEq, Int.reduceBNe, Bool.true_or, Bool.false_or, Bool.or_true, Bool.or_false, Bool.and_false, Bool.false_and, Nat.sub_zero, bytesOf, byteOfRow, UInt8.ofNat_toNat]
      rw [e]
      exact ret_end hcl (.inr rfl) (by simp only [resVs, resV, W, pexec, xexec, binV, Nat.reduceAdd, Nat.reduceSub, Nat.reduceLeDiff, Nat.reduceEqDiff, Int.reduceToNat, reduceIte, reduceCtorEq, Int.reduceBEq, Int.reduceBNe, Bool.true_or, Bool.false_or, Bool.or_true, Bool.or_false, Bool.and_false, Bool.false_and, Nat.sub_zero, bytesOf, byteOfRow, UInt8.ofNat_toNat]; rfl) (by simp only [LW]) ⟨rfl, rfl⟩
    | true =>
      simp only [W, pexec, xexec, binV, Nat.reduceAdd, Nat.reduceSub, Nat.reduceLeDiff, Nat.reduceEqDiff, Int.reduceToNat, reduceIte, reduceCtorEq, Int.reduceBEq, Int.reduceBNe, Bool.true_or, Bool.false_or, Bool.or_true, Bool.or_false, Bool.and_false, Bool.false_and, Nat.sub_zero, bytesOf, byteOfRow, UInt8.ofNat_toNat]
      refine ⟨fun h => ?_, fun h => ?_⟩
      · have h : (numberOf a).2 = false := by simpa using h
        have e : tagOf s = (⟨0, [], 0⟩, false) := by unfold tagOf; simp only [hp, if_true, hq]; simp [h]
        rw [e]
        exact ret_end hcl (.inr rfl) (by simp only [resVs, resV, W, pexec, xexec, binV, Nat.reduceAdd, Nat.reduceSub, Nat.reduceLeDiff, Nat.reduceEqDiff, Int.reduceToNat, reduceIte, reduceCtorEq, Int.reduceBEq, Int.reduceBNe, Bool.true_or, Bool.false_or, Bool.or_true, Bool.or_false, Bool.and_false, Bool.false_and, Nat.sub_zero, bytesOf, byteOfRow, UInt8.ofNat_toNat]; rfl) (by simp only [LW]) ⟨rfl, rfl⟩
      · have h : (numberOf a).2 = true := by simpa using h
        have e : tagOf s = (⟨3, b, (numberOf a).1⟩, isName b) := by unfold tagOf; simp only [hp, if_true, hq]; simp [h]
        rw [e]
        refine call_eq (isName_pc b _) rfl ?_
        simp only [W, pexec, xexec, binV, Nat.reduceAdd, Nat.reduceSub, Nat.reduceLeDiff, Nat.reduceEqDiff, Int.reduceToNat, reduceIte, reduceCtorEq, Int.reduceBEq, Int.reduceBNe, Bool.true_or, Bool.false_or, Bool.or_true, Bool.or_false, Bool.and_false, Bool.false_and, Nat.sub_zero, bytesOf, byteOfRow, UInt8.ofNat_toNat]
        exact ret_end hcl (.inr rfl) (by simp only [resVs, resV, W, pexec, xexec, binV, Nat.reduceAdd, Nat.reduceSub, Nat.reduceLeDiff, Nat.reduceEqDiff, Int.reduceToNat, reduceIte, reduceCtorEq, Int.reduceBEq, Int.reduceBNe, Bool.true_or, Bool.false_or, Bool.or_true, Bool.or_false, Bool.and_false, Bool.false_and, Nat.sub_zero, bytesOf, byteOfRow, UInt8.ofNat_toNat]; rfl) (by simp only [LW]) ⟨rfl, rfl⟩
  · refine call_eq (cut_pc s 58 _) rfl ?_
    simp only [W, pexec, xexec, binV, Nat.reduceAdd, Nat.reduceSub, Nat.reduceLeDiff, Nat.reduceEqDiff, Int.reduceToNat, reduceIte, reduceCtorEq, Int.reduceBEq, Int.reduceBNe, Bool.true_or, Bool.false_or, Bool.or_true, Bool.or_false, Bool.and_false, Bool.false_and, Nat.sub_zero, bytesOf, byteOfRow, UInt8.ofNat_toNat]
    generalize hq : cutAt s 58 = q
    obtain ⟨a, b, f⟩ := q
    refine callg_eq (c := true) (by simp only [W, pexec, xexec, binV, Nat.reduceAdd, Nat.reduceSub, Nat.reduceLeDiff, Nat.reduceEqDiff, Int.reduceToNat, reduceIte, reduceCtorEq, Int.reduceBEq, Int.reduceBNe, Bool.true_or, Bool.false_or, Bool.or_true, Bool.or_false, Bool.and_false, Bool.false_and, Nat.sub_zero, bytesOf, byteOfRow, UInt8.ofNat_toNat] <;> rfl) (fun h => hasSuffix_pc b [47] _) rfl ?_
    simp only [W, pexec, xexec, binV, Nat.reduceAdd, Nat.reduceSub, Nat.reduceLeDiff, Nat.reduceEqDiff, Int.reduceToNat, reduceIte, reduceCtorEq, Int.reduceBEq, Int.reduceBNe, Bool.true_or, Bool.false_or, Bool.or_true, Bool.or_false, Bool.and_false, Bool.false_and, Nat.sub_zero, bytesOf, byteOfRow, UInt8.ofNat_toNat]
    have tail : ∀ (kind : Int) (content : List UInt8), kind ≠ 3 → tagOf s = (if f && (numberOf a).2 then (⟨kind, content, (numberOf a).1⟩, if kind = 3 then isName content else isContent content) else (⟨0, [], 0⟩, false)) →
        (((f = false) ∨ (numberOf a).2 = false) → tagOf s = (⟨0, [], 0⟩, false)) ∧ (f = true → (numberOf a).2 = true → tagOf s = (⟨kind, content, (numberOf a).1⟩, isContent content)) := by
      intro kind content hk e
      rw [e]
      refine ⟨?_, ?_⟩
      · rintro (h | h) <;> rw [h] <;> simp
      · intro h1 h2; simp [h1, h2, hk]
    refine ⟨fun hs => ?_, fun hs => ?_⟩
    · have hb : 1 ≤ b.length := by
        simp only [hasSuffix, Bool.and_eq_true, decide_eq_true_eq] at hs
        simpa using hs.1
      have hbl : b.length < 2 ^ 63 := by
        have : b = (cutAt s 58).2.1 := by rw [hq]
        have h2 : b.length ≤ s.length := by
          rw [this]; simp only [cutAt]; split <;> simp
        omega
      have e1 : IntKind.i64.wrap ((b.length : Int) - 1) = ((b.length - 1 : Nat) : Int) := by rw [IntWalk.i64_in _ (by omega)]; omega
      have t := tail 4 (b.take (b.length - 1)) (by decide) (by unfold tagOf; simp [hp, hq, hs])
      simp only [e1, Int.toNat_natCast, W, pexec, xexec, binV, Nat.reduceAdd, Nat.reduceSub, Nat.reduceLeDiff, Nat.reduceEqDiff, Int.reduceToNat, reduceIte, reduceCtorEq, Int.reduceBEq, Int.reduceBNe, Bool.true_or, Bool.false_or, Bool.or_true, Bool.or_false, Bool.and_false, Bool.false_and, Nat.sub_zero, bytesOf, byteOfRow, UInt8.ofNat_toNat]
      refine ⟨by omega, ?_⟩
      refine call_eq (number_pc a _) rfl ?_
      simp only [W, pexec, xexec, binV, Nat.reduceAdd, Nat.reduceSub, Nat.reduceLeDiff, Nat.reduceEqDiff, Int.reduceToNat, reduceIte, reduceCtorEq, Int.reduceBEq, Int.reduceBNe, Bool.true_or, Bool.false_or, Bool.or_true, Bool.or_false, Bool.and_false, Bool.false_and, Nat.sub_zero, bytesOf, byteOfRow, UInt8.ofNat_toNat]
      cases f with
      | false =>
        simp only [W, pexec, xexec, binV, Nat.reduceAdd, Nat.reduceSub, Nat.reduceLeDiff, Nat.reduceEqDiff, Int.reduceToNat, reduceIte, reduceCtorEq, Int.reduceBEq, Int.reduceBNe, Bool.true_or, Bool.false_or, Bool.or_true, Bool.or_false, Bool.and_false, Bool.false_and, Nat.sub_zero, bytesOf, byteOfRow, UInt8.ofNat_toNat]
        rw [t.1 (.inl rfl)]
        exact ret_end hcl (.inr rfl) (by simp only [resVs, resV, W, pexec, xexec, binV, Nat.reduceAdd, Nat.reduceSub, Nat.reduceLeDiff, Nat.reduceEqDiff, Int.reduceToNat, reduceIte, reduceCtorEq, Int.reduceBEq, Int.reduceBNe, Bool.true_or, Bool.false_or, Bool.or_true, Bool.or_false, Bool.and_false, Bool.false_and, Nat.sub_zero, bytesOf, byteOfRow, UInt8.ofNat_toNat]; rfl) (by simp only [LW]) ⟨rfl, rfl⟩
      | true =>
        simp only [W, pexec, xexec, binV, Nat.reduceAdd, Nat.reduceSub, Nat.reduceLeDiff, Nat.reduceEqDiff, Int.reduceToNat, reduceIte, reduceCtorEq, Int.reduceBEq, Int.reduceBNe, Bool.true_or, Bool.false_or, Bool.or_true, Bool.or_false, Bool.and_false, Bool.false_and, Nat.sub_zero, bytesOf, byteOfRow, UInt8.ofNat_toNat]
        refine ⟨fun h => ?_, fun h => ?_⟩
        · have h : (numberOf a).2 = false := by simpa using h
          rw [t.1 (.inr h)]
          exact ret_end hcl (.inr rfl) (by simp only [resVs, resV, W, pexec, xexec, binV, Nat.reduceAdd, Nat.reduceSub, Nat.reduceLeDiff, Nat.reduceEqDiff, Int.reduceToNat, reduceIte, reduceCtorEq, Int.reduceBEq, Int.reduceBNe, Bool.true_or, Bool.false_or, Bool.or_true, Bool.or_false, Bool.and_false, Bool.false_and, Nat.sub_zero, bytesOf, byteOfRow, UInt8.ofNat_toNat]; rfl) (by simp only [LW]) ⟨rfl, rfl⟩
        · have h : (numberOf a).2 = true := by simpa using h
          rw [t.2 rfl h]
          refine call_eq (isContent_pc _ _) rfl ?_
          simp only [W, pexec, xexec, binV, Nat.reduceAdd, Nat.reduceSub, Nat.reduceLeDiff, Nat.reduceEqDiff, Int.reduceToNat, reduceIte, reduceCtorEq, Int.reduceBEq, Int.reduceBNe, Bool.true_or, Bool.false_or, Bool.or_true, Bool.or_false, Bool.and_false, Bool.false_and, Nat.sub_zero, bytesOf, byteOfRow, UInt8.ofNat_toNat]
          refine ret_end hcl (.inr rfl) (by simp only [resVs, resV, W, pexec, xexec, binV, Nat.reduceAdd, Nat.reduceSub, Nat.reduceLeDiff, Nat.reduceEqDiff, Int.reduceToNat, reduceIte, reduceCtorEq, Int.reduceBEq, Int.reduceBNe, Bool.true_or, Bool.false_or, Bool.or_true, Bool.or_false, Bool.and_false, Bool.false_and, Nat.sub_zero, bytesOf, byteOfRow, UInt8.ofNat_toNat]; rfl) (by simp only [LW]) ⟨rfl, rfl⟩
    · have t := tail 2 b (by decide) (by unfold tagOf; simp [hp, hq, hs])
      refine call_eq (number_pc a _) rfl ?_
      simp only [W, pexec, xexec, binV, Nat.reduceAdd, Nat.reduceSub, Nat.reduceLeDiff, Nat.reduceEqDiff, Int.reduceToNat, reduceIte, reduceCtorEq, Int.reduceBEq, Int.reduceBNe, Bool.true_or, Bool.false_or, Bool.or_true, Bool.or_false, Bool.and_false, Bool.false_and, Nat.sub_zero, bytesOf, byteOfRow, UInt8.ofNat_toNat]
      cases f with
      | false =>
        simp only [W, pexec, xexec, binV, Nat.reduceAdd, Nat.reduceSub, Nat.reduceLeDiff, Nat.reduceEqDiff, Int.reduceToNat, reduceIte, reduceCtorEq, Int.reduceBEq, Int.reduceBNe, Bool.true_or, Bool.false_or, Bool.or_true, Bool.or_false, Bool.and_false, Bool.false_and, Nat.sub_zero, bytesOf, byteOfRow, UInt8.ofNat_toNat]
        rw [t.1 (.inl rfl)]
        exact ret_end hcl (.inr rfl) (by simp only [resVs, resV, W, pexec, xexec, binV, Nat.reduceAdd, Nat.reduceSub, Nat.reduceLeDiff, Nat.reduceEqDiff, Int.reduceToNat, reduceIte, reduceCtorEq, Int.reduceBEq, Int.reduceBNe, Bool.true_or, Bool.false_or, Bool.or_true, Bool.or_false, Bool.and_false, Bool.false_and, Nat.sub_zero, bytesOf, byteOfRow, UInt8.ofNat_toNat]; rfl) (by simp only [LW]) ⟨rfl, rfl⟩
      | true =>
        simp only [W, pexec, xexec, binV, Nat.reduceAdd, Nat.reduceSub, Nat.reduceLeDiff, Nat.reduceEqDiff, Int.reduceToNat, reduceIte, reduceCtorEq, Int.reduceBEq, Int.reduceBNe, Bool.true_or, Bool.false_or, Bool.or_true, Bool.or_false, Bool.and_false, Bool.false_and, Nat.sub_zero, bytesOf, byteOfRow, UInt8.ofNat_toNat]
        refine ⟨fun h => ?_, fun h => ?_⟩
        · have h : (numberOf a).2 = false := by simpa using h
          rw [t.1 (.inr h)]
          exact ret_end hcl (.inr rfl) (by simp only [resVs, resV, W, pexec, xexec, binV, Nat.reduceAdd, Nat.reduceSub, Nat.reduceLeDiff, Nat.reduceEqDiff, Int.reduceToNat, reduceIte, reduceCtorEq, Int.reduceBEq, Int.reduceBNe, Bool.true_or, Bool.false_or, Bool.or_true, Bool.or_false, Bool.and_false, Bool.false_and, Nat.sub_zero, bytesOf, byteOfRow, UInt8.ofNat_toNat]; rfl) (by simp only [LW]) ⟨rfl, rfl⟩
        · have h : (numberOf a).2 = true := by simpa using h
          rw [t.2 rfl h]
          refine call_eq (isContent_pc _ _) rfl ?_
          simp only [W, pexec, xexec, binV, Nat.reduceAdd, Nat.reduceSub, Nat.reduceLeDiff, Nat.reduceEqDiff, Int.reduceToNat, reduceIte, reduceCtorEq, Int.reduceBEq, Int.reduceBNe, Bool.true_or, Bool.false_or, Bool.or_true, Bool.or_false, Bool.and_false, Bool.false_and, Nat.sub_zero, bytesOf, byteOfRow, UInt8.ofNat_toNat]
          refine ret_end hcl (.inr rfl) (by simp only [resVs, resV, W, pexec, xexec, binV, Nat.reduceAdd, Nat.reduceSub, Nat.reduceLeDiff, Nat.reduceEqDiff, Int.reduceToNat, reduceIte, reduceCtorEq, Int.reduceBEq, Int.reduceBNe, Bool.true_or, Bool.false_or, Bool.or_true, Bool.or_false, Bool.and_false, Bool.false_and, Nat.sub_zero, bytesOf, byteOfRow, UInt8.ofNat_toNat]; rfl) (by simp only [LW]) ⟨rfl, rfl⟩

theorem element_pc (s : List UInt8) (hs : s ≠ []) (σ : Store) : PC Tryz.prog 136 [.s s] σ (fun r σ' => r = .tup [.agg (elementOf s).1.cells, .i .i64 (elementOf s).2.1, .b (elementOf s).2.2] ∧ σ' = σ) := by
  refine PC.intro Tryz.func136 c136 fun hcl hwf => wpc_sound ?_
  have hlen := wf_s (hwf 0 _ rfl).1
  have hl : 0 < s.length := List.length_pos_iff.2 hs
  have bnd : (0 : Int) ≤ 0 ∧ (0 : Int) < s.length := by omega
  simp only [p136, List.length_cons, List.length_nil, List.replicate, List.cons_append, List.nil_append, Nat.reduceAdd, Nat.reduceSub]
  by_cases c92 : s.getD 0 0 = 92
  · have e : elementOf s = (⟨1, [(escapeOf s).1], 0⟩, (escapeOf s).2.1, (escapeOf s).2.2) := by simp only [elementOf, c92, if_true]
    rw [e]
    simp only [u8y (k := 92) c92 rfl, W, pexec, xexec, binV, Nat.reduceAdd, Nat.reduceSub, Nat.reduceLeDiff, Nat.reduceEqDiff, Int.reduceToNat, reduceIte, reduceCtorEq, Int.reduceBEq, Int.reduceBNe, Bool.true_or, Bool.false_or, Bool.or_true, Bool.or_false, Bool.and_false, Bool.false_and, Nat.sub_zero, bytesOf, byteOfRow, UInt8.ofNat_toNat]
    refine ⟨bnd, ?_⟩
    refine call_eq (escape_pc s _) rfl ?_
    simp only [W, pexec, xexec, binV, Nat.reduceAdd, Nat.reduceSub, Nat.reduceLeDiff, Nat.reduceEqDiff, Int.reduceToNat, reduceIte, reduceCtorEq, Int.reduceBEq, Int.reduceBNe, Bool.true_or, Bool.false_or, Bool.or_true, Bool.or_false, Bool.and_false, Bool.false_and, Nat.sub_zero, bytesOf, byteOfRow, UInt8.ofNat_toNat]
    exact ret_end hcl (.inr rfl) (by simp only [resVs, resV, W, pexec, xexec, binV, Nat.reduceAdd, Nat.reduceSub, Nat.reduceLeDiff, Nat.reduceEqDiff, Int.reduceToNat, reduceIte, reduceCtorEq, Int.reduceBEq, Int.reduceBNe, Bool.true_or, Bool.false_or, Bool.or_true, Bool.or_false, Bool.and_false, Bool.false_and, Nat.sub_zero, bytesOf, byteOfRow, UInt8.ofNat_toNat]; rfl) (by simp only [LW]) ⟨rfl, rfl⟩
  have n92 := c92
  by_cases c60 : s.getD 0 0 = 60
  · simp only [u8n (k := 92) c92 rfl, u8y (k := 60) c60 rfl, W, pexec, xexec, binV, Nat.reduceAdd, Nat.reduceSub, Nat.reduceLeDiff, Nat.reduceEqDiff, Int.reduceToNat, reduceIte, reduceCtorEq, Int.reduceBEq, Int.reduceBNe, Bool.true_or, Bool.false_or, Bool.or_true, Bool.or_false, Bool.and_false, Bool.false_and, Nat.sub_zero, bytesOf, byteOfRow, UInt8.ofNat_toNat]
    refine ⟨bnd, bnd, ?_⟩
    refine call_eq (indexByte_pc s 62 _) rfl ?_
    have hb := indexByte_lt s 62
    simp only [W, pexec, xexec, binV, Nat.reduceAdd, Nat.reduceSub, Nat.reduceLeDiff, Nat.reduceEqDiff, Int.reduceToNat, reduceIte, reduceCtorEq, Int.reduceBEq, Int.reduceBNe, Bool.true_or, Bool.false_or, Bool.or_true, Bool.or_false, Bool.and_false, Bool.false_and, Nat.sub_zero, bytesOf, byteOfRow, UInt8.ofNat_toNat]
    refine ⟨fun h => ?_, fun h => ?_⟩
    · have h : Lib.indexByte s 62 < 0 := by simpa using h
      have e : elementOf s = (noIt, 0, false) := by simp only [elementOf]; rw [if_neg c92, if_pos c60]; simp only [h, if_true, if_false]
      rw [e]
      exact ret_end hcl (.inr rfl) (by simp only [resVs, resV, W, pexec, xexec, binV, Nat.reduceAdd, Nat.reduceSub, Nat.reduceLeDiff, Nat.reduceEqDiff, Int.reduceToNat, reduceIte, reduceCtorEq, Int.reduceBEq, Int.reduceBNe, Bool.true_or, Bool.false_or, Bool.or_true, Bool.or_false, Bool.and_false, Bool.false_and, Nat.sub_zero, bytesOf, byteOfRow, UInt8.ofNat_toNat]; rfl) (by simp only [LW]) ⟨rfl, rfl⟩
    · have h : ¬ Lib.indexByte s 62 < 0 := by simpa using h
      have h1 := indexByte_pos s 62 (by rw [c60]; decide) h
      have e : elementOf s = ((tagOf ((s.take (Lib.indexByte s 62).toNat).drop 1)).1, Lib.indexByte s 62 + 1, (tagOf ((s.take (Lib.indexByte s 62).toNat).drop 1)).2) := by simp only [elementOf]; rw [if_neg c92, if_pos c60]; simp only [h, if_true, if_false]
      rw [e]
      refine ⟨by omega, ?_⟩
      have e2 : (s.drop 1).take ((Lib.indexByte s 62).toNat - 1) = (s.take (Lib.indexByte s 62).toNat).drop 1 := by rw [List.drop_take]
      refine call_eq (tag_pc _ _) (by simp only [List.map_cons, List.map_nil, W, pexec, xexec, binV, Nat.reduceAdd, Nat.reduceSub, Nat.reduceLeDiff, Nat.reduceEqDiff, Int.reduceToNat, reduceIte, reduceCtorEq, Int.reduceBEq, Int.reduceBNe, Bool.true_or, Bool.false_or, Bool.or_true, Bool.or_false, Bool.and_false, Bool.false_and, Nat.sub_zero, bytesOf, byteOfRow, UInt8.ofNat_toNat]; rw [e2]) ?_
      simp only [It.cells, W, pexec, xexec, binV, Nat.reduceAdd, Nat.reduceSub, Nat.reduceLeDiff, Nat.reduceEqDiff, Int.reduceToNat, reduceIte, reduceCtorEq, Int.reduceBEq, Int.reduceBNe, Bool.true_or, Bool.false_or, Bool.or_true, Bool.or_false, Bool.and_false, Bool.false_and, Nat.sub_zero, bytesOf, byteOfRow, UInt8.ofNat_toNat]
      refine ret_end hcl (.inr rfl) (by simp only [resVs, resV, W, pexec, xexec, binV, Nat.reduceAdd, Nat.reduceSub, Nat.reduceLeDiff, Nat.reduceEqDiff, Int.reduceToNat, reduceIte, reduceCtorEq, Int.reduceBEq, Int.reduceBNe, Bool.true_or, Bool.false_or, Bool.or_true, Bool.or_false, Bool.and_false, Bool.false_and, Nat.sub_zero, bytesOf, byteOfRow, UInt8.ofNat_toNat]; rfl) (by simp only [LW]) ⟨?_, rfl⟩
      simp only [one, List.getD_cons_zero, List.getD_cons_succ]
      rw [IntWalk.i64_in _ (by omega)]
  by_cases c123 : s.getD 0 0 = 123
  · simp only [u8n (k := 92) c92 rfl, u8n (k := 60) c60 rfl, u8y (k := 123) c123 rfl, W, pexec, xexec, binV, Nat.reduceAdd, Nat.reduceSub, Nat.reduceLeDiff, Nat.reduceEqDiff, Int.reduceToNat, reduceIte, reduceCtorEq, Int.reduceBEq, Int.reduceBNe, Bool.true_or, Bool.false_or, Bool.or_true, Bool.or_false, Bool.and_false, Bool.false_and, Nat.sub_zero, bytesOf, byteOfRow, UInt8.ofNat_toNat]
    refine ⟨bnd, bnd, bnd, ?_⟩
    refine call_eq (indexByte_pc s 125 _) rfl ?_
    have hb := indexByte_lt s 125
    simp only [W, pexec, xexec, binV, Nat.reduceAdd, Nat.reduceSub, Nat.reduceLeDiff, Nat.reduceEqDiff, Int.reduceToNat, reduceIte, reduceCtorEq, Int.reduceBEq, Int.reduceBNe, Bool.true_or, Bool.false_or, Bool.or_true, Bool.or_false, Bool.and_false, Bool.false_and, Nat.sub_zero, bytesOf, byteOfRow, UInt8.ofNat_toNat]
    by_cases h : Lib.indexByte s 125 < 0
    · have e : elementOf s = (noIt, 0, false) := by simp only [elementOf]; rw [if_neg c92, if_neg c60, if_pos c123]; simp only [h, true_or, if_true]
      have hd : decide (Lib.indexByte s 125 < 0) = true := by simpa using h
      rw [e]
      simp only [hd, W, pexec, xexec, binV, Nat.reduceAdd, Nat.reduceSub, Nat.reduceLeDiff, Nat.reduceEqDiff, Int.reduceToNat, reduceIte, reduceCtorEq, Int.reduceBEq, Int.reduceBNe, Bool.true_or, Bool.false_or, Bool.or_true, Bool.or_false, Bool.and_false, Bool.false_and, Nat.sub_zero, bytesOf, byteOfRow, UInt8.ofNat_toNat]
      refine ⟨fun h => by simp at h, ?_⟩
      refine callg_eq (c := false) (v := .b false) (by simp only [W, pexec, xexec, binV, Nat.reduceAdd, Nat.reduceSub, Nat.reduceLeDiff, Nat.reduceEqDiff, Int.reduceToNat, reduceIte, reduceCtorEq, Int.reduceBEq, Int.reduceBNe, Bool.true_or, Bool.false_or, Bool.or_true, Bool.or_false, Bool.and_false, Bool.false_and, Nat.sub_zero, bytesOf, byteOfRow, UInt8.ofNat_toNat] <;> rfl) (fun h => by simp at h) rfl ?_
      simp only [W, pexec, xexec, binV, Nat.reduceAdd, Nat.reduceSub, Nat.reduceLeDiff, Nat.reduceEqDiff, Int.reduceToNat, reduceIte, reduceCtorEq, Int.reduceBEq, Int.reduceBNe, Bool.true_or, Bool.false_or, Bool.or_true, Bool.or_false, Bool.and_false, Bool.false_and, Nat.sub_zero, bytesOf, byteOfRow, UInt8.ofNat_toNat]
      exact ret_end hcl (.inr rfl) (by simp only [resVs, resV, W, pexec, xexec, binV, Nat.reduceAdd, Nat.reduceSub, Nat.reduceLeDiff, Nat.reduceEqDiff, Int.reduceToNat, reduceIte, reduceCtorEq, Int.reduceBEq, Int.reduceBNe, Bool.true_or, Bool.false_or, Bool.or_true, Bool.or_false, Bool.and_false, Bool.false_and, Nat.sub_zero, bytesOf, byteOfRow, UInt8.ofNat_toNat]; rfl) (by simp only [LW]) ⟨rfl, rfl⟩
    · have hd : decide (Lib.indexByte s 125 < 0) = false := by simpa using h
      have h1 := indexByte_pos s 125 (by rw [c123]; decide) h
      have e : elementOf s = if isName ((s.take (Lib.indexByte s 125).toNat).drop 1) = false then (noIt, 0, false) else (⟨5, (s.take (Lib.indexByte s 125).toNat).drop 1, 0⟩, Lib.indexByte s 125 + 1, true) := by simp only [elementOf]; rw [if_neg c92, if_neg c60, if_pos c123]; simp only [h, false_or]
      have e2 : (s.drop 1).take ((Lib.indexByte s 125).toNat - 1) = (s.take (Lib.indexByte s 125).toNat).drop 1 := by rw [List.drop_take]
      rw [e]
      simp only [hd, e2, W, pexec, xexec, binV, Nat.reduceAdd, Nat.reduceSub, Nat.reduceLeDiff, Nat.reduceEqDiff, Int.reduceToNat, reduceIte, reduceCtorEq, Int.reduceBEq, Int.reduceBNe, Bool.true_or, Bool.false_or, Bool.or_true, Bool.or_false, Bool.and_false, Bool.false_and, Nat.sub_zero, bytesOf, byteOfRow, UInt8.ofNat_toNat]
      refine ⟨by omega, ?_⟩
      refine callg_eq (c := true) (by simp only [W, pexec, xexec, binV, Nat.reduceAdd, Nat.reduceSub, Nat.reduceLeDiff, Nat.reduceEqDiff, Int.reduceToNat, reduceIte, reduceCtorEq, Int.reduceBEq, Int.reduceBNe, Bool.true_or, Bool.false_or, Bool.or_true, Bool.or_false, Bool.and_false, Bool.false_and, Nat.sub_zero, bytesOf, byteOfRow, UInt8.ofNat_toNat] <;> rfl) (fun _ => isName_pc ((s.take (Lib.indexByte s 125).toNat).drop 1) _) rfl ?_
      simp only [W, pexec, xexec, binV, Nat.reduceAdd, Nat.reduceSub, Nat.reduceLeDiff, Nat.reduceEqDiff, Int.reduceToNat, reduceIte, reduceCtorEq, Int.reduceBEq, Int.reduceBNe, Bool.true_or, Bool.false_or, Bool.or_true, Bool.or_false, Bool.and_false, Bool.false_and, Nat.sub_zero, bytesOf, byteOfRow, UInt8.ofNat_toNat]
      refine ⟨fun h => ?_, fun h => ?_⟩
      · have h : isName ((s.take (Lib.indexByte s 125).toNat).drop 1) = false := by simpa using h
        rw [if_pos h]
        exact ret_end hcl (.inr rfl) (by simp only [resVs, resV, W, pexec, xexec, binV, Nat.reduceAdd, Nat.reduceSub, Nat.reduceLeDiff, Nat.reduceEqDiff, Int.reduceToNat, reduceIte, reduceCtorEq, Int.reduceBEq, Int.reduceBNe, Bool.true_or, Bool.false_or, Bool.or_true, Bool.or_false, Bool.and_false, Bool.false_and, Nat.sub_zero, bytesOf, byteOfRow, UInt8.ofNat_toNat]; rfl) (by simp only [LW]) ⟨rfl, rfl⟩
      · have h : ¬ isName ((s.take (Lib.indexByte s 125).toNat).drop 1) = false := by simpa using h
        rw [if_neg h]
        simp only [e2, W, pexec, xexec, binV, Nat.reduceAdd, Nat.reduceSub, Nat.reduceLeDiff, Nat.reduceEqDiff, Int.reduceToNat, reduceIte, reduceCtorEq, Int.reduceBEq, Int.reduceBNe, Bool.true_or, Bool.false_or, Bool.or_true, Bool.or_false, Bool.and_false, Bool.false_and, Nat.sub_zero, bytesOf, byteOfRow, UInt8.ofNat_toNat]
        refine ⟨by omega, ?_⟩
        refine ret_end hcl (.inr rfl) (by simp only [resVs, resV, W, pexec, xexec, binV, Nat.reduceAdd, Nat.reduceSub, Nat.reduceLeDiff, Nat.reduceEqDiff, Int.reduceToNat, reduceIte, reduceCtorEq, Int.reduceBEq, Int.reduceBNe, Bool.true_or, Bool.false_or, Bool.or_true, Bool.or_false, Bool.and_false, Bool.false_and, Nat.sub_zero, bytesOf, byteOfRow, UInt8.ofNat_toNat]; rfl) (by simp only [LW]) ⟨?_, rfl⟩
        simp only [one, List.getD_cons_zero, List.getD_cons_succ]
        rw [IntWalk.i64_in _ (by omega)]
        rfl
  · have e : elementOf s = (⟨1, s.take 1, 0⟩, 1, plainB (s.getD 0 0)) := by simp only [elementOf, c92, c60, c123, if_false]
    rw [e]
    simp only [u8n (k := 92) c92 rfl, u8n (k := 60) c60 rfl, u8n (k := 123) c123 rfl, W, pexec, xexec, binV, Nat.reduceAdd, Nat.reduceSub, Nat.reduceLeDiff, Nat.reduceEqDiff, Int.reduceToNat, reduceIte, reduceCtorEq, Int.reduceBEq, Int.reduceBNe, Bool.true_or, Bool.false_or, Bool.or_true, Bool.or_false, Bool.and_false, Bool.false_and, Nat.sub_zero, bytesOf, byteOfRow, UInt8.ofNat_toNat]
    refine ⟨bnd, bnd, bnd, by omega, bnd, ?_⟩
    refine call_eq (plain_pc (s.getD 0 0) _) rfl ?_
    simp only [W, pexec, xexec, binV, Nat.reduceAdd, Nat.reduceSub, Nat.reduceLeDiff, Nat.reduceEqDiff, Int.reduceToNat, reduceIte, reduceCtorEq, Int.reduceBEq, Int.reduceBNe, Bool.true_or, Bool.false_or, Bool.or_true, Bool.or_false, Bool.and_false, Bool.false_and, Nat.sub_zero, bytesOf, byteOfRow, UInt8.ofNat_toNat]
    exact ret_end hcl (.inr rfl) (by simp only [resVs, resV, W, pexec, xexec, binV, Nat.reduceAdd, Nat.reduceSub, Nat.reduceLeDiff, Nat.reduceEqDiff, Int.reduceToNat, reduceIte, reduceCtorEq, Int.reduceBEq, Int.reduceBNe, Bool.true_or, Bool.false_or, Bool.or_true, Bool.or_false, Bool.and_false, Bool.false_and, Nat.sub_zero, bytesOf, byteOfRow, UInt8.ofNat_toNat]; rfl) (by simp only [LW]) ⟨rfl, rfl⟩

end Go.Proofs.Tryz

set_option linter.unusedSimpArgs false
namespace Go.Proofs.Tryz
open Go Go.Pm Go.Bt

def rdOb (n g1 g2 : Nat) (s : Rd) : Store :=
  [.map 3 23 (mapIt s.tags), .box 149 [.own (n + 2) g1, .own (n + 3) g2, .i .i64 s.len, .mp n], .row 23 3 32 g1 false (s.f.map It.cells), .row 5 1 1 g2 false (bytesV s.text)]

def rdX (n g1 g2 : Nat) (s : Rd) (o : Ob) (x : It) : Store :=
  [.map 3 23 (mapIt s.tags), .box 149 [.own (n + 2) g1, .own (n + 3) g2, .i .i64 s.len, .mp n], .row 23 3 32 g1 false (s.f.map It.cells), .row 5 1 1 g2 false (bytesV s.text), o, .box 23 [.i .i64 x.kind, .s x.text, .i .i64 x.id]]

theorem flush_pc (s : Rd) (g1 g2 : Nat) (hf : s.f.length < 2 ^ 40) (σ ext : Store) : PC Tryz.prog 138 [.ptr (σ.length + 1) 0] (σ ++ (rdOb σ.length g1 g2 s ++ ext)) (fun r σ' => r = .tup [] ∧ ∃ g1' g2', σ' = σ ++ (rdOb σ.length g1' g2' (rdFlush s) ++ ext)) := by
  refine PC.intro Tryz.func138 c138 fun hcl hwf => wpc_sound ?_
  simp only [p138, List.length_cons, List.length_nil, List.replicate, List.cons_append, List.nil_append, Nat.reduceAdd, Nat.reduceSub]
  simp only [rdOb, W, pexec, xexec, binV, Nat.reduceAdd, Nat.reduceSub, Nat.reduceLeDiff, Nat.reduceEqDiff, Int.reduceToNat, reduceIte, reduceCtorEq]
  simp only [bytesV_length, bytesOf_bytesV, W, pexec, xexec, binV, Nat.reduceAdd, Nat.reduceSub, Nat.reduceLeDiff, Nat.reduceEqDiff, Int.reduceToNat, reduceIte, reduceCtorEq]
  refine ⟨fun h => ⟨?_, ?_⟩, fun h => ?_⟩
  · simp [maxLen]; omega
  · have h : 0 < s.text.length := by simpa using h
    have e : rdFlush s = ⟨s.f ++ [⟨1, s.text, 0⟩], [], s.len, s.tags⟩ := by simp [rdFlush, h]
    have hr : s.f.map It.cells ++ [[.i .i64 1, .s s.text, .i .i64 0]] = (s.f ++ [(⟨1, s.text, 0⟩ : It)]).map It.cells := by simp [It.cells]
    rw [hr]
    refine ret_wk (xs := []) (xs' := []) (.inl rfl) rfl (Wk.renil (id := σ.length + 1) (j := 1) (idr := σ.length + 3) (by simp only [W, pexec, xexec, binV, Nat.reduceAdd, Nat.reduceSub, Nat.reduceLeDiff, Nat.reduceEqDiff, Int.reduceToNat, reduceIte, reduceCtorEq]; rfl) rfl (by simp only [W, pexec, xexec, binV, Nat.reduceAdd, Nat.reduceSub, Nat.reduceLeDiff, Nat.reduceEqDiff, Int.reduceToNat, reduceIte, reduceCtorEq]; rfl)) rfl ⟨rfl, g1 + 1, g2 + 1, ?_⟩
    simp only [rdOb, e, W, pexec, xexec, binV, Nat.reduceAdd, Nat.reduceSub, Nat.reduceLeDiff, Nat.reduceEqDiff, Int.reduceToNat, reduceIte, reduceCtorEq]
    rfl
  · have h : ¬ 0 < s.text.length := by simpa using h
    have e : rdFlush s = s := by simp [rdFlush, h]
    rw [e]
    exact ret_wk (xs := []) (.inl rfl) rfl (Wk.refl _ _) rfl ⟨rfl, g1, g2, rfl⟩

set_option maxHeartbeats 2000000 in
theorem add_pc (s : Rd) (x : It) (g1 g2 : Nat) (hf : s.f.length < 2 ^ 40) (ht : s.text.length + x.text.length < 2 ^ 40) (hl : s.len < 2 ^ 40) (σ : Store) (o : Ob) : PC Tryz.prog 137 [.ptr (σ.length + 1) 0, .agg x.cells] (σ ++ (rdOb σ.length g1 g2 s ++ [o]))
    (fun r σ' => r = .i .i64 (rdAdd s x).1 ∧ ∃ g1' g2', σ' = σ ++ (rdOb σ.length g1' g2' (rdAdd s x).2 ++ [o])) := by
  refine PC.intro Tryz.func137 c137 fun hcl hwf => ?_
  simp only [p137, List.length_cons, List.length_nil, List.replicate, List.cons_append, List.nil_append, Nat.reduceAdd, Nat.reduceSub]
  have hm : ∀ t, mapFind (σ ++ (.map 3 23 (mapIt s.tags)) :: t) 0 (.mp σ.length) (.i .i64 x.id) = findV 0 (.i .i64 x.id) (mapIt s.tags) 0 := fun t => by simp only [mapFind, base_get0, List.getElem?_cons_zero]

  refine PWc.cut fun R hR => ?_
  simp only [rdOb, It.cells, List.cons_append, List.nil_append, W, pexec, xexec, binV, Nat.reduceAdd, Nat.reduceSub, Nat.reduceLeDiff, Nat.reduceEqDiff, Int.reduceToNat, reduceIte, reduceCtorEq]
  refine hR _ ?_
  clear hR R
  refine PWc.cut fun R hR => ?_
  simp only [W, pexec, xexec, binV, Nat.reduceAdd, Nat.reduceSub, Nat.reduceLeDiff, Nat.reduceEqDiff, Int.reduceToNat, reduceIte, reduceCtorEq]
  refine hR _ (PWc.cvs (fr' := [.ptr (σ.length + 1) 0, .u, .u, .ptr (σ.length + 5) 0, .i .i64 0, .b (tagged x), .u, .u, .u, .u, .u, .u, .u, .u, .u, .u, .u, .u, .u, .u, .u, .u, .u, .u, .u, .u, .u, .u, .u, .u, .u, .u, .u, .u, .u, .u, .u, .u, .u, .u, .u, .u, .u, .u, .u, .u, .u, .u, .u, .u, .u, .u, .u, .u, .u, .u, .u, .u, .u, .u, .u, .u, .u, .u, .u, .u, .u, .u, .u, .u, .u, .u, .u, .u, .u, .u, .u, .u, .u, .u, .u, .u, .u, .u, .u, .u, .u, .u, .u, .u, .u, .u, .u, .u, .u, .u, .u, .u, .u, .u, .u, .u, .u, .u, .u, .u, .u, .u, .u, .u, .u, .u, .u, .u, .u, .u, .u, .u, .u, .u, .u, .u, .u]) ?_ ?_)
  rotate_left
  · simp only [tagged]
    repeat first | exact .nil | refine .cons (.refl _) ?_ | refine .cons (.forget _) ?_
  clear hR R
  have hbo : match o with | .box _ cs => AllLt (σ.length + 5) cs | _ => True := by
    cases o <;> first | trivial | skip
    rename_i T cs
    refine allLt_iff.2 fun j y hj => ?_
    have := hcl (σ.length + 4) T cs (by rw [List.getElem?_append_right (by omega), Nat.add_sub_cancel_left]; rfl) j y hj
    simpa [rdOb] using this
  have hcl4 : ∀ (g1 g2 : Nat) (s : Rd), Closed (σ ++ (rdOb σ.length g1 g2 s ++ [o])) := fun g1 g2 s =>
    closed_swap hcl (Nat.le_refl _) (by
      simp only [rdOb, List.forall_mem_cons, List.length_cons, List.length_nil, List.not_mem_nil, false_imp_iff, implies_true, and_true, true_and, List.cons_append, List.nil_append]
      refine ⟨by simp only [LW]; omega, ?_⟩
      cases o <;> first | trivial | exact hbo)
  have hcl5 : ∀ (g1 g2 : Nat) (s : Rd), Closed (σ ++ rdX σ.length g1 g2 s o x) := fun g1 g2 s =>
    closed_swap hcl (by simp [rdOb, rdX]) (by
      simp only [rdX, List.forall_mem_cons, List.length_cons, List.length_nil, List.not_mem_nil, false_imp_iff, implies_true, and_true, true_and]
      refine ⟨by simp only [LW]; omega, ?_, by simp only [LW]⟩
      cases o <;> first | trivial | exact allLt_iff.2 fun j y hj => (allLt_iff.1 hbo j y hj).mono (by omega))

  have fin : ∀ {fr : List V} {n : Nat} (e : Int) (s' : Rd) (g1' g2' : Nat) {loc : Store}, n ≤ σ.length + 5 → rdAdd s x = (e, s') → fr.getD 4 .u = .i .i64 e → retK Tryz.prog n [.t 4] (fun r σ' => r = .i .i64 (rdAdd s x).1 ∧ ∃ g1' g2', σ' = σ ++ (rdOb σ.length g1' g2' (rdAdd s x).2 ++ [o])) .ret ⟨fr, σ ++ ((rdOb σ.length g1' g2' s' ++ [o]) ++ loc)⟩ := by
    intro fr n e s' g1' g2' loc hn he hf
    rw [← List.append_assoc]
    refine ret_wk (xs := [.i .i64 e]) (.inr rfl) (by simp only [resVs, resV, hf]) (Wk.drop0 (by simpa [rdOb] using hn) (hcl4 _ _ _) (allLt_iff.1 (by simp only [LW]))) rfl ⟨by rw [he]; rfl, g1', g2', by rw [he]⟩
  refine PWc.cut fun R hR => ?_
  have hre : ∀ {fr : List V} {loc : Store}, Cvs fr [.ptr (σ.length + 1) 0, .u, .u, .ptr (σ.length + 5) 0, .i .i64 0, .b (tagged x), .u, .u, .u, .u, .u, .u, .u, .u, .u, .u, .u, .u, .u, .u, .u, .u, .u, .u, .u, .u, .u, .u, .u, .u, .u, .u, .u, .u, .u, .u, .u, .u, .u, .u, .u, .u, .u, .u, .u, .u, .u, .u, .u, .u, .u, .u, .u, .u, .u, .u, .u, .u, .u, .u, .u, .u, .u, .u, .u, .u, .u, .u, .u, .u, .u, .u, .u, .u, .u, .u, .u, .u, .u, .u, .u, .u, .u, .u, .u, .u, .u, .u, .u, .u, .u, .u, .u, .u, .u, .u, .u, .u, .u, .u, .u, .u, .u, .u, .u, .u, .u, .u, .u, .u, .u, .u, .u, .u, .u, .u, .u, .u, .u, .u, .u, .u, .u] → ¬ (tagged x && clash s x) = true → R ⟨fr, σ ++ (rdX σ.length g1 g2 s o x ++ loc)⟩ := by
    intro fr loc hc hno
    refine hR _ (PWc.drop _ _ (by simp [rdOb, rdX]) (hcl5 g1 g2 s) hc (by simp [AllLt, lt_ptr, lt_i, lt_b, lt_u, rdX]) ?_)
    clear hR R

    refine PWc.cut fun R hR => ?_
    simp only [rdX, W, pexec, xexec, binV, Nat.reduceAdd, Nat.reduceSub, Nat.reduceLeDiff, Nat.reduceEqDiff, Int.reduceToNat, reduceIte, reduceCtorEq]
    refine hR _ ?_
    clear hR R
    refine PWc.cut fun R hR => ?_
    simp only [rdX, List.length_map, bytesV_length, W, pexec, xexec, binV, Nat.reduceAdd, Nat.reduceSub, Nat.reduceLeDiff, Nat.reduceEqDiff, Int.reduceToNat, reduceIte, reduceCtorEq, Int.reduceBEq, Int.reduceBNe, Bool.true_or, Bool.false_or, Bool.or_true, Bool.or_false, Bool.and_false, Bool.false_and, Nat.sub_zero, bytesOf, byteOfRow, UInt8.ofNat_toNat]
    have hi1 : ∀ {fr : List V}, Cvs fr [.ptr (σ.length + 1) 0, .u, .u, .ptr (σ.length + 5) 0, .i .i64 0, .b (tagged x), .u, .u, .i .i64 ((s.f.length + (if 0 < s.text.length then 1 else 0) : Nat) : Int), .u, .u, .u, .u, .u, .u, .u, .u, .u, .u, .u, .u, .u, .u, .u, .u, .u, .u, .u, .u, .u, .u, .u, .u, .u, .u, .u, .u, .u, .u, .u, .u, .u, .u, .u, .u, .u, .u, .u, .u, .u, .u, .u, .u, .u, .u, .u, .u, .u, .u, .u, .u, .u, .u, .u, .u, .u, .u, .u, .u, .u, .u, .u, .u, .u, .u, .u, .u, .u, .u, .u, .u, .u, .u, .u, .u, .u, .u, .u, .u, .u, .u, .u, .u, .u, .u, .u, .u, .u, .u, .u, .u, .u, .u, .u, .u, .u, .u, .u, .u, .u, .u, .u, .u, .u, .u, .u, .u, .u, .u, .u, .u, .u, .u] → R ⟨fr, σ ++ rdX σ.length g1 g2 s o x⟩ := by
      intro fr hc
      refine hR _ (PWc.cvs ?_ hc)
      clear hR R
      refine PWc.cut fun R hR => ?_
      simp only [rdX, List.length_map, bytesV_length, W, pexec, xexec, binV, Nat.reduceAdd, Nat.reduceSub, Nat.reduceLeDiff, Nat.reduceEqDiff, Int.reduceToNat, reduceIte, reduceCtorEq, Int.reduceBEq, Int.reduceBNe, Bool.true_or, Bool.false_or, Bool.or_true, Bool.or_false, Bool.and_false, Bool.false_and, Nat.sub_zero, bytesOf, byteOfRow, UInt8.ofNat_toNat]
      have hi2 : ∀ {fr : List V}, Cvs fr [.ptr (σ.length + 1) 0, .u, .u, .ptr (σ.length + 5) 0, .i .i64 0, .b (tagged x), .u, .u, .i .i64 ((addItems s x : Nat) : Int), .u, .u, .u, .u, .u, .u, .u, .u, .u, .u, .u, .u, .u, .u, .u, .u, .u, .u, .u, .u, .u, .u, .u, .u, .u, .u, .u, .u, .u, .u, .u, .u, .u, .u, .u, .u, .u, .u, .u, .u, .u, .u, .u, .u, .u, .u, .u, .u, .u, .u, .u, .u, .u, .u, .u, .u, .u, .u, .u, .u, .u, .u, .u, .u, .u, .u, .u, .u, .u, .u, .u, .u, .u, .u, .u, .u, .u, .u, .u, .u, .u, .u, .u, .u, .u, .u, .u, .u, .u, .u, .u, .u, .u, .u, .u, .u, .u, .u, .u, .u, .u, .u, .u, .u, .u, .u, .u, .u, .u, .u, .u, .u, .u, .u] → R ⟨fr, σ ++ rdX σ.length g1 g2 s o x⟩ := by
        intro fr hc
        refine hR _ (PWc.cvs ?_ hc)
        clear hR R
        have hlw : IntKind.i64.wrap ((s.len : Int) + 1) = ((s.len + 1 : Nat) : Int) := wrap_succ (by omega)

        refine PWc.cut fun R hR => ?_
        simp only [rdX, hlw, W, pexec, xexec, binV, Nat.reduceAdd, Nat.reduceSub, Nat.reduceLeDiff, Nat.reduceEqDiff, Int.reduceToNat, reduceIte, reduceCtorEq, Int.reduceBEq, Int.reduceBNe, Bool.true_or, Bool.false_or, Bool.or_true, Bool.or_false, Bool.and_false, Bool.false_and, Nat.sub_zero, bytesOf, byteOfRow, UInt8.ofNat_toNat]
        refine ⟨fun h => ?_, fun h => ?_⟩
        · have h1 : 512 < addItems s x ∨ 1024 < s.len + 1 := by
            simp at h
            omega
          have e : rdAdd s x = (3, s) := by simp only [rdAdd, hno, h1, if_true]; rfl
          exact fin 3 s g1 g2 (loc := [_]) (by simp [rdOb]) e (by rfl)
        · have h1 : ¬ (512 < addItems s x ∨ 1024 < s.len + 1) := by
            simp at h
            omega
          refine hR _ ?_
          clear hR R
          refine PWc.cut fun R hR => ?_
          simp only [hlw, W, pexec, xexec, binV, Nat.reduceAdd, Nat.reduceSub, Nat.reduceLeDiff, Nat.reduceEqDiff, Int.reduceToNat, reduceIte, reduceCtorEq, Int.reduceBEq, Int.reduceBNe, Bool.true_or, Bool.false_or, Bool.or_true, Bool.or_false, Bool.and_false, Bool.false_and, Nat.sub_zero, bytesOf, byteOfRow, UInt8.ofNat_toNat]
          refine hR _ ?_
          clear hR R
          refine PWc.cut fun R hR => ?_
          simp only [W, pexec, xexec, binV, Nat.reduceAdd, Nat.reduceSub, Nat.reduceLeDiff, Nat.reduceEqDiff, Int.reduceToNat, reduceIte, reduceCtorEq, Int.reduceBEq, Int.reduceBNe, Bool.true_or, Bool.false_or, Bool.or_true, Bool.or_false, Bool.and_false, Bool.false_and, Nat.sub_zero, bytesOf, byteOfRow, UInt8.ofNat_toNat]
          refine ⟨fun hk => ⟨⟨by simp only [bytesV_length]; omega, by simp only [bytesV_length, maxLen]; omega⟩, ?_⟩, fun hk => ?_⟩
          · have hk : x.kind = 1 := by simpa using hk
            have e : rdAdd s x = (0, ⟨s.f, s.text ++ x.text, s.len + 1, s.tags⟩) := by simp only [rdAdd, hno, h1, hk, if_true, if_false]; rfl
            rw [bytesV_append]
            exact fin 0 ⟨s.f, s.text ++ x.text, s.len + 1, s.tags⟩ g1 (g2 + 1) (loc := [_]) (by simp [rdOb]) e (by rfl)
          · have hk : ¬ x.kind = 1 := by simpa using hk
            have e : rdAdd s x = (0, rdPut (rdFlush (rdTag s x)) x) := by simp only [rdAdd, hno, h1, hk, if_true, if_false]; rfl
            refine hR _ (PWc.cvs (fr' := [.ptr (σ.length + 1) 0, .u, .u, .ptr (σ.length + 5) 0, .i .i64 0, .b (tagged x), .u, .u, .u, .u, .u, .u, .u, .u, .u, .u, .u, .u, .u, .u, .u, .u, .u, .u, .u, .u, .u, .u, .u, .u, .u, .u, .u, .u, .u, .u, .u, .u, .u, .u, .u, .u, .u, .u, .u, .u, .u, .u, .u, .u, .u, .u, .u, .u, .u, .u, .u, .u, .u, .u, .u, .u, .u, .u, .u, .u, .u, .u, .u, .u, .u, .u, .u, .u, .u, .u, .u, .u, .u, .u, .u, .u, .u, .u, .u, .u, .u, .u, .u, .u, .u, .u, .u, .u, .u, .u, .u, .u, .u, .u, .u, .u, .u, .u, .u, .u, .u, .u, .u, .u, .u, .u, .u, .u, .u, .u, .u, .u, .u, .u, .u, .u, .u]) ?_ (by repeat first | exact .nil | refine .cons (.refl _) ?_ | refine .cons (.forget _) ?_))
            clear hR R
            refine PWc.cut fun R hR => ?_
            have hfl : ∀ {fr : List V}, Cvs fr [.ptr (σ.length + 1) 0, .u, .u, .ptr (σ.length + 5) 0, .i .i64 0, .u, .u, .u, .u, .u, .u, .u, .u, .u, .u, .u, .u, .u, .u, .u, .u, .u, .u, .u, .u, .u, .u, .u, .u, .u, .u, .u, .u, .u, .u, .u, .u, .u, .u, .u, .u, .u, .u, .u, .u, .u, .u, .u, .u, .u, .u, .u, .u, .u, .u, .u, .u, .u, .u, .u, .u, .u, .u, .u, .u, .u, .u, .u, .u, .u, .u, .u, .u, .u, .u, .u, .u, .u, .u, .u, .u, .u, .u, .u, .u, .u, .u, .u, .u, .u, .u, .u, .u, .u, .u, .u, .u, .u, .u, .u, .u, .u, .u, .u, .u, .u, .u, .u, .u, .u, .u, .u, .u, .u, .u, .u, .u, .u, .u, .u, .u, .u, .u] → R ⟨fr, σ ++ rdX σ.length g1 g2 (rdTag s x) o x⟩ := by
              intro fr hc
              refine hR _ (PWc.cvs ?_ hc)
              clear hR R
              refine PWc.cut fun R hR => ?_
              simp only [W, pexec, xexec, binV, Nat.reduceAdd, Nat.reduceSub, Nat.reduceLeDiff, Nat.reduceEqDiff, Int.reduceToNat, reduceIte, reduceCtorEq]
              refine call_ex (flush_pc (rdTag s x) g1 g2 hf σ [o, .box 23 [.i .i64 x.kind, .s x.text, .i .i64 x.id]]) rfl ?_
              rintro r σ' ⟨rfl, g3, g4, rfl⟩
              simp only [W, pexec, xexec, binV, Nat.reduceAdd, Nat.reduceSub, Nat.reduceLeDiff, Nat.reduceEqDiff, Int.reduceToNat, reduceIte, reduceCtorEq]
              refine hR _ (PWc.cvs (fr' := [.ptr (σ.length + 1) 0, .u, .u, .ptr (σ.length + 5) 0, .i .i64 0, .u, .u, .u, .u, .u, .u, .u, .u, .u, .u, .u, .u, .u, .u, .u, .u, .u, .u, .u, .u, .u, .u, .u, .u, .u, .u, .u, .u, .u, .u, .u, .u, .u, .u, .u, .u, .u, .u, .u, .u, .u, .u, .u, .u, .u, .u, .u, .u, .u, .u, .u, .u, .u, .u, .u, .u, .u, .u, .u, .u, .u, .u, .u, .u, .u, .u, .u, .u, .u, .u, .u, .u, .u, .u, .u, .u, .u, .u, .u, .u, .u, .u, .u, .u, .u, .u, .u, .u, .u, .u, .u, .u, .u, .u, .u, .u, .u, .u, .u, .u, .u, .u, .u, .u, .u, .u, .u, .u, .u, .u, .u, .u, .u, .u, .u, .u, .u, .u]) ?_ (by repeat first | exact .nil | refine .cons (.refl _) ?_ | refine .cons (.forget _) ?_))
              clear hR R
              refine wpc_sound ?_
              have hff : (rdFlush (rdTag s x)).f.length ≤ s.f.length + 1 := by
                simp only [rdFlush]
                split <;> simp [rdTag]
              simp only [rdOb, W, pexec, xexec, binV, Nat.reduceAdd, Nat.reduceSub, Nat.reduceLeDiff, Nat.reduceEqDiff, Int.reduceToNat, reduceIte, reduceCtorEq, Int.reduceBEq, Int.reduceBNe, Bool.true_or, Bool.false_or, Bool.or_true, Bool.or_false, Bool.and_false, Bool.false_and, Nat.sub_zero, bytesOf, byteOfRow, UInt8.ofNat_toNat]
              refine ⟨?_, ?_⟩
              · simp [maxLen]; omega
              · have hr : (rdFlush (rdTag s x)).f.map It.cells ++ [[.i .i64 x.kind, .s x.text, .i .i64 x.id]] = (rdPut (rdFlush (rdTag s x)) x).f.map It.cells := by simp [It.cells, rdPut]
                rw [hr]
                exact fin 0 (rdPut (rdFlush (rdTag s x)) x) (g3 + 1) g4 (loc := [_]) (by simp [rdOb]) e (by rfl)
            cases htag : tagged x with
            | true =>
              rcases mapIt_cases s.tags x.id with ⟨h2, h3, h4⟩ | ⟨k, b, h2, h3, h4⟩
              all_goals
                have h5 : mapIt (rdTag s x).tags = mapIt (updA s.tags x.id x) := by simp only [rdTag, htag, if_true]
                simp only [htag, h3, purifyV, W, pexec, xexec, binV, Nat.reduceAdd, Nat.reduceSub, Nat.reduceLeDiff, Nat.reduceEqDiff, Int.reduceToNat, reduceIte, reduceCtorEq, Int.reduceBEq, Int.reduceBNe, Bool.true_or, Bool.false_or, Bool.or_true, Bool.or_false, Bool.and_false, Bool.false_and, Nat.sub_zero, bytesOf, byteOfRow, UInt8.ofNat_toNat]
                have h6 := h4 x
                simp only [itV, It.cells] at h6
                rw [h6, ← h5]
                refine ⟨by simp [V.mkey, V.mval, V.pure], ?_⟩
                refine hfl (by repeat first | exact .nil | refine .cons (.refl _) ?_ | refine .cons (.forget _) ?_)
            | false =>
              simp only [htag, W, pexec, xexec, binV, Nat.reduceAdd, Nat.reduceSub, Nat.reduceLeDiff, Nat.reduceEqDiff, Int.reduceToNat, reduceIte, reduceCtorEq, Int.reduceBEq, Int.reduceBNe, Bool.true_or, Bool.false_or, Bool.or_true, Bool.or_false, Bool.and_false, Bool.false_and, Nat.sub_zero, bytesOf, byteOfRow, UInt8.ofNat_toNat]
              have := hfl (fr := [.ptr (σ.length + 1) 0, .u, .u, .ptr (σ.length + 5) 0, .i .i64 0, .b false, .u, .u, .u, .u, .u, .u, .u, .u, .u, .u, .u, .u, .u, .u, .u, .u, .u, .u, .u, .u, .u, .u, .u, .u, .u, .u, .u, .u, .u, .u, .u, .u, .u, .u, .u, .u, .u, .u, .u, .u, .u, .u, .u, .u, .u, .u, .u, .u, .u, .u, .u, .u, .u, .u, .u, .u, .u, .u, .u, .u, .u, .u, .u, .u, .u, .u, .u, .u, .u, .u, .u, .u, .u, .u, .u, .u, .u, .u, .u, .u, .u, .u, .u, .u, .u, .u, .u, .u, .u, .u, .u, .u, .u, .u, .u, .u, .u, .b false, .u, .u, .u, .u, .u, .u, .u, .u, .u, .u, .u, .u, .u, .u, .u, .u, .u, .u, .u]) (by repeat first | exact .nil | refine .cons (.refl _) ?_ | refine .cons (.forget _) ?_)
              simp only [rdTag, htag] at this
              exact this
      have hw1 : IntKind.i64.wrap (((s.f.length + (if 0 < s.text.length then 1 else 0) : Nat) : Int) + 1) = ((s.f.length + (if 0 < s.text.length then 1 else 0) + 1 : Nat) : Int) := wrap_succ (by split <;> omega)
      refine ⟨fun h => ?_, fun h => ?_⟩
      · have h1 : x.kind ≠ 1 ∨ s.text.length = 0 := by simpa using h
        have e : addItems s x = s.f.length + (if 0 < s.text.length then 1 else 0) + 1 := by simp only [addItems, h1, if_true]
        refine hi2 ?_
        rw [hw1, e]; repeat first | exact .nil | refine .cons (.refl _) ?_ | refine .cons (.forget _) ?_
      · have h1 : ¬ (x.kind ≠ 1 ∨ s.text.length = 0) := by simpa using h
        have e : addItems s x = s.f.length + (if 0 < s.text.length then 1 else 0) := by simp only [addItems, h1, if_false]; rfl
        refine hi2 ?_
        rw [e]; repeat first | exact .nil | refine .cons (.refl _) ?_ | refine .cons (.forget _) ?_
    refine ⟨fun h => ?_, fun h => ?_⟩
    · have h1 : 0 < s.text.length := by simpa using h
      refine hi1 ?_
      rw [wrap_succ (by omega), if_pos h1]; repeat first | exact .nil | refine .cons (.refl _) ?_ | refine .cons (.forget _) ?_
    · have h1 : ¬ 0 < s.text.length := by simpa using h
      refine hi1 ?_
      rw [if_neg h1]; repeat first | exact .nil | refine .cons (.refl _) ?_ | refine .cons (.forget _) ?_
  have hret : (tagged x && clash s x) = true → rdAdd s x = (7, s) := fun h => by simp [rdAdd, h]
  cases htag : tagged x with
  | false =>
    simp only [htag, W, pexec, xexec, binV, Nat.reduceAdd, Nat.reduceSub, Nat.reduceLeDiff, Nat.reduceEqDiff, Int.reduceToNat, reduceIte, reduceCtorEq, Int.reduceBEq, Int.reduceBNe, Bool.true_or, Bool.false_or, Bool.or_true, Bool.or_false, Bool.and_false, Bool.false_and, Nat.sub_zero, bytesOf, byteOfRow, UInt8.ofNat_toNat]
    exact hre (loc := []) (by rw [htag]; repeat first | exact .nil | refine .cons (.refl _) ?_ | refine .cons (.forget _) ?_) (by simp [htag])
  | true =>
    rcases mapIt_cases s.tags x.id with ⟨h2, h3, h4⟩ | ⟨k, b, h2, h3, h4⟩
    · simp only [htag, hm, h3, itV, W, pexec, xexec, binV, Nat.reduceAdd, Nat.reduceSub, Nat.reduceLeDiff, Nat.reduceEqDiff, Int.reduceToNat, reduceIte, reduceCtorEq, Int.reduceBEq, Int.reduceBNe, Bool.true_or, Bool.false_or, Bool.or_true, Bool.or_false, Bool.and_false, Bool.false_and, Nat.sub_zero, bytesOf, byteOfRow, UInt8.ofNat_toNat]
      refine ⟨by simp [V.mkey], by simp [V.mkey], callg_eq (c := false) (v := .s []) (by simp only [W, pexec, xexec, binV, Nat.reduceAdd, Nat.reduceSub, Nat.reduceLeDiff, Nat.reduceEqDiff, Int.reduceToNat, reduceIte, reduceCtorEq, Int.reduceBEq, Int.reduceBNe, Bool.true_or, Bool.false_or, Bool.or_true, Bool.or_false, Bool.and_false, Bool.false_and, Nat.sub_zero, bytesOf, byteOfRow, UInt8.ofNat_toNat] <;> rfl) (fun h => by simp at h) rfl ?_⟩
      simp only [W, pexec, xexec, binV, Nat.reduceAdd, Nat.reduceSub, Nat.reduceLeDiff, Nat.reduceEqDiff, Int.reduceToNat, reduceIte, reduceCtorEq, Int.reduceBEq, Int.reduceBNe, Bool.true_or, Bool.false_or, Bool.or_true, Bool.or_false, Bool.and_false, Bool.false_and, Nat.sub_zero, bytesOf, byteOfRow, UInt8.ofNat_toNat]
      refine hre (loc := [_]) (by rw [htag]; repeat first | exact .nil | refine .cons (.refl _) ?_ | refine .cons (.forget _) ?_) (by simp [clash, h2])
    · simp only [htag, hm, h3, itV, It.cells, W, pexec, xexec, binV, Nat.reduceAdd, Nat.reduceSub, Nat.reduceLeDiff, Nat.reduceEqDiff, Int.reduceToNat, reduceIte, reduceCtorEq, Int.reduceBEq, Int.reduceBNe, Bool.true_or, Bool.false_or, Bool.or_true, Bool.or_false, Bool.and_false, Bool.false_and, Nat.sub_zero, bytesOf, byteOfRow, UInt8.ofNat_toNat]
      refine ⟨by simp [V.mkey], by simp [V.mkey], callg_eq (by simp only [W, pexec, xexec, binV, Nat.reduceAdd, Nat.reduceSub, Nat.reduceLeDiff, Nat.reduceEqDiff, Int.reduceToNat, reduceIte, reduceCtorEq, Int.reduceBEq, Int.reduceBNe, Bool.true_or, Bool.false_or, Bool.or_true, Bool.or_false, Bool.and_false, Bool.false_and, Nat.sub_zero, bytesOf, byteOfRow, UInt8.ofNat_toNat] <;> rfl) (fun _ => notationName_pc b.text _) rfl ?_⟩
      simp only [W, pexec, xexec, binV, Nat.reduceAdd, Nat.reduceSub, Nat.reduceLeDiff, Nat.reduceEqDiff, Int.reduceToNat, reduceIte, reduceCtorEq, Int.reduceBEq, Int.reduceBNe, Bool.true_or, Bool.false_or, Bool.or_true, Bool.or_false, Bool.and_false, Bool.false_and, Nat.sub_zero, bytesOf, byteOfRow, UInt8.ofNat_toNat]
      have hcl : clash s x = (x.kind != 3 || b.kind != 2 || tagName b.text != x.text) := by simp only [clash, h2]
      have hb : (!tagName b.text == x.text) = (tagName b.text != x.text) := rfl
      rw [hb, ← hcl]
      refine ⟨fun h => ?_, fun h => ?_⟩
      · exact fin 7 s g1 g2 (loc := [_, _]) (by simp [rdOb]) (hret (by simp [htag, h])) (by rfl)
      · exact hre (loc := [_]) (by rw [htag]; repeat first | exact .nil | refine .cons (.refl _) ?_ | refine .cons (.forget _) ?_) (by simp [htag, h])

end Go.Proofs.Tryz

set_option linter.unusedSimpArgs false
namespace Go.Proofs.Tryz
open Go Go.Pm Go.Bt

theorem closed_rd {σ : Store} (hcl : Closed σ) (g1 g2 : Nat) (r : Rd) : Closed (σ ++ rdOb σ.length g1 g2 r) := closed_add hcl (by
  simp only [rdOb, List.forall_mem_cons, List.length_cons, List.length_nil, List.not_mem_nil, false_imp_iff, implies_true, and_true, true_and]
  simp only [LW]; omega)

theorem loop103 {σ : Store} {K : Exit → St → Prop} (s : List UInt8) (hcl : Closed σ) (hlen : s.length < 2 ^ 39) :
    ∀ (n : Nat) (rest pre : List UInt8) (r : Rd) (g1 g2 : Nat), s = pre ++ rest → rest.length < n → r.ok →
    (∀ r', parseN n r rest pre.length = ((rdFlush r').f, 0, 0) → r'.ok → ∀ g1 g2, (∀ j0 j1 j2 j3 j4 j6 j7 j8 j9 j10 j11 j12 j13 j14 j15 j16 j17 j18 j19 j20 j21 j22 j23 j24 j25 j26 j27 j28 j29 j30 j31 j32 j33 j34 j35 j36 j37 j38, K (.exit 0) ⟨[j0, j1, j2, j3, j4, .ptr (σ.length + 1) 0, j6, j7, j8, j9, j10, j11, j12, j13, j14, j15, j16, j17, j18, j19, j20, j21, j22, j23, j24, j25, j26, j27, j28, j29, j30, j31, j32, j33, j34, j35, j36, j37, j38], σ ++ rdOb σ.length g1 g2 r'⟩)) →
    (∀ at' e, parseN n r rest pre.length = ([], at', e) → ∀ loc, (∀ j0 j1 j5 j6 j7 j8 j9 j10 j11 j12 j13 j14 j15 j16 j17 j18 j19 j20 j21 j22 j23 j24 j25 j26 j27 j28 j29 j30 j31 j32 j33 j34 j35 j36 j37 j38, K .ret ⟨[j0, j1, .nil, .i .i64 at', .i .i64 e, j5, j6, j7, j8, j9, j10, j11, j12, j13, j14, j15, j16, j17, j18, j19, j20, j21, j22, j23, j24, j25, j26, j27, j28, j29, j30, j31, j32, j33, j34, j35, j36, j37, j38], σ ++ loc⟩)) →
    Rnd σ.length Tryz.prog p103_0 K n ⟨[.s s, .u, .u, .i .i64 pre.length, .u, .ptr (σ.length + 1) 0, .u, .u, .u, .u, .u, .u, .u, .u, .u, .u, .u, .u, .u, .u, .u, .u, .u, .u, .u, .u, .u, .u, .u, .u, .u, .u, .u, .u, .u, .u, .u, .u, .u], σ ++ rdOb σ.length g1 g2 r⟩
  | 0, rest, pre, r, g1, g2, he, hn, hr, h1, h2 => by omega
  | n + 1, [], pre, r, g1, g2, he, hn, hr, h1, h2 => by
    have he : s = pre := by simpa using he
    subst he
    refine rnd_step fun R hR => ?_
    simp only [p103_0, W, pexec, xexec, binV, Nat.reduceAdd, Nat.reduceSub, Nat.reduceLeDiff, Nat.reduceEqDiff, Int.reduceToNat, reduceIte, reduceCtorEq]
    exact ⟨fun h => by simp at h, fun _ => h1 r rfl hr g1 g2 ..⟩
  | n + 1, c :: rest, pre, r, g1, g2, he, hn, hr, h1, h2 => by
    subst he
    have hd : (pre ++ c :: rest).drop pre.length = c :: rest := by simp
    have htk : ((pre ++ c :: rest).drop pre.length).take ((pre ++ c :: rest).length - pre.length) = c :: rest := by rw [hd, List.take_of_length_le]; simp
    have hel := elementOf_ok (s := c :: rest) (by simp)
    have hpl : pre.length + (c :: rest).length < 2 ^ 39 := by rw [← List.length_append]; exact hlen
    refine rnd_step fun R hR => ?_
    simp only [p103_0, W, pexec, xexec, binV, Nat.reduceAdd, Nat.reduceSub, Nat.reduceLeDiff, Nat.reduceEqDiff, Int.reduceToNat, reduceIte, reduceCtorEq]
    refine ⟨fun _ => ⟨by simp; omega, ?_⟩, fun h => by simp at h <;> omega⟩
    refine call_eq (element_pc (c :: rest) (by simp) _) (by simp only [List.map_cons, List.map_nil, Int.toNat_natCast, W, pexec, xexec, binV, Nat.reduceAdd, Nat.reduceSub, Nat.reduceLeDiff, Nat.reduceEqDiff, Int.reduceToNat, reduceIte, reduceCtorEq, Int.reduceBEq, Int.reduceBNe, Bool.true_or, Bool.false_or, Bool.or_true, Bool.or_false, Bool.and_false, Bool.false_and, Nat.sub_zero, bytesOf, byteOfRow, UInt8.ofNat_toNat]; rw [htk]) ?_
    simp only [It.cells, W, pexec, xexec, binV, Nat.reduceAdd, Nat.reduceSub, Nat.reduceLeDiff, Nat.reduceEqDiff, Int.reduceToNat, reduceIte, reduceCtorEq, Int.reduceBEq, Int.reduceBNe, Bool.true_or, Bool.false_or, Bool.or_true, Bool.or_false, Bool.and_false, Bool.false_and, Nat.sub_zero, bytesOf, byteOfRow, UInt8.ofNat_toNat]
    refine ⟨fun h => ?_, fun h => ?_⟩
    · have h : (elementOf (c :: rest)).2.2 = false := by simpa using h
      exact h2 pre.length 2 (by simp only [parseN, h, if_true]) ..
    · have h : (elementOf (c :: rest)).2.2 = true := by simpa using h
      have hn1 := hel.2.2 h
      have hx1 := hel.1
      have ok := hr
      obtain ⟨hf, ht, hl⟩ := hr
      have hff : r.f.length ≤ r.len := by split at hf <;> omega
      refine call_ex (add_pc r (elementOf (c :: rest)).1 g1 g2 (by omega) (by omega) (by omega) σ _) rfl ?_
      · rintro v σ' ⟨rfl, g3, g4, rfl⟩
        simp only [W, pexec, xexec, binV, Nat.reduceAdd, Nat.reduceSub, Nat.reduceLeDiff, Nat.reduceEqDiff, Int.reduceToNat, reduceIte, reduceCtorEq, Int.reduceBEq, Int.reduceBNe, Bool.true_or, Bool.false_or, Bool.or_true, Bool.or_false, Bool.and_false, Bool.false_and, Nat.sub_zero, bytesOf, byteOfRow, UInt8.ofNat_toNat]
        refine ⟨fun h3 => ?_, fun h3 => ?_⟩
        · have h3 : (rdAdd r (elementOf (c :: rest)).1).1 ≠ 0 := by simpa using h3
          exact h2 pre.length _ (by simp only [parseN, h]; rw [if_neg (by simp), if_pos h3]) ..
        · have h3 : (rdAdd r (elementOf (c :: rest)).1).1 = 0 := by simpa using h3
          have h4 := rdAdd_ok ok hel.2.1 h3
          obtain ⟨k, hk⟩ : ∃ k : Nat, (elementOf (c :: rest)).2.1 = k := ⟨(elementOf (c :: rest)).2.1.toNat, by omega⟩
          have e : parseN (n + 1) r (c :: rest) pre.length = parseN n (rdAdd r (elementOf (c :: rest)).1).2 ((c :: rest).drop k) ((pre ++ (c :: rest).take k).length : Nat) := by
            simp only [parseN, h]
            rw [if_neg (by simp), if_neg (by simp [h3]), hk]
            simp only [Int.toNat_natCast, List.length_append, List.length_take]
            congr 1
            omega
          rw [e] at h1 h2
          refine hR _ (rnd_drop _ _ (closed_rd hcl _ _ _) ?_ ?_ (loop103 _ hcl hlen n ((c :: rest).drop k) (pre ++ (c :: rest).take k) (rdAdd r (elementOf (c :: rest)).1).2 g3 g4 (by rw [List.append_assoc, List.take_append_drop]) (by simp only [List.length_drop]; simp at hn ⊢; omega) h4 h1 h2))
          · have e3 : (((pre ++ (c :: rest).take k).length : Nat) : Int) = (pre.length : Int) + k := by
              rw [List.length_append, List.length_take, show min k (c :: rest).length = k by omega]; omega
            rw [hk, IntWalk.i64_in _ (by omega), e3]
            repeat first | exact .nil | refine .cons (.refl _) ?_ | refine .cons (.forget _) ?_
          · simp only [LW]
            simp [rdOb]

theorem rd_start {n : Nat} {xs : List V} {σ : Store} : Wk Tryz.prog n xs (σ ++ [.map 3 23 [], .box 149 [.nil, .nil, .i .i64 0, .mp σ.length]]) xs (σ ++ rdOb σ.length 0 0 rdNew) := by
  have h1 := Wk.fieldnil (P := Tryz.prog) (n := n) (xs := xs) (id := σ.length + 1) (j := 0) (σ := σ ++ [.map 3 23 [], .box 149 [.nil, .nil, .i .i64 0, .mp σ.length]]) ti_item (by simp only [W, pexec, xexec, binV, Nat.reduceAdd, Nat.reduceSub, Nat.reduceLeDiff, Nat.reduceEqDiff, Int.reduceToNat, reduceIte, reduceCtorEq]; rfl) rfl
  simp only [W, pexec, xexec, binV, Nat.reduceAdd, Nat.reduceSub, Nat.reduceLeDiff, Nat.reduceEqDiff, Int.reduceToNat, reduceIte, reduceCtorEq] at h1
  have h2 := Wk.fieldnil (P := Tryz.prog) (n := n) (xs := xs) (id := σ.length + 1) (j := 1) (σ := σ ++ [.map 3 23 [], .box 149 [.own (σ.length + 2) 0, .nil, .i .i64 0, .mp σ.length], .row 23 3 32 0 false []]) ti_u8 (by simp only [W, pexec, xexec, binV, Nat.reduceAdd, Nat.reduceSub, Nat.reduceLeDiff, Nat.reduceEqDiff, Int.reduceToNat, reduceIte, reduceCtorEq]; rfl) rfl
  simp only [W, pexec, xexec, binV, Nat.reduceAdd, Nat.reduceSub, Nat.reduceLeDiff, Nat.reduceEqDiff, Int.reduceToNat, reduceIte, reduceCtorEq] at h2
  exact h1.trans h2

theorem notationParse_pc (s : List UInt8) (hlen : s.length < 2 ^ 39) (σ : Store) : PC Tryz.prog 103 [.s s] σ (fun r σ' => r = .tup [.sl 3 ((parse s).1.map It.cells), .i .i64 (parse s).2.1, .i .i64 (parse s).2.2] ∧ σ' = σ) := by
  refine PC.intro Tryz.func103 c103 fun hcl hwf => wpc_sound ?_
  simp only [p103, List.length_cons, List.length_nil, List.replicate, List.cons_append, List.nil_append, Nat.reduceAdd, Nat.reduceSub]
  simp only [W, pexec, xexec, binV, Nat.reduceAdd, Nat.reduceSub, Nat.reduceLeDiff, Nat.reduceEqDiff, Int.reduceToNat, reduceIte, reduceCtorEq, Int.reduceBEq, Int.reduceBNe, Bool.true_or, Bool.false_or, Bool.or_true, Bool.or_false, Bool.and_false, Bool.false_and, Nat.sub_zero, bytesOf, byteOfRow, UInt8.ofNat_toNat]
  have e0 : parse s = parseN (s.length + 1) rdNew s (([] : List UInt8).length : Nat) := rfl
  refine PWc.wk (rd_start.trans (Wk.cvs (ys := [.s s, .u, .u, .i .i64 (([] : List UInt8).length : Nat), .u, .ptr (σ.length + 1) 0, .u, .u, .u, .u, .u, .u, .u, .u, .u, .u, .u, .u, .u, .u, .u, .u, .u, .u, .u, .u, .u, .u, .u, .u, .u, .u, .u, .u, .u, .u, .u, .u, .u]) (by repeat first | exact .nil | refine .cons (.refl _) ?_ | refine .cons (.forget _) ?_))) (PWc.rnd (s.length + 1) (loop103 s hcl hlen (s.length + 1) s [] rdNew 0 0 rfl (by omega) ⟨by simp [rdNew], by simp [rdNew], by simp [rdNew]⟩ ?_ ?_))
  · intro r' hp hok g1 g2
    intros
    simp only [W, pexec, xexec, binV, Nat.reduceAdd, Nat.reduceSub, Nat.reduceLeDiff, Nat.reduceEqDiff, Int.reduceToNat, reduceIte, reduceCtorEq]
    refine call_ex (flush_pc r' g1 g2 (by have := hok.f; have := hok.len; split at * <;> omega) σ []) (by simp [ev]) ?_
    rintro r σ' ⟨rfl, g3, g4, rfl⟩
    simp only [rdOb, List.append_nil, W, pexec, xexec, binV, Nat.reduceAdd, Nat.reduceSub, Nat.reduceLeDiff, Nat.reduceEqDiff, Int.reduceToNat, reduceIte, reduceCtorEq]
    refine ret_fz 2 hcl (.inr rfl) rfl rfl ?_ ?_
    · simp [fz, fz1, AllLt, lt_sl, lt_i]
    · rw [e0, hp]
      simp [fz, fz1, one]
  · intro at' e hp loc
    intros
    simp only [W, pexec, xexec, binV, Nat.reduceAdd, Nat.reduceSub, Nat.reduceLeDiff, Nat.reduceEqDiff, Int.reduceToNat, reduceIte, reduceCtorEq]
    refine ret_cvs hcl (.inr rfl) rfl (ys := [.sl 3 [], .i .i64 at', .i .i64 e]) (.cons (.nil _) (.cons (.refl _) (.cons (.refl _) .nil))) (by simp only [LW]) ⟨?_, rfl⟩
    rw [e0, hp]
    rfl

end Go.Proofs.Tryz
