/- A part of the proof of the statement of the last text of this claim: for every input the law returns true and leaves its argument as it was. -/
import Derived.Test.YtdhbodgefhojnaaGreatDoorL12
import Derived.Test.YtdhbodgefhojnaaGreatDoorL14
set_option linter.unusedSectionVars false
set_option linter.unusedVariables false
set_option linter.unusedSimpArgs false
set_option linter.constructorNameAsVariable false

set_option linter.unusedSimpArgs false
namespace Go.Proofs.Tryz
open Go Go.Pm Go.Bt

theorem r1Class_pc (b : UInt8) (σ : Store) : PC Tryz.prog 188 [.i .u8 b.toNat] σ (fun r σ' => r = .i .i64 (classOf b) ∧ σ' = σ) := by
  refine PC.intro Tryz.func188 c188 fun hcl hwf => wpc_sound ?_
  simp only [p188, List.length_cons, List.length_nil, List.replicate, List.cons_append, List.nil_append, Nat.reduceAdd, Nat.reduceSub]
  simp only [W, pexec, xexec, binV, Nat.reduceAdd, Nat.reduceSub, Nat.reduceLeDiff, Nat.reduceEqDiff, Int.reduceToNat, reduceIte, reduceCtorEq]
  clear hwf hcl
  refine ⟨fun h1 => ?_, fun h1 => ⟨fun h2 => ?_, fun h2 => ⟨fun h3 => ?_, fun h3 => ⟨fun h4 => ?_, fun h4 => ?_⟩⟩⟩⟩ <;> refine ret_end0 (.inr rfl) rfl ⟨?_, rfl⟩ <;> simp at * <;> simp only [Pm.one, classOf, List.getD_cons_zero, List.getD_cons_succ, V.i.injEq, true_and] <;> (repeat' split) <;> omega

theorem r3IsTag_pc (x : It) (σ : Store) : PC Tryz.prog 159 [.agg x.cells] σ (fun r σ' => r = .b (isTag x) ∧ σ' = σ) := by
  refine PC.intro Tryz.func159 c159 fun hcl hwf => wpc_sound ?_
  simp only [p159, It.cells, List.length_cons, List.length_nil, List.replicate, List.cons_append, List.nil_append, Nat.reduceAdd, Nat.reduceSub]
  simp only [W, pexec, xexec, binV, Nat.reduceAdd, Nat.reduceSub, Nat.reduceLeDiff, Nat.reduceEqDiff, Int.reduceToNat, reduceIte, reduceCtorEq, Int.reduceBEq, Int.reduceBNe, Bool.true_or, Bool.false_or, Bool.or_true, Bool.or_false, Bool.and_false, Bool.false_and, Nat.sub_zero, bytesOf, byteOfRow, UInt8.ofNat_toNat]
  refine ret_end hcl (.inr rfl) rfl (by simp only [LW]) ⟨?_, rfl⟩
  simp only [Pm.one, isTag, List.getD_cons_zero, List.getD_cons_succ]

theorem loop142 {n : Nat} {σ : Store} {K : Exit → St → Prop} (s : List UInt8) (hlen : s.length < 2 ^ 63) : ∀ (rest pre : List UInt8), s = pre ++ rest → pre ≠ [] →
    (rest.all nameByte = true → (∀ j0 j1 j2 j3 j4 j5 j6 j7 j8 j9 j10 j11 j12 j13 j14 j15 j16 j17 j18 j19 j20 j21 j22 j23 j24 j25 j26 j27 j28 j29 j30 j31 j32 j33 j34 j35 j36 j37 j38 j39 j40 j41 j42 j43, K (.exit 0) ⟨[j0, j1, j2, j3, j4, j5, j6, j7, j8, j9, j10, j11, j12, j13, j14, j15, j16, j17, j18, j19, j20, j21, j22, j23, j24, j25, j26, j27, j28, j29, j30, j31, j32, j33, j34, j35, j36, j37, j38, j39, j40, j41, j42, j43], σ⟩)) → (rest.all nameByte = false → (∀ j0 j1 j3 j4 j5 j6 j7 j8 j9 j10 j11 j12 j13 j14 j15 j16 j17 j18 j19 j20 j21 j22 j23 j24 j25 j26 j27 j28 j29 j30 j31 j32 j33 j34 j35 j36 j37 j38 j39 j40 j41 j42 j43, K .ret ⟨[j0, j1, .b false, j3, j4, j5, j6, j7, j8, j9, j10, j11, j12, j13, j14, j15, j16, j17, j18, j19, j20, j21, j22, j23, j24, j25, j26, j27, j28, j29, j30, j31, j32, j33, j34, j35, j36, j37, j38, j39, j40, j41, j42, j43], σ⟩)) →
    Rnd n Tryz.prog p142_0 K (rest.length + 1) ⟨[.s s, .u, .u, .i .i64 pre.length, .u, .u, .u, .u, .u, .u, .u, .u, .u, .u, .u, .u, .u, .u, .u, .u, .u, .u, .u, .u, .u, .u, .u, .u, .u, .u, .u, .u, .u, .u, .u, .u, .u, .u, .u, .u, .u, .u, .u, .u], σ⟩ := by
  intro rest
  induction rest with
  | nil =>
    intro pre he hp h1 h2
    have he : s = pre := by simpa using he
    subst he
    refine rnd_step fun R hR => ?_
    simp only [p142_0, W, pexec, xexec, binV, Nat.reduceAdd, Nat.reduceSub, Nat.reduceLeDiff, Nat.reduceEqDiff, Int.reduceToNat, reduceIte, reduceCtorEq, Int.reduceBEq, Int.reduceBNe, Bool.true_or, Bool.false_or, Bool.or_true, Bool.or_false, Bool.and_false, Bool.false_and, Nat.sub_zero, bytesOf, byteOfRow, UInt8.ofNat_toNat]
    exact ⟨fun h => by simp at h, fun _ => h1 rfl ..⟩
  | cons c rest ih =>
    intro pre he hp h1 h2
    subst he
    have hpl : 0 < pre.length := List.length_pos_iff.2 hp
    have hd : decide ((0 : Int) < pre.length) = true := by simp; omega
    refine rnd_step fun R hR => ?_
    simp only [p142_0, hd, W, pexec, xexec, binV, Nat.reduceAdd, Nat.reduceSub, Nat.reduceLeDiff, Nat.reduceEqDiff, Int.reduceToNat, reduceIte, reduceCtorEq, Int.reduceBEq, Int.reduceBNe, Bool.true_or, Bool.false_or, Bool.or_true, Bool.or_false, Bool.and_false, Bool.false_and, Nat.sub_zero, bytesOf, byteOfRow, UInt8.ofNat_toNat]
    have hn : nameByte c = ((decide (97 ≤ (c.toNat : Int)) && decide ((c.toNat : Int) ≤ 122)) || ((decide (48 ≤ (c.toNat : Int)) && decide ((c.toNat : Int) ≤ 57)) || ((c.toNat : Int) == 45))) := by
      rw [Bool.eq_iff_iff]; simp [nameByte]; omega
    rw [← hn]
    refine ⟨fun _ => ⟨by simp; omega, fun h => ?_, fun h => ?_⟩, fun h => by simp at h <;> omega⟩
    · have e : (c :: rest).all nameByte = rest.all nameByte := by simp [h]
      rw [e] at h1 h2
      refine hR _ (rnd_cvs ?_ (ih (pre ++ [c]) (by simp) (by simp) h1 h2))
      rw [wrap_succ (by simp at hlen; omega)]
      simp only [List.length_append, List.length_cons, List.length_nil]
      repeat first | exact .nil | refine .cons (.refl _) ?_ | refine .cons (.forget _) ?_
    · exact h2 (by simp [h]) ..

theorem r1IsName_pc (s : List UInt8) (σ : Store) : PC Tryz.prog 142 [.s s] σ (fun r σ' => r = .b (isName s) ∧ σ' = σ) := by
  refine PC.intro Tryz.func142 c142 fun hcl hwf => wpc_sound ?_
  have hlen := wf_s (hwf 0 _ rfl).1
  simp only [p142, List.length_cons, List.length_nil, List.replicate, List.cons_append, List.nil_append, Nat.reduceAdd, Nat.reduceSub]
  simp only [W, pexec, xexec, binV, Nat.reduceAdd, Nat.reduceSub, Nat.reduceLeDiff, Nat.reduceEqDiff, Int.reduceToNat, reduceIte, reduceCtorEq, Int.reduceBEq, Int.reduceBNe, Bool.true_or, Bool.false_or, Bool.or_true, Bool.or_false, Bool.and_false, Bool.false_and, Nat.sub_zero, bytesOf, byteOfRow, UInt8.ofNat_toNat]
  cases s with
  | nil =>
    refine ⟨fun _ => ret_end0 (.inr rfl) rfl ⟨rfl, rfl⟩, fun h => by simp at h⟩
  | cons c r =>
    refine ⟨fun h => ?_, fun h => ?_⟩
    · refine ret_end0 (.inr rfl) rfl ⟨?_, rfl⟩
      simp at h
      simp [Pm.one, isName]
      omega
    · simp at h
      refine PWc.rnd (r.length + 2) (rnd_step fun R hR => ?_)
      simp only [p142_0, List.getD_cons_zero, W, pexec, xexec, binV, Nat.reduceAdd, Nat.reduceSub, Nat.reduceLeDiff, Nat.reduceEqDiff, Int.reduceToNat, reduceIte, reduceCtorEq, Int.reduceBEq, Int.reduceBNe, Bool.true_or, Bool.false_or, Bool.or_true, Bool.or_false, Bool.and_false, Bool.false_and, Nat.sub_zero, bytesOf, byteOfRow, UInt8.ofNat_toNat]
      have hlo : ((decide (97 ≤ (c.toNat : Int)) && decide ((c.toNat : Int) ≤ 122)) || (decide ((0 : Int) < 0) && ((decide (48 ≤ (c.toNat : Int)) && decide ((c.toNat : Int) ≤ 57)) || ((c.toNat : Int) == 45)))) = decide (97 ≤ c.toNat ∧ c.toNat ≤ 122) := by
        rw [Bool.eq_iff_iff]; simp; omega
      have hln : (c :: r).length ≤ 24 := by simp; omega
      rw [hlo]
      refine ⟨fun _ => ⟨by simp, fun h2 => ?_, fun h2 => ?_⟩, fun h => by simp at h <;> omega⟩
      · have e : isName (c :: r) = r.all nameByte := by
          simp only [isName, h2, hln, decide_true, Bool.true_and]
        refine hR _ (rnd_cvs ?_ (loop142 (c :: r) hlen r [c] rfl (by simp) (fun h1 => ?_) (fun h1 => ?_)))
        · rw [show IntKind.i64.wrap (0 + 1) = (([c].length : Nat) : Int) from IntWalk.i64_in _ (by decide)]
          repeat first | exact .nil | refine .cons (.refl _) ?_ | refine .cons (.forget _) ?_
        · intros
          simp only [W, pexec, xexec, binV, Nat.reduceAdd, Nat.reduceSub, Nat.reduceLeDiff, Nat.reduceEqDiff, Int.reduceToNat, reduceIte, reduceCtorEq, Int.reduceBEq, Int.reduceBNe, Bool.true_or, Bool.false_or, Bool.or_true, Bool.or_false, Bool.and_false, Bool.false_and, Nat.sub_zero, bytesOf, byteOfRow, UInt8.ofNat_toNat]
          exact ret_end0 (.inr rfl) rfl ⟨by simp only [Pm.one, e, h1, List.getD_cons_zero, List.getD_cons_succ], rfl⟩
        · intros
          simp only [W, pexec, xexec, binV, Nat.reduceAdd, Nat.reduceSub, Nat.reduceLeDiff, Nat.reduceEqDiff, Int.reduceToNat, reduceIte, reduceCtorEq, Int.reduceBEq, Int.reduceBNe, Bool.true_or, Bool.false_or, Bool.or_true, Bool.or_false, Bool.and_false, Bool.false_and, Nat.sub_zero, bytesOf, byteOfRow, UInt8.ofNat_toNat]
          exact ret_end0 (.inr rfl) rfl ⟨by simp only [Pm.one, e, h1, List.getD_cons_zero, List.getD_cons_succ], rfl⟩
      · refine ret_end0 (.inr rfl) rfl ⟨?_, rfl⟩
        have e : isName (c :: r) = false := by simp only [isName, h2, Bool.and_false, Bool.false_and]
        rw [e]; rfl

theorem loop122 {n : Nat} {σ : Store} {K : Exit → St → Prop} (s : List UInt8) (hlen : s.length < 2 ^ 63) : ∀ (rest pre : List UInt8), s = pre ++ rest → 32 ∉ pre →
    (32 ∉ s → (∀ j1 j2 j3 j4 j5 j6 j7 j8 j9 j10 j11 j12 j13 j14 j15 j16 j17, K (.exit 0) ⟨[.s s, j1, j2, j3, j4, j5, j6, j7, j8, j9, j10, j11, j12, j13, j14, j15, j16, j17], σ⟩)) → (32 ∈ s → (∀ j0 j1 j3 j4 j5 j6 j7 j8 j9 j10 j11 j12 j13 j14 j15 j16 j17, K .ret ⟨[j0, j1, .s (s.take (Lib.indexByte s 32).toNat), j3, j4, j5, j6, j7, j8, j9, j10, j11, j12, j13, j14, j15, j16, j17], σ⟩)) →
    Rnd n Tryz.prog p122_0 K (rest.length + 1) ⟨[.s s, .u, .u, .i .i64 pre.length, .u, .u, .u, .u, .u, .u, .u, .u, .u, .u, .u, .u, .u, .u], σ⟩ := by
  intro rest
  induction rest with
  | nil =>
    intro pre he hp h1 h2
    have he : s = pre := by simpa using he
    subst he
    refine rnd_step fun R hR => ?_
    simp only [p122_0, W, pexec, xexec, binV, Nat.reduceAdd, Nat.reduceSub, Nat.reduceLeDiff, Nat.reduceEqDiff, Int.reduceToNat, reduceIte, reduceCtorEq, Int.reduceBEq, Int.reduceBNe, Bool.true_or, Bool.false_or, Bool.or_true, Bool.or_false, Bool.and_false, Bool.false_and, Nat.sub_zero, bytesOf, byteOfRow, UInt8.ofNat_toNat]
    exact ⟨fun h => by simp at h, fun _ => h1 hp ..⟩
  | cons c rest ih =>
    intro pre he hp h1 h2
    subst he
    refine rnd_step fun R hR => ?_
    simp only [p122_0, W, pexec, xexec, binV, Nat.reduceAdd, Nat.reduceSub, Nat.reduceLeDiff, Nat.reduceEqDiff, Int.reduceToNat, reduceIte, reduceCtorEq, Int.reduceBEq, Int.reduceBNe, Bool.true_or, Bool.false_or, Bool.or_true, Bool.or_false, Bool.and_false, Bool.false_and, Nat.sub_zero, bytesOf, byteOfRow, UInt8.ofNat_toNat]
    refine ⟨fun _ => ⟨by simp; omega, fun h => ⟨by simp; omega, ?_⟩, fun h => ?_⟩, fun h => by simp at h <;> omega⟩
    · have hc : c = 32 := by
        rw [show (32 : Int) = ((32 : UInt8).toNat : Int) from rfl, u8_beq] at h
        simpa using h
      subst hc
      have e : (Lib.indexByte (pre ++ 32 :: rest) 32).toNat = pre.length := by
        rw [indexByte_at hp]; simp
      have := h2 (by simp)
      rw [e] at this
      exact this ..
    · have hc : ¬ c = 32 := by
        rw [show (32 : Int) = ((32 : UInt8).toNat : Int) from rfl, u8_beq] at h
        simpa using h
      refine hR _ (rnd_cvs ?_ (ih (pre ++ [c]) (by simp) (by simp [hp, Ne.symm hc]) h1 h2))
      rw [wrap_succ (by simp at hlen; omega)]
      simp only [List.length_append, List.length_cons, List.length_nil]
      repeat first | exact .nil | refine .cons (.refl _) ?_ | refine .cons (.forget _) ?_

theorem r3Name_pc (s : List UInt8) (σ : Store) : PC Tryz.prog 122 [.s s] σ (fun r σ' => r = .s (tagName s) ∧ σ' = σ) := by
  refine PC.intro Tryz.func122 c122 fun hcl hwf => wpc_sound ?_
  have hlen := wf_s (hwf 0 _ rfl).1
  simp only [p122, List.length_cons, List.length_nil, List.replicate, List.cons_append, List.nil_append, Nat.reduceAdd, Nat.reduceSub]
  simp only [W, pexec, xexec, binV, Nat.reduceAdd, Nat.reduceSub, Nat.reduceLeDiff, Nat.reduceEqDiff, Int.reduceToNat, reduceIte, reduceCtorEq, Int.reduceBEq, Int.reduceBNe, Bool.true_or, Bool.false_or, Bool.or_true, Bool.or_false, Bool.and_false, Bool.false_and, Nat.sub_zero, bytesOf, byteOfRow, UInt8.ofNat_toNat]
  refine PWc.rnd_cvs ?_ (s.length + 1) (loop122 s hlen s [] rfl (by simp) (fun h => ?_) (fun h => ?_))
  · repeat first | exact .nil | refine .cons (.refl _) ?_ | refine .cons (.forget _) ?_
  · intros
    simp only [W, pexec, xexec, binV, Nat.reduceAdd, Nat.reduceSub, Nat.reduceLeDiff, Nat.reduceEqDiff, Int.reduceToNat, reduceIte, reduceCtorEq, Int.reduceBEq, Int.reduceBNe, Bool.true_or, Bool.false_or, Bool.or_true, Bool.or_false, Bool.and_false, Bool.false_and, Nat.sub_zero, bytesOf, byteOfRow, UInt8.ofNat_toNat]
    refine ret_end0 (.inr rfl) rfl ⟨?_, rfl⟩
    have : Lib.indexByte s 32 = -1 := indexByte_none h
    simp [Pm.one, tagName, cutAt, this]
  · intros
    refine ret_end0 (.inr rfl) rfl ⟨?_, rfl⟩
    have : 0 ≤ Lib.indexByte s 32 := indexByte_some h
    simp [Pm.one, tagName, cutAt, this]

end Go.Proofs.Tryz

set_option linter.unusedSimpArgs false
namespace Go.Proofs.Tryz
open Go Go.Pm Go.Bt

theorem loop160 {n : Nat} {σ : Store} {K : Exit → St → Prop} (l : List Int) (x : Int) (hlen : l.length < 2 ^ 63) : ∀ (rest pre : List Int), l = pre ++ rest →
    (rest.contains x = false → (∀ j0 j1 j2 j3 j4 j5 j6 j7 j8 j9 j10 j11 j12 j13 j14 j15 j16 j17, K (.exit 0) ⟨[j0, j1, j2, j3, j4, j5, j6, j7, j8, j9, j10, j11, j12, j13, j14, j15, j16, j17], σ⟩)) → (rest.contains x = true → (∀ j0 j1 j2 j3 j5 j6 j7 j8 j9 j10 j11 j12 j13 j14 j15 j16 j17, K .ret ⟨[j0, j1, j2, j3, .b true, j5, j6, j7, j8, j9, j10, j11, j12, j13, j14, j15, j16, j17], σ⟩)) →
    Rnd n Tryz.prog p160_0 K (rest.length + 1) ⟨[.sl 1 (l.map iRow), .i .i64 x, .u, .u, .u, .u, .u, .i .i64 l.length, .i .i64 pre.length, .u, .u, .u, .u, .u, .u, .u, .u, .u], σ⟩ := by
  intro rest
  induction rest with
  | nil =>
    intro pre he h1 h2
    have he : l = pre := by simpa using he
    subst he
    refine rnd_step fun R hR => ?_
    simp only [p160_0, W, pexec, xexec, binV, Nat.reduceAdd, Nat.reduceSub, Nat.reduceLeDiff, Nat.reduceEqDiff, Int.reduceToNat, reduceIte, reduceCtorEq, Int.reduceBEq, Int.reduceBNe, Bool.true_or, Bool.false_or, Bool.or_true, Bool.or_false, Bool.and_false, Bool.false_and, Nat.sub_zero, bytesOf, byteOfRow, UInt8.ofNat_toNat]
    exact ⟨fun h => by simp at h, fun _ => h1 rfl ..⟩
  | cons c rest ih =>
    intro pre he h1 h2
    subst he
    refine rnd_step fun R hR => ?_
    simp only [p160_0, iRow, W, pexec, xexec, binV, Nat.reduceAdd, Nat.reduceSub, Nat.reduceLeDiff, Nat.reduceEqDiff, Int.reduceToNat, reduceIte, reduceCtorEq, Int.reduceBEq, Int.reduceBNe, Bool.true_or, Bool.false_or, Bool.or_true, Bool.or_false, Bool.and_false, Bool.false_and, Nat.sub_zero, bytesOf, byteOfRow, UInt8.ofNat_toNat]
    refine ⟨fun _ => ⟨by simp; omega, fun h => ?_, fun h => ?_⟩, fun h => by simp at h <;> omega⟩
    · have h : c = x := by simpa using h
      exact h2 (by simp [h]) ..
    · have h : ¬ c = x := by simpa using h
      have e : (c :: rest).contains x = rest.contains x := by
        have : (x == c) = false := by simpa using fun e => h e.symm
        simp only [List.contains_cons, this, Bool.false_or]
      rw [e] at h1 h2
      refine hR _ (rnd_cvs ?_ (ih (pre ++ [c]) (by simp) h1 h2))
      rw [wrap_succ (by simp at hlen; omega)]
      simp only [List.length_append, List.length_cons, List.length_nil]
      repeat first | exact .nil | refine .cons (.refl _) ?_ | refine .cons (.forget _) ?_

theorem r3Has_pc (l : List Int) (x : Int) (σ : Store) : PC Tryz.prog 160 [.sl 1 (l.map iRow), .i .i64 x] σ (fun r σ' => r = .b (l.contains x) ∧ σ' = σ) := by
  refine PC.intro Tryz.func160 c160 fun hcl hwf => wpc_sound ?_
  have hlen := wf_sl (hwf 0 _ rfl).1
  rw [List.length_map] at hlen
  simp only [p160, List.length_cons, List.length_nil, List.replicate, List.cons_append, List.nil_append, Nat.reduceAdd, Nat.reduceSub]
  simp only [List.length_map, W, pexec, xexec, binV, Nat.reduceAdd, Nat.reduceSub, Nat.reduceLeDiff, Nat.reduceEqDiff, Int.reduceToNat, reduceIte, reduceCtorEq, Int.reduceBEq, Int.reduceBNe, Bool.true_or, Bool.false_or, Bool.or_true, Bool.or_false, Bool.and_false, Bool.false_and, Nat.sub_zero, bytesOf, byteOfRow, UInt8.ofNat_toNat]
  refine PWc.rnd_cvs ?_ (l.length + 1) (loop160 l x hlen l [] rfl (fun h => ?_) (fun h => ?_))
  · repeat first | exact .nil | refine .cons (.refl _) ?_ | refine .cons (.forget _) ?_
  · intros
    simp only [W, pexec, xexec, binV, Nat.reduceAdd, Nat.reduceSub, Nat.reduceLeDiff, Nat.reduceEqDiff, Int.reduceToNat, reduceIte, reduceCtorEq, Int.reduceBEq, Int.reduceBNe, Bool.true_or, Bool.false_or, Bool.or_true, Bool.or_false, Bool.and_false, Bool.false_and, Nat.sub_zero, bytesOf, byteOfRow, UInt8.ofNat_toNat]
    exact ret_end0 (.inr rfl) rfl ⟨by rw [h]; rfl, rfl⟩
  · intros
    exact ret_end0 (.inr rfl) rfl ⟨by rw [h]; rfl, rfl⟩

theorem loop139 {n : Nat} {σ : Store} {K : Exit → St → Prop} (its : List It) (hlen : its.length < 2 ^ 63) : ∀ (rest pre : List It) (acc : Int), its = pre ++ rest →
    (∀ j0 j1 j2 j4 j5 j6 j7 j8 j9 j10 j11 j12 j13 j14 j15 j16 j17 j18 j19 j20 j21 j22 j23 j24 j25 j26 j27, K (.exit 0) ⟨[j0, j1, j2, .i .i64 (lengthFrom acc rest), j4, j5, j6, j7, j8, j9, j10, j11, j12, j13, j14, j15, j16, j17, j18, j19, j20, j21, j22, j23, j24, j25, j26, j27], σ⟩) →
    Rnd n Tryz.prog p139_0 K (rest.length + 1) ⟨[.sl 3 (its.map It.cells), .u, .u, .i .i64 acc, .u, .u, .i .i64 its.length, .i .i64 pre.length, .u, .u, .u, .u, .u, .u, .u, .u, .u, .u, .u, .u, .u, .u, .u, .u, .u, .u, .u, .u], σ⟩ := by
  intro rest
  induction rest with
  | nil =>
    intro pre acc he h1
    have he : its = pre := by simpa using he
    subst he
    refine rnd_step fun R hR => ?_
    simp only [p139_0, W, pexec, xexec, binV, Nat.reduceAdd, Nat.reduceSub, Nat.reduceLeDiff, Nat.reduceEqDiff, Int.reduceToNat, reduceIte, reduceCtorEq, Int.reduceBEq, Int.reduceBNe, Bool.true_or, Bool.false_or, Bool.or_true, Bool.or_false, Bool.and_false, Bool.false_and, Nat.sub_zero, bytesOf, byteOfRow, UInt8.ofNat_toNat]
    exact ⟨fun h => by simp at h, fun _ => h1 ..⟩
  | cons x rest ih =>
    intro pre acc he h1
    subst he
    have hw : IntKind.i64.wrap ((pre.length : Int) + 1) = (((pre ++ [x]).length : Nat) : Int) := by
      rw [wrap_succ (by simp at hlen; omega)]; simp
    refine rnd_step fun R hR => ?_
    simp only [p139_0, It.cells, W, pexec, xexec, binV, Nat.reduceAdd, Nat.reduceSub, Nat.reduceLeDiff, Nat.reduceEqDiff, Int.reduceToNat, reduceIte, reduceCtorEq, Int.reduceBEq, Int.reduceBNe, Bool.true_or, Bool.false_or, Bool.or_true, Bool.or_false, Bool.and_false, Bool.false_and, Nat.sub_zero, bytesOf, byteOfRow, UInt8.ofNat_toNat]
    have e : lengthFrom acc (x :: rest) = lengthFrom (IntKind.i64.wrap (acc + width x)) rest := rfl
    rw [e] at h1
    refine ⟨fun _ => ⟨by simp; omega, fun h => ⟨by simp; omega, ?_⟩, fun h => ?_⟩, fun h => by simp at h <;> omega⟩
    · have h : x.kind = 1 := by simpa using h
      have ew : width x = x.text.length := by simp [width, h]
      rw [ew] at h1
      refine hR _ (rnd_cvs ?_ (ih (pre ++ [x]) _ (by simp) h1))
      rw [hw]; repeat first | exact .nil | refine .cons (.refl _) ?_ | refine .cons (.forget _) ?_
    · have h : ¬ x.kind = 1 := by simpa using h
      have ew : width x = 1 := by simp [width, h]
      rw [ew] at h1
      refine hR _ (rnd_cvs ?_ (ih (pre ++ [x]) _ (by simp) h1))
      rw [hw]; repeat first | exact .nil | refine .cons (.refl _) ?_ | refine .cons (.forget _) ?_

theorem r3Length_pc (its : List It) (σ : Store) : PC Tryz.prog 139 [.sl 3 (its.map It.cells)] σ (fun r σ' => r = .i .i64 (lengthFrom 0 its) ∧ σ' = σ) := by
  refine PC.intro Tryz.func139 c139 fun hcl hwf => wpc_sound ?_
  have hlen := wf_sl (hwf 0 _ rfl).1
  rw [List.length_map] at hlen
  simp only [p139, List.length_cons, List.length_nil, List.replicate, List.cons_append, List.nil_append, Nat.reduceAdd, Nat.reduceSub]
  simp only [List.length_map, W, pexec, xexec, binV, Nat.reduceAdd, Nat.reduceSub, Nat.reduceLeDiff, Nat.reduceEqDiff, Int.reduceToNat, reduceIte, reduceCtorEq, Int.reduceBEq, Int.reduceBNe, Bool.true_or, Bool.false_or, Bool.or_true, Bool.or_false, Bool.and_false, Bool.false_and, Nat.sub_zero, bytesOf, byteOfRow, UInt8.ofNat_toNat]
  refine PWc.rnd_cvs ?_ (its.length + 1) (loop139 its hlen its [] 0 rfl ?_)
  · repeat first | exact .nil | refine .cons (.refl _) ?_ | refine .cons (.forget _) ?_
  · intros
    simp only [W, pexec, xexec, binV, Nat.reduceAdd, Nat.reduceSub, Nat.reduceLeDiff, Nat.reduceEqDiff, Int.reduceToNat, reduceIte, reduceCtorEq, Int.reduceBEq, Int.reduceBNe, Bool.true_or, Bool.false_or, Bool.or_true, Bool.or_false, Bool.and_false, Bool.false_and, Nat.sub_zero, bytesOf, byteOfRow, UInt8.ofNat_toNat]
    exact ret_end0 (.inr rfl) rfl ⟨rfl, rfl⟩

end Go.Proofs.Tryz

set_option linter.unusedSimpArgs false
namespace Go.Proofs.Tryz
open Go Go.Pm Go.Bt

theorem loop76 {n : Nat} {σ : Store} {K : Exit → St → Prop} (a b : List It) (hlen : a.length < 2 ^ 63) (hab : a.length = b.length) : ∀ (ra rb pa pb : List It), a = pa ++ ra → b = pb ++ rb → pa.length = pb.length →
    (itsEq ra rb = true → (∀ j0 j1 j2 j3 j4 j5 j6 j7 j8 j9 j10 j11 j12 j13 j14 j15 j16 j17 j18 j19 j20 j21 j22 j23 j24 j25, K (.exit 0) ⟨[j0, j1, j2, j3, j4, j5, j6, j7, j8, j9, j10, j11, j12, j13, j14, j15, j16, j17, j18, j19, j20, j21, j22, j23, j24, j25], σ⟩)) → (itsEq ra rb = false → (∀ j0 j1 j2 j3 j5 j6 j7 j8 j9 j10 j11 j12 j13 j14 j15 j16 j17 j18 j19 j20 j21 j22 j23 j24 j25, K .ret ⟨[j0, j1, j2, j3, .b false, j5, j6, j7, j8, j9, j10, j11, j12, j13, j14, j15, j16, j17, j18, j19, j20, j21, j22, j23, j24, j25], σ⟩)) →
    Rnd n Tryz.prog p76_0 K (ra.length + 1) ⟨[.sl 3 (a.map It.cells), .sl 3 (b.map It.cells), .u, .u, .u, .u, .u, .u, .u, .u, .u, .u, .i .i64 a.length, .i .i64 pa.length, .u, .u, .u, .u, .u, .u, .u, .u, .u, .u, .u, .u], σ⟩ := by
  intro ra
  induction ra with
  | nil =>
    intro rb pa pb ha hb hp h1 h2
    have : rb = [] := by
      subst ha; subst hb
      simp at hab
      exact List.eq_nil_of_length_eq_zero (by omega)
    subst this
    have ha : a = pa := by simpa using ha
    subst ha
    refine rnd_step fun R hR => ?_
    simp only [p76_0, W, pexec, xexec, binV, Nat.reduceAdd, Nat.reduceSub, Nat.reduceLeDiff, Nat.reduceEqDiff, Int.reduceToNat, reduceIte, reduceCtorEq, Int.reduceBEq, Int.reduceBNe, Bool.true_or, Bool.false_or, Bool.or_true, Bool.or_false, Bool.and_false, Bool.false_and, Nat.sub_zero, bytesOf, byteOfRow, UInt8.ofNat_toNat]
    exact ⟨fun h => by simp at h, fun _ => h1 rfl ..⟩
  | cons x ra ih =>
    intro rb pa pb ha hb hp h1 h2
    cases rb with
    | nil => subst ha; subst hb; simp at hab; omega
    | cons y rb =>
      subst ha; subst hb
      have e2 : (List.map It.cells (pb ++ y :: rb)).getD pa.length [] = y.cells := by rw [hp]; exact row_at
      have hw : IntKind.i64.wrap ((pa.length : Int) + 1) = (((pa ++ [x]).length : Nat) : Int) := by
        rw [wrap_succ (by simp at hlen; omega)]; simp
      refine rnd_step fun R hR => ?_
      simp only [p76_0, Int.toNat_natCast, e2, It.cells, cellsEq, scalEq, W, pexec, xexec, binV, Nat.reduceAdd, Nat.reduceSub, Nat.reduceLeDiff, Nat.reduceEqDiff, Int.reduceToNat, reduceIte, reduceCtorEq, Int.reduceBEq, Int.reduceBNe, Bool.true_or, Bool.false_or, Bool.or_true, Bool.or_false, Bool.and_false, Bool.false_and, Nat.sub_zero, bytesOf, byteOfRow, UInt8.ofNat_toNat]
      have hla : (0 : Int) ≤ pa.length ∧ (pa.length : Int) < (List.map It.cells (pa ++ x :: ra)).length := by simp; omega
      have hlb : (0 : Int) ≤ pa.length ∧ (pa.length : Int) < (List.map It.cells (pb ++ y :: rb)).length := by simp at hab ⊢; omega
      have hq : itEq x y = (x.kind == y.kind && (x.text == y.text && x.id == y.id)) := rfl
      rw [← hq]
      refine ⟨fun _ => ⟨hla, hlb, fun h => ?_, fun h => ?_⟩, fun h => by simp at h <;> omega⟩
      · have h : itEq x y = false := by rw [Bool.not_eq_true'] at h; exact h
        exact h2 (by simp [itsEq, h]) ..
      · have h : itEq x y = true := by rw [Bool.not_eq_false'] at h; exact h
        have e : itsEq (x :: ra) (y :: rb) = itsEq ra rb := by simp [itsEq, h]
        rw [e] at h1 h2
        refine hR _ (rnd_cvs ?_ (ih rb (pa ++ [x]) (pb ++ [y]) (by simp) (by simp) (by simp [hp]) h1 h2))
        rw [hw]; repeat first | exact .nil | refine .cons (.refl _) ?_ | refine .cons (.forget _) ?_

theorem r3Same_pc (a b : List It) (σ : Store) : PC Tryz.prog 76 [.sl 3 (a.map It.cells), .sl 3 (b.map It.cells)] σ (fun r σ' => r = .b (itsEq a b) ∧ σ' = σ) := by
  refine PC.intro Tryz.func76 c76 fun hcl hwf => wpc_sound ?_
  have hlen := wf_sl (hwf 0 _ rfl).1
  rw [List.length_map] at hlen
  simp only [p76, List.length_cons, List.length_nil, List.replicate, List.cons_append, List.nil_append, Nat.reduceAdd, Nat.reduceSub]
  simp only [List.length_map, W, pexec, xexec, binV, Nat.reduceAdd, Nat.reduceSub, Nat.reduceLeDiff, Nat.reduceEqDiff, Int.reduceToNat, reduceIte, reduceCtorEq, Int.reduceBEq, Int.reduceBNe, Bool.true_or, Bool.false_or, Bool.or_true, Bool.or_false, Bool.and_false, Bool.false_and, Nat.sub_zero, bytesOf, byteOfRow, UInt8.ofNat_toNat]
  refine ⟨fun h => ?_, fun h => ?_⟩
  · refine ret_end0 (.inr rfl) rfl ⟨?_, rfl⟩
    have : itsEq a b = false := by
      cases h2 : itsEq a b with
      | false => rfl
      | true => have := itsEq_len h2; simp at h; omega
    simp [Pm.one, this]
  · have hab : a.length = b.length := by simp at h; omega
    refine PWc.rnd_cvs ?_ (a.length + 1) (loop76 a b hlen hab a b [] [] rfl rfl rfl (fun h => ?_) (fun h => ?_))
    · repeat first | exact .nil | refine .cons (.refl _) ?_ | refine .cons (.forget _) ?_
    · intros
      simp only [W, pexec, xexec, binV, Nat.reduceAdd, Nat.reduceSub, Nat.reduceLeDiff, Nat.reduceEqDiff, Int.reduceToNat, reduceIte, reduceCtorEq, Int.reduceBEq, Int.reduceBNe, Bool.true_or, Bool.false_or, Bool.or_true, Bool.or_false, Bool.and_false, Bool.false_and, Nat.sub_zero, bytesOf, byteOfRow, UInt8.ofNat_toNat]
      exact ret_end0 (.inr rfl) rfl ⟨by simp [Pm.one, h], rfl⟩
    · intros
      exact ret_end0 (.inr rfl) rfl ⟨by simp [Pm.one, h], rfl⟩

theorem loop125 {σ : Store} {K : Exit → St → Prop} (N : Nat) (hN : N < 2 ^ 40) : ∀ (k i : Nat), i + k = N →
    (∀ j0 j1 j2 j4 j5 j6 j7 j8 j9 j10 j11 j12 j13 j14, K (.exit 0) ⟨[j0, j1, j2, .own σ.length N, j4, j5, j6, j7, j8, j9, j10, j11, j12, j13, j14], σ ++ [.row 3 1 8 N false ((counting N).map iRow)]⟩) →
    Rnd σ.length Tryz.prog p125_0 K (k + 1) ⟨[.i .i64 N, .u, .u, .own σ.length i, .i .i64 ((i + 1 : Nat) : Int), .u, .u, .u, .u, .u, .u, .u, .u, .u, .u], σ ++ [.row 3 1 8 i false ((counting i).map iRow)]⟩ := by
  intro k
  induction k with
  | zero =>
    intro i he h1
    have he : i = N := by omega
    subst he
    refine rnd_step fun R hR => ?_
    simp only [p125_0, W, pexec, xexec, binV, Nat.reduceAdd, Nat.reduceSub, Nat.reduceLeDiff, Nat.reduceEqDiff, Int.reduceToNat, reduceIte, reduceCtorEq, Int.reduceBEq, Int.reduceBNe, Bool.true_or, Bool.false_or, Bool.or_true, Bool.or_false, Bool.and_false, Bool.false_and, Nat.sub_zero, bytesOf, byteOfRow, UInt8.ofNat_toNat]
    exact ⟨fun h => by simp at h <;> omega, fun _ => h1 ..⟩
  | succ k ih =>
    intro i he h1
    refine rnd_step fun R hR => ?_
    have hc : (counting i).map iRow ++ [[.i .i64 ((i + 1 : Nat) : Int)]] = (counting (i + 1)).map iRow := by simp [counting, List.range_succ, iRow]
    have hcl : (counting i).length = i := by simp [counting]
    simp only [p125_0, hc, List.length_map, hcl, W, pexec, xexec, binV, Nat.reduceAdd, Nat.reduceSub, Nat.reduceLeDiff, Nat.reduceEqDiff, Int.reduceToNat, reduceIte, reduceCtorEq, Int.reduceBEq, Int.reduceBNe, Bool.true_or, Bool.false_or, Bool.or_true, Bool.or_false, Bool.and_false, Bool.false_and, Nat.sub_zero, bytesOf, byteOfRow, UInt8.ofNat_toNat]
    refine ⟨fun _ => ⟨⟨by omega, by simp only [maxLen]; omega⟩, ?_⟩, fun h => by simp at h <;> omega⟩
    refine hR _ (rnd_cvs ?_ (ih (i + 1) (by omega) h1))
    rw [wrap_succ (by omega)]
    repeat first | exact .nil | refine .cons (.refl _) ?_ | refine .cons (.forget _) ?_

theorem r3UpTo_pc (n : Nat) (hn : n < 2 ^ 40) (σ : Store) : PC Tryz.prog 125 [.i .i64 n] σ (fun r σ' => r = .sl 1 ((counting n).map iRow) ∧ σ' = σ) := by
  refine PC.intro Tryz.func125 c125 fun hcl hwf => wpc_sound ?_
  simp only [p125, List.length_cons, List.length_nil, List.replicate, List.cons_append, List.nil_append, Nat.reduceAdd, Nat.reduceSub]
  simp only [W, pexec, xexec, binV, Nat.reduceAdd, Nat.reduceSub, Nat.reduceLeDiff, Nat.reduceEqDiff, Int.reduceToNat, reduceIte, reduceCtorEq, Int.reduceBEq, Int.reduceBNe, Bool.true_or, Bool.false_or, Bool.or_true, Bool.or_false, Bool.and_false, Bool.false_and, Nat.sub_zero, bytesOf, byteOfRow, UInt8.ofNat_toNat]
  refine PWc.wk ((Wk.promote (k := 3) tI rfl).trans (Wk.cvs ?_)) (PWc.rnd (n + 1) (loop125 n hn n 0 (by omega) ?_))
  · simp only [W, pexec, xexec, binV, Nat.reduceAdd, Nat.reduceSub, Nat.reduceLeDiff, Nat.reduceEqDiff, Int.reduceToNat, reduceIte, reduceCtorEq, Int.reduceBEq, Int.reduceBNe, Bool.true_or, Bool.false_or, Bool.or_true, Bool.or_false, Bool.and_false, Bool.false_and, Nat.sub_zero, bytesOf, byteOfRow, UInt8.ofNat_toNat]
    repeat first | exact .nil | refine .cons (.refl _) ?_ | refine .cons (.forget _) ?_
  · intros
    simp only [W, pexec, xexec, binV, Nat.reduceAdd, Nat.reduceSub, Nat.reduceLeDiff, Nat.reduceEqDiff, Int.reduceToNat, reduceIte, reduceCtorEq, Int.reduceBEq, Int.reduceBNe, Bool.true_or, Bool.false_or, Bool.or_true, Bool.or_false, Bool.and_false, Bool.false_and, Nat.sub_zero, bytesOf, byteOfRow, UInt8.ofNat_toNat]
    refine ret_fz 0 hcl (.inr rfl) rfl rfl ?_ ?_
    · simp [fz, fz1, AllLt, lt_sl]
    · simp [fz, fz1, Pm.one]

end Go.Proofs.Tryz
