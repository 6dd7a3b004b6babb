/- A part of the proof of the statement of the last text of this claim: for every input the law returns true and leaves its argument as it was. -/
import Derived.Test.YtdhbodgefhojnaaGreatDoorL14
import Derived.Test.YtdhbodgefhojnaaGreatDoorL16
import Derived.Test.YtdhbodgefhojnaaGreatDoorL24
import Derived.Test.YtdhbodgefhojnaaGreatDoorL25
set_option linter.unusedSectionVars false
set_option linter.unusedVariables false
set_option linter.unusedSimpArgs false
set_option linter.constructorNameAsVariable false

set_option linter.unusedSimpArgs false
namespace Go.Proofs.Tryz
open Go Go.Pm Go.Bt

def opV (o : Opr) : V := .agg o.cells
def mapOp (l : List (List UInt8 × Opr)) : List (V × V) := emap keS opV l

theorem mapOp_cases (l : List (List UInt8 × Opr)) (a : List UInt8) :
    (getA a l = none ∧ findV 1 (.s a) (mapOp l) 0 = some none ∧ ∀ b : Opr, mapOp l ++ [(V.s a, opV b)] = mapOp (updA l a b)) ∨
    (∃ i b0, getA a l = some b0 ∧ findV 1 (.s a) (mapOp l) 0 = some (some (i, opV b0)) ∧ ∀ b : Opr, (mapOp l).set i (V.s a, opV b) = mapOp (updA l a b)) := emap_cases keS_eq l a

theorem getA_mem {α β : Type} [DecidableEq α] {a : α} {b : β} : ∀ {l : List (α × β)}, getA a l = some b → (a, b) ∈ l := by
  intro l
  induction l with
  | nil => intro h; simp [getA_nil] at h
  | cons p l ih =>
    intro h
    rw [getA_cons] at h
    split at h
    · rename_i e
      simp only [Option.some.injEq] at h
      subst e; subst h
      exact List.mem_cons_self ..
    · exact List.mem_cons_of_mem _ (ih h)

theorem updA_mem {α β : Type} [DecidableEq α] {a : α} {b : β} {p : α × β} : ∀ {l : List (α × β)}, p ∈ updA l a b → p = (a, b) ∨ p ∈ l := by
  intro l
  induction l with
  | nil => intro h; simp [updA] at h; exact .inl h
  | cons q l ih =>
    intro h
    simp only [updA] at h
    split at h
    · rcases List.mem_cons.1 h with h | h
      · exact .inl h
      · exact .inr (List.mem_cons_of_mem _ h)
    · rcases List.mem_cons.1 h with h | h
      · exact .inr (h ▸ List.mem_cons_self ..)
      · rcases ih h with h | h
        · exact .inl h
        · exact .inr (List.mem_cons_of_mem _ h)

theorem winStep_mem {m : List (List UInt8 × Opr)} {o : Opr} {p : List UInt8 × Opr} (h : p ∈ winStep m o) : p = (opKey o, o) ∨ p ∈ m := by
  simp only [winStep] at h
  split at h
  · exact .inr h
  · split at h
    · exact updA_mem h
    · split at h
      · exact updA_mem h
      · exact .inr h

theorem loop44 {σ : Store} {K : Exit → St → Prop} (l : List Opr) (hcl : Closed σ) (hlen : l.length < 2 ^ 63) (hsm : ∀ o ∈ l, o.small) : ∀ (rest pre : List Opr) (m : List (List UInt8 × Opr)), l = pre ++ rest → (∀ p ∈ m, p.2.small) →
    (∀ j0 j1 j2 j4 j5 j6 j7 j8 j9 j10 j11 j12 j13 j14 j15 j16 j17 j18 j19 j20 j21 j22 j23 j24 j25 j26 j27 j28 j29 j30 j31 j32 j33 j34 j35 j36 j37 j38 j39 j40 j41, K (.exit 0) ⟨[j0, j1, j2, .mp σ.length, j4, j5, j6, j7, j8, j9, j10, j11, j12, j13, j14, j15, j16, j17, j18, j19, j20, j21, j22, j23, j24, j25, j26, j27, j28, j29, j30, j31, j32, j33, j34, j35, j36, j37, j38, j39, j40, j41], σ ++ [.map 9 33 (mapOp (rest.foldl winStep m))]⟩) →
    Rnd σ.length Tryz.prog p44_0 K (rest.length + 1) ⟨[.u, .u, .u, .mp σ.length, .u, .u, .u, .u, .u, .u, .u, .u, .u, .u, .sl 13 (l.map Opr.cells), .i .i64 l.length, .i .i64 pre.length, .u, .u, .u, .u, .u, .u, .u, .u, .u, .u, .u, .u, .u, .u, .u, .u, .u, .u, .u, .u, .u, .u, .u, .u, .u], σ ++ [.map 9 33 (mapOp m)]⟩ := by
  intro rest
  induction rest with
  | nil =>
    intro pre m he hm h1
    have he : l = pre := by simpa using he
    subst he
    refine rnd_step fun R hR => ?_
    simp only [p44_0, W, pexec, xexec, binV, Nat.reduceAdd, Nat.reduceSub, Nat.reduceLeDiff, Nat.reduceEqDiff, Int.reduceToNat, reduceIte, reduceCtorEq, Int.reduceBEq, Int.reduceBNe, Bool.true_or, Bool.false_or, Bool.or_true, Bool.or_false, Bool.and_false, Bool.false_and, Nat.sub_zero, bytesOf, byteOfRow, UInt8.ofNat_toNat]
    exact ⟨fun h => by simp at h, fun _ => h1 ..⟩
  | cons x rest ih =>
    intro pre m he hm h1
    subst he
    have hx := hsm x (by simp)
    have next : ∀ (m' : List (List UInt8 × Opr)) {loc : Store}, winStep m x = m' → ∀ {R : St → Prop} {fr : List V}, (∀ st', Rnd σ.length Tryz.prog p44_0 K (rest.length + 1) st' → R st') →
        Cvs fr [.u, .u, .u, .mp σ.length, .u, .u, .u, .u, .u, .u, .u, .u, .u, .u, .sl 13 ((pre ++ x :: rest).map Opr.cells), .i .i64 (pre ++ x :: rest).length, .i .i64 (IntKind.i64.wrap ((pre.length : Int) + 1)), .u, .u, .u, .u, .u, .u, .u, .u, .u, .u, .u, .u, .u, .u, .u, .u, .u, .u, .u, .u, .u, .u, .u, .u, .u] → R ⟨fr, σ ++ (.map 9 33 (mapOp m') :: loc)⟩ := by
      intro m' loc hw R fr hR hc
      have e1 : IntKind.i64.wrap ((pre.length : Int) + 1) = (((pre ++ [x]).length : Nat) : Int) := by
        rw [wrap_succ (by simp at hlen; omega)]; simp
      rw [e1] at hc
      refine hR _ (rnd_drop [_] loc (closed_add hcl (by simp)) hc ?_ (ih (pre ++ [x]) m' (by simp) ?_ ?_))
      · simp only [LW, List.length_cons, List.length_nil, Nat.zero_add]
        omega
      · intro p hp
        rw [← hw] at hp
        rcases winStep_mem hp with rfl | hp
        · exact hx
        · exact hm p hp
      · rw [← hw]; exact h1
    refine rnd_step fun R hR => ?_
    simp only [p44_0, Opr.cells, Stamp.cells, En.cells, W, pexec, xexec, binV, Nat.reduceAdd, Nat.reduceSub, Nat.reduceLeDiff, Nat.reduceEqDiff, Int.reduceToNat, reduceIte, reduceCtorEq, Int.reduceBEq, Int.reduceBNe, Bool.true_or, Bool.false_or, Bool.or_true, Bool.or_false, Bool.and_false, Bool.false_and, Nat.sub_zero, bytesOf, byteOfRow, UInt8.ofNat_toNat]
    refine ⟨fun _ => ⟨by simp; omega, ?_⟩, fun h => by simp at h <;> omega⟩
    refine call_eq (opKey_pc x hx _) rfl ?_
    simp only [W, pexec, xexec, binV, Nat.reduceAdd, Nat.reduceSub, Nat.reduceLeDiff, Nat.reduceEqDiff, Int.reduceToNat, reduceIte, reduceCtorEq, Int.reduceBEq, Int.reduceBNe, Bool.true_or, Bool.false_or, Bool.or_true, Bool.or_false, Bool.and_false, Bool.false_and, Nat.sub_zero, bytesOf, byteOfRow, UInt8.ofNat_toNat]
    refine ⟨fun h => ?_, fun h => ?_⟩
    · have h : opKey x = [] := by simpa using h
      refine next m (by simp only [winStep, h, if_true]) hR ?_
      simp only [Opr.cells, Stamp.cells, En.cells]
      repeat first | exact .nil | refine .cons (.refl _) ?_ | refine .cons (.forget _) ?_
    have h : ¬ opKey x = [] := by simpa using h
    have hf : ∀ t, mapFind (σ ++ (.map 9 33 (mapOp m)) :: t) 1 (.mp σ.length) (.s (opKey x)) = findV 1 (.s (opKey x)) (mapOp m) 0 := fun t => by simp only [mapFind, base_get0, List.getElem?_cons_zero]
    rcases mapOp_cases m (opKey x) with ⟨h2, h3, h4⟩ | ⟨k, was, h2, h3, h4⟩
    · simp only [hf, h3, V.mkey, W, pexec, xexec, binV, Nat.reduceAdd, Nat.reduceSub, Nat.reduceLeDiff, Nat.reduceEqDiff, Int.reduceToNat, reduceIte, reduceCtorEq, Int.reduceBEq, Int.reduceBNe, Bool.true_or, Bool.false_or, Bool.or_true, Bool.or_false, Bool.and_false, Bool.false_and, Nat.sub_zero, bytesOf, byteOfRow, UInt8.ofNat_toNat]
      refine callg_eq (c := false) (v := .b false) (by simp only [W, pexec, xexec, binV, Nat.reduceAdd, Nat.reduceSub, Nat.reduceLeDiff, Nat.reduceEqDiff, Int.reduceToNat, reduceIte, reduceCtorEq, Int.reduceBEq, Int.reduceBNe, Bool.true_or, Bool.false_or, Bool.or_true, Bool.or_false, Bool.and_false, Bool.false_and, Nat.sub_zero, bytesOf, byteOfRow, UInt8.ofNat_toNat] <;> rfl) (fun h => by simp at h) rfl ?_
      have h4' := h4 x
      simp only [opV, Opr.cells, Stamp.cells, En.cells, List.cons_append, List.nil_append] at h4'
      simp only [h3, h4', purifyV, V.mkey, V.mval, W, pexec, xexec, binV, Nat.reduceAdd, Nat.reduceSub, Nat.reduceLeDiff, Nat.reduceEqDiff, Int.reduceToNat, reduceIte, reduceCtorEq, Int.reduceBEq, Int.reduceBNe, Bool.true_or, Bool.false_or, Bool.or_true, Bool.or_false, Bool.and_false, Bool.false_and, Nat.sub_zero, bytesOf, byteOfRow, UInt8.ofNat_toNat]
      refine next (updA m (opKey x) x) (by simp only [winStep, if_neg h, h2]) hR ?_
      simp only [Opr.cells, Stamp.cells, En.cells]
      repeat first | exact .nil | refine .cons (.refl _) ?_ | refine .cons (.forget _) ?_
    · simp only [hf, h3, V.mkey, opV, Opr.cells, Stamp.cells, En.cells, W, pexec, xexec, binV, Nat.reduceAdd, Nat.reduceSub, Nat.reduceLeDiff, Nat.reduceEqDiff, Int.reduceToNat, reduceIte, reduceCtorEq, Int.reduceBEq, Int.reduceBNe, Bool.true_or, Bool.false_or, Bool.or_true, Bool.or_false, Bool.and_false, Bool.false_and, Nat.sub_zero, bytesOf, byteOfRow, UInt8.ofNat_toNat]
      refine callg_eq (by simp only [W, pexec, xexec, binV, Nat.reduceAdd, Nat.reduceSub, Nat.reduceLeDiff, Nat.reduceEqDiff, Int.reduceToNat, reduceIte, reduceCtorEq, Int.reduceBEq, Int.reduceBNe, Bool.true_or, Bool.false_or, Bool.or_true, Bool.or_false, Bool.and_false, Bool.false_and, Nat.sub_zero, bytesOf, byteOfRow, UInt8.ofNat_toNat] <;> rfl) (fun _ => opWins_pc x was hx (hm _ (getA_mem h2)) _) rfl ?_
      simp only [W, pexec, xexec, binV, Nat.reduceAdd, Nat.reduceSub, Nat.reduceLeDiff, Nat.reduceEqDiff, Int.reduceToNat, reduceIte, reduceCtorEq, Int.reduceBEq, Int.reduceBNe, Bool.true_or, Bool.false_or, Bool.or_true, Bool.or_false, Bool.and_false, Bool.false_and, Nat.sub_zero, bytesOf, byteOfRow, UInt8.ofNat_toNat]
      refine ⟨fun hw => ?_, fun hw => ?_⟩
      · have h4' := h4 x
        simp only [opV, Opr.cells, Stamp.cells, En.cells, List.cons_append, List.nil_append] at h3 h4'
        simp only [h3, h4', purifyV, V.mkey, V.mval, W, pexec, xexec, binV, Nat.reduceAdd, Nat.reduceSub, Nat.reduceLeDiff, Nat.reduceEqDiff, Int.reduceToNat, reduceIte, reduceCtorEq, Int.reduceBEq, Int.reduceBNe, Bool.true_or, Bool.false_or, Bool.or_true, Bool.or_false, Bool.and_false, Bool.false_and, Nat.sub_zero, bytesOf, byteOfRow, UInt8.ofNat_toNat]
        refine next (updA m (opKey x) x) (by simp only [winStep, if_neg h, h2, if_pos hw]) hR ?_
        simp only [Opr.cells, Stamp.cells, En.cells]
        repeat first | exact .nil | refine .cons (.refl _) ?_ | refine .cons (.forget _) ?_
      · refine next m (by simp only [winStep, if_neg h, h2, hw]; rfl) hR ?_
        simp only [Opr.cells, Stamp.cells, En.cells]
        repeat first | exact .nil | refine .cons (.refl _) ?_ | refine .cons (.forget _) ?_

theorem opCurrentMap_pc (l : List Opr) (hsm : ∀ o ∈ l, o.small) (σ : Store) : PC Tryz.prog 44 [.sl 13 (l.map Opr.cells)] σ (fun r σ' => r = .mp σ.length ∧ σ' = σ ++ [.map 9 33 (mapOp (winners l))]) := by
  refine PC.intro Tryz.func44 c44 fun hcl hwf => wpc_sound ?_
  have hlen := wf_sl (hwf 0 _ rfl).1
  rw [List.length_map] at hlen
  simp only [p44, List.length_cons, List.length_nil, List.replicate, List.cons_append, List.nil_append, Nat.reduceAdd, Nat.reduceSub]
  simp only [List.length_map, W, pexec, xexec, binV, Nat.reduceAdd, Nat.reduceSub, Nat.reduceLeDiff, Nat.reduceEqDiff, Int.reduceToNat, reduceIte, reduceCtorEq, Int.reduceBEq, Int.reduceBNe, Bool.true_or, Bool.false_or, Bool.or_true, Bool.or_false, Bool.and_false, Bool.false_and, Nat.sub_zero, bytesOf, byteOfRow, UInt8.ofNat_toNat]
  refine ⟨fun h => ?_, fun h => ?_⟩
  · have h : 1024 < l.length := by simp at h; omega
    refine ret_wk (.inr rfl) rfl (Wk.refl _ _) rfl ⟨rfl, ?_⟩
    simp only [winners, if_pos h]; rfl
  · have h : ¬ 1024 < l.length := by simp at h; omega
    refine PWc.rnd_cvs ?_ (l.length + 1) (loop44 l hcl hlen hsm l [] [] rfl (by simp) ?_)
    · repeat first | exact .nil | refine .cons (.refl _) ?_ | refine .cons (.forget _) ?_
    · intros
      simp only [W, pexec, xexec, binV, Nat.reduceAdd, Nat.reduceSub, Nat.reduceLeDiff, Nat.reduceEqDiff, Int.reduceToNat, reduceIte, reduceCtorEq, Int.reduceBEq, Int.reduceBNe, Bool.true_or, Bool.false_or, Bool.or_true, Bool.or_false, Bool.and_false, Bool.false_and, Nat.sub_zero, bytesOf, byteOfRow, UInt8.ofNat_toNat]
      refine ret_wk (.inr rfl) rfl (Wk.refl _ _) rfl ⟨rfl, ?_⟩
      simp only [winners, if_neg h]

end Go.Proofs.Tryz

set_option linter.unusedSimpArgs false
namespace Go.Proofs.Tryz
open Go Go.Pm Go.Bt

theorem ti_Op : Ti Tryz.prog 33 13 184 := tiB_ok (by kernel_rfl)
theorem ti_Entry : Ti Tryz.prog 26 8 128 := tiB_ok (by kernel_rfl)

theorem mapOp_find {m : List (List UInt8 × Opr)} {k : List UInt8} {o : Opr} (h : getA k m = some o) : ∃ i, findV 1 (.s k) (mapOp m) 0 = some (some (i, opV o)) := by
  rcases mapOp_cases m k with ⟨h2, _, _⟩ | ⟨i, b, h2, h3, _⟩
  · rw [h] at h2; simp at h2
  · rw [h] at h2
    simp only [Option.some.injEq] at h2
    subst h2
    exact ⟨i, h3⟩

theorem loop13 {n : Nat} {σ : Store} {o2 : Ob} {K : Exit → St → Prop} (ks : List (List UInt8)) (m : List (List UInt8 × Opr)) (hlen : ks.length < 2 ^ 39) (hm : ∀ p ∈ m, p.2.small) (hks : ∀ k ∈ ks, ∃ o, getA k m = some o) :
    ∀ (rest pre : List (List UInt8)) (out : List Opr) (g : Nat), ks = pre ++ rest → out.length + rest.length ≤ ks.length →
    (∀ g, (∀ j0 j1 j2 j5 j6 j7 j8 j9 j10 j12 j13 j14 j15 j16 j17 j18 j19 j20 j21 j22 j23 j24 j25, K (.exit 0) ⟨[j0, j1, j2, .mp σ.length, .own (σ.length + 3) g, j5, j6, j7, j8, j9, j10, .own (σ.length + 2) 0, j12, j13, j14, j15, j16, j17, j18, j19, j20, j21, j22, j23, j24, j25], σ ++ [.map 9 33 (mapOp m), o2, .row 9 1 16 0 false (ks.map sRow), .row 33 13 184 g false ((out ++ rest.filterMap fun k => getA k m).map Opr.cells)]⟩)) →
    Rnd n Tryz.prog p13_0 K (rest.length + 1) ⟨[.u, .u, .u, .mp σ.length, .own (σ.length + 3) g, .u, .u, .u, .u, .u, .u, .own (σ.length + 2) 0, .i .i64 ks.length, .i .i64 pre.length, .u, .u, .u, .u, .u, .u, .u, .u, .u, .u, .u, .u],
      σ ++ [.map 9 33 (mapOp m), o2, .row 9 1 16 0 false (ks.map sRow), .row 33 13 184 g false (out.map Opr.cells)]⟩ := by
  intro rest
  induction rest with
  | nil =>
    intro pre out g he ho h1
    have he : ks = pre := by simpa using he
    subst he
    refine rnd_step fun R hR => ?_
    simp only [p13_0, W, pexec, xexec, binV, Nat.reduceAdd, Nat.reduceSub, Nat.reduceLeDiff, Nat.reduceEqDiff, Int.reduceToNat, reduceIte, reduceCtorEq, Int.reduceBEq, Int.reduceBNe, Bool.true_or, Bool.false_or, Bool.or_true, Bool.or_false, Bool.and_false, Bool.false_and, Nat.sub_zero, bytesOf, byteOfRow, UInt8.ofNat_toNat]
    simp only [List.filterMap_nil, List.append_nil] at h1
    exact ⟨fun h => by simp at h, fun _ => h1 g ..⟩
  | cons x rest ih =>
    intro pre out g he ho h1
    subst he
    obtain ⟨o, hx⟩ := hks x (by simp)
    have hos := hm _ (getA_mem hx)
    obtain ⟨i, hf0⟩ := mapOp_find hx
    have hf : ∀ t, mapFind (σ ++ (.map 9 33 (mapOp m)) :: t) 1 (.mp σ.length) (.s x) = some (some (i, opV o)) := fun t => by simp only [mapFind, base_get0, List.getElem?_cons_zero, hf0]
    refine rnd_step fun R hR => ?_
    simp only [p13_0, sRow, hf, opV, V.mkey, List.length_map, W, pexec, xexec, binV, Nat.reduceAdd, Nat.reduceSub, Nat.reduceLeDiff, Nat.reduceEqDiff, Int.reduceToNat, reduceIte, reduceCtorEq, Int.reduceBEq, Int.reduceBNe, Bool.true_or, Bool.false_or, Bool.or_true, Bool.or_false, Bool.and_false, Bool.false_and, Nat.sub_zero, bytesOf, byteOfRow, UInt8.ofNat_toNat]
    refine ⟨fun _ => ⟨by simp; omega, ?_⟩, fun h => by simp at h <;> omega⟩
    refine call_eq (viewOp_pc o hos _) rfl ?_
    simp only [List.length_cons] at ho
    simp only [List.length_map, Opr.cells, Stamp.cells, En.cells, maxLen, V.pure, W, pexec, xexec, binV, Nat.reduceAdd, Nat.reduceSub, Nat.reduceLeDiff, Nat.reduceEqDiff, Int.reduceToNat, reduceIte, reduceCtorEq, Int.reduceBEq, Int.reduceBNe, Bool.true_or, Bool.false_or, Bool.or_true, Bool.or_false, Bool.and_false, Bool.false_and, Nat.sub_zero, bytesOf, byteOfRow, UInt8.ofNat_toNat]
    refine ⟨by simp at ho hlen; omega, ?_⟩
    have e0 : (out.map Opr.cells ++ [[.i .i64 o.stamp.time, .i .i64 o.stamp.office, .i .i64 o.stamp.number, .i .i64 o.kind, .sl 3 (o.entry.source.map It.cells), .sl 3 (o.entry.target.map It.cells), .s o.entry.previous, .s o.entry.next, .s o.entry.author, .s o.entry.project, .i .i64 o.entry.created, .i .i64 o.entry.origin, .sl 1 (o.seen.map iRow)]]) = (out ++ [o]).map Opr.cells := by
      simp [Opr.cells, Stamp.cells, En.cells]
    rw [e0]
    refine hR _ (rnd_cvs ?_ (ih (pre ++ [x]) (out ++ [o]) (g + 1) (by simp) (by simp at ho ⊢; omega) ?_))
    · rw [wrap_succ (by simp at hlen; omega)]
      simp only [List.length_append, List.length_cons, List.length_nil]
      repeat first | exact .nil | refine .cons (.refl _) ?_ | refine .cons (.forget _) ?_
    · simp only [List.filterMap_cons, hx] at h1
      simpa using h1

theorem opCurrent_pc (l : List Opr) (hsm : ∀ o ∈ l, o.small) (σ : Store) : PC Tryz.prog 13 [.sl 13 (l.map Opr.cells)] σ (fun r σ' => r = .sl 13 ((current l).map Opr.cells) ∧ σ' = σ) := by
  refine PC.intro Tryz.func13 c13 fun hcl hwf => wpc_sound ?_
  simp only [p13, List.length_cons, List.length_nil, List.replicate, List.cons_append, List.nil_append, Nat.reduceAdd, Nat.reduceSub]
  simp only [W, pexec, xexec, binV, Nat.reduceAdd, Nat.reduceSub, Nat.reduceLeDiff, Nat.reduceEqDiff, Int.reduceToNat, reduceIte, reduceCtorEq, Int.reduceBEq, Int.reduceBNe, Bool.true_or, Bool.false_or, Bool.or_true, Bool.or_false, Bool.and_false, Bool.false_and, Nat.sub_zero, bytesOf, byteOfRow, UInt8.ofNat_toNat]
  refine call_eq (opCurrentMap_pc l hsm _) rfl ?_
  simp only [W, pexec, xexec, binV, Nat.reduceAdd, Nat.reduceSub, Nat.reduceLeDiff, Nat.reduceEqDiff, Int.reduceToNat, reduceIte, reduceCtorEq, Int.reduceBEq, Int.reduceBNe, Bool.true_or, Bool.false_or, Bool.or_true, Bool.or_false, Bool.and_false, Bool.false_and, Nat.sub_zero, bytesOf, byteOfRow, UInt8.ofNat_toNat]
  have hk := mapsKeys_pc σ.length (σ ++ [.map 9 33 (mapOp (winners l))])
  simp only [List.length_append, List.length_cons, List.length_nil, Nat.zero_add, List.append_assoc, List.cons_append, List.nil_append] at hk
  refine call_eq hk rfl ?_
  simp only [W, pexec, xexec, binV, Nat.reduceAdd, Nat.reduceSub, Nat.reduceLeDiff, Nat.reduceEqDiff, Int.reduceToNat, reduceIte, reduceCtorEq, Int.reduceBEq, Int.reduceBNe, Bool.true_or, Bool.false_or, Bool.or_true, Bool.or_false, Bool.and_false, Bool.false_and, Nat.sub_zero, bytesOf, byteOfRow, UInt8.ofNat_toNat]
  have hlen := sortedKeys_len l
  have hwl := winners_len l
  have hs := sortedKeys_own (β := Opr) (ve := opV) (id := σ.length) (k := σ.length + 1) (E := 33) (l := winners l) (σ := σ ++ [.map 9 33 (mapOp (winners l)), .box 70 [.mp σ.length]])
    (by simp only [base_get, List.getElem?_cons_succ, List.getElem?_cons_zero]) (by simp only [base_get0, List.getElem?_cons_zero]; rfl) (winners_nodup l) (by omega)
  simp only [List.length_append, List.length_cons, List.length_nil, Nat.zero_add, Nat.reduceAdd, List.append_assoc, List.cons_append, List.nil_append] at hs
  refine call_eq hs rfl ?_
  simp only [List.length_map, W, pexec, xexec, binV, Nat.reduceAdd, Nat.reduceSub, Nat.reduceLeDiff, Nat.reduceEqDiff, Int.reduceToNat, reduceIte, reduceCtorEq, Int.reduceBEq, Int.reduceBNe, Bool.true_or, Bool.false_or, Bool.or_true, Bool.or_false, Bool.and_false, Bool.false_and, Nat.sub_zero, bytesOf, byteOfRow, UInt8.ofNat_toNat]
  refine PWc.wk ((Wk.promote_at (σ := σ) [_, _, _] (k := 4) ti_Op rfl).trans (Wk.cvs ?_)) (PWc.rnd ((sortedKeys l).length + 1) (loop13 (sortedKeys l) (winners l) (by omega)
    (fun p hp => hsm _ (winners_mem hp).2) (fun k hk => sortedKeys_some hk) (sortedKeys l) [] [] 0 rfl (by simp) ?_))
  · simp only [W, pexec, xexec, binV, Nat.reduceAdd, Nat.reduceSub, Nat.reduceLeDiff, Nat.reduceEqDiff, Int.reduceToNat, reduceIte, reduceCtorEq]
    repeat first | exact .nil | refine .cons (.refl _) ?_ | refine .cons (.forget _) ?_
  · intro g
    intros
    simp only [W, pexec, xexec, binV, Nat.reduceAdd, Nat.reduceSub, Nat.reduceLeDiff, Nat.reduceEqDiff, Int.reduceToNat, reduceIte, reduceCtorEq, Int.reduceBEq, Int.reduceBNe, Bool.true_or, Bool.false_or, Bool.or_true, Bool.or_false, Bool.and_false, Bool.false_and, Nat.sub_zero, bytesOf, byteOfRow, UInt8.ofNat_toNat]
    refine ret_fz 3 hcl (.inr rfl) rfl rfl ?_ ?_
    · simp only [List.getD_cons_zero, List.getD_cons_succ, List.map_cons, List.map_nil, fz, fz1, and_self, if_true, LW]
    · simp only [List.getD_cons_zero, List.getD_cons_succ, List.map_cons, List.map_nil, fz, fz1, and_self, if_true]
      exact ⟨rfl, trivial⟩

theorem loop14 {σ : Store} {K : Exit → St → Prop} (l : List Opr) (hcl : Closed σ) (hlen : l.length < 2 ^ 39) : ∀ (rest pre : List Opr) (out : List En) (g : Nat), l = pre ++ rest → out.length + rest.length ≤ l.length →
    (∀ g, (∀ j0 j1 j2 j4 j5 j6 j7 j8 j9 j10 j11 j12 j13 j14 j15 j16 j17 j18 j19 j20 j21 j22, K (.exit 0) ⟨[j0, j1, j2, .own σ.length g, j4, j5, j6, j7, j8, j9, j10, j11, j12, j13, j14, j15, j16, j17, j18, j19, j20, j21, j22], σ ++ [.row 26 8 128 g false ((out ++ (rest.filter fun o => o.kind == 1).map (·.entry)).map En.cells)]⟩)) →
    Rnd σ.length Tryz.prog p14_0 K (rest.length + 1) ⟨[.u, .u, .u, .own σ.length g, .u, .u, .u, .sl 13 (l.map Opr.cells), .i .i64 l.length, .i .i64 pre.length, .u, .u, .u, .u, .u, .u, .u, .u, .u, .u, .u, .u, .u], σ ++ [.row 26 8 128 g false (out.map En.cells)]⟩ := by
  intro rest
  induction rest with
  | nil =>
    intro pre out g he ho h1
    have he : l = pre := by simpa using he
    subst he
    refine rnd_step fun R hR => ?_
    simp only [p14_0, W, pexec, xexec, binV, Nat.reduceAdd, Nat.reduceSub, Nat.reduceLeDiff, Nat.reduceEqDiff, Int.reduceToNat, reduceIte, reduceCtorEq, Int.reduceBEq, Int.reduceBNe, Bool.true_or, Bool.false_or, Bool.or_true, Bool.or_false, Bool.and_false, Bool.false_and, Nat.sub_zero, bytesOf, byteOfRow, UInt8.ofNat_toNat]
    simp only [List.filter_nil, List.map_nil, List.append_nil] at h1
    exact ⟨fun h => by simp at h, fun _ => h1 g ..⟩
  | cons x rest ih =>
    intro pre out g he ho h1
    subst he
    simp only [List.length_cons] at ho
    have next : ∀ (out' : List En) (g' : Nat) {loc : Store}, out'.length ≤ out.length + 1 → out ++ ((x :: rest).filter fun o => o.kind == 1).map (·.entry) = out' ++ (rest.filter fun o => o.kind == 1).map (·.entry) → ∀ {R : St → Prop} {fr : List V}, (∀ st', Rnd σ.length Tryz.prog p14_0 K (rest.length + 1) st' → R st') →
        Cvs fr [.u, .u, .u, .own σ.length g', .u, .u, .u, .sl 13 ((pre ++ x :: rest).map Opr.cells), .i .i64 (pre ++ x :: rest).length, .i .i64 (IntKind.i64.wrap ((pre.length : Int) + 1)), .u, .u, .u, .u, .u, .u, .u, .u, .u, .u, .u, .u, .u] → R ⟨fr, σ ++ (.row 26 8 128 g' false (out'.map En.cells) :: loc)⟩ := by
      intro out' g' loc hl hw R fr hR hc
      have e1 : IntKind.i64.wrap ((pre.length : Int) + 1) = (((pre ++ [x]).length : Nat) : Int) := by
        rw [wrap_succ (by simp at hlen; omega)]; simp
      rw [e1] at hc
      rw [hw] at h1
      refine hR _ (rnd_drop [_] loc (closed_add hcl (by simp)) hc ?_ (ih (pre ++ [x]) out' g' (by simp) (by omega) h1))
      simp only [LW, List.length_cons, List.length_nil, Nat.zero_add]
      omega
    refine rnd_step fun R hR => ?_
    simp only [p14_0, Opr.cells, Stamp.cells, En.cells, W, pexec, xexec, binV, Nat.reduceAdd, Nat.reduceSub, Nat.reduceLeDiff, Nat.reduceEqDiff, Int.reduceToNat, reduceIte, reduceCtorEq, Int.reduceBEq, Int.reduceBNe, Bool.true_or, Bool.false_or, Bool.or_true, Bool.or_false, Bool.and_false, Bool.false_and, Nat.sub_zero, bytesOf, byteOfRow, UInt8.ofNat_toNat]
    refine ⟨fun _ => ⟨by simp; omega, ?_⟩, fun h => by simp at h <;> omega⟩
    refine ⟨fun h => ?_, fun h => ?_⟩
    · simp only [List.length_map, maxLen, V.pure, W, pexec, xexec, binV, Nat.reduceAdd, Nat.reduceSub, Nat.reduceLeDiff, Nat.reduceEqDiff, Int.reduceToNat, reduceIte, reduceCtorEq, Int.reduceBEq, Int.reduceBNe, Bool.true_or, Bool.false_or, Bool.or_true, Bool.or_false, Bool.and_false, Bool.false_and, Nat.sub_zero, bytesOf, byteOfRow, UInt8.ofNat_toNat]
      refine ⟨by simp at ho hlen; omega, ?_⟩
      have e0 : (out.map En.cells ++ [[.sl 3 (x.entry.source.map It.cells), .sl 3 (x.entry.target.map It.cells), .s x.entry.previous, .s x.entry.next, .s x.entry.author, .s x.entry.project, .i .i64 x.entry.created, .i .i64 x.entry.origin]]) = (out ++ [x.entry]).map En.cells := by
        simp [En.cells]
      rw [e0]
      refine next (out ++ [x.entry]) (g + 1) (by simp) (by simp [h]) hR ?_
      repeat first | exact .nil | refine .cons (.refl _) ?_ | refine .cons (.forget _) ?_
    · refine next out g (by omega) (by simp [h]) hR ?_
      repeat first | exact .nil | refine .cons (.refl _) ?_ | refine .cons (.forget _) ?_

theorem opMemory_pc (l : List Opr) (hsm : ∀ o ∈ l, o.small) (σ : Store) : PC Tryz.prog 14 [.sl 13 (l.map Opr.cells)] σ (fun r σ' => r = .sl 8 ((memoryOf l).map En.cells) ∧ σ' = σ) := by
  refine PC.intro Tryz.func14 c14 fun hcl hwf => wpc_sound ?_
  simp only [p14, List.length_cons, List.length_nil, List.replicate, List.cons_append, List.nil_append, Nat.reduceAdd, Nat.reduceSub]
  simp only [W, pexec, xexec, binV, Nat.reduceAdd, Nat.reduceSub, Nat.reduceLeDiff, Nat.reduceEqDiff, Int.reduceToNat, reduceIte, reduceCtorEq, Int.reduceBEq, Int.reduceBNe, Bool.true_or, Bool.false_or, Bool.or_true, Bool.or_false, Bool.and_false, Bool.false_and, Nat.sub_zero, bytesOf, byteOfRow, UInt8.ofNat_toNat]
  refine call_eq (opCurrent_pc l hsm _) rfl ?_
  simp only [List.length_map, W, pexec, xexec, binV, Nat.reduceAdd, Nat.reduceSub, Nat.reduceLeDiff, Nat.reduceEqDiff, Int.reduceToNat, reduceIte, reduceCtorEq, Int.reduceBEq, Int.reduceBNe, Bool.true_or, Bool.false_or, Bool.or_true, Bool.or_false, Bool.and_false, Bool.false_and, Nat.sub_zero, bytesOf, byteOfRow, UInt8.ofNat_toNat]
  have hlen := current_len l
  refine PWc.wk ((Wk.promote (σ := σ) (k := 3) ti_Entry rfl).trans (Wk.cvs ?_)) (PWc.rnd ((current l).length + 1) (loop14 (current l) hcl (by omega) (current l) [] [] 0 rfl (by simp) ?_))
  · simp only [W, pexec, xexec, binV, Nat.reduceAdd, Nat.reduceSub, Nat.reduceLeDiff, Nat.reduceEqDiff, Int.reduceToNat, reduceIte, reduceCtorEq]
    repeat first | exact .nil | refine .cons (.refl _) ?_ | refine .cons (.forget _) ?_
  · intro g
    intros
    simp only [W, pexec, xexec, binV, Nat.reduceAdd, Nat.reduceSub, Nat.reduceLeDiff, Nat.reduceEqDiff, Int.reduceToNat, reduceIte, reduceCtorEq, Int.reduceBEq, Int.reduceBNe, Bool.true_or, Bool.false_or, Bool.or_true, Bool.or_false, Bool.and_false, Bool.false_and, Nat.sub_zero, bytesOf, byteOfRow, UInt8.ofNat_toNat]
    refine ret_fz 0 hcl (.inr rfl) rfl rfl ?_ ?_
    · simp only [List.getD_cons_zero, List.getD_cons_succ, List.map_cons, List.map_nil, Nat.add_zero, fz, fz1, and_self, if_true, LW]
    · simp only [List.getD_cons_zero, List.getD_cons_succ, List.map_cons, List.map_nil, Nat.add_zero, fz, fz1, and_self, if_true]
      exact ⟨rfl, trivial⟩

end Go.Proofs.Tryz

set_option linter.unusedSimpArgs false
namespace Go.Proofs.Tryz
open Go Go.Pm Go.Bt

set_option maxRecDepth 20000 in
theorem r16SameEntry_pc (a b : En) (σ : Store) : PC Tryz.prog 38 [.agg a.cells, .agg b.cells] σ (fun r σ' => r = .b (enEq a b) ∧ σ' = σ) := by
  refine PC.intro Tryz.func38 c38 fun hcl hwf => wpc_sound ?_
  simp only [p38, List.length_cons, List.length_nil, List.replicate, List.cons_append, List.nil_append, Nat.reduceAdd, Nat.reduceSub]
  simp only [En.cells, W, pexec, xexec, binV, Nat.reduceAdd, Nat.reduceSub, Nat.reduceLeDiff, Nat.reduceEqDiff, Int.reduceToNat, reduceIte, reduceCtorEq, Int.reduceBEq, Int.reduceBNe, Bool.true_or, Bool.false_or, Bool.or_true, Bool.or_false, Bool.and_false, Bool.false_and, Nat.sub_zero, bytesOf, byteOfRow, UInt8.ofNat_toNat]
  refine call_eq (r3Same_pc a.source b.source _) rfl ?_
  simp only [W, pexec, xexec, binV, Nat.reduceAdd, Nat.reduceSub, Nat.reduceLeDiff, Nat.reduceEqDiff, Int.reduceToNat, reduceIte, reduceCtorEq, Int.reduceBEq, Int.reduceBNe, Bool.true_or, Bool.false_or, Bool.or_true, Bool.or_false, Bool.and_false, Bool.false_and, Nat.sub_zero, bytesOf, byteOfRow, UInt8.ofNat_toNat]
  have e1 : enEq a b = (itsEq a.source b.source && (itsEq a.target b.target && (a.previous == b.previous && (a.next == b.next && (a.author == b.author && (a.project == b.project && (a.created == b.created && a.origin == b.origin))))))) := rfl
  rw [e1]
  refine callg_eq (by simp only [W, pexec, xexec, binV, Nat.reduceAdd, Nat.reduceSub, Nat.reduceLeDiff, Nat.reduceEqDiff, Int.reduceToNat, reduceIte, reduceCtorEq, Int.reduceBEq, Int.reduceBNe, Bool.true_or, Bool.false_or, Bool.or_true, Bool.or_false, Bool.and_false, Bool.false_and, Nat.sub_zero, bytesOf, byteOfRow, UInt8.ofNat_toNat] <;> rfl) (fun _ => r3Same_pc a.target b.target _) rfl ?_
  simp only [W, pexec, xexec, binV, Nat.reduceAdd, Nat.reduceSub, Nat.reduceLeDiff, Nat.reduceEqDiff, Int.reduceToNat, reduceIte, reduceCtorEq, Int.reduceBEq, Int.reduceBNe, Bool.true_or, Bool.false_or, Bool.or_true, Bool.or_false, Bool.and_false, Bool.false_and, Nat.sub_zero, bytesOf, byteOfRow, UInt8.ofNat_toNat]
  cases itsEq a.source b.source <;> simp only [W, pexec, xexec, binV, Nat.reduceAdd, Nat.reduceSub, Nat.reduceLeDiff, Nat.reduceEqDiff, Int.reduceToNat, reduceIte, reduceCtorEq, Int.reduceBEq, Int.reduceBNe, Bool.true_or, Bool.false_or, Bool.or_true, Bool.or_false, Bool.and_false, Bool.false_and, Nat.sub_zero, bytesOf, byteOfRow, UInt8.ofNat_toNat]
  · exact ret_end hcl (.inr rfl) (by simp only [resVs, resV, W, pexec, xexec, binV, Nat.reduceAdd, Nat.reduceSub, Nat.reduceLeDiff, Nat.reduceEqDiff, Int.reduceToNat, reduceIte, reduceCtorEq, Int.reduceBEq, Int.reduceBNe, Bool.true_or, Bool.false_or, Bool.or_true, Bool.or_false, Bool.and_false, Bool.false_and, Nat.sub_zero, bytesOf, byteOfRow, UInt8.ofNat_toNat]; rfl) (by simp only [LW]) ⟨rfl, rfl⟩
  cases itsEq a.target b.target <;> simp only [W, pexec, xexec, binV, Nat.reduceAdd, Nat.reduceSub, Nat.reduceLeDiff, Nat.reduceEqDiff, Int.reduceToNat, reduceIte, reduceCtorEq, Int.reduceBEq, Int.reduceBNe, Bool.true_or, Bool.false_or, Bool.or_true, Bool.or_false, Bool.and_false, Bool.false_and, Nat.sub_zero, bytesOf, byteOfRow, UInt8.ofNat_toNat]
  · exact ret_end hcl (.inr rfl) (by simp only [resVs, resV, W, pexec, xexec, binV, Nat.reduceAdd, Nat.reduceSub, Nat.reduceLeDiff, Nat.reduceEqDiff, Int.reduceToNat, reduceIte, reduceCtorEq, Int.reduceBEq, Int.reduceBNe, Bool.true_or, Bool.false_or, Bool.or_true, Bool.or_false, Bool.and_false, Bool.false_and, Nat.sub_zero, bytesOf, byteOfRow, UInt8.ofNat_toNat]; rfl) (by simp only [LW]) ⟨rfl, rfl⟩
  cases a.previous == b.previous <;> simp only [W, pexec, xexec, binV, Nat.reduceAdd, Nat.reduceSub, Nat.reduceLeDiff, Nat.reduceEqDiff, Int.reduceToNat, reduceIte, reduceCtorEq, Int.reduceBEq, Int.reduceBNe, Bool.true_or, Bool.false_or, Bool.or_true, Bool.or_false, Bool.and_false, Bool.false_and, Nat.sub_zero, bytesOf, byteOfRow, UInt8.ofNat_toNat]
  · exact ret_end hcl (.inr rfl) (by simp only [resVs, resV, W, pexec, xexec, binV, Nat.reduceAdd, Nat.reduceSub, Nat.reduceLeDiff, Nat.reduceEqDiff, Int.reduceToNat, reduceIte, reduceCtorEq, Int.reduceBEq, Int.reduceBNe, Bool.true_or, Bool.false_or, Bool.or_true, Bool.or_false, Bool.and_false, Bool.false_and, Nat.sub_zero, bytesOf, byteOfRow, UInt8.ofNat_toNat]; rfl) (by simp only [LW]) ⟨rfl, rfl⟩
  cases a.next == b.next <;> simp only [W, pexec, xexec, binV, Nat.reduceAdd, Nat.reduceSub, Nat.reduceLeDiff, Nat.reduceEqDiff, Int.reduceToNat, reduceIte, reduceCtorEq, Int.reduceBEq, Int.reduceBNe, Bool.true_or, Bool.false_or, Bool.or_true, Bool.or_false, Bool.and_false, Bool.false_and, Nat.sub_zero, bytesOf, byteOfRow, UInt8.ofNat_toNat]
  · exact ret_end hcl (.inr rfl) (by simp only [resVs, resV, W, pexec, xexec, binV, Nat.reduceAdd, Nat.reduceSub, Nat.reduceLeDiff, Nat.reduceEqDiff, Int.reduceToNat, reduceIte, reduceCtorEq, Int.reduceBEq, Int.reduceBNe, Bool.true_or, Bool.false_or, Bool.or_true, Bool.or_false, Bool.and_false, Bool.false_and, Nat.sub_zero, bytesOf, byteOfRow, UInt8.ofNat_toNat]; rfl) (by simp only [LW]) ⟨rfl, rfl⟩
  cases a.author == b.author <;> simp only [W, pexec, xexec, binV, Nat.reduceAdd, Nat.reduceSub, Nat.reduceLeDiff, Nat.reduceEqDiff, Int.reduceToNat, reduceIte, reduceCtorEq, Int.reduceBEq, Int.reduceBNe, Bool.true_or, Bool.false_or, Bool.or_true, Bool.or_false, Bool.and_false, Bool.false_and, Nat.sub_zero, bytesOf, byteOfRow, UInt8.ofNat_toNat]
  · exact ret_end hcl (.inr rfl) (by simp only [resVs, resV, W, pexec, xexec, binV, Nat.reduceAdd, Nat.reduceSub, Nat.reduceLeDiff, Nat.reduceEqDiff, Int.reduceToNat, reduceIte, reduceCtorEq, Int.reduceBEq, Int.reduceBNe, Bool.true_or, Bool.false_or, Bool.or_true, Bool.or_false, Bool.and_false, Bool.false_and, Nat.sub_zero, bytesOf, byteOfRow, UInt8.ofNat_toNat]; rfl) (by simp only [LW]) ⟨rfl, rfl⟩
  cases a.project == b.project <;> simp only [W, pexec, xexec, binV, Nat.reduceAdd, Nat.reduceSub, Nat.reduceLeDiff, Nat.reduceEqDiff, Int.reduceToNat, reduceIte, reduceCtorEq, Int.reduceBEq, Int.reduceBNe, Bool.true_or, Bool.false_or, Bool.or_true, Bool.or_false, Bool.and_false, Bool.false_and, Nat.sub_zero, bytesOf, byteOfRow, UInt8.ofNat_toNat]
  · exact ret_end hcl (.inr rfl) (by simp only [resVs, resV, W, pexec, xexec, binV, Nat.reduceAdd, Nat.reduceSub, Nat.reduceLeDiff, Nat.reduceEqDiff, Int.reduceToNat, reduceIte, reduceCtorEq, Int.reduceBEq, Int.reduceBNe, Bool.true_or, Bool.false_or, Bool.or_true, Bool.or_false, Bool.and_false, Bool.false_and, Nat.sub_zero, bytesOf, byteOfRow, UInt8.ofNat_toNat]; rfl) (by simp only [LW]) ⟨rfl, rfl⟩
  cases a.created == b.created <;> simp only [W, pexec, xexec, binV, Nat.reduceAdd, Nat.reduceSub, Nat.reduceLeDiff, Nat.reduceEqDiff, Int.reduceToNat, reduceIte, reduceCtorEq, Int.reduceBEq, Int.reduceBNe, Bool.true_or, Bool.false_or, Bool.or_true, Bool.or_false, Bool.and_false, Bool.false_and, Nat.sub_zero, bytesOf, byteOfRow, UInt8.ofNat_toNat]
  · exact ret_end hcl (.inr rfl) (by simp only [resVs, resV, W, pexec, xexec, binV, Nat.reduceAdd, Nat.reduceSub, Nat.reduceLeDiff, Nat.reduceEqDiff, Int.reduceToNat, reduceIte, reduceCtorEq, Int.reduceBEq, Int.reduceBNe, Bool.true_or, Bool.false_or, Bool.or_true, Bool.or_false, Bool.and_false, Bool.false_and, Nat.sub_zero, bytesOf, byteOfRow, UInt8.ofNat_toNat]; rfl) (by simp only [LW]) ⟨rfl, rfl⟩
  exact ret_end hcl (.inr rfl) (by simp only [resVs, resV, W, pexec, xexec, binV, Nat.reduceAdd, Nat.reduceSub, Nat.reduceLeDiff, Nat.reduceEqDiff, Int.reduceToNat, reduceIte, reduceCtorEq, Int.reduceBEq, Int.reduceBNe, Bool.true_or, Bool.false_or, Bool.or_true, Bool.or_false, Bool.and_false, Bool.false_and, Nat.sub_zero, bytesOf, byteOfRow, UInt8.ofNat_toNat]; rfl) (by simp only [LW]) ⟨rfl, rfl⟩

theorem loop16 {n : Nat} {σ : Store} {K : Exit → St → Prop} (a b : List En) (hlen : a.length < 2 ^ 63) (hab : a.length = b.length) : ∀ (ra rb pa pb : List En), a = pa ++ ra → b = pb ++ rb → pa.length = pb.length →
    (ensEq ra rb = true → (∀ j0 j1 j2 j3 j4 j5 j6 j7 j8 j9 j10 j11 j12 j13 j14 j15 j16 j17 j18 j19 j20 j21 j22 j23 j24 j25 j26, K (.exit 0) ⟨[j0, j1, j2, j3, j4, j5, j6, j7, j8, j9, j10, j11, j12, j13, j14, j15, j16, j17, j18, j19, j20, j21, j22, j23, j24, j25, j26], σ⟩)) → (ensEq ra rb = false → (∀ j0 j1 j2 j3 j5 j6 j7 j8 j9 j10 j11 j12 j13 j14 j15 j16 j17 j18 j19 j20 j21 j22 j23 j24 j25 j26, K .ret ⟨[j0, j1, j2, j3, .b false, j5, j6, j7, j8, j9, j10, j11, j12, j13, j14, j15, j16, j17, j18, j19, j20, j21, j22, j23, j24, j25, j26], σ⟩)) →
    Rnd n Tryz.prog p16_0 K (ra.length + 1) ⟨[.sl 8 (a.map En.cells), .sl 8 (b.map En.cells), .u, .u, .u, .u, .u, .u, .u, .u, .u, .u, .i .i64 a.length, .i .i64 pa.length, .u, .u, .u, .u, .u, .u, .u, .u, .u, .u, .u, .u, .u], σ⟩ := by
  intro ra
  induction ra with
  | nil =>
    intro rb pa pb ha hb hp h1 h2
    have : rb = [] := by
      subst ha; subst hb
      simp at hab
      exact List.eq_nil_of_length_eq_zero (by omega)
    subst this
    have ha : a = pa := by simpa using ha
    subst ha
    refine rnd_step fun R hR => ?_
    simp only [p16_0, W, pexec, xexec, binV, Nat.reduceAdd, Nat.reduceSub, Nat.reduceLeDiff, Nat.reduceEqDiff, Int.reduceToNat, reduceIte, reduceCtorEq, Int.reduceBEq, Int.reduceBNe, Bool.true_or, Bool.false_or, Bool.or_true, Bool.or_false, Bool.and_false, Bool.false_and, Nat.sub_zero, bytesOf, byteOfRow, UInt8.ofNat_toNat]
    exact ⟨fun h => by simp at h, fun _ => h1 rfl ..⟩
  | cons x ra ih =>
    intro rb pa pb ha hb hp h1 h2
    cases rb with
    | nil => subst ha; subst hb; simp at hab; omega
    | cons y rb =>
      subst ha; subst hb
      have e2 : (List.map En.cells (pb ++ y :: rb)).getD pa.length [] = y.cells := by rw [hp]; exact row_at
      have hw : IntKind.i64.wrap ((pa.length : Int) + 1) = (((pa ++ [x]).length : Nat) : Int) := by
        rw [wrap_succ (by simp at hlen; omega)]; simp
      refine rnd_step fun R hR => ?_
      simp only [p16_0, Int.toNat_natCast, e2, En.cells, W, pexec, xexec, binV, Nat.reduceAdd, Nat.reduceSub, Nat.reduceLeDiff, Nat.reduceEqDiff, Int.reduceToNat, reduceIte, reduceCtorEq, Int.reduceBEq, Int.reduceBNe, Bool.true_or, Bool.false_or, Bool.or_true, Bool.or_false, Bool.and_false, Bool.false_and, Nat.sub_zero, bytesOf, byteOfRow, UInt8.ofNat_toNat]
      have hla : (0 : Int) ≤ pa.length ∧ (pa.length : Int) < (List.map En.cells (pa ++ x :: ra)).length := by simp; omega
      have hlb : (0 : Int) ≤ pa.length ∧ (pa.length : Int) < (List.map En.cells (pb ++ y :: rb)).length := by simp at hab ⊢; omega
      refine ⟨fun _ => ⟨hla, hlb, ?_⟩, fun h => by simp at h <;> omega⟩
      refine call_eq (r16SameEntry_pc x y _) rfl ?_
      simp only [W, pexec, xexec, binV, Nat.reduceAdd, Nat.reduceSub, Nat.reduceLeDiff, Nat.reduceEqDiff, Int.reduceToNat, reduceIte, reduceCtorEq, Int.reduceBEq, Int.reduceBNe, Bool.true_or, Bool.false_or, Bool.or_true, Bool.or_false, Bool.and_false, Bool.false_and, Nat.sub_zero, bytesOf, byteOfRow, UInt8.ofNat_toNat]
      refine ⟨fun h => ?_, fun h => ?_⟩
      · have h : enEq x y = false := by rw [Bool.not_eq_true'] at h; exact h
        exact h2 (by simp [ensEq, h]) ..
      · have h : enEq x y = true := by rw [Bool.not_eq_false'] at h; exact h
        have e : ensEq (x :: ra) (y :: rb) = ensEq ra rb := by simp [ensEq, h]
        rw [e] at h1 h2
        refine hR _ (rnd_cvs ?_ (ih rb (pa ++ [x]) (pb ++ [y]) (by simp) (by simp) (by simp [hp]) h1 h2))
        rw [hw]; repeat first | exact .nil | refine .cons (.refl _) ?_ | refine .cons (.forget _) ?_

theorem r16SameEntries_pc (a b : List En) (σ : Store) : PC Tryz.prog 16 [.sl 8 (a.map En.cells), .sl 8 (b.map En.cells)] σ (fun r σ' => r = .b (ensEq a b) ∧ σ' = σ) := by
  refine PC.intro Tryz.func16 c16 fun hcl hwf => wpc_sound ?_
  have hlen := wf_sl (hwf 0 _ rfl).1
  rw [List.length_map] at hlen
  simp only [p16, List.length_cons, List.length_nil, List.replicate, List.cons_append, List.nil_append, Nat.reduceAdd, Nat.reduceSub]
  simp only [List.length_map, W, pexec, xexec, binV, Nat.reduceAdd, Nat.reduceSub, Nat.reduceLeDiff, Nat.reduceEqDiff, Int.reduceToNat, reduceIte, reduceCtorEq, Int.reduceBEq, Int.reduceBNe, Bool.true_or, Bool.false_or, Bool.or_true, Bool.or_false, Bool.and_false, Bool.false_and, Nat.sub_zero, bytesOf, byteOfRow, UInt8.ofNat_toNat]
  refine ⟨fun h => ?_, fun h => ?_⟩
  · have h : a.length ≠ b.length := by simp at h; omega
    have e : ensEq a b = false := by
      cases he : ensEq a b with
      | false => rfl
      | true => exact absurd (ensEq_len he) h
    exact ret_end0 (.inr rfl) rfl ⟨by rw [e]; rfl, rfl⟩
  · have h : a.length = b.length := by simp at h; omega
    refine PWc.rnd_cvs ?_ (a.length + 1) (loop16 a b hlen h a b [] [] rfl rfl rfl (fun ha => ?_) (fun ha => ?_))
    · repeat first | exact .nil | refine .cons (.refl _) ?_ | refine .cons (.forget _) ?_
    · intros
      simp only [W, pexec, xexec, binV, Nat.reduceAdd, Nat.reduceSub, Nat.reduceLeDiff, Nat.reduceEqDiff, Int.reduceToNat, reduceIte, reduceCtorEq, Int.reduceBEq, Int.reduceBNe, Bool.true_or, Bool.false_or, Bool.or_true, Bool.or_false, Bool.and_false, Bool.false_and, Nat.sub_zero, bytesOf, byteOfRow, UInt8.ofNat_toNat]
      exact ret_end0 (.inr rfl) rfl ⟨by rw [ha]; rfl, rfl⟩
    · intros
      exact ret_end0 (.inr rfl) rfl ⟨by rw [ha]; rfl, rfl⟩

theorem place_pc (x n : Int) (hn : 0 < n) (h2 : n < 2 ^ 62) (σ : Store) : PC Tryz.prog 12 [.i .i64 x, .i .i64 n] σ (fun r σ' => r = .i .i64 (place x n) ∧ σ' = σ) := by
  refine PC.intro Tryz.func12 c12 fun hcl hwf => wpc_sound ?_
  simp only [p12, List.length_cons, List.length_nil, List.replicate, List.cons_append, List.nil_append, Nat.reduceAdd, Nat.reduceSub]
  simp only [W, pexec, xexec, binV, Nat.reduceAdd, Nat.reduceSub, Nat.reduceLeDiff, Nat.reduceEqDiff, Int.reduceToNat, reduceIte, reduceCtorEq, Int.reduceBEq, Int.reduceBNe, Bool.true_or, Bool.false_or, Bool.or_true, Bool.or_false, Bool.and_false, Bool.false_and, Nat.sub_zero, bytesOf, byteOfRow, UInt8.ofNat_toNat]
  refine ⟨by omega, fun h => ?_, fun h => ?_⟩
  · have h : x.tmod n < 0 := by simpa using h
    have hr := place_range (x := x) hn
    have e : place x n = x.tmod n + n := by simp only [place, if_pos h]
    refine ret_end0 (.inr rfl) rfl ⟨?_, rfl⟩
    rw [e] at hr ⊢
    simp only [Pm.one, List.getD_cons_zero, List.getD_cons_succ]
    rw [IntWalk.i64_in _ (by omega)]
  · have h : ¬ x.tmod n < 0 := by simpa using h
    have e : place x n = x.tmod n := by simp only [place, if_neg h]
    exact ret_end0 (.inr rfl) rfl ⟨by rw [e]; rfl, rfl⟩

theorem Cv.aggs {xs ys : List V} (h : Cvs xs ys) : Cv (.agg xs) (.agg ys) := .agg _ _ h.at.1 (fun i x y hx hy => h.at.2 i x y hx hy)

theorem known_pc (σ : Store) : PC Tryz.prog 15 [] σ (fun r σ' => r = .b true ∧ σ' = σ) := by
  refine PC.intro Tryz.func15 c15 fun hcl hwf => wpc_sound ?_
  simp only [p15, List.length_cons, List.length_nil, List.replicate, List.cons_append, List.nil_append, Nat.reduceAdd, Nat.reduceSub]
  simp only [V.pure, W, pexec, xexec, binV, Nat.reduceAdd, Nat.reduceSub, Nat.reduceLeDiff, Nat.reduceEqDiff, Int.reduceToNat, reduceIte, reduceCtorEq, Int.reduceBEq, Int.reduceBNe, Bool.true_or, Bool.false_or, Bool.or_true, Bool.or_false, Bool.and_false, Bool.false_and, Nat.sub_zero, bytesOf, byteOfRow, UInt8.ofNat_toNat]
  refine call_cv (zs := [.agg knY.cells]) (.cons (Cv.aggs ?_) .nil) (encode_pc knY knY_small _) ?_
  · repeat first | exact .nil | refine .cons (.refl _) ?_ | refine .cons (.lit _ _) ?_ | refine .cons (.nil _) ?_
  simp only [knY_code.2, W, pexec, xexec, binV, Nat.reduceAdd, Nat.reduceSub, Nat.reduceLeDiff, Nat.reduceEqDiff, Int.reduceToNat, reduceIte, reduceCtorEq, Int.reduceBEq, Int.reduceBNe, Bool.true_or, Bool.false_or, Bool.or_true, Bool.or_false, Bool.and_false, Bool.false_and, Nat.sub_zero, bytesOf, byteOfRow, UInt8.ofNat_toNat]
  refine call_cv (zs := [.agg knX.cells]) (.cons (Cv.aggs ?_) .nil) (opValidate_pc knX knX_small _) ?_
  · repeat first | exact .nil | refine .cons (.refl _) ?_ | refine .cons (.lit _ _) ?_ | refine .cons (.nil _) ?_
  simp only [knX_ok, W, pexec, xexec, binV, Nat.reduceAdd, Nat.reduceSub, Nat.reduceLeDiff, Nat.reduceEqDiff, Int.reduceToNat, reduceIte, reduceCtorEq, Int.reduceBEq, Int.reduceBNe, Bool.true_or, Bool.false_or, Bool.or_true, Bool.or_false, Bool.and_false, Bool.false_and, Nat.sub_zero, bytesOf, byteOfRow, UInt8.ofNat_toNat]
  refine callg_eq (by simp only [W, pexec, xexec, binV, Nat.reduceAdd, Nat.reduceSub, Nat.reduceLeDiff, Nat.reduceEqDiff, Int.reduceToNat, reduceIte, reduceCtorEq, Int.reduceBEq, Int.reduceBNe, Bool.true_or, Bool.false_or, Bool.or_true, Bool.or_false, Bool.and_false, Bool.false_and, Nat.sub_zero, bytesOf, byteOfRow, UInt8.ofNat_toNat] <;> rfl) (fun _ => PC.wk (args' := [.agg knY.cells]) (Wk.cvs (.cons (Cv.aggs ?_) .nil)) (opValidate_pc knY knY_small _)) rfl ?_
  · repeat first | exact .nil | refine .cons (.refl _) ?_ | refine .cons (.lit _ _) ?_ | refine .cons (.nil _) ?_
  simp only [knY_ok, W, pexec, xexec, binV, Nat.reduceAdd, Nat.reduceSub, Nat.reduceLeDiff, Nat.reduceEqDiff, Int.reduceToNat, reduceIte, reduceCtorEq, Int.reduceBEq, Int.reduceBNe, Bool.true_or, Bool.false_or, Bool.or_true, Bool.or_false, Bool.and_false, Bool.false_and, Nat.sub_zero, bytesOf, byteOfRow, UInt8.ofNat_toNat]
  refine callg_eq (by simp only [W, pexec, xexec, binV, Nat.reduceAdd, Nat.reduceSub, Nat.reduceLeDiff, Nat.reduceEqDiff, Int.reduceToNat, reduceIte, reduceCtorEq, Int.reduceBEq, Int.reduceBNe, Bool.true_or, Bool.false_or, Bool.or_true, Bool.or_false, Bool.and_false, Bool.false_and, Nat.sub_zero, bytesOf, byteOfRow, UInt8.ofNat_toNat] <;> rfl) (fun _ => PC.wk (args' := [.agg knY.cells, .agg knX.cells]) (Wk.cvs (.cons (Cv.aggs ?_) (.cons (Cv.aggs ?_) .nil))) (opWins_pc knY knX knY_small knX_small _)) rfl ?_
  · repeat first | exact .nil | refine .cons (.refl _) ?_ | refine .cons (.lit _ _) ?_ | refine .cons (.nil _) ?_
  · repeat first | exact .nil | refine .cons (.refl _) ?_ | refine .cons (.lit _ _) ?_ | refine .cons (.nil _) ?_
  simp only [kn_wins.1, W, pexec, xexec, binV, Nat.reduceAdd, Nat.reduceSub, Nat.reduceLeDiff, Nat.reduceEqDiff, Int.reduceToNat, reduceIte, reduceCtorEq, Int.reduceBEq, Int.reduceBNe, Bool.true_or, Bool.false_or, Bool.or_true, Bool.or_false, Bool.and_false, Bool.false_and, Nat.sub_zero, bytesOf, byteOfRow, UInt8.ofNat_toNat]
  refine callg_eq (by simp only [W, pexec, xexec, binV, Nat.reduceAdd, Nat.reduceSub, Nat.reduceLeDiff, Nat.reduceEqDiff, Int.reduceToNat, reduceIte, reduceCtorEq, Int.reduceBEq, Int.reduceBNe, Bool.true_or, Bool.false_or, Bool.or_true, Bool.or_false, Bool.and_false, Bool.false_and, Nat.sub_zero, bytesOf, byteOfRow, UInt8.ofNat_toNat] <;> rfl) (fun _ => PC.wk (args' := [.agg knX.cells, .agg knY.cells]) (Wk.cvs (.cons (Cv.aggs ?_) (.cons (Cv.aggs ?_) .nil))) (opWins_pc knX knY knX_small knY_small _)) rfl ?_
  · repeat first | exact .nil | refine .cons (.refl _) ?_ | refine .cons (.lit _ _) ?_ | refine .cons (.nil _) ?_
  · repeat first | exact .nil | refine .cons (.refl _) ?_ | refine .cons (.lit _ _) ?_ | refine .cons (.nil _) ?_
  simp only [kn_wins.2.1, W, pexec, xexec, binV, Nat.reduceAdd, Nat.reduceSub, Nat.reduceLeDiff, Nat.reduceEqDiff, Int.reduceToNat, reduceIte, reduceCtorEq, Int.reduceBEq, Int.reduceBNe, Bool.true_or, Bool.false_or, Bool.or_true, Bool.or_false, Bool.and_false, Bool.false_and, Nat.sub_zero, bytesOf, byteOfRow, UInt8.ofNat_toNat]
  refine callg_eq (by simp only [W, pexec, xexec, binV, Nat.reduceAdd, Nat.reduceSub, Nat.reduceLeDiff, Nat.reduceEqDiff, Int.reduceToNat, reduceIte, reduceCtorEq, Int.reduceBEq, Int.reduceBNe, Bool.true_or, Bool.false_or, Bool.or_true, Bool.or_false, Bool.and_false, Bool.false_and, Nat.sub_zero, bytesOf, byteOfRow, UInt8.ofNat_toNat] <;> rfl) (fun _ => PC.wk (args' := [.agg knX.cells, .agg knY.cells]) (Wk.cvs (.cons (Cv.aggs ?_) (.cons (Cv.aggs ?_) .nil))) (opConcurrent_pc knX knY _)) rfl ?_
  · repeat first | exact .nil | refine .cons (.refl _) ?_ | refine .cons (.lit _ _) ?_ | refine .cons (.nil _) ?_
  · repeat first | exact .nil | refine .cons (.refl _) ?_ | refine .cons (.lit _ _) ?_ | refine .cons (.nil _) ?_
  simp only [kn_wins.2.2, V.pure, W, pexec, xexec, binV, Nat.reduceAdd, Nat.reduceSub, Nat.reduceLeDiff, Nat.reduceEqDiff, Int.reduceToNat, reduceIte, reduceCtorEq, Int.reduceBEq, Int.reduceBNe, Bool.true_or, Bool.false_or, Bool.or_true, Bool.or_false, Bool.and_false, Bool.false_and, Nat.sub_zero, bytesOf, byteOfRow, UInt8.ofNat_toNat]
  refine callg_eq (by simp only [W, pexec, xexec, binV, Nat.reduceAdd, Nat.reduceSub, Nat.reduceLeDiff, Nat.reduceEqDiff, Int.reduceToNat, reduceIte, reduceCtorEq, Int.reduceBEq, Int.reduceBNe, Bool.true_or, Bool.false_or, Bool.or_true, Bool.or_false, Bool.and_false, Bool.false_and, Nat.sub_zero, bytesOf, byteOfRow, UInt8.ofNat_toNat] <;> rfl) (fun _ => PC.wk (args' := [.sl 13 ([knX].map Opr.cells)]) (Wk.cvs (.cons (.lit _ _) .nil)) (opMemory_pc [knX] (by simp [knX_small]) _)) rfl ?_
  simp only [kn_mem1, W, pexec, xexec, binV, Nat.reduceAdd, Nat.reduceSub, Nat.reduceLeDiff, Nat.reduceEqDiff, Int.reduceToNat, reduceIte, reduceCtorEq, Int.reduceBEq, Int.reduceBNe, Bool.true_or, Bool.false_or, Bool.or_true, Bool.or_false, Bool.and_false, Bool.false_and, Nat.sub_zero, bytesOf, byteOfRow, UInt8.ofNat_toNat]
  refine callg_eq (by simp only [W, pexec, xexec, binV, Nat.reduceAdd, Nat.reduceSub, Nat.reduceLeDiff, Nat.reduceEqDiff, Int.reduceToNat, reduceIte, reduceCtorEq, Int.reduceBEq, Int.reduceBNe, Bool.true_or, Bool.false_or, Bool.or_true, Bool.or_false, Bool.and_false, Bool.false_and, Nat.sub_zero, bytesOf, byteOfRow, UInt8.ofNat_toNat] <;> rfl) (fun _ => PC.wk (args' := [.sl 8 ([knEntry].map En.cells), .sl 8 ([knEntry].map En.cells)]) (Wk.cvs (.cons (.refl _) (.cons (.lit _ _) .nil))) (r16SameEntries_pc [knEntry] [knEntry] _)) rfl ?_
  have hee : ensEq [knEntry] [knEntry] = true := ensEq_iff.2 rfl
  simp only [hee, V.pure, W, pexec, xexec, binV, Nat.reduceAdd, Nat.reduceSub, Nat.reduceLeDiff, Nat.reduceEqDiff, Int.reduceToNat, reduceIte, reduceCtorEq, Int.reduceBEq, Int.reduceBNe, Bool.true_or, Bool.false_or, Bool.or_true, Bool.or_false, Bool.and_false, Bool.false_and, Nat.sub_zero, bytesOf, byteOfRow, UInt8.ofNat_toNat]
  refine callg_eq (by simp only [W, pexec, xexec, binV, Nat.reduceAdd, Nat.reduceSub, Nat.reduceLeDiff, Nat.reduceEqDiff, Int.reduceToNat, reduceIte, reduceCtorEq, Int.reduceBEq, Int.reduceBNe, Bool.true_or, Bool.false_or, Bool.or_true, Bool.or_false, Bool.and_false, Bool.false_and, Nat.sub_zero, bytesOf, byteOfRow, UInt8.ofNat_toNat] <;> rfl) (fun _ => PC.wk (args' := [.sl 13 ([knY, knX].map Opr.cells)]) (Wk.cvs (.cons (.lit _ _) .nil)) (opMemory_pc [knY, knX] (by simp [knX_small, knY_small]) _)) rfl ?_
  simp only [kn_mem2, bytesV_length, knY_code.1, W, pexec, xexec, binV, Nat.reduceAdd, Nat.reduceSub, Nat.reduceLeDiff, Nat.reduceEqDiff, Int.reduceToNat, reduceIte, reduceCtorEq, Int.reduceBEq, Int.reduceBNe, Bool.true_or, Bool.false_or, Bool.or_true, Bool.or_false, Bool.and_false, Bool.false_and, Nat.sub_zero, bytesOf, byteOfRow, UInt8.ofNat_toNat]
  refine ret_end hcl (.inr rfl) (by simp only [resVs, resV, W, pexec, xexec, binV, Nat.reduceAdd, Nat.reduceSub, Nat.reduceLeDiff, Nat.reduceEqDiff, Int.reduceToNat, reduceIte, reduceCtorEq, Int.reduceBEq, Int.reduceBNe, Bool.true_or, Bool.false_or, Bool.or_true, Bool.or_false, Bool.and_false, Bool.false_and, Nat.sub_zero, bytesOf, byteOfRow, UInt8.ofNat_toNat]; rfl) (by simp only [LW]) ⟨?_, rfl⟩
  rfl

end Go.Proofs.Tryz

set_option linter.unusedSimpArgs false
namespace Go.Proofs.Tryz
open Go Go.Pm Go.Bt

def liBox : Ob := .box 26 [.lit 3 [[.i .i64 1, .s [97], .i .i64 0]], .nil, .s [], .s [], .s [], .s [], .i .i64 0, .i .i64 1]

theorem loop3 {n : Nat} {σ : Store} {K : Exit → St → Prop} : ∀ (k : Nat) (out : List Opr) (g : Nat), out.length + k < 2000 →
    (∀ g, (∀ j0 j1 j2 j5 j6 j7 j8 j9 j10 j11 j12 j13 j14 j15 j16 j17 j18 j19 j20 j21 j22 j23 j24 j25 j26 j27 j28 j29 j30 j31 j32 j33 j34 j35 j36 j37 j38 j39 j40 j41 j42 j43 j44 j45 j46 j47 j48 j49 j50 j51 j52, K (.exit 0) ⟨[j0, j1, j2, .ptr σ.length 0, .own (σ.length + 1) g, j5, j6, j7, j8, j9, j10, j11, j12, j13, j14, j15, j16, j17, j18, j19, j20, j21, j22, j23, j24, j25, j26, j27, j28, j29, j30, j31, j32, j33, j34, j35, j36, j37, j38, j39, j40, j41, j42, j43, j44, j45, j46, j47, j48, j49, j50, j51, j52], σ ++ [liBox, .row 33 13 184 g false ((out ++ List.replicate k liOp).map Opr.cells)]⟩)) →
    Rnd n Tryz.prog p3_0 K (k + 1) ⟨[.u, .u, .u, .ptr σ.length 0, .own (σ.length + 1) g, .i .i64 k, .u, .u, .u, .u, .u, .u, .u, .u, .u, .u, .u, .u, .u, .u, .u, .u, .u, .u, .u, .u, .u, .u, .u, .u, .u, .u, .u, .u, .u, .u, .u, .u, .u, .u, .u, .u, .u, .u, .u, .u, .u, .u, .u, .u, .u, .u, .u], σ ++ [liBox, .row 33 13 184 g false (out.map Opr.cells)]⟩ := by
  intro k
  induction k with
  | zero =>
    intro out g ho h1
    refine rnd_step fun R hR => ?_
    simp only [p3_0, liBox, V.pure, W, pexec, xexec, binV, Nat.reduceAdd, Nat.reduceSub, Nat.reduceLeDiff, Nat.reduceEqDiff, Int.reduceToNat, reduceIte, reduceCtorEq, Int.reduceBEq, Int.reduceBNe, Bool.true_or, Bool.false_or, Bool.or_true, Bool.or_false, Bool.and_false, Bool.false_and, Nat.sub_zero, bytesOf, byteOfRow, UInt8.ofNat_toNat]
    simp only [List.replicate_zero, List.append_nil, liBox] at h1
    exact ⟨fun h => by simp at h, fun _ => h1 g ..⟩
  | succ k ih =>
    intro out g ho h1
    refine rnd_step fun R hR => ?_
    simp only [p3_0, liBox, V.pure, List.length_map, maxLen, W, pexec, xexec, binV, Nat.reduceAdd, Nat.reduceSub, Nat.reduceLeDiff, Nat.reduceEqDiff, Int.reduceToNat, reduceIte, reduceCtorEq, Int.reduceBEq, Int.reduceBNe, Bool.true_or, Bool.false_or, Bool.or_true, Bool.or_false, Bool.and_false, Bool.false_and, Nat.sub_zero, bytesOf, byteOfRow, UInt8.ofNat_toNat]
    refine ⟨fun _ => ⟨by omega, ?_⟩, fun h => by simp at h <;> omega⟩
    have e0 : (out.map Opr.cells ++ [[.i .i64 1, .i .i64 0, .i .i64 1, .i .i64 1, .sl 3 [[.i .i64 1, .s [97], .i .i64 0]], .sl 3 [], .s [], .s [], .s [], .s [], .i .i64 0, .i .i64 1, .sl 1 []]]) = (out ++ [liOp]).map Opr.cells := by
      simp [Opr.cells, Stamp.cells, En.cells, liOp, liEntry, It.cells]
    have e1 : out ++ List.replicate (k + 1) liOp = (out ++ [liOp]) ++ List.replicate k liOp := by simp [List.replicate_succ]
    rw [e1] at h1
    rw [e0]
    have hw : IntKind.i64.wrap (((k + 1 : Nat) : Int) - 1) = (k : Int) := by rw [IntWalk.i64_in _ (by omega)]; omega
    have h2 := ih (out ++ [liOp]) (g + 1) (by simp; omega) h1
    simp only [liBox] at h2
    refine hR _ (rnd_cvs ?_ h2)
    rw [hw]
    repeat first | exact .nil | refine .cons (.refl _) ?_ | refine .cons (.forget _) ?_

theorem operationLimits_pc (x : Int) (σ : Store) : PC Tryz.prog 3 [.i .i64 x] σ (fun r σ' => r = .b true ∧ σ' = σ) := by
  refine PC.intro Tryz.func3 c3 fun hcl hwf => ?_
  simp only [p3, List.length_cons, List.length_nil, List.replicate, List.cons_append, List.nil_append, Nat.reduceAdd, Nat.reduceSub]
  refine PWc.cut fun R hR => ?_
  simp only [W, pexec, xexec, binV, Nat.reduceAdd, Nat.reduceSub, Nat.reduceLeDiff, Nat.reduceEqDiff, Int.reduceToNat, reduceIte, reduceCtorEq, Int.reduceBEq, Int.reduceBNe, Bool.true_or, Bool.false_or, Bool.or_true, Bool.or_false, Bool.and_false, Bool.false_and, Nat.sub_zero, bytesOf, byteOfRow, UInt8.ofNat_toNat]
  refine hR _ ?_
  clear hR R
  refine PWc.cut fun R hR => ?_
  simp only [V.pure, W, pexec, xexec, binV, Nat.reduceAdd, Nat.reduceSub, Nat.reduceLeDiff, Nat.reduceEqDiff, Int.reduceToNat, reduceIte, reduceCtorEq, Int.reduceBEq, Int.reduceBNe, Bool.true_or, Bool.false_or, Bool.or_true, Bool.or_false, Bool.and_false, Bool.false_and, Nat.sub_zero, bytesOf, byteOfRow, UInt8.ofNat_toNat]
  refine hR _ ?_
  clear hR R
  refine PWc.cut fun R hR => ?_
  simp only [W, pexec, xexec, binV, Nat.reduceAdd, Nat.reduceSub, Nat.reduceLeDiff, Nat.reduceEqDiff, Int.reduceToNat, reduceIte, reduceCtorEq, Int.reduceBEq, Int.reduceBNe, Bool.true_or, Bool.false_or, Bool.or_true, Bool.or_false, Bool.and_false, Bool.false_and, Nat.sub_zero, bytesOf, byteOfRow, UInt8.ofNat_toNat]
  refine hR _ ?_
  clear hR R
  refine PWc.cut fun R hR => ?_
  simp only [W, pexec, xexec, binV, Nat.reduceAdd, Nat.reduceSub, Nat.reduceLeDiff, Nat.reduceEqDiff, Int.reduceToNat, reduceIte, reduceCtorEq, Int.reduceBEq, Int.reduceBNe, Bool.true_or, Bool.false_or, Bool.or_true, Bool.or_false, Bool.and_false, Bool.false_and, Nat.sub_zero, bytesOf, byteOfRow, UInt8.ofNat_toNat]
  refine call_eq (place_pc x 3 (by decide) (by decide) _) rfl ?_
  simp only [W, pexec, xexec, binV, Nat.reduceAdd, Nat.reduceSub, Nat.reduceLeDiff, Nat.reduceEqDiff, Int.reduceToNat, reduceIte, reduceCtorEq, Int.reduceBEq, Int.reduceBNe, Bool.true_or, Bool.false_or, Bool.or_true, Bool.or_false, Bool.and_false, Bool.false_and, Nat.sub_zero, bytesOf, byteOfRow, UInt8.ofNat_toNat]
  have hr := place_range (x := x) (n := 3) (by decide)
  obtain ⟨k, hk⟩ : ∃ k : Nat, (k : Int) = place x 3 + 1023 := ⟨(place x 3 + 1023).toNat, by omega⟩
  have hw : IntKind.i64.wrap (IntKind.i64.wrap (place x 3 + 1024) - 1) = (k : Int) := by
    rw [IntWalk.i64_in (place x 3 + 1024) (by omega), IntWalk.i64_in _ (by omega)]; omega
  rw [hw]
  refine PWc.wk ((Wk.promote_at (σ := σ) [_] (k := 4) ti_Op rfl).trans (Wk.cvs ?_)) (PWc.rnd (k + 1) (loop3 k [] 0 (by simp; omega) ?_))
  · simp only [W, pexec, xexec, binV, Nat.reduceAdd, Nat.reduceSub, Nat.reduceLeDiff, Nat.reduceEqDiff, Int.reduceToNat, reduceIte, reduceCtorEq]
    repeat first | exact .nil | refine .cons (.refl _) ?_ | refine .cons (.forget _) ?_
  intro g
  intros
  simp only [List.nil_append, W, pexec, xexec, binV, Nat.reduceAdd, Nat.reduceSub, Nat.reduceLeDiff, Nat.reduceEqDiff, Int.reduceToNat, reduceIte, reduceCtorEq, Int.reduceBEq, Int.reduceBNe, Bool.true_or, Bool.false_or, Bool.or_true, Bool.or_false, Bool.and_false, Bool.false_and, Nat.sub_zero, bytesOf, byteOfRow, UInt8.ofNat_toNat]
  refine hR _ (PWc.wk ((Wk.fz (σ.length + 1) (E := 33) (sz := 13) (by' := 184) (g := g) (sh := false) (rows := (List.replicate k liOp).map Opr.cells) (by rw [base_get]; rfl)).trans (Wk.cvs (ys := [.u, .u, .u, .ptr σ.length 0, .sl 13 ((List.replicate k liOp).map Opr.cells), .u, .u, .u, .u, .u, .u, .u, .u, .u, .u, .u, .u, .u, .u, .u, .u, .u, .u, .u, .u, .u, .u, .u, .u, .u, .u, .u, .u, .u, .u, .u, .u, .u, .u, .u, .u, .u, .u, .u, .u, .u, .u, .u, .u, .u, .u, .u, .u]) ?_)) (wpc_sound ?_))
  · simp only [List.map_cons, List.map_nil, fz, fz1, and_self, if_true]
    repeat first | exact .nil | refine .cons (.refl _) ?_ | refine .cons (.forget _) ?_
  clear hR R
  have hsm : ∀ o ∈ List.replicate k liOp, o.small := fun o ho => by rw [(List.mem_replicate.1 ho).2]; exact liOp_small
  simp only [base_set, List.set_cons_succ, List.set_cons_zero, liBox, List.length_map, List.length_replicate, V.pure, W, pexec, xexec, binV, Nat.reduceAdd, Nat.reduceSub, Nat.reduceLeDiff, Nat.reduceEqDiff, Int.reduceToNat, reduceIte, reduceCtorEq, Int.reduceBEq, Int.reduceBNe, Bool.true_or, Bool.false_or, Bool.or_true, Bool.or_false, Bool.and_false, Bool.false_and, Nat.sub_zero, bytesOf, byteOfRow, UInt8.ofNat_toNat]
  refine ⟨fun h => ?_, fun h => ?_⟩
  · have h : 1024 < k := by simp at h; omega
    have hc : current (List.replicate k liOp) = [] := many_current (by simp; omega)
    have hm : memoryOf (List.replicate k liOp) = [] := by simp [memoryOf, hc]
    refine call_eq (opCurrent_pc (List.replicate k liOp) hsm _) rfl ?_
    simp only [hc, W, pexec, xexec, binV, Nat.reduceAdd, Nat.reduceSub, Nat.reduceLeDiff, Nat.reduceEqDiff, Int.reduceToNat, reduceIte, reduceCtorEq, Int.reduceBEq, Int.reduceBNe, Bool.true_or, Bool.false_or, Bool.or_true, Bool.or_false, Bool.and_false, Bool.false_and, Nat.sub_zero, bytesOf, byteOfRow, UInt8.ofNat_toNat]
    refine callg_eq (by simp only [W, pexec, xexec, binV, Nat.reduceAdd, Nat.reduceSub, Nat.reduceLeDiff, Nat.reduceEqDiff, Int.reduceToNat, reduceIte, reduceCtorEq, Int.reduceBEq, Int.reduceBNe, Bool.true_or, Bool.false_or, Bool.or_true, Bool.or_false, Bool.and_false, Bool.false_and, Nat.sub_zero, bytesOf, byteOfRow, UInt8.ofNat_toNat] <;> rfl) (fun _ => opMemory_pc (List.replicate k liOp) hsm _) rfl ?_
    simp only [hm, W, pexec, xexec, binV, Nat.reduceAdd, Nat.reduceSub, Nat.reduceLeDiff, Nat.reduceEqDiff, Int.reduceToNat, reduceIte, reduceCtorEq, Int.reduceBEq, Int.reduceBNe, Bool.true_or, Bool.false_or, Bool.or_true, Bool.or_false, Bool.and_false, Bool.false_and, Nat.sub_zero, bytesOf, byteOfRow, UInt8.ofNat_toNat]
    refine callg_eq (by simp only [W, pexec, xexec, binV, Nat.reduceAdd, Nat.reduceSub, Nat.reduceLeDiff, Nat.reduceEqDiff, Int.reduceToNat, reduceIte, reduceCtorEq, Int.reduceBEq, Int.reduceBNe, Bool.true_or, Bool.false_or, Bool.or_true, Bool.or_false, Bool.and_false, Bool.false_and, Nat.sub_zero, bytesOf, byteOfRow, UInt8.ofNat_toNat] <;> rfl) (fun _ => known_pc _) rfl ?_
    simp only [W, pexec, xexec, binV, Nat.reduceAdd, Nat.reduceSub, Nat.reduceLeDiff, Nat.reduceEqDiff, Int.reduceToNat, reduceIte, reduceCtorEq, Int.reduceBEq, Int.reduceBNe, Bool.true_or, Bool.false_or, Bool.or_true, Bool.or_false, Bool.and_false, Bool.false_and, Nat.sub_zero, bytesOf, byteOfRow, UInt8.ofNat_toNat]
    exact ret_end hcl (.inr rfl) (by simp only [resVs, resV, W, pexec, xexec, binV, Nat.reduceAdd, Nat.reduceSub, Nat.reduceLeDiff, Nat.reduceEqDiff, Int.reduceToNat, reduceIte, reduceCtorEq, Int.reduceBEq, Int.reduceBNe, Bool.true_or, Bool.false_or, Bool.or_true, Bool.or_false, Bool.and_false, Bool.false_and, Nat.sub_zero, bytesOf, byteOfRow, UInt8.ofNat_toNat]; rfl) (by simp only [LW]) ⟨rfl, rfl⟩
  · have h : k ≤ 1024 := by simp at h; omega
    refine call_eq (opCurrent_pc (List.replicate k liOp) hsm _) rfl ?_
    simp only [li_current (show 1 ≤ k by omega) h, V.pure, W, pexec, xexec, binV, Nat.reduceAdd, Nat.reduceSub, Nat.reduceLeDiff, Nat.reduceEqDiff, Int.reduceToNat, reduceIte, reduceCtorEq, Int.reduceBEq, Int.reduceBNe, Bool.true_or, Bool.false_or, Bool.or_true, Bool.or_false, Bool.and_false, Bool.false_and, Nat.sub_zero, bytesOf, byteOfRow, UInt8.ofNat_toNat]
    refine callg_eq (by simp only [W, pexec, xexec, binV, Nat.reduceAdd, Nat.reduceSub, Nat.reduceLeDiff, Nat.reduceEqDiff, Int.reduceToNat, reduceIte, reduceCtorEq, Int.reduceBEq, Int.reduceBNe, Bool.true_or, Bool.false_or, Bool.or_true, Bool.or_false, Bool.and_false, Bool.false_and, Nat.sub_zero, bytesOf, byteOfRow, UInt8.ofNat_toNat] <;> rfl) (fun _ => opMemory_pc (List.replicate k liOp) hsm _) rfl ?_
    simp only [li_memory (show 1 ≤ k by omega) h, V.pure, W, pexec, xexec, binV, Nat.reduceAdd, Nat.reduceSub, Nat.reduceLeDiff, Nat.reduceEqDiff, Int.reduceToNat, reduceIte, reduceCtorEq, Int.reduceBEq, Int.reduceBNe, Bool.true_or, Bool.false_or, Bool.or_true, Bool.or_false, Bool.and_false, Bool.false_and, Nat.sub_zero, bytesOf, byteOfRow, UInt8.ofNat_toNat]
    refine callg_eq (by simp only [W, pexec, xexec, binV, Nat.reduceAdd, Nat.reduceSub, Nat.reduceLeDiff, Nat.reduceEqDiff, Int.reduceToNat, reduceIte, reduceCtorEq, Int.reduceBEq, Int.reduceBNe, Bool.true_or, Bool.false_or, Bool.or_true, Bool.or_false, Bool.and_false, Bool.false_and, Nat.sub_zero, bytesOf, byteOfRow, UInt8.ofNat_toNat] <;> rfl) (fun _ => PC.wk (args' := [.sl 8 ([liEntry].map En.cells), .sl 8 ([liEntry].map En.cells)]) (Wk.cvs (.cons (.refl _) (.cons (.lit _ _) .nil))) (r16SameEntries_pc [liEntry] [liEntry] _)) rfl ?_
    have hee : ensEq [liEntry] [liEntry] = true := ensEq_iff.2 rfl
    simp only [hee, W, pexec, xexec, binV, Nat.reduceAdd, Nat.reduceSub, Nat.reduceLeDiff, Nat.reduceEqDiff, Int.reduceToNat, reduceIte, reduceCtorEq, Int.reduceBEq, Int.reduceBNe, Bool.true_or, Bool.false_or, Bool.or_true, Bool.or_false, Bool.and_false, Bool.false_and, Nat.sub_zero, bytesOf, byteOfRow, UInt8.ofNat_toNat]
    refine callg_eq (by simp only [W, pexec, xexec, binV, Nat.reduceAdd, Nat.reduceSub, Nat.reduceLeDiff, Nat.reduceEqDiff, Int.reduceToNat, reduceIte, reduceCtorEq, Int.reduceBEq, Int.reduceBNe, Bool.true_or, Bool.false_or, Bool.or_true, Bool.or_false, Bool.and_false, Bool.false_and, Nat.sub_zero, bytesOf, byteOfRow, UInt8.ofNat_toNat] <;> rfl) (fun _ => known_pc _) rfl ?_
    simp only [W, pexec, xexec, binV, Nat.reduceAdd, Nat.reduceSub, Nat.reduceLeDiff, Nat.reduceEqDiff, Int.reduceToNat, reduceIte, reduceCtorEq, Int.reduceBEq, Int.reduceBNe, Bool.true_or, Bool.false_or, Bool.or_true, Bool.or_false, Bool.and_false, Bool.false_and, Nat.sub_zero, bytesOf, byteOfRow, UInt8.ofNat_toNat]
    exact ret_end hcl (.inr rfl) (by simp only [resVs, resV, W, pexec, xexec, binV, Nat.reduceAdd, Nat.reduceSub, Nat.reduceLeDiff, Nat.reduceEqDiff, Int.reduceToNat, reduceIte, reduceCtorEq, Int.reduceBEq, Int.reduceBNe, Bool.true_or, Bool.false_or, Bool.or_true, Bool.or_false, Bool.and_false, Bool.false_and, Nat.sub_zero, bytesOf, byteOfRow, UInt8.ofNat_toNat]; rfl) (by simp only [LW]) ⟨rfl, rfl⟩

end Go.Proofs.Tryz
