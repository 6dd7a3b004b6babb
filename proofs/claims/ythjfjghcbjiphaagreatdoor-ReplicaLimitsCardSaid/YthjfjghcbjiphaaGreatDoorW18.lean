/- A part of the proof of the statement of the last text of this claim: for every two integers ReplicaLimits returns true and leaves the memory as it was. -/
import Derived.Test.YthjfjghcbjiphaaGreatDoorW14
import Derived.Test.YthjfjghcbjiphaaGreatDoorW16
set_option linter.all false

namespace Go.Proofs.Tryz
open Go Go.Pm Go.Bt
theorem loop53 {n : Nat} {σ : Store} {K : Exit → St → Prop} (a b : List It) (hlen : a.length < 2 ^ 63) (hab : a.length = b.length) : ∀ (ra rb pa pb : List It),a = pa ++ ra → b = pb ++ rb → pa.length = pb.length →
  (itsEq ra rb = true → (∀ j0 j1 j2 j3 j4 j5 j6 j7 j8 j9 j10 j11 j12 j13 j14 j15 j16 j17 j18 j19 j20 j21 j22 j23 j24 j25,K (.exit 0) ⟨[j0,j1,j2,j3,j4,j5,j6,j7,j8,j9,j10,j11,j12,j13,j14,j15,j16,j17,j18,j19,j20,j21,j22,j23,j24,j25],σ⟩)) → (itsEq ra rb = false → (∀ j0 j1 j2 j3 j5 j6 j7 j8 j9 j10 j11 j12 j13 j14 j15 j16 j17 j18 j19 j20 j21 j22 j23 j24 j25,K .ret ⟨[j0,j1,j2,j3,.b false,j5,j6,j7,j8,j9,j10,j11,j12,j13,j14,j15,j16,j17,j18,j19,j20,j21,j22,j23,j24,j25],σ⟩)) →
  Rnd n Tryz.prog p53_0 K (ra.length + 1) ⟨[.sl 3 (a.map It.cells),.sl 3 (b.map It.cells),.u,.u,.u,.u,.u,.u,.u,.u,.u,.u,.i .i64 a.length,.i .i64 pa.length,.u,.u,.u,.u,.u,.u,.u,.u,.u,.u,.u,.u],σ⟩ := by
 intro ra
 induction ra with
 | nil =>
  intro rb pa pb ha hb hp h1 h2
  have : rb = [] := by
   subst ha; subst hb
   simp at hab
   exact List.eq_nil_of_length_eq_zero (by omega)
  subst this
  have ha : a = pa := by simpa using ha
  subst ha
  refine rnd_step fun R hR => ?_
  simp only [p53_0,VV,Int.reduceBEq,Int.reduceBNe,pexec,xexec,binV,Nat.reduceAdd,Nat.reduceSub,Nat.reduceLeDiff,Nat.reduceEqDiff,Int.reduceToNat,reduceIte,reduceCtorEq]
  exact ⟨fun h => by simp at h,fun _ => h1 rfl ..⟩
 | cons x ra ih =>
  intro rb pa pb ha hb hp h1 h2
  cases rb with
  | nil => subst ha; subst hb; simp at hab; omega
  | cons y rb =>
   subst ha; subst hb
   have e2 : (List.map It.cells (pb ++ y :: rb)).getD pa.length [] = y.cells := by rw [hp]; exact row_at
   have hw : IntKind.i64.wrap ((pa.length : Int) + 1) = (((pa ++ [x]).length : Nat) : Int) := by
    rw [wrap_succ (by simp at hlen; omega)]; simp
   refine rnd_step fun R hR => ?_
   simp only [p53_0,Int.toNat_natCast,e2,It.cells,cellsEq,scalEq,VV,Int.reduceBEq,Int.reduceBNe,pexec,xexec,binV,Nat.reduceAdd,Nat.reduceSub,Nat.reduceLeDiff,Nat.reduceEqDiff,Int.reduceToNat,reduceIte,reduceCtorEq]
   have hla : (0 : Int) ≤ pa.length ∧ (pa.length : Int) < (List.map It.cells (pa ++ x :: ra)).length := by simp; omega
   have hlb : (0 : Int) ≤ pa.length ∧ (pa.length : Int) < (List.map It.cells (pb ++ y :: rb)).length := by simp at hab ⊢; omega
   have hq : itEq x y = (x.kind == y.kind && (x.text == y.text && x.id == y.id)) := rfl
   rw [← hq]
   refine ⟨fun _ => ⟨hla,hlb,fun h => ?_,fun h => ?_⟩,fun h => by simp at h <;> omega⟩
   ·have h : itEq x y = false := by rw [Bool.not_eq_true'] at h; exact h
    exact h2 (by simp [itsEq,h]) ..
   ·have h : itEq x y = true := by rw [Bool.not_eq_false'] at h; exact h
    have e : itsEq (x :: ra) (y :: rb) = itsEq ra rb := by simp [itsEq,h]
    rw [e] at h1 h2
    refine hR _ (rnd_cvs ?_ (ih rb (pa ++ [x]) (pb ++ [y]) (by simp) (by simp) (by simp [hp]) h1 h2))
    rw [hw]; repeat first | exact .nil | refine .cons (.refl _) ?_ | refine .cons (.forget _) ?_
theorem r3Same_pc (a b : List It) (σ : Store) : PC Tryz.prog 53 [.sl 3 (a.map It.cells),.sl 3 (b.map It.cells)] σ (fun r σ' => r = .b (itsEq a b) ∧ σ' = σ) := by
 refine PC.intro Tryz.func53 c53 fun hcl hwf => wpc_sound ?_
 have hlen := wf_sl (hwf 0 _ rfl).1
 rw [List.length_map] at hlen
 simp only [p53,List.length_cons,List.length_nil,List.replicate,List.cons_append,List.nil_append,Nat.reduceAdd,Nat.reduceSub]
 simp only [List.length_map,VV,Int.reduceBEq,Int.reduceBNe,pexec,xexec,binV,Nat.reduceAdd,Nat.reduceSub,Nat.reduceLeDiff,Nat.reduceEqDiff,Int.reduceToNat,reduceIte,reduceCtorEq]
 refine ⟨fun h => ?_,fun h => ?_⟩
 ·refine ret_end0 (.inr rfl) rfl ⟨?_,rfl⟩
  have : itsEq a b = false := by
   cases h2 : itsEq a b with
   | false => rfl
   | true => have := itsEq_len h2; simp at h; omega
  simp [Pm.one,this]
 ·have hab : a.length = b.length := by simp at h; omega
  refine PWc.rnd_cvs ?_ (a.length + 1) (loop53 a b hlen hab a b [] [] rfl rfl rfl (fun h => ?_) (fun h => ?_))
  ·repeat first | exact .nil | refine .cons (.refl _) ?_ | refine .cons (.forget _) ?_
  ·intros
   simp only [VV,Int.reduceBEq,Int.reduceBNe,pexec,xexec,binV,Nat.reduceAdd,Nat.reduceSub,Nat.reduceLeDiff,Nat.reduceEqDiff,Int.reduceToNat,reduceIte,reduceCtorEq]
   exact ret_end0 (.inr rfl) rfl ⟨by simp [Pm.one,h],rfl⟩
  ·intros
   exact ret_end0 (.inr rfl) rfl ⟨by simp [Pm.one,h],rfl⟩
theorem place_pc (x n : Int) (hn : 0 < n) (h2 : n < 2 ^ 62) (σ : Store) : PC Tryz.prog 5 [.i .i64 x,.i .i64 n] σ (fun r σ' => r = .i .i64 (place x n) ∧ σ' = σ) := by
 refine PC.intro Tryz.func5 c5 fun hcl hwf => wpc_sound ?_
 simp only [p5,List.length_cons,List.length_nil,List.replicate,List.cons_append,List.nil_append,Nat.reduceAdd,Nat.reduceSub]
 simp only [VV,Int.reduceBEq,Int.reduceBNe,pexec,xexec,binV,Nat.reduceAdd,Nat.reduceSub,Nat.reduceLeDiff,Nat.reduceEqDiff,Int.reduceToNat,reduceIte,reduceCtorEq]
 refine ⟨by omega,fun h => ?_,fun h => ?_⟩
 ·have h : x.tmod n < 0 := by simpa using h
  have hr := place_range (x := x) hn
  have e : place x n = x.tmod n + n := by simp only [place,if_pos h]
  refine ret_end0 (.inr rfl) rfl ⟨?_,rfl⟩
  rw [e] at hr ⊢
  simp only [Pm.one,List.getD_cons_zero,List.getD_cons_succ]
  rw [IntWalk.i64_in _ (by omega)]
 ·have h : ¬ x.tmod n < 0 := by simpa using h
  have e : place x n = x.tmod n := by simp only [place,if_neg h]
  exact ret_end0 (.inr rfl) rfl ⟨by rw [e]; rfl,rfl⟩
theorem loop17 {n : Nat} {σ : Store} {K : Exit → St → Prop} (a b : List Int) (hlen : a.length < 2 ^ 63) (hab : a.length = b.length) : ∀ (ra rb pa pb : List Int),a = pa ++ ra → b = pb ++ rb → pa.length = pb.length →
  (ra = rb → (∀ j0 j1 j2 j3 j4 j5 j6 j7 j8 j9 j10 j11 j12 j13 j14 j15 j16 j17 j18 j19 j20 j21 j22 j23 j24 j25,K (.exit 0) ⟨[j0,j1,j2,j3,j4,j5,j6,j7,j8,j9,j10,j11,j12,j13,j14,j15,j16,j17,j18,j19,j20,j21,j22,j23,j24,j25],σ⟩)) → (ra ≠ rb → (∀ j0 j1 j2 j3 j5 j6 j7 j8 j9 j10 j11 j12 j13 j14 j15 j16 j17 j18 j19 j20 j21 j22 j23 j24 j25,K .ret ⟨[j0,j1,j2,j3,.b false,j5,j6,j7,j8,j9,j10,j11,j12,j13,j14,j15,j16,j17,j18,j19,j20,j21,j22,j23,j24,j25],σ⟩)) →
  Rnd n Tryz.prog p17_0 K (ra.length + 1) ⟨[.sl 1 (a.map iRow),.sl 1 (b.map iRow),.u,.u,.u,.u,.u,.u,.u,.u,.u,.u,.i .i64 a.length,.i .i64 pa.length,.u,.u,.u,.u,.u,.u,.u,.u,.u,.u,.u,.u],σ⟩ := by
 intro ra
 induction ra with
 | nil =>
  intro rb pa pb ha hb hp h1 h2
  have : rb = [] := by
   subst ha; subst hb
   simp at hab
   exact List.eq_nil_of_length_eq_zero (by omega)
  subst this
  have ha : a = pa := by simpa using ha
  subst ha
  refine rnd_step fun R hR => ?_
  simp only [p17_0,VV,Int.reduceBEq,Int.reduceBNe,pexec,xexec,binV,Nat.reduceAdd,Nat.reduceSub,Nat.reduceLeDiff,Nat.reduceEqDiff,Int.reduceToNat,reduceIte,reduceCtorEq]
  exact ⟨fun h => by simp at h,fun _ => h1 rfl ..⟩
 | cons x ra ih =>
  intro rb pa pb ha hb hp h1 h2
  cases rb with
  | nil => subst ha; subst hb; simp at hab; omega
  | cons y rb =>
   subst ha; subst hb
   have e2 : at2 (List.map iRow (pb ++ y :: rb)) pa.length 0 = some (.i .i64 y) := by rw [hp,at2_at]; rfl
   have hw : IntKind.i64.wrap ((pa.length : Int) + 1) = (((pa ++ [x]).length : Nat) : Int) := by
    rw [wrap_succ (by simp at hlen; omega)]; simp
   refine rnd_step fun R hR => ?_
   have e1 : at2 (List.map iRow (pa ++ x :: ra)) pa.length 0 = some (.i .i64 x) := by rw [at2_at]; rfl
   simp only [p17_0,Int.toNat_natCast,e1,e2,VV,Int.reduceBEq,Int.reduceBNe,pexec,xexec,binV,Nat.reduceAdd,Nat.reduceSub,Nat.reduceLeDiff,Nat.reduceEqDiff,Int.reduceToNat,reduceIte,reduceCtorEq]
   have hla : (0 : Int) ≤ pa.length ∧ (pa.length : Int) < (List.map iRow (pa ++ x :: ra)).length := by simp; omega
   have hlb : (0 : Int) ≤ pa.length ∧ (pa.length : Int) < (List.map iRow (pb ++ y :: rb)).length := by simp at hab ⊢; omega
   refine ⟨fun _ => ⟨hla,hlb,fun h => ?_,fun h => ?_⟩,fun h => by simp at h <;> omega⟩
   ·have h : ¬ x = y := by simpa using h
    exact h2 (by simp [h]) ..
   ·have h : x = y := by simpa using h
    subst h
    refine hR _ (rnd_cvs ?_ (ih rb (pa ++ [x]) (pb ++ [x]) (by simp) (by simp) (by simp [hp]) (fun e => h1 (by rw [e])) (fun e => h2 (by simpa using e))))
    rw [hw]; repeat first | exact .nil | refine .cons (.refl _) ?_ | refine .cons (.forget _) ?_
theorem r3SameInts_pc (a b : List Int) (σ : Store) : PC Tryz.prog 17 [.sl 1 (a.map iRow),.sl 1 (b.map iRow)] σ (fun r σ' => r = .b (a == b) ∧ σ' = σ) := by
 refine PC.intro Tryz.func17 c17 fun hcl hwf => wpc_sound ?_
 have hlen := wf_sl (hwf 0 _ rfl).1
 rw [List.length_map] at hlen
 simp only [p17,List.length_cons,List.length_nil,List.replicate,List.cons_append,List.nil_append,Nat.reduceAdd,Nat.reduceSub]
 simp only [List.length_map,VV,Int.reduceBEq,Int.reduceBNe,pexec,xexec,binV,Nat.reduceAdd,Nat.reduceSub,Nat.reduceLeDiff,Nat.reduceEqDiff,Int.reduceToNat,reduceIte,reduceCtorEq]
 refine ⟨fun h => ?_,fun h => ?_⟩
 ·refine ret_end0 (.inr rfl) rfl ⟨?_,rfl⟩
  have : a ≠ b := fun e => by subst e; simp at h
  simp [Pm.one,this]
 ·have hab : a.length = b.length := by simp at h; omega
  refine PWc.rnd_cvs ?_ (a.length + 1) (loop17 a b hlen hab a b [] [] rfl rfl rfl (fun h => ?_) (fun h => ?_))
  ·repeat first | exact .nil | refine .cons (.refl _) ?_ | refine .cons (.forget _) ?_
  ·intros
   simp only [VV,Int.reduceBEq,Int.reduceBNe,pexec,xexec,binV,Nat.reduceAdd,Nat.reduceSub,Nat.reduceLeDiff,Nat.reduceEqDiff,Int.reduceToNat,reduceIte,reduceCtorEq]
   exact ret_end0 (.inr rfl) rfl ⟨by simp [Pm.one,h],rfl⟩
  ·intros
   exact ret_end0 (.inr rfl) rfl ⟨by simp [Pm.one,h],rfl⟩
end Go.Proofs.Tryz
