/- A part of the proof that OperationCurrent returns true and leaves its arguments as they were, for every input of bounded size. -/
import Derived.Test.YtdhbodgefhojnaaGreatDoorU10
import Derived.Test.YtdhbodgefhojnaaGreatDoorU12
import Derived.Test.YtdhbodgefhojnaaGreatDoorU13
import Derived.Test.YtdhbodgefhojnaaGreatDoorU15
import Derived.Test.YtdhbodgefhojnaaGreatDoorU16
import Derived.Test.YtdhbodgefhojnaaGreatDoorU18
import Derived.Test.YtdhbodgefhojnaaGreatDoorU19
set_option linter.all false

namespace Go.Proofs.Tryz
open Go Go.Pm Go.Bt
theorem loop22 {n : Nat} {σ : Store} {K : Exit → St → Prop} (q : V) (l : List Int) (hlen : l.length < 2 ^ 63) : ∀ (rest pre : List Int),l = pre ++ rest →
  (rest.any (fun n => decide (128 < n)) = false → (∀ j0 j2 j3 j4 j5 j6 j7 j8 j9 j10 j11 j12 j13 j14 j15 j16 j17 j18 j19 j20 j21 j22 j23 j24 j25 j26 j27 j28 j29 j30 j31 j32 j33 j34 j35 j36 j37 j38 j39 j40 j41 j42 j43 j44 j45 j46 j47 j48 j49 j50 j51 j52 j53 j54 j55 j56 j57 j58 j59 j60 j61 j62 j63 j64 j65 j66 j67 j68 j69 j70 j71 j72 j73 j74 j75 j76 j77 j78 j79 j80 j81 j82 j83 j84 j85,K (.exit 0) ⟨[j0,q,j2,j3,j4,j5,j6,j7,j8,j9,j10,j11,j12,j13,j14,j15,j16,j17,j18,j19,j20,j21,j22,j23,j24,j25,j26,j27,j28,j29,j30,j31,j32,j33,j34,j35,j36,j37,j38,j39,j40,j41,j42,j43,j44,j45,j46,j47,j48,j49,j50,j51,j52,j53,j54,j55,j56,j57,j58,j59,j60,j61,j62,j63,j64,j65,j66,j67,j68,j69,j70,j71,j72,j73,j74,j75,j76,j77,j78,j79,j80,j81,j82,j83,j84,j85],σ⟩)) → (rest.any (fun n => decide (128 < n)) = true → (∀ j0 j3 j4 j5 j6 j7 j8 j9 j10 j11 j12 j13 j14 j15 j16 j17 j18 j19 j20 j21 j22 j23 j24 j25 j26 j27 j28 j29 j30 j31 j32 j33 j34 j35 j36 j37 j38 j39 j40 j41 j42 j43 j44 j45 j46 j47 j48 j49 j50 j51 j52 j53 j54 j55 j56 j57 j58 j59 j60 j61 j62 j63 j64 j65 j66 j67 j68 j69 j70 j71 j72 j73 j74 j75 j76 j77 j78 j79 j80 j81 j82 j83 j84 j85,K .ret ⟨[j0,q,.i .i64 1,j3,j4,j5,j6,j7,j8,j9,j10,j11,j12,j13,j14,j15,j16,j17,j18,j19,j20,j21,j22,j23,j24,j25,j26,j27,j28,j29,j30,j31,j32,j33,j34,j35,j36,j37,j38,j39,j40,j41,j42,j43,j44,j45,j46,j47,j48,j49,j50,j51,j52,j53,j54,j55,j56,j57,j58,j59,j60,j61,j62,j63,j64,j65,j66,j67,j68,j69,j70,j71,j72,j73,j74,j75,j76,j77,j78,j79,j80,j81,j82,j83,j84,j85],σ⟩)) →
  Rnd n Tryz.prog p22_0 K (rest.length + 1) ⟨[.u,q,.u,.u,.u,.u,.u,.u,.u,.u,.u,.u,.u,.u,.u,.u,.u,.u,.u,.u,.u,.u,.u,.u,.u,.u,.u,.u,.u,.u,.u,.sl 1 (l.map iRow),.i .i64 l.length,.i .i64 pre.length,.u,.u,.u,.u,.u,.u,.u,.u,.u,.u,.u,.u,.u,.u,.u,.u,.u,.u,.u,.u,.u,.u,.u,.u,.u,.u,.u,.u,.u,.u,.u,.u,.u,.u,.u,.u,.u,.u,.u,.u,.u,.u,.u,.u,.u,.u,.u,.u,.u,.u,.u,.u],σ⟩ := by
 intro rest
 induction rest with
 | nil =>
  intro pre he h1 h2
  have he : l = pre := by simpa using he
  subst he
  refine rnd_step fun R hR => ?_
  simp only [p22_0,VV,pexec,binV,reduceIte]
  exact ⟨fun h => by simp at h,fun _ => h1 rfl ..⟩
 | cons c rest ih =>
  intro pre he h1 h2
  subst he
  refine rnd_step fun R hR => ?_
  simp only [p22_0,iRow,VV,pexec,binV,reduceIte]
  refine ⟨fun _ => ⟨by simp; omega,fun h => ?_,fun h => ?_⟩,fun h => by simp at h <;> omega⟩
  ·have h : 128 < c := by simpa using h
   exact h2 (by simp [h]) ..
  ·have h : ¬ 128 < c := by simpa using h
   have e : (c :: rest).any (fun n => decide (128 < n)) = rest.any (fun n => decide (128 < n)) := by simp [h]
   rw [e] at h1 h2
   refine hR _ (rnd_cvs ?_ (ih (pre ++ [c]) (by simp) h1 h2))
   rw [wrap_succ (by simp at hlen; omega)]
   simp only [List.length_append,List.length_cons,List.length_nil]
   repeat first | exact .nil | refine .cons (.refl _) ?_ | refine .cons (.forget _) ?_
theorem r36ValidateOp_pc (o : Opr) (hs : o.small) (σ : Store) : PC Tryz.prog 22 [.agg o.cells] σ (fun r σ' => r = .i .i64 (opErr o) ∧ σ' = σ) := by
 refine PC.intro Tryz.func22 c22 fun hcl hwf => wpc_sound ?_
 have hsl := hs.seen
 simp only [p22,List.length_cons,List.length_nil,List.replicate,List.cons_append,List.nil_append,Nat.reduceAdd,Nat.reduceSub]
 simp only [Opr.cells,Stamp.cells,En.cells,VV,pexec,xexec,Nat.reduceAdd,Nat.reduceLeDiff]
 refine call_eq (r36Stamp_pc o.stamp _) rfl ?_
 simp only [VV,pexec,binV,reduceIte]
 refine ⟨fun h => ?_,fun h => ?_⟩
 ·have h : stampOk o.stamp = false := by
   cases hk : stampOk o.stamp with
   | false => rfl
   | true => rw [hk] at h; simp at h
  refine ret_end hcl (.inr rfl) (by simp only [resVs,resV,W]; rfl) (by simp only [LW]) ⟨?_,rfl⟩
  simp only [opErr,h,if_true]; rfl
 have h0 : ¬ stampOk o.stamp = false := by
  intro hk; rw [hk] at h; simp at h
 have e0 : opErr o = if (o.kind ≠ 1 ∧ o.kind ≠ 2) ∨ vTrim o.seen ≠ o.seen then 1 else
   if o.seen.any (fun n => decide (128 < n)) then 1 else
   if vAt o.seen o.stamp.office ≠ o.stamp.number - 1 then 11 else
   if o.kind = 2 ∧ bareEn o.entry = false then 1 else entryErr (looked o) := by simp only [opErr,if_neg h0]
 have hnum : 1 ≤ o.stamp.number ∧ o.stamp.number ≤ 128 := by
  have : stampOk o.stamp = true := by simpa using h0
  simp only [stampOk,decide_eq_true_eq] at this; omega
 rw [e0]
 have hkind : (bif (o.kind != 1) then (o.kind != 2) else false) = decide (o.kind ≠ 1 ∧ o.kind ≠ 2) := by
  rw [Bool.eq_iff_iff]; by_cases h1 : o.kind = 1 <;> by_cases h2 : o.kind = 2 <;> simp [h1,h2]
 refine callg_eq (by simp only [VV] <;> rfl) (fun _ => r36Trim_pc o.seen _) rfl ?_
 simp only [VV,pexec,binV]
 refine callg_eq (by simp only [VV] <;> rfl) (fun _ => r3SameInts_pc (vTrim o.seen) o.seen _) rfl ?_
 simp only [VV,pexec]
 have hl63 : o.seen.length < 2 ^ 63 := by omega
 refine ⟨fun h => ?_,fun h => PWc.rnd_cvs ?_ (o.seen.length + 1) (loop22 (.ptr σ.length 0) o.seen hl63 o.seen [] rfl (fun ha => ?_) (fun ha => ?_))⟩
 ·have h : (o.kind ≠ 1 ∧ o.kind ≠ 2) ∨ vTrim o.seen ≠ o.seen := by
   simpa [vTrim] using h
  refine ret_end hcl (.inr rfl) (by simp only [resVs,resV,W]; rfl) (by simp only [LW]) ⟨?_,rfl⟩
  rw [if_pos h]; rfl
 ·simp only [List.length_map,List.length_nil]
  repeat first | exact .nil | refine .cons (.refl _) ?_ | refine .cons (.forget _) ?_
 ·have h : ¬ ((o.kind ≠ 1 ∧ o.kind ≠ 2) ∨ vTrim o.seen ≠ o.seen) := by
   intro h2
   have : (o.kind != 1 && o.kind != 2 || !vTrim o.seen == o.seen) = true := by simpa using h2
   rw [h] at this; simp at this
  have hkk := h
  rw [if_neg h,if_neg (show ¬ (o.seen.any fun n => decide (128 < n)) = true by rw [ha]; simp)]
  intros
  simp only [VV,pexec,binV,reduceIte]
  refine call_eq (r36At_pc o.seen o.stamp.office _) rfl ?_
  simp only [VV,pexec,xexec,binV,Nat.reduceAdd,Nat.reduceLeDiff,reduceIte]
  have hw : IntKind.i64.wrap (o.stamp.number - 1) = o.stamp.number - 1 := IntWalk.i64_in _ (by omega)
  rw [hw]
  refine ⟨fun h => ?_,fun h => ?_⟩
  ·have h : vAt o.seen o.stamp.office ≠ o.stamp.number - 1 := by simpa using h
   refine ret_end hcl (.inr rfl) (by simp only [resVs,resV,W]; rfl) (by simp only [LW]) ⟨?_,rfl⟩
   rw [if_pos h]; rfl
  have h : ¬ vAt o.seen o.stamp.office ≠ o.stamp.number - 1 := by simpa using h
  rw [if_neg h]
  refine ⟨fun h1 => ?_,fun h1 => ?_⟩
  ·have h1 : o.kind = 1 := by simpa using h1
   have hl : looked o = o.entry := by simp only [looked,h1]; rfl
   rw [if_neg (by rw [h1]; simp),hl]
   refine call_eq (r16Validate_pc o.entry hs.entry _) rfl ?_
   simp only [VV,pexec]
   exact ret_end hcl (.inr rfl) (by simp only [resVs,resV,W]; rfl) (by simp only [LW]) ⟨rfl,rfl⟩
  have h1 : o.kind = 2 := by
   simp only [not_or] at hkk
   have h1 : ¬ o.kind = 1 := by simpa using h1
   have := hkk.1
   omega
  have hl : looked o = asked o.entry := by simp only [looked,h1]; rfl
  have hbare : (decide ((0 : Int) < (o.entry.target.length : Int)) || !o.entry.author == [] || !o.entry.project == [] || o.entry.created != 0 || o.entry.origin != 0) = !bareEn o.entry := by
   have e : decide ((0 : Int) < (o.entry.target.length : Int)) = !(o.entry.target.length == 0) := by
    rw [Bool.eq_iff_iff]; simp only [decide_eq_true_eq,Bool.not_eq_true',beq_eq_false_iff_ne]; omega
   rw [e]
   simp only [bareEn,bne]
   cases o.entry.target.length == 0 <;> cases o.entry.author == [] <;> cases o.entry.project == [] <;> cases o.entry.created == 0 <;> cases o.entry.origin == 0 <;> rfl
  simp only [List.length_map]
  rw [hbare]
  refine ⟨fun h2 => ?_,fun h2 => ?_⟩
  ·have h2 : bareEn o.entry = false := by rw [Bool.not_eq_true'] at h2; exact h2
   refine ret_end hcl (.inr rfl) (by simp only [resVs,resV,W]; rfl) (by simp only [LW]) ⟨?_,rfl⟩
   rw [if_pos ⟨h1,h2⟩]; rfl
  have h2 : bareEn o.entry = true := by rw [Bool.not_eq_false'] at h2; exact h2
  rw [if_neg (by rw [h2]; simp)]
  refine call_eq (r36Asked_pc o.entry _) rfl ?_
  simp only [VV]
  have hsl2 := looked_small hs
  rw [hl] at hsl2 ⊢
  refine call_eq (r16Validate_pc (asked o.entry) hsl2 _) rfl ?_
  simp only [VV,pexec]
  exact ret_end hcl (.inr rfl) (by simp only [resVs,resV,W]; rfl) (by simp only [LW]) ⟨rfl,rfl⟩
 ·have h : ¬ ((o.kind ≠ 1 ∧ o.kind ≠ 2) ∨ vTrim o.seen ≠ o.seen) := by
   intro h2
   have : (o.kind != 1 && o.kind != 2 || !vTrim o.seen == o.seen) = true := by simpa using h2
   rw [h] at this; simp at this
  rw [if_neg h,if_pos ha]
  intros
  simp only [VV]
  exact ret_end hcl (.inr rfl) (by simp only [resVs,resV,W]; rfl) (by simp only [LW]) ⟨rfl,rfl⟩
theorem op_looked {o : Opr} (h : opErr o = 0) : entryErr (looked o) = 0 := by
 simp only [opErr] at h
 repeat' split at h
 all_goals first | (simp at h; done) | exact h
theorem asked_small {o : Opr} (h : o.small) : (asked o.entry).small :=
 ⟨h.entry.source,h.entry.sourceT,h.entry.source,h.entry.sourceT,h.entry.previous,h.entry.next,fun x hx => h.entry.ids x (by
  simp only [asked,List.mem_append] at hx ⊢
  rcases hx with hx | hx <;> exact .inl hx)⟩
theorem r36KeyOf_pc (o : Opr) (hs : o.small) (σ : Store) : PC Tryz.prog 24 [.agg o.cells] σ (fun r σ' => r = .s (opKey o) ∧ σ' = σ) := by
 refine PC.intro Tryz.func24 c24 fun hcl hwf => wpc_sound ?_
 simp only [p24,List.length_cons,List.length_nil,List.replicate,List.cons_append,List.nil_append,Nat.reduceAdd,Nat.reduceSub]
 simp only [Opr.cells,Stamp.cells,En.cells,VV,Int.reduceBEq,Int.reduceBNe,pexec,xexec,binV,Nat.reduceAdd,Nat.reduceSub,Nat.reduceLeDiff,Nat.reduceEqDiff,Int.reduceToNat,reduceIte,reduceCtorEq]
 refine call_eq (r36ValidateOp_pc o hs _) rfl ?_
 simp only [VV,Int.reduceBEq,Int.reduceBNe,pexec,xexec,binV,Nat.reduceAdd,Nat.reduceSub,Nat.reduceLeDiff,Nat.reduceEqDiff,Int.reduceToNat,reduceIte,reduceCtorEq]
 refine ⟨fun h => ?_,fun h => ?_⟩
 ·have h : opErr o ≠ 0 := by simpa using h
  refine ret_end hcl (.inr rfl) (by simp only [resVs,resV,W]; rfl) (by simp only [LW]) ⟨?_,rfl⟩
  simp only [opKey,h,ne_eq,not_false_eq_true,if_true]; rfl
 ·have h : opErr o = 0 := by simpa using h
  refine call_eq (r36Asked_pc o.entry _) rfl ?_
  simp only [VV,Int.reduceBEq,Int.reduceBNe,pexec,xexec,binV,Nat.reduceAdd,Nat.reduceSub,Nat.reduceLeDiff,Nat.reduceEqDiff,Int.reduceToNat,reduceIte,reduceCtorEq]
  refine call_eq (r16Key_pc (asked o.entry) (asked_small hs) _) rfl ?_
  simp only [VV,Int.reduceBEq,Int.reduceBNe,pexec,xexec,binV,Nat.reduceAdd,Nat.reduceSub,Nat.reduceLeDiff,Nat.reduceEqDiff,Int.reduceToNat,reduceIte,reduceCtorEq]
  refine ret_end hcl (.inr rfl) (by simp only [resVs,resV,W]; rfl) (by simp only [LW]) ⟨?_,rfl⟩
  rw [opKey_asked h (op_looked h)]; rfl
theorem place_pc (x n : Int) (hn : 0 < n) (h2 : n < 2 ^ 62) (σ : Store) : PC Tryz.prog 12 [.i .i64 x,.i .i64 n] σ (fun r σ' => r = .i .i64 (place x n) ∧ σ' = σ) := by
 refine PC.intro Tryz.func12 c12 fun hcl hwf => wpc_sound ?_
 simp only [p12,List.length_cons,List.length_nil,List.replicate,List.cons_append,List.nil_append,Nat.reduceAdd,Nat.reduceSub]
 simp only [VV,pexec,binV,reduceIte]
 refine ⟨by omega,fun h => ?_,fun h => ?_⟩
 ·have h : x.tmod n < 0 := by simpa using h
  have hr := place_range (x := x) hn
  have e : place x n = x.tmod n + n := by simp only [place,if_pos h]
  refine ret_end0 (.inr rfl) rfl ⟨?_,rfl⟩
  rw [e] at hr ⊢
  simp only [Pm.one,List.getD_cons_zero,List.getD_cons_succ]
  rw [IntWalk.i64_in _ (by omega)]
 ·have h : ¬ x.tmod n < 0 := by simpa using h
  have e : place x n = x.tmod n := by simp only [place,if_neg h]
  exact ret_end0 (.inr rfl) rfl ⟨by rw [e]; rfl,rfl⟩
def nst (S : Store) (a : Nat) (l : List Int) (k : Nat) : Store := S.set a (.box 83 [.sl 1 (l.map iRow),.i .i64 k])
theorem nst_len (S : Store) (a : Nat) (l : List Int) (k : Nat) : (nst S a l k).length = S.length := by simp [nst]
theorem nst_app {S : Store} {a : Nat} {l : List Int} {k : Nat} {loc : Store} (h : a < S.length) : nst S a l k ++ loc = nst (S ++ loc) a l k := by
 simp only [nst]; rw [List.set_append_left _ _ h]
theorem nst_get {S : Store} {a : Nat} {l : List Int} {k : Nat} (h : a < S.length) : (nst S a l k)[a]? = some (.box 83 [.sl 1 (l.map iRow),.i .i64 k]) := by
 simp [nst,h]
theorem nst_set {S : Store} {a : Nat} {l : List Int} {k k' : Nat} : (nst S a l k).set a (.box 83 [.sl 1 (l.map iRow),.i .i64 (k' : Int)]) = nst S a l k' := by
 simp [nst]
theorem next_pc (S : Store) (a : Nat) (ha : a < S.length) (l : List Int) (k : Nat) (hk : k < 2 ^ 60) (n : Int) (hn : 0 < n) (hn2 : n < 2 ^ 62) :
  PC Tryz.prog 48 [.ptr a 0,.i .i64 n] (nst S a l k) (fun r σ' => ∃ v : Int,r = .i .i64 v ∧ (0 ≤ v ∧ v < n) ∧ σ' = nst S a l (k + 1)) := by
 refine PC.intro Tryz.func48 c48 fun hcl hwf => wpc_sound ?_
 simp only [p48,List.length_cons,List.length_nil,List.replicate,List.cons_append,List.nil_append,Nat.reduceAdd,Nat.reduceSub]
 have hw : IntKind.i64.wrap ((k : Int) + 1) = ((k + 1 : Nat) : Int) := wrap_succ (by omega)
 by_cases h : k < l.length
 ·have hd : decide ((k : Int) < (l.length : Int)) = true := by simp; omega
  simp only [nst_get ha,List.length_map,hd,hw,nst_set,Int.toNat_natCast,at2_iRow h,VV,pexec,xexec,binV,Nat.reduceAdd,reduceIte,reduceCtorEq]
  refine ⟨by omega,?_⟩
  refine call_eq (place_pc (l.getD k 0) n hn hn2 _) rfl ?_
  simp only [VV,pexec]
  exact ret_wk (.inr rfl) rfl (Wk.refl _ _) rfl ⟨_,rfl,place_range hn,rfl⟩
 ·have hd : decide ((k : Int) < (l.length : Int)) = false := by simp; omega
  simp only [nst_get ha,List.length_map,hd,hw,nst_set,VV,pexec,xexec,binV,Nat.reduceAdd,reduceIte,reduceCtorEq]
  refine call_eq (place_pc 0 n hn hn2 _) rfl ?_
  simp only [VV,pexec]
  exact ret_wk (.inr rfl) rfl (Wk.refl _ _) rfl ⟨_,rfl,place_range hn,rfl⟩
def genWords : List (List UInt8) := [[114,101,100],[99,97,114],[82,101,100],[97],[99,97,114,115],[49,44,53],[50,50],[100,111,110,39,116],[46],[33],[32],[32,32],[60],[38],[123],[34],[92],[120,45,121],[10],[61],[125],[62],[9],[98]]
theorem strs_at {ws : List (List UInt8)} {n : Nat} (h : n < ws.length) : ∃ w ∈ ws,at2 (ws.map fun s => [V.s s]) n 0 = some (V.s w) := by
 refine ⟨ws[n],List.getElem_mem h,?_⟩
 simp [at2,h]
theorem word_pc (S : Store) (a : Nat) (ha : a < S.length) (l : List Int) (k : Nat) (hk : k < 2 ^ 60) :
  PC Tryz.prog 157 [.ptr a 0] (nst S a l k) (fun r σ' => ∃ w : List UInt8,r = .s w ∧ w ∈ genWords ∧ σ' = nst S a l (k + 1)) := by
 refine PC.intro Tryz.func157 c157 fun hcl hwf => wpc_sound ?_
 simp only [p157,List.length_cons,List.length_nil,List.replicate,List.cons_append,List.nil_append,Nat.reduceAdd,Nat.reduceSub]
 simp only [VV,pexec]
 refine call_ex (next_pc S a ha l k hk 24 (by decide) (by decide)) rfl ?_
 rintro _ _ ⟨v,rfl,hv,rfl⟩
 obtain ⟨w,hw,e⟩ := strs_at (ws := genWords) (n := v.toNat) (by simp [genWords]; omega)
 simp only [genWords,List.map_cons,List.map_nil] at e
 simp only [e,VV,pexec,Nat.reduceAdd,reduceIte]
 refine ⟨by omega,?_⟩
 exact ret_wk (.inr rfl) rfl (Wk.refl _ _) rfl ⟨w,rfl,hw,rfl⟩
theorem word_len {w : List UInt8} (h : w ∈ genWords) : w.length ≤ 5 := by
 revert w; decide
theorem loop121 (S : Store) (a : Nat) (ha : a < S.length) (l : List Int) {K : Exit → St → Prop} (k0 : Nat) (hk0 : k0 < 2 ^ 59) (n : Nat) (hn : n < 2 ^ 20) : ∀ (m k : Nat) (out : List UInt8),m ≤ n → k ≤ k0 + 2 * (n - m) → out.length ≤ 6 * (n - m) →
  (∀ (k : Nat) (out : List UInt8),k ≤ k0 + 2 * n → out.length ≤ 6 * n → (∀ j0 j1 j2 j3 j4 j6 j7 j8 j9 j10 j11 j12 j13 j14 j15 j16 j17 j18 j19 j20 j21 j22 j23 j24 j25 j26 j27 j28 j29 j30,K (.exit 0) ⟨[j0,j1,j2,j3,j4,.s out,j6,j7,j8,j9,j10,j11,j12,j13,j14,j15,j16,j17,j18,j19,j20,j21,j22,j23,j24,j25,j26,j27,j28,j29,j30],nst S a l k⟩)) →
  Rnd S.length Tryz.prog p121_0 K (m + 1) ⟨[.ptr a 0,.u,.u,.u,.u,.s out,.i .i64 m,.u,.u,.u,.u,.u,.u,.u,.u,.u,.u,.u,.u,.u,.u,.u,.u,.u,.u,.u,.u,.u,.u,.u,.u],nst S a l k⟩ := by
 intro m
 induction m with
 | zero =>
  intro k out hm hk ho h1
  refine rnd_step fun R hR => ?_
  simp only [p121_0,VV,pexec,binV,reduceIte]
  exact ⟨fun h => by simp at h,fun _ => h1 k out (by omega) (by omega) ..⟩
 | succ m ih =>
  intro k out hm hk ho h1
  have hw : IntKind.i64.wrap (((m + 1 : Nat) : Int) - 1) = (m : Int) := by rw [IntWalk.i64_in _ (by omega)]; omega
  refine rnd_step fun R hR => ?_
  simp only [p121_0,VV,pexec,binV,reduceIte]
  refine ⟨fun _ => ?_,fun h => by simp at h <;> omega⟩
  refine call_ex (word_pc S a ha l k (by omega)) rfl ?_
  rintro _ _ ⟨w,rfl,hww,rfl⟩
  have hwl := word_len hww
  simp only [VV,pexec,binV]
  by_cases hne : out = []
  ·have e1 : (!out == []) = false := by simp [hne]
   refine callg_ex (Q := fun _ _ => True) (c := false) (by simp only [e1,VV] <;> rfl) (fun h => by simp at h) rfl (fun h => by simp at h) fun _ => ⟨.i .i64 0,?_⟩
   simp only [e1,hw,VV,pexec,binV,reduceIte,reduceCtorEq]
   refine ⟨by simp only [maxLen]; omega,?_⟩
   refine hR _ (rnd_cvs ?_ (ih (k + 1) (out ++ w) (by omega) (by omega) (by rw [List.length_append]; omega) h1))
   repeat first | exact .nil | refine .cons (.refl _) ?_ | refine .cons (.forget _) ?_
  ·have e1 : (!out == []) = true := by simp [hne]
   refine callg_ex (c := true) (by simp only [e1,VV] <;> rfl) (fun _ => next_pc S a ha l (k + 1) (by omega) 3 (by decide) (by decide)) rfl ?_ (fun h => by simp at h)
   rintro _ _ _ ⟨v,rfl,hv,rfl⟩
   simp only [e1,hw,VV,pexec,binV,reduceIte]
   refine ⟨fun h => ⟨by simp only [maxLen]; omega,by simp only [maxLen,List.length_append,List.length_cons,List.length_nil]; omega,?_⟩,fun h => ⟨by simp only [maxLen]; omega,?_⟩⟩
   ·refine hR _ (rnd_cvs ?_ (ih (k + 1 + 1) (out ++ 32 :: w) (by omega) (by omega) (by rw [List.length_append,List.length_cons]; omega) h1))
    repeat first | exact .nil | refine .cons (.refl _) ?_ | refine .cons (.forget _) ?_
   ·refine hR _ (rnd_cvs ?_ (ih (k + 1 + 1) (out ++ w) (by omega) (by omega) (by rw [List.length_append]; omega) h1))
    repeat first | exact .nil | refine .cons (.refl _) ?_ | refine .cons (.forget _) ?_
theorem line_pc (S : Store) (a : Nat) (ha : a < S.length) (l : List Int) (k : Nat) (hk : k < 2 ^ 58) (n : Nat) (hn : n < 2 ^ 20) :
  PC Tryz.prog 121 [.ptr a 0,.i .i64 n] (nst S a l k) (fun r σ' => ∃ (s : List UInt8) (k' : Nat),r = .s s ∧ s.length ≤ 6 * n ∧ k' ≤ k + 2 * n + 1 ∧ σ' = nst S a l k') := by
 refine PC.intro Tryz.func121 c121 fun hcl hwf => wpc_sound ?_
 have hw : IntKind.i64.wrap ((n : Int) + 1) = ((n + 1 : Nat) : Int) := wrap_succ (by omega)
 simp only [p121,List.length_cons,List.length_nil,List.replicate,List.cons_append,List.nil_append,Nat.reduceAdd,Nat.reduceSub]
 simp only [hw,VV,pexec,binV,reduceIte]
 refine call_ex (next_pc S a ha l k (by omega) ((n + 1 : Nat) : Int) (by omega) (by omega)) rfl ?_
 rintro _ _ ⟨v,rfl,hv,rfl⟩
 obtain ⟨m,rfl⟩ : ∃ m : Nat,v = m := ⟨v.toNat,by omega⟩
 simp only [nst_len,VV,pexec]
 refine PWc.rnd_cvs ?_ (m + 1) (loop121 S a ha l (k + 1) (by omega) m (by omega) m (k + 1) [] (Nat.le_refl _) (by omega) (by simp) ?_)
 ·repeat first | exact .nil | refine .cons (.refl _) ?_ | refine .cons (.forget _) ?_
 intro k' out h1 h2
 intros
 simp only [VV,pexec]
 exact ret_wk (.inr rfl) rfl (Wk.refl _ _) (by simp [nst_len]) ⟨out,k',rfl,by omega,by omega,rfl⟩
theorem nb0 {S : Store} {a : Nat} {l : List Int} {k : Nat} {loc : Store} : (nst S a l k ++ loc)[S.length]? = loc[0]? := by
 rw [List.getElem?_append_right (by rw [nst_len]; exact Nat.le_refl _),nst_len,Nat.sub_self]
theorem nb {S : Store} {a : Nat} {l : List Int} {k j : Nat} {loc : Store} : (nst S a l k ++ loc)[S.length + j]? = loc[j]? := by
 rw [List.getElem?_append_right (by rw [nst_len]; omega),nst_len,Nat.add_sub_cancel_left]
theorem nbs0 {S : Store} {a : Nat} {l : List Int} {k : Nat} {loc : Store} {o : Ob} : (nst S a l k ++ loc).set S.length o = nst S a l k ++ loc.set 0 o := by
 rw [List.set_append_right _ _ (by rw [nst_len]; exact Nat.le_refl _),nst_len,Nat.sub_self]
theorem nbs {S : Store} {a : Nat} {l : List Int} {k j : Nat} {loc : Store} {o : Ob} : (nst S a l k ++ loc).set (S.length + j) o = nst S a l k ++ loc.set j o := by
 rw [List.set_append_right _ _ (by rw [nst_len]; omega),nst_len,Nat.add_sub_cancel_left]
theorem nst_closed {S : Store} {a : Nat} {l : List Int} {k k' : Nat} (h : Closed (nst S a l k)) : Closed (nst S a l k') := by
 intro id T cs hid j x hx
 by_cases e : a = id
 ·subst e
  simp only [nst] at hid
  rw [List.getElem?_set] at hid
  simp only [if_true] at hid
  split at hid
  ·simp only [Option.some.injEq,Ob.box.injEq] at hid
   obtain ⟨_,rfl⟩ := hid
   rcases j with _ | _ | j
   ·simp only [List.getElem?_cons_zero,Option.some.injEq] at hx; subst hx; exact .sl _ _
   ·simp only [List.getElem?_cons_succ,List.getElem?_cons_zero,Option.some.injEq] at hx; subst hx; exact .i _ _
   ·simp at hx
  ·simp at hid
 ·have e1 : (nst S a l k)[id]? = some (.box T cs) := by
   simp only [nst] at hid ⊢
   rw [List.getElem?_set_ne e] at hid ⊢; exact hid
  have := h id T cs e1 j x hx
  rw [nst_len] at this ⊢; exact this
theorem next_at (S : Store) (a : Nat) (ha : a < S.length) (l : List Int) (k : Nat) (hk : k < 2 ^ 60) (n : Int) (hn : 0 < n) (hn2 : n < 2 ^ 62) (loc : Store) :
  PC Tryz.prog 48 [.ptr a 0,.i .i64 n] (nst S a l k ++ loc) (fun r σ' => ∃ v : Int,r = .i .i64 v ∧ (0 ≤ v ∧ v < n) ∧ σ' = nst S a l (k + 1) ++ loc) := by
 rw [nst_app ha]
 refine (next_pc (S ++ loc) a (by rw [List.length_append]; omega) l k hk n hn hn2).mono ?_
 rintro r σ' ⟨v,h1,h2,h3⟩
 exact ⟨v,h1,h2,by rw [h3,nst_app ha]⟩
theorem line_at (S : Store) (a : Nat) (ha : a < S.length) (l : List Int) (k : Nat) (hk : k < 2 ^ 58) (n : Nat) (hn : n < 2 ^ 20) (loc : Store) :
  PC Tryz.prog 121 [.ptr a 0,.i .i64 n] (nst S a l k ++ loc) (fun r σ' => ∃ (s : List UInt8) (k' : Nat),r = .s s ∧ s.length ≤ 6 * n ∧ k' ≤ k + 2 * n + 1 ∧ σ' = nst S a l k' ++ loc) := by
 rw [nst_app ha]
 refine (line_pc (S ++ loc) a (by rw [List.length_append]; omega) l k hk n hn).mono ?_
 rintro r σ' ⟨s,k',h1,h2,h3,h4⟩
 exact ⟨s,k',h1,h2,h3,by rw [h4,nst_app ha]⟩
theorem normStep_len1 {f : List It} (x : It) (h : itemsErr [] f = 0) : textLen (normalize (f ++ [x])) ≤ textLen f + x.text.length ∧ (normalize (f ++ [x])).length ≤ f.length + 1 := by
 rw [normalize_snoc (norm_valid h)]
 exact normStep_bound f x
def tgtWords (t : List UInt8) : List (List UInt8) := [[114,111,116],[100,97,115,32,65,117,116,111],[],[101,105,110,32] ++ t,t]
theorem tgtWords_len {t w : List UInt8} (h : w ∈ tgtWords t) : w.length ≤ t.length + 8 := by
 simp only [tgtWords,List.mem_cons,List.not_mem_nil,or_false] at h
 rcases h with rfl | rfl | rfl | rfl | rfl <;> simp
theorem loop97 (S : Store) (a : Nat) (ha : a < S.length) (l : List Int) {K : Exit → St → Prop} (k0 : Nat) (hk0 : k0 < 2 ^ 50) (hcl : Closed (nst S a l k0)) (src : List It) (hsrc : itemsErr [] src = 0) (hlen : src.length ≤ 100) (htx : textLen src ≤ 10000) :
  ∀ (rest pre f : List It) (k : Nat),src = pre ++ rest → Tgt pre f → f.length ≤ 2 * pre.length → textLen f ≤ textLen pre + 20 * pre.length → k ≤ k0 + 10 * pre.length →
  (∀ (k : Nat) (f : List It),Tgt src f → f.length ≤ 2 * src.length → textLen f ≤ textLen src + 20 * src.length → k ≤ k0 + 10 * src.length → (∀ j0 j1 j2 j3 j4 j6 j7 j8 j9 j10 j11 j12 j13 j14 j15 j16 j17 j18 j19 j20 j21 j22 j23 j24 j25 j26 j27 j28 j29 j30 j31 j32 j33 j34 j35 j36 j37 j38 j39 j40 j41 j42 j43 j44 j45,K (.exit 0) ⟨[j0,j1,j2,j3,j4,.sl 3 (f.map It.cells),j6,j7,j8,j9,j10,j11,j12,j13,j14,j15,j16,j17,j18,j19,j20,j21,j22,j23,j24,j25,j26,j27,j28,j29,j30,j31,j32,j33,j34,j35,j36,j37,j38,j39,j40,j41,j42,j43,j44,j45],nst S a l k⟩)) →
  Rnd S.length Tryz.prog p97_0 K (rest.length + 1) ⟨[.ptr a 0,.sl 3 (src.map It.cells),.u,.u,.u,.sl 3 (f.map It.cells),.u,.u,.u,.i .i64 src.length,.i .i64 pre.length,.u,.u,.u,.u,.u,.u,.u,.u,.u,.u,.u,.u,.u,.u,.u,.u,.u,.u,.u,.u,.u,.u,.u,.u,.u,.u,.u,.u,.u,.u,.u,.u,.u,.u,.u],nst S a l k⟩ := by
 intro rest
 induction rest with
 | nil =>
  intro pre f k he hT hfl hft hk h1
  have he : src = pre := by simpa using he
  subst he
  refine rnd_step fun R hR => ?_
  simp only [p97_0,VV,pexec,xexec,binV,Nat.reduceAdd,reduceIte]
  exact ⟨fun h => by simp at h,fun _ => h1 k f hT hfl hft hk ..⟩
 | cons x rest ih =>
  intro pre f k he hT hfl hft hk h1
  subst he
  have hxt : textLen (pre ++ x :: rest) = textLen pre + (x.text.length + textLen rest) := by rw [textLen_append]; rfl
  have hpt : textLen (pre ++ [x]) = textLen pre + x.text.length := by rw [textLen_append]; simp [textLen]
  have hpl : (pre ++ [x]).length = pre.length + 1 := by simp
  have hsl : (pre ++ x :: rest).length = pre.length + (rest.length + 1) := by simp
  have hw : IntKind.i64.wrap ((pre.length : Int) + 1) = (((pre ++ [x]).length : Nat) : Int) := by
   rw [wrap_succ (by omega),hpl]
  have hla : (0 : Int) ≤ pre.length ∧ (pre.length : Int) < (List.map It.cells (pre ++ x :: rest)).length := by simp; omega
  refine rnd_step fun R hR => ?_
  have fin : ∀ (g : List It) (k' : Nat) (fr : List V) (loc : Store),Tgt (pre ++ [x]) g → g.length ≤ f.length + 2 → textLen g ≤ textLen f + x.text.length + 20 → k' ≤ k + 10 →
    Cvs fr [.ptr a 0,.sl 3 ((pre ++ x :: rest).map It.cells),.u,.u,.u,.sl 3 (g.map It.cells),.u,.u,.u,.i .i64 (pre ++ x :: rest).length,.i .i64 (pre ++ [x]).length,.u,.u,.u,.u,.u,.u,.u,.u,.u,.u,.u,.u,.u,.u,.u,.u,.u,.u,.u,.u,.u,.u,.u,.u,.u,.u,.u,.u,.u,.u,.u,.u,.u,.u,.u] → R ⟨fr,nst S a l k' ++ loc⟩ := by
   intro g k' fr loc g1 g2 g3 g4 hc
   refine hR _ (rnd_back (by rw [nst_len]; exact Nat.le_refl _) (nst_closed hcl) hc ?_ (ih (pre ++ [x]) g k' (by simp) g1 (by omega) (by omega) (by omega) h1))
   simp only [nst_len,ha,LW]
  by_cases hk1 : x.kind = 1
  ·have e1 : (x.kind == 1) = true := by simp [hk1]
   simp only [p97_0,Int.toNat_natCast,It.cells,e1,nst_len,nb0,nbs0,VV,pexec,xexec,binV,Nat.reduceAdd,reduceIte,reduceCtorEq]
   refine ⟨fun _ => ⟨hla,by simp only [maxLen]; omega,?_⟩,fun h => by simp at h <;> omega⟩
   refine call_ex (next_at S a ha l k (by omega) 5 (by decide) (by decide) _) rfl ?_
   rintro _ _ ⟨v,rfl,hv,rfl⟩
   obtain ⟨w,hww,ew⟩ := strs_at (ws := tgtWords x.text) (n := v.toNat) (by simp [tgtWords]; omega)
   have hwl := tgtWords_len hww
   simp only [tgtWords,List.map_cons,List.map_nil,List.cons_append,List.nil_append] at ew
   simp only [ew,nb0,nbs0,VV,pexec,xexec,binV,Nat.reduceAdd,Nat.reduceLeDiff,reduceIte]
   refine ⟨by omega,?_⟩
   have hx0 : x.id = 0 := by
    rw [itemsErr_append,itemsErr_cons] at hsrc
    exact (fine_text hk1 hsrc.2.1).2.1
   have hb := normStep_len1 ⟨1,w,0⟩ hT.err
   refine call_cv (zs := [.sl 3 (f.map It.cells),.sl 3 ([(⟨1,w,0⟩ : It)].map It.cells)]) ?_ (r3Concat_pc f [⟨1,w,0⟩] (by omega) (by simp) (by omega) (by simp [textLen]; omega) _) ?_
   ·simp only [hk1,hx0]
    exact .cons (.refl _) (.cons (.lit _ _) .nil)
   ·simp only [hw,VV,pexec,binV,reduceIte]
    refine fin _ _ _ _ (hT.text hk1 w) (by omega) (by simp only at hb; omega) (by omega) ?_
    repeat first | exact .nil | refine .cons (.refl _) ?_ | refine .cons (.forget _) ?_
  ·have e1 : (x.kind == 1) = false := by simpa using hk1
   simp only [p97_0,Int.toNat_natCast,It.cells,e1,nst_len,nb0,nbs0,VV,pexec,xexec,binV,Nat.reduceAdd,reduceIte,reduceCtorEq]
   refine ⟨fun _ => ⟨hla,?_⟩,fun h => by simp at h <;> omega⟩
   refine call_ex (next_at S a ha l k (by omega) 3 (by decide) (by decide) _) rfl ?_
   rintro _ _ ⟨v,rfl,hv,rfl⟩
   have hex : (⟨x.kind,x.text,x.id⟩ : It) = x := rfl
   by_cases hv0 : v = 0
   ·have e2 : (v == 0) = true := by simp [hv0]
    simp only [e2,nb0,VV,pexec,binV,Nat.reduceAdd,reduceIte,reduceCtorEq]
    refine call_ex (line_at S a ha l (k + 1) (by omega) 2 (by decide) _) rfl ?_
    rintro _ _ ⟨t,k',rfl,ht,hk',rfl⟩
    have hb := normStep_len1 ⟨1,t,0⟩ hT.err
    simp only at hb
    have hT2 := hT.more t
    have hb2 := normStep_len1 x hT2.err
    simp only [VV,pexec,Nat.reduceAdd,Nat.reduceLeDiff,reduceIte]
    refine call_cv (zs := [.sl 3 (f.map It.cells),.sl 3 ([(⟨1,t,0⟩ : It)].map It.cells)]) (.cons (.refl _) (.cons (.lit _ _) .nil)) (r3Concat_pc f [⟨1,t,0⟩] (by omega) (by simp) (by omega) (by simp [textLen]; omega) _) ?_
    simp only [nb0,VV,pexec,Nat.reduceAdd]
    refine call_cv (zs := [.sl 3 ((normalize (f ++ [(⟨1,t,0⟩ : It)])).map It.cells),.sl 3 ([x].map It.cells)]) (.cons (.refl _) (.cons (.lit _ _) .nil)) (r3Concat_pc _ [x] (by omega) (by simp) (by omega) (by simp [textLen]; omega) _) ?_
    simp only [hw,VV,pexec,binV,reduceIte]
    refine fin _ _ _ _ (hT2.item hsrc hk1) (by omega) (by omega) (by omega) ?_
    repeat first | exact .nil | refine .cons (.refl _) ?_ | refine .cons (.forget _) ?_
   ·have e2 : (v == 0) = false := by simpa using hv0
    have hb2 := normStep_len1 x hT.err
    simp only [e2,nb0,VV,pexec,binV,Nat.reduceAdd,reduceIte,reduceCtorEq]
    refine call_cv (zs := [.sl 3 (f.map It.cells),.sl 3 ([x].map It.cells)]) (.cons (.refl _) (.cons (.lit _ _) .nil)) (r3Concat_pc f [x] (by omega) (by simp) (by omega) (by simp [textLen]; omega) _) ?_
    simp only [hw,VV,pexec,binV,reduceIte]
    refine fin _ _ _ _ (hT.item hsrc hk1) (by omega) (by omega) (by omega) ?_
    repeat first | exact .nil | refine .cons (.refl _) ?_ | refine .cons (.forget _) ?_
theorem target_pc (S : Store) (a : Nat) (ha : a < S.length) (l : List Int) (k : Nat) (hk : k < 2 ^ 50) (src : List It) (hsrc : itemsErr [] src = 0) (hlen : src.length ≤ 100) (htx : textLen src ≤ 10000) :
  PC Tryz.prog 97 [.ptr a 0,.sl 3 (src.map It.cells)] (nst S a l k) (fun r σ' => ∃ (f : List It) (k' : Nat),r = .sl 3 (f.map It.cells) ∧ itemsErr [] f = 0 ∧ f.length ≤ 2 * src.length ∧ textLen f ≤ textLen src + 20 * src.length ∧ k' ≤ k + 10 * src.length ∧ σ' = nst S a l k') := by
 refine PC.intro Tryz.func97 c97 fun hcl hwf => wpc_sound ?_
 simp only [p97,List.length_cons,List.length_nil,List.replicate,List.cons_append,List.nil_append,Nat.reduceAdd,Nat.reduceSub]
 simp only [List.length_map,nst_len,VV,pexec]
 refine PWc.rnd_cvs (fr' := [.ptr a 0,.sl 3 (src.map It.cells),.u,.u,.u,.sl 3 (([] : List It).map It.cells),.u,.u,.u,.i .i64 src.length,.i .i64 (([] : List It).length : Nat),.u,.u,.u,.u,.u,.u,.u,.u,.u,.u,.u,.u,.u,.u,.u,.u,.u,.u,.u,.u,.u,.u,.u,.u,.u,.u,.u,.u,.u,.u,.u,.u,.u,.u,.u]) ?_ (src.length + 1) (loop97 S a ha l k hk hcl src hsrc hlen htx src [] [] k rfl Tgt.nil (by simp) (by simp [textLen]) (by simp) ?_)
 ·simp only [List.map_nil,List.length_nil]
  repeat first | exact .nil | refine .cons (.refl _) ?_ | refine .cons (.nil _) ?_ | refine .cons (.forget _) ?_
 intro k' f hT h1 h2 h3
 intros
 simp only [VV,pexec]
 exact ret_wk (.inr rfl) rfl (Wk.refl _ _) (by simp [nst_len]) ⟨f,k',rfl,hT.err,h1,h2,h3,rfl⟩
theorem r3Normalize_own (its : List It) (hlen : its.length < 2 ^ 40) (ht : textLen its < 2 ^ 40) (σ : Store) : PC Tryz.prog 158 [.sl 3 (its.map It.cells)] σ (fun r σ' => r = .own σ.length 0 ∧ σ' = σ ++ [.row 23 3 32 0 false ((normalize its).map It.cells)]) := by
 refine PC.intro Tryz.func158 c158 fun hcl hwf => wpc_sound ?_
 simp only [p158,List.length_cons,List.length_nil,List.replicate,List.cons_append,List.nil_append,Nat.reduceAdd,Nat.reduceSub]
 simp only [List.length_map,VV,pexec]
 refine PWc.wk ((Wk.promote (k := 3) ti_it rfl).trans (Wk.cvs ?_)) (PWc.rnd (its.length + 1) (loop158 its hcl hlen ht its [] [] 0 rfl (Nat.le_refl _) (Nat.le_refl _) ?_))
 ·simp only [VV]
  repeat first | exact .nil | refine .cons (.refl _) ?_ | refine .cons (.forget _) ?_
 ·intro g
  intros
  simp only [VV,pexec]
  have e : its.foldl normStep [] = normalize its := normFold_eq its
  rw [e]
  exact ret_own 0 hcl (.inr rfl) rfl rfl rfl (by simp [mvOK,Ob.gen]) (by simp [Pm.one,mv1,Ob.fresh])
theorem r3Concat_own (a b : List It) (ha : a.length < 2 ^ 39) (hb : b.length < 2 ^ 39) (hat : textLen a < 2 ^ 39) (hbt : textLen b < 2 ^ 39) (σ : Store) : PC Tryz.prog 123 [.sl 3 (a.map It.cells),.sl 3 (b.map It.cells)] σ (fun r σ' => r = .own σ.length 0 ∧ σ' = σ ++ [.row 23 3 32 0 false ((normalize (a ++ b)).map It.cells)]) := by
 refine PC.intro Tryz.func123 c123 fun hcl hwf => wpc_sound ?_
 simp only [p123,List.length_cons,List.length_nil,List.replicate,List.cons_append,List.nil_append,Nat.reduceAdd,Nat.reduceSub]
 simp only [List.length_map,VV,pexec,xexec,reduceIte]
 refine ⟨by simp [maxLen]; omega,by simp [maxLen]; omega,?_⟩
 refine call_fz σ.length (by simp only [base_get0]; rfl) (r3Normalize_own (a ++ b) (by simp; omega) (by rw [textLen_append]; omega) _) (by simp [fz,fz1,ev]) ?_
 simp only [VV,pexec]
 exact ret_own 1 hcl (.inr rfl) rfl rfl rfl (by simp [mvOK,Ob.gen]) (by simp [Pm.one,mv1,Ob.fresh])
theorem tagName_len (s : List UInt8) : (tagName s).length ≤ s.length := (cutAt_len s 32).1
def genSlots : List (List UInt8) := [[110],[110,97,109,101],[120,49]]
def genEmpties : List (List UInt8) := [[98,114],[105,109,103,32,97]]
def genOpens : List (List UInt8) := [[98],[105],[97,32,104,61,49]]
theorem genSlots_ok : ∀ s ∈ genSlots,isName s = true ∧ s.length ≤ 5 := by decide +kernel
theorem genEmpties_ok : ∀ s ∈ genEmpties,isContent s = true ∧ s.length ≤ 5 := by decide +kernel
theorem genOpens_ok : ∀ s ∈ genOpens,isContent s = true ∧ isName (tagName s) = true ∧ s.length ≤ 5 := by decide +kernel
def itRow (g : Nat) (sh : Bool) (f : List It) : Ob := .row 23 3 32 g sh (f.map It.cells)
theorem frag_keep {S : Store} {a : Nat} {l : List Int} {k : Nat} {loc : Store} (hcl : Closed (nst S a l k)) {i j g1 g2 : Nat} {sh1 sh2 : Bool} {f o : List It} (hij : i ≠ j) (h1 : loc[i]? = some (itRow g1 sh1 f)) (h2 : loc[j]? = some (itRow g2 sh2 o))
  {xs ys : List V} (hx : Mvs S.length loc [i,j] xs ys) : Wk Tryz.prog S.length xs (nst S a l k ++ loc) ys (nst S a l k ++ [itRow 0 sh1 f,itRow 0 sh2 o]) := by
 have := Wk.keepL (P := Tryz.prog) (xs := xs) (ys := ys) (σ := nst S a l k) (loc := loc) (os := [itRow 0 sh1 f,itRow 0 sh2 o]) [i,j] hcl (by simpa using hij) rfl (fun q k' hq => by
  rcases q with _ | _ | q
  ·simp only [List.getElem?_cons_zero,Option.some.injEq] at hq; subst hq; exact ⟨_,h1,rfl,rfl⟩
  ·simp only [List.getElem?_cons_succ,List.getElem?_cons_zero,Option.some.injEq] at hq; subst hq; exact ⟨_,h2,rfl,rfl⟩
  ·simp at hq) (by rw [nst_len]; exact hx)
 rwa [nst_len] at this
set_option maxRecDepth 20000 in
theorem loop96_1 (S : Store) (a : Nat) (l : List Int) (k : Nat) {K : Exit → St → Prop} (opn : List It) (hol : opn.length ≤ 100) (hot : ∀ y ∈ opn,y.text.length ≤ 5) (id : Nat) (hid : id ≤ 100) (g2 : Nat) : ∀ (m : Nat) (cur f : List It) (g1 : Nat),cur.length = m → (∃ d,opn = cur ++ d) → Gen f cur id → f.length + m ≤ 1000 →
  (∀ (f' : List It) (g1 : Nat),itemsErr [] f' = 0 → f'.length = f.length + m → textLen f' ≤ textLen f + 5 * m → (∀ j0 j1 j2 j3 j4 j5 j6 j7 j8 j10 j11 j12 j13 j14 j15 j16 j17 j18 j19 j20 j21 j22 j23 j24 j25 j26 j27 j28 j29 j30 j31 j32 j33 j34 j35 j36 j37 j38 j39 j40 j41 j42 j43 j44 j45 j46 j47 j48 j49 j50 j51 j52 j53 j54 j55 j56 j57 j58 j59 j60 j61 j62 j63 j64 j65 j66 j67 j68 j69 j70 j71 j72 j73 j74 j75 j76 j77 j78 j79 j80 j81 j82 j83 j84 j85 j86 j87 j88 j89 j90 j91 j92 j93 j94 j95 j96 j97 j98 j99 j100 j101 j102 j103 j104 j105 j106 j107 j108 j109 j110 j111 j112 j113 j114 j115 j116 j117 j118 j119 j120 j121 j122 j123 j124 j125 j126 j127 j128 j129 j130 j131 j132 j133 j134 j135 j136 j137 j138 j139 j140,K (.exit 3) ⟨[j0,j1,j2,j3,j4,j5,j6,j7,j8,.own S.length g1,j10,j11,j12,j13,j14,j15,j16,j17,j18,j19,j20,j21,j22,j23,j24,j25,j26,j27,j28,j29,j30,j31,j32,j33,j34,j35,j36,j37,j38,j39,j40,j41,j42,j43,j44,j45,j46,j47,j48,j49,j50,j51,j52,j53,j54,j55,j56,j57,j58,j59,j60,j61,j62,j63,j64,j65,j66,j67,j68,j69,j70,j71,j72,j73,j74,j75,j76,j77,j78,j79,j80,j81,j82,j83,j84,j85,j86,j87,j88,j89,j90,j91,j92,j93,j94,j95,j96,j97,j98,j99,j100,j101,j102,j103,j104,j105,j106,j107,j108,j109,j110,j111,j112,j113,j114,j115,j116,j117,j118,j119,j120,j121,j122,j123,j124,j125,j126,j127,j128,j129,j130,j131,j132,j133,j134,j135,j136,j137,j138,j139,j140],nst S a l k ++ [itRow g1 false f',itRow g2 false opn]⟩)) →
  Rnd S.length Tryz.prog p96_1 K (m + 1) ⟨[.u,.u,.u,.b true,.u,.u,.u,.u,.u,.own S.length g1,.own (S.length + 1) g2,.u,.u,.u,.u,.i .i64 ((m : Int) - 1),.u,.u,.u,.u,.u,.u,.u,.u,.u,.u,.u,.u,.u,.u,.u,.u,.u,.u,.u,.u,.u,.u,.u,.u,.u,.u,.u,.u,.u,.u,.u,.u,.u,.u,.u,.u,.u,.u,.u,.u,.u,.u,.u,.u,.u,.u,.u,.u,.u,.u,.u,.u,.u,.u,.u,.u,.u,.u,.u,.u,.u,.u,.u,.u,.u,.u,.u,.u,.u,.u,.u,.u,.u,.u,.u,.u,.u,.u,.u,.u,.u,.u,.u,.u,.u,.u,.u,.u,.u,.u,.u,.u,.u,.u,.u,.u,.u,.u,.u,.u,.u,.u,.u,.u,.u,.u,.u,.u,.u,.u,.u,.u,.u,.u,.u,.u,.u,.u,.u,.u,.u,.u,.u,.u,.u],nst S a l k ++ [itRow g1 false f,itRow g2 false opn]⟩ := by
 intro m
 induction m with
 | zero =>
  intro cur f g1 hc _ hG hf h1
  have e1 : decide ((0 : Int) ≤ ((0 : Nat) : Int) - 1) = false := rfl
  refine rnd_step fun R hR => ?_
  simp only [p96_1,e1,VV,pexec,binV,reduceIte,reduceCtorEq]
  exact h1 f g1 hG.err (by omega) (by omega) ..
 | succ m ih =>
  intro cur f g1 hc hpre hG hf h1
  obtain ⟨d,hopn⟩ := hpre
  rcases List.eq_nil_or_concat cur with h0 | ⟨cur',y,h0⟩
  ·subst h0; simp at hc
  rw [List.concat_eq_append] at h0
  subst h0
  have hc' : cur'.length = m := by simpa using hc
  subst hc'
  rw [List.append_assoc,List.singleton_append] at hopn
  have e0 : ((cur'.length + 1 : Nat) : Int) - 1 = (cur'.length : Int) := by omega
  have hll : opn.length = cur'.length + (d.length + 1) := by rw [hopn]; simp
  have hw : IntKind.i64.wrap ((cur'.length : Int) - 1) = (cur'.length : Int) - 1 := IntWalk.i64_in _ (by omega)
  have hat : ∀ j,at2 (List.map It.cells opn) cur'.length j = y.cells[j]? := fun j => by rw [hopn]; exact at2_at
  have hyt := hot y (by rw [hopn]; simp)
  have htn := tagName_len y.text
  have hd : decide ((0 : Int) ≤ (cur'.length : Int)) = true := by simp
  have hin : (0 : Int) ≤ (cur'.length : Int) ∧ (cur'.length : Int) < ((List.map It.cells opn).length : Int) := ⟨by omega,by rw [List.length_map]; omega⟩
  obtain ⟨hG2,_⟩ := hG.close (by omega)
  rw [e0]
  refine rnd_step fun R hR => ?_
  simp only [p96_1,itRow,hd,Int.toNat_natCast,nb,hat,It.cells,VV,pexec,binV,reduceIte,reduceCtorEq]
  refine ⟨hin,hin,?_⟩
  refine call_eq (r3Name_pc y.text _) rfl ?_
  simp only [nb0,nb,nbs0,hat,It.cells,hw,List.length_map,VV,pexec,xexec,binV,Nat.reduceAdd,Nat.reduceLeDiff,reduceIte]
  refine ⟨by omega,⟨by omega,by simp only [maxLen]; omega⟩,?_⟩
  have e3 : f.map It.cells ++ [[V.i .i64 3,.s (tagName y.text),.i .i64 y.id]] = (f ++ [(⟨3,tagName y.text,y.id⟩ : It)]).map It.cells := by simp [It.cells]
  rw [e3]
  have ht3 : textLen (f ++ [⟨3,tagName y.text,y.id⟩]) = textLen f + (tagName y.text).length := by simp [textLen_append,textLen]
  have hl3 : (f ++ [(⟨3,tagName y.text,y.id⟩ : It)]).length = f.length + 1 := by simp
  refine hR _ (rnd_cvs ?_ (ih cur' _ (g1 + 1) rfl ⟨y :: d,hopn⟩ hG2 (by omega) fun f' g' q1 q2 q3 => h1 f' g' q1 (by omega) (by omega)))
  repeat first | exact .nil | refine .cons (.refl _) ?_ | refine .cons (.forget _) ?_
set_option maxHeartbeats 4000000 in
set_option maxRecDepth 20000 in
theorem loop96_0 (S : Store) (a : Nat) (ha : a < S.length) (l : List Int) {K : Exit → St → Prop} (k0 : Nat) (hk0 : k0 < 2 ^ 50) (hcl : Closed (nst S a l k0)) (N : Nat) (hN : N ≤ 20) : ∀ (m : Nat) (k : Nat) (f opn : List It) (id g1 g2 : Nat),m ≤ N → id + m ≤ N → opn.length + m ≤ N →
  (∀ y ∈ opn,y.text.length ≤ 5) → Gen f opn id → f.length + m ≤ N → textLen f + 18 * m ≤ 18 * N → k + 12 * m ≤ k0 + 12 * N →
  (∀ (k : Nat) (f opn : List It) (id g1 g2 : Nat),id ≤ N → opn.length ≤ N → (∀ y ∈ opn,y.text.length ≤ 5) → Gen f opn id → f.length ≤ N → textLen f ≤ 18 * N → k ≤ k0 + 12 * N →
   (∀ j0 j1 j2 j4 j5 j6 j7 j8 j11 j12 j13 j14 j15 j16 j17 j18 j19 j20 j21 j22 j23 j24 j25 j26 j27 j28 j29 j30 j31 j32 j33 j34 j35 j36 j37 j38 j39 j40 j41 j42 j43 j44 j45 j46 j47 j48 j49 j50 j51 j52 j53 j54 j55 j56 j57 j58 j59 j60 j61 j62 j63 j64 j65 j66 j67 j68 j69 j70 j71 j72 j73 j74 j75 j76 j77 j78 j79 j80 j81 j82 j83 j84 j85 j86 j87 j88 j89 j90 j91 j92 j93 j94 j95 j96 j97 j98 j99 j100 j101 j102 j103 j104 j105 j106 j107 j108 j109 j110 j111 j112 j113 j114 j115 j116 j117 j118 j119 j120 j121 j122 j123 j124 j125 j126 j127 j128 j129 j130 j131 j132 j133 j134 j135 j136 j137 j138 j139 j140,K (.exit 0) ⟨[j0,j1,j2,.b true,j4,j5,j6,j7,j8,.own S.length g1,.own (S.length + 1) g2,j11,j12,j13,j14,j15,j16,j17,j18,j19,j20,j21,j22,j23,j24,j25,j26,j27,j28,j29,j30,j31,j32,j33,j34,j35,j36,j37,j38,j39,j40,j41,j42,j43,j44,j45,j46,j47,j48,j49,j50,j51,j52,j53,j54,j55,j56,j57,j58,j59,j60,j61,j62,j63,j64,j65,j66,j67,j68,j69,j70,j71,j72,j73,j74,j75,j76,j77,j78,j79,j80,j81,j82,j83,j84,j85,j86,j87,j88,j89,j90,j91,j92,j93,j94,j95,j96,j97,j98,j99,j100,j101,j102,j103,j104,j105,j106,j107,j108,j109,j110,j111,j112,j113,j114,j115,j116,j117,j118,j119,j120,j121,j122,j123,j124,j125,j126,j127,j128,j129,j130,j131,j132,j133,j134,j135,j136,j137,j138,j139,j140],nst S a l k ++ [itRow g1 false f,itRow g2 false opn]⟩)) →
  Rnd S.length Tryz.prog p96_0 K (m + 1) ⟨[.ptr a 0,.u,.b true,.b true,.u,.u,.u,.u,.u,.own S.length g1,.own (S.length + 1) g2,.i .i64 id,.i .i64 m,.u,.u,.u,.u,.u,.u,.u,.u,.u,.u,.u,.u,.u,.u,.u,.u,.u,.u,.u,.u,.u,.u,.u,.u,.u,.u,.u,.u,.u,.u,.u,.u,.u,.u,.u,.u,.u,.u,.u,.u,.u,.u,.u,.u,.u,.u,.u,.u,.u,.u,.u,.u,.u,.u,.u,.u,.u,.u,.u,.u,.u,.u,.u,.u,.u,.u,.u,.u,.u,.u,.u,.u,.u,.u,.u,.u,.u,.u,.u,.u,.u,.u,.u,.u,.u,.u,.u,.u,.u,.u,.u,.u,.u,.u,.u,.u,.u,.u,.u,.u,.u,.u,.u,.u,.u,.u,.u,.u,.u,.u,.u,.u,.u,.u,.u,.u,.u,.u,.u,.u,.u,.u,.u,.u,.u,.u,.u,.u],nst S a l k ++ [itRow g1 false f,itRow g2 false opn]⟩ := by
 intro m
 induction m with
 | zero =>
  intro k f opn id g1 g2 hm hid hop hot hG hf hft hk h1
  refine rnd_step fun R hR => ?_
  simp only [p96_0,VV,pexec,binV,reduceIte]
  exact ⟨fun h => by simp at h,fun _ => h1 k f opn id g1 g2 (by omega) (by omega) hot hG (by omega) (by omega) (by omega) ..⟩
 | succ m ih =>
  intro k f opn id g1 g2 hm hid hop hot hG hf hft hk h1
  have hw : IntKind.i64.wrap (((m + 1 : Nat) : Int) - 1) = (m : Int) := by rw [IntWalk.i64_in _ (by omega)]; omega
  refine rnd_stepW fun R hR => ?_
  simp only [p96_0]
  refine PWc.cut fun R1 hR1 => ?_
  simp only [VV,pexec,binV,reduceIte]
  refine ⟨fun _ => ?_,fun h => by simp at h <;> omega⟩
  refine hR1 _ (PWc.cvs (fr' := [.ptr a 0,.u,.b true,.b true,.u,.u,.u,.u,.u,.own S.length g1,.own (S.length + 1) g2,.i .i64 id,.i .i64 (m + 1 : Nat),.u,.u,.u,.u,.u,.u,.u,.u,.u,.u,.u,.u,.u,.u,.u,.u,.u,.u,.u,.u,.u,.u,.u,.u,.u,.u,.u,.u,.u,.u,.u,.u,.u,.u,.u,.u,.u,.u,.u,.u,.u,.u,.u,.u,.u,.u,.u,.u,.u,.u,.u,.u,.u,.u,.u,.u,.u,.u,.u,.u,.u,.u,.u,.u,.u,.u,.u,.u,.u,.u,.u,.u,.u,.u,.u,.u,.u,.u,.u,.u,.u,.u,.u,.u,.u,.u,.u,.u,.u,.u,.u,.u,.u,.u,.u,.u,.u,.u,.u,.u,.u,.u,.u,.u,.u,.u,.u,.u,.u,.u,.u,.u,.u,.u,.u,.u,.u,.u,.u,.u,.u,.u,.u,.u,.u,.u,.u,.u]) ?_ (by repeat first | exact .nil | refine .cons (.refl _) ?_ | refine .cons (.forget _) ?_))
  clear hR1 R1
  refine PWc.cutW fun R2 hR2 => PWc.blk ?_
  refine PWc.cut fun R3 hR3 => ?_
  simp only [itRow,VV,pexec]
  refine call_ex (line_at S a ha l k (by omega) 3 (by decide) _) rfl ?_
  rintro _ _ ⟨t,k1,rfl,ht,hk1,rfl⟩
  simp only [nst_len,nb,nbs,VV,pexec,xexec,Nat.reduceAdd,Nat.reduceLeDiff,reduceIte]
  refine hR3 _ (PWc.cvs (fr' := [.ptr a 0,.u,.b true,.b true,.u,.u,.u,.u,.u,.own S.length g1,.own (S.length + 1) g2,.i .i64 id,.i .i64 (m + 1 : Nat),.ptr (S.length + 2) 0,.u,.u,.u,.u,.u,.u,.u,.u,.u,.u,.u,.u,.u,.u,.u,.u,.u,.u,.u,.u,.u,.u,.u,.u,.u,.u,.u,.u,.u,.u,.u,.u,.u,.u,.u,.u,.u,.u,.u,.u,.u,.u,.u,.u,.u,.u,.u,.u,.u,.u,.u,.u,.u,.u,.u,.u,.u,.u,.u,.u,.u,.u,.u,.u,.u,.u,.u,.u,.u,.u,.u,.u,.u,.u,.u,.u,.u,.u,.u,.u,.u,.u,.u,.u,.u,.u,.u,.u,.u,.u,.u,.u,.u,.u,.u,.u,.u,.u,.u,.u,.u,.u,.u,.u,.u,.u,.u,.u,.u,.u,.u,.u,.u,.u,.u,.u,.u,.u,.u,.u,.u,.u,.u,.u,.u,.u,.u]) ?_ (by repeat first | exact .nil | refine .cons (.refl _) ?_ | refine .cons (.forget _) ?_))
  clear hR3 R3
  refine PWc.cutW fun R4 hR4 => ?_
  have tail : ∀ (x : It) (r1 : Ob) (ext : Store) (j k2 : Nat) (opn2 : List It) (id2 g2' : Nat) {fr : List V},(itRow g1 true f :: r1 :: .box 23 x.cells :: (ext ++ [itRow 0 false (normalize (f ++ [x]))]))[j]? = some (itRow g2' false opn2) → ext.length + 3 ≠ j →
    id2 + m ≤ N → opn2.length + m ≤ N → (∀ y ∈ opn2,y.text.length ≤ 5) → Gen (normalize (f ++ [x])) opn2 id2 → x.text.length ≤ 18 → k2 ≤ k + 12 →
    Cvs fr [.ptr a 0,.u,.b true,.b true,.u,.u,.u,.u,.u,.own S.length g1,.own (S.length + j) g2',.i .i64 id2,.i .i64 (m + 1 : Nat),.ptr (S.length + 2) 0,.u,.u,.u,.u,.u,.u,.u,.u,.u,.u,.u,.u,.u,.u,.u,.u,.u,.u,.u,.u,.u,.u,.u,.u,.u,.u,.u,.u,.u,.u,.u,.u,.u,.u,.u,.u,.u,.u,.u,.u,.u,.u,.u,.u,.u,.u,.u,.u,.u,.u,.u,.u,.u,.u,.u,.u,.u,.u,.u,.u,.u,.u,.u,.u,.u,.u,.u,.u,.u,.u,.u,.u,.u,.u,.u,.u,.u,.u,.u,.u,.u,.u,.u,.u,.u,.u,.u,.u,.u,.u,.u,.u,.u,.u,.u,.u,.u,.u,.u,.u,.u,.u,.u,.u,.u,.u,.u,.u,.u,.u,.u,.u,.u,.u,.u,.u,.u,.u,.u,.u,.u,.u,.u,.u,.u,.u,.u] → R4 ⟨fr,nst S a l k2 ++ (itRow g1 false f :: r1 :: .box 23 x.cells :: ext)⟩ := by
   intro x r1 ext j k2 opn2 id2 g2' fr hj hne c1 c2 c3 c4 c5 c6 hc
   have hb := normStep_len1 x hG.err
   refine hR4 _ (PWc.cvs ?_ hc)
   clear hR4 hc
   refine wpc_sound ?_
   simp only [itRow,It.cells,nb,VV,pexec,Nat.reduceAdd]
   refine call_wk (zs := [.sl 3 (f.map It.cells),.sl 3 ([x].map It.cells)]) (σ1 := nst S a l k2 ++ (itRow g1 true f :: r1 :: .box 23 x.cells :: ext)) ?_ (r3Concat_own f [x] (by omega) (by simp) (by omega) (by simp [textLen]; omega) _) ?_
   ·refine (Wk.fz S.length (E := 23) (sz := 3) (by' := 32) (g := g1) (sh := false) (rows := f.map It.cells) (by rw [nb0]; rfl)).trans ?_
    rw [nbs0]
    simp only [List.map_cons,List.map_nil,ev,List.getD_cons_zero,List.getD_cons_succ,List.set_cons_zero,fz,fz1,and_self,if_true]
    exact Wk.cvs (.cons (.refl _) (.cons (.lit _ _) .nil))
   simp only [nst_len,VV,pexec]
   refine hR2 _ (PWc.cvs (fr' := [.ptr a 0,.u,.b true,.b true,.u,.u,.u,.u,.u,.own (S.length + (ext.length + 1 + 1 + 1)) 0,.own (S.length + j) g2',.i .i64 id2,.i .i64 (m + 1 : Nat),.u,.u,.u,.u,.u,.u,.u,.u,.u,.u,.u,.u,.u,.u,.u,.u,.u,.u,.u,.u,.u,.u,.u,.u,.u,.u,.u,.u,.u,.u,.u,.u,.u,.u,.u,.u,.u,.u,.u,.u,.u,.u,.u,.u,.u,.u,.u,.u,.u,.u,.u,.u,.u,.u,.u,.u,.u,.u,.u,.u,.u,.u,.u,.u,.u,.u,.u,.u,.u,.u,.u,.u,.u,.u,.u,.u,.u,.u,.u,.u,.u,.u,.u,.u,.u,.u,.u,.u,.u,.u,.u,.u,.u,.u,.u,.u,.u,.u,.u,.u,.u,.u,.u,.u,.u,.u,.u,.u,.u,.u,.u,.u,.u,.u,.u,.u,.u,.u,.u,.u,.u,.u,.u,.u,.u,.u,.u,.u]) (wpc_sound ?_) (by repeat first | exact .nil | refine .cons (.refl _) ?_ | refine .cons (.forget _) ?_))
   simp only [hw,VV,pexec,binV,reduceIte]
   refine hR _ (rnd_wk (fr' := [.ptr a 0,.u,.b true,.b true,.u,.u,.u,.u,.u,.own (S.length + 0) 0,.own (S.length + 1) 0,.i .i64 id2,.i .i64 m,.u,.u,.u,.u,.u,.u,.u,.u,.u,.u,.u,.u,.u,.u,.u,.u,.u,.u,.u,.u,.u,.u,.u,.u,.u,.u,.u,.u,.u,.u,.u,.u,.u,.u,.u,.u,.u,.u,.u,.u,.u,.u,.u,.u,.u,.u,.u,.u,.u,.u,.u,.u,.u,.u,.u,.u,.u,.u,.u,.u,.u,.u,.u,.u,.u,.u,.u,.u,.u,.u,.u,.u,.u,.u,.u,.u,.u,.u,.u,.u,.u,.u,.u,.u,.u,.u,.u,.u,.u,.u,.u,.u,.u,.u,.u,.u,.u,.u,.u,.u,.u,.u,.u,.u,.u,.u,.u,.u,.u,.u,.u,.u,.u,.u,.u,.u,.u,.u,.u,.u,.u,.u,.u,.u,.u,.u,.u,.u]) (σ' := nst S a l k2 ++ [itRow 0 false (normalize (f ++ [x])),itRow 0 false opn2])
    ((Wk.cvs (ys := [.ptr a 0,.u,.b true,.b true,.u,.u,.u,.u,.u,.own (S.length + (ext.length + 1 + 1 + 1)) 0,.own (S.length + j) g2',.i .i64 id2,.i .i64 m,.u,.u,.u,.u,.u,.u,.u,.u,.u,.u,.u,.u,.u,.u,.u,.u,.u,.u,.u,.u,.u,.u,.u,.u,.u,.u,.u,.u,.u,.u,.u,.u,.u,.u,.u,.u,.u,.u,.u,.u,.u,.u,.u,.u,.u,.u,.u,.u,.u,.u,.u,.u,.u,.u,.u,.u,.u,.u,.u,.u,.u,.u,.u,.u,.u,.u,.u,.u,.u,.u,.u,.u,.u,.u,.u,.u,.u,.u,.u,.u,.u,.u,.u,.u,.u,.u,.u,.u,.u,.u,.u,.u,.u,.u,.u,.u,.u,.u,.u,.u,.u,.u,.u,.u,.u,.u,.u,.u,.u,.u,.u,.u,.u,.u,.u,.u,.u,.u,.u,.u,.u,.u,.u,.u,.u,.u,.u,.u]) (by repeat first | exact .nil | refine .cons (.refl _) ?_ | refine .cons (.forget _) ?_)).trans
     (frag_keep (i := ext.length + 1 + 1 + 1) (j := j) (g1 := 0) (g2 := g2') (nst_closed hcl) hne (by simp [itRow]) hj ?_)) (ih k2 (normalize (f ++ [x])) opn2 id2 0 0 (by omega) c1 c2 c3 c4 (by omega) (by omega) (by omega) h1))
   repeat first | exact .nil | refine .cons (.forget _) ?_ | refine .cons (.own 0 (ext.length + 1 + 1 + 1) 23 3 32 0 false ((normalize (f ++ [x])).map It.cells) rfl (by simp; rfl)) ?_ | refine .cons (.own 1 j 23 3 32 g2' false (opn2.map It.cells) rfl hj) ?_ | refine .cons (.keep _ (by simp only [ha,LW])) ?_
  refine PWc.cut fun R5 hR5 => ?_
  simp only [VV,pexec]
  refine call_ex (next_at S a ha l k1 (by omega) 8 (by decide) (by decide) _) rfl ?_
  rintro _ _ ⟨v,rfl,hv,rfl⟩
  simp only [VV]
  refine hR5 _ (PWc.cvs (fr' := [.ptr a 0,.u,.b true,.b true,.u,.u,.u,.u,.u,.own S.length g1,.own (S.length + 1) g2,.i .i64 id,.i .i64 (m + 1 : Nat),.ptr (S.length + 2) 0,.u,.u,.u,.u,.u,.u,.u,.u,.u,.u,.u,.u,.u,.u,.i .i64 v,.u,.u,.u,.u,.u,.u,.u,.u,.u,.u,.u,.u,.u,.u,.u,.u,.u,.u,.u,.u,.u,.u,.u,.u,.u,.u,.u,.u,.u,.u,.u,.u,.u,.u,.u,.u,.u,.u,.u,.u,.u,.u,.u,.u,.u,.u,.u,.u,.u,.u,.u,.u,.u,.u,.u,.u,.u,.u,.u,.u,.u,.u,.u,.u,.u,.u,.u,.u,.u,.u,.u,.u,.u,.u,.u,.u,.u,.u,.u,.u,.u,.u,.u,.u,.u,.u,.u,.u,.u,.u,.u,.u,.u,.u,.u,.u,.u,.u,.u,.u,.u,.u,.u,.u,.u,.u,.u,.u,.u,.u,.u,.u]) (wpc_sound ?_) (by repeat first | exact .nil | refine .cons (.refl _) ?_ | refine .cons (.forget _) ?_))
  clear hR5 R5
  have hwid : IntKind.i64.wrap ((id : Int) + 1) = ((id + 1 : Nat) : Int) := wrap_succ (by omega)
  have hidc : ((id + 1 : Nat) : Int) = (id : Int) + 1 := by omega
  have hv8 : (v = 0 ∨ v = 1) ∨ v = 2 ∨ (v = 3 ∨ v = 4) ∨ (v = 5 ∨ v = 6) ∨ v = 7 := by omega
  rcases hv8 with hv8 | rfl | hv8 | hv8 | rfl
  ·have slot : ∀ {w : List UInt8},w ∈ genSlots → Gen (normalize (f ++ [⟨5,w,0⟩])) opn id := fun h => hG.slot (genSlots_ok _ h).1
   rcases hv8 with rfl | rfl
   ·simp only [nb,nbs,VV,Int.reduceBEq,pexec,xexec,binV,Nat.reduceAdd,Nat.reduceLeDiff,reduceIte,reduceCtorEq]
    refine call_ex (next_at S a ha l (k1 + 1) (by omega) 3 (by decide) (by decide) _) rfl ?_
    rintro _ _ ⟨u,rfl,hu,rfl⟩
    obtain ⟨w,hww,ew⟩ := strs_at (ws := genSlots) (n := u.toNat) (by simp [genSlots]; omega)
    simp only [genSlots,List.map_cons,List.map_nil] at ew
    simp only [ew,nb,nbs,VV,pexec,xexec,Nat.reduceAdd,Nat.reduceLeDiff,reduceIte]
    refine ⟨by omega,?_⟩
    exact tail ⟨5,w,0⟩ (itRow g2 false opn) [] 1 (k1 + 1 + 1) opn id g2 rfl (by simp) (by omega) (by omega) hot (slot hww) (by have := (genSlots_ok _ hww).2; simp only; omega) (by omega) (by repeat first | exact .nil | refine .cons (.refl _) ?_ | refine .cons (.forget _) ?_)
   ·simp only [nb,nbs,VV,Int.reduceBEq,pexec,xexec,binV,Nat.reduceAdd,Nat.reduceLeDiff,reduceIte,reduceCtorEq]
    refine call_ex (next_at S a ha l (k1 + 1) (by omega) 3 (by decide) (by decide) _) rfl ?_
    rintro _ _ ⟨u,rfl,hu,rfl⟩
    obtain ⟨w,hww,ew⟩ := strs_at (ws := genSlots) (n := u.toNat) (by simp [genSlots]; omega)
    simp only [genSlots,List.map_cons,List.map_nil] at ew
    simp only [ew,nb,nbs,VV,pexec,xexec,Nat.reduceAdd,Nat.reduceLeDiff,reduceIte]
    refine ⟨by omega,?_⟩
    exact tail ⟨5,w,0⟩ (itRow g2 false opn) [] 1 (k1 + 1 + 1) opn id g2 rfl (by simp) (by omega) (by omega) hot (slot hww) (by have := (genSlots_ok _ hww).2; simp only; omega) (by omega) (by repeat first | exact .nil | refine .cons (.refl _) ?_ | refine .cons (.forget _) ?_)
  ·simp only [nb,nbs,hwid,VV,Int.reduceBEq,pexec,xexec,binV,Nat.reduceAdd,Nat.reduceLeDiff,reduceIte,reduceCtorEq]
   refine call_ex (next_at S a ha l (k1 + 1) (by omega) 2 (by decide) (by decide) _) rfl ?_
   rintro _ _ ⟨u,rfl,hu,rfl⟩
   obtain ⟨w,hww,ew⟩ := strs_at (ws := genEmpties) (n := u.toNat) (by simp [genEmpties]; omega)
   simp only [genEmpties,List.map_cons,List.map_nil] at ew
   obtain ⟨w1,w3⟩ := genEmpties_ok _ hww
   simp only [ew,nb,nbs,VV,pexec,xexec,Nat.reduceAdd,Nat.reduceLeDiff,reduceIte]
   refine ⟨by omega,?_⟩
   have hG2 := hG.empty w1 (by omega) (by omega)
   rw [← hidc] at hG2
   exact tail ⟨4,w,((id + 1 : Nat) : Int)⟩ (itRow g2 false opn) [] 1 (k1 + 1 + 1) opn (id + 1) g2 rfl (by simp) (by omega) (by omega) hot hG2 (by simp only; omega) (by omega) (by repeat first | exact .nil | refine .cons (.refl _) ?_ | refine .cons (.forget _) ?_)
  ·rcases hv8 with rfl | rfl
   ·simp only [nb,nbs,hwid,VV,Int.reduceBEq,pexec,xexec,binV,Nat.reduceAdd,Nat.reduceLeDiff,reduceIte,reduceCtorEq]
    refine call_ex (next_at S a ha l (k1 + 1) (by omega) 3 (by decide) (by decide) _) rfl ?_
    rintro _ _ ⟨u,rfl,hu,rfl⟩
    obtain ⟨w,hww,ew⟩ := strs_at (ws := genOpens) (n := u.toNat) (by simp [genOpens]; omega)
    simp only [genOpens,List.map_cons,List.map_nil] at ew
    obtain ⟨w1,w2,w3⟩ := genOpens_ok _ hww
    simp only [ew,nb,nbs,List.length_map,VV,pexec,xexec,Nat.reduceAdd,Nat.reduceLeDiff,reduceIte]
    refine ⟨by omega,⟨by omega,by simp only [maxLen]; omega⟩,?_⟩
    have e3 : opn.map It.cells ++ [[V.i .i64 2,.s w,.i .i64 ((id + 1 : Nat) : Int)]] = (opn ++ [(⟨2,w,((id + 1 : Nat) : Int)⟩ : It)]).map It.cells := by simp [It.cells]
    rw [e3]
    have hG2 := hG.opens w1 w2 (by omega) (by omega)
    rw [← hidc] at hG2
    refine tail ⟨2,w,((id + 1 : Nat) : Int)⟩ (itRow (g2 + 1) false (opn ++ [⟨2,w,((id + 1 : Nat) : Int)⟩])) [] 1 (k1 + 1 + 1) (opn ++ [⟨2,w,((id + 1 : Nat) : Int)⟩]) (id + 1) (g2 + 1) rfl (by simp) (by omega) (by simp; omega) (fun z hz => by
     rcases List.mem_append.1 hz with hz | hz
     ·exact hot z hz
     ·rw [List.mem_singleton] at hz; subst hz; exact w3) hG2 ?_ ?_ ?_
    ·simp only; omega
    ·omega
    ·repeat first | exact .nil | refine .cons (.refl _) ?_ | refine .cons (.forget _) ?_
   ·simp only [nb,nbs,hwid,VV,Int.reduceBEq,pexec,xexec,binV,Nat.reduceAdd,Nat.reduceLeDiff,reduceIte,reduceCtorEq]
    refine call_ex (next_at S a ha l (k1 + 1) (by omega) 3 (by decide) (by decide) _) rfl ?_
    rintro _ _ ⟨u,rfl,hu,rfl⟩
    obtain ⟨w,hww,ew⟩ := strs_at (ws := genOpens) (n := u.toNat) (by simp [genOpens]; omega)
    simp only [genOpens,List.map_cons,List.map_nil] at ew
    obtain ⟨w1,w2,w3⟩ := genOpens_ok _ hww
    simp only [ew,nb,nbs,List.length_map,VV,pexec,xexec,Nat.reduceAdd,Nat.reduceLeDiff,reduceIte]
    refine ⟨by omega,⟨by omega,by simp only [maxLen]; omega⟩,?_⟩
    have e3 : opn.map It.cells ++ [[V.i .i64 2,.s w,.i .i64 ((id + 1 : Nat) : Int)]] = (opn ++ [(⟨2,w,((id + 1 : Nat) : Int)⟩ : It)]).map It.cells := by simp [It.cells]
    rw [e3]
    have hG2 := hG.opens w1 w2 (by omega) (by omega)
    rw [← hidc] at hG2
    refine tail ⟨2,w,((id + 1 : Nat) : Int)⟩ (itRow (g2 + 1) false (opn ++ [⟨2,w,((id + 1 : Nat) : Int)⟩])) [] 1 (k1 + 1 + 1) (opn ++ [⟨2,w,((id + 1 : Nat) : Int)⟩]) (id + 1) (g2 + 1) rfl (by simp) (by omega) (by simp; omega) (fun z hz => by
     rcases List.mem_append.1 hz with hz | hz
     ·exact hot z hz
     ·rw [List.mem_singleton] at hz; subst hz; exact w3) hG2 ?_ ?_ ?_
    ·simp only; omega
    ·omega
    ·repeat first | exact .nil | refine .cons (.refl _) ?_ | refine .cons (.forget _) ?_
  ·rcases hv8 with rfl | rfl
   ·rcases List.eq_nil_or_concat opn with h0 | ⟨opn',y,h0⟩
    ·subst h0
     have e1 : decide ((0 : Int) ≤ IntKind.i64.wrap (((0 : Nat) : Int) - 1)) = false := rfl
     simp only [nb,nbs,List.map_nil,List.length_nil,e1,VV,Int.reduceBEq,pexec,xexec,binV,Nat.reduceAdd,Nat.reduceLeDiff,reduceIte,reduceCtorEq]
     exact tail ⟨1,t,0⟩ (itRow g2 false []) [] 1 (k1 + 1) [] id g2 rfl (by simp) (by omega) (by simp; omega) (by simp) (hG.text t) (by simp only; omega) (by omega) (by repeat first | exact .nil | refine .cons (.refl _) ?_ | refine .cons (.forget _) ?_)
    ·rw [List.concat_eq_append] at h0
     subst h0
     have hol : (opn' ++ [y]).length = opn'.length + 1 := by simp
     have hw1 : IntKind.i64.wrap (((opn'.length + 1 : Nat) : Int) - 1) = (opn'.length : Int) := by rw [IntWalk.i64_in _ (by omega)]; omega
     have hw2 : IntKind.i64.wrap ((opn'.length : Int) + 1) = ((opn'.length + 1 : Nat) : Int) := wrap_succ (by omega)
     have e1 : decide ((0 : Int) ≤ (opn'.length : Int)) = true := by simp
     have hyt := hot y (by simp)
     have htn := tagName_len y.text
     have hat : ∀ j,at2 (List.map It.cells (opn' ++ [y])) opn'.length j = y.cells[j]? := fun j => at2_at
     have hin : (0 : Int) ≤ (opn'.length : Int) ∧ (opn'.length : Int) < ((opn'.length + 1 : Nat) : Int) := ⟨by omega,by omega⟩
     obtain ⟨hG2,hn⟩ := hG.close (by omega)
     simp only [nb,nbs,List.length_map,hol,hw1,e1,hat,It.cells,Int.toNat_natCast,VV,Int.reduceBEq,pexec,xexec,binV,Nat.reduceAdd,Nat.reduceLeDiff,reduceIte,reduceCtorEq]
     refine ⟨hin,hin,?_⟩
     refine call_eq (r3Name_pc y.text _) rfl ?_
     simp only [nst_len,nb,nbs,List.length_map,hol,hw2,hat,It.cells,Int.toNat_natCast,VV,pexec,xexec,binV,Nat.reduceAdd,Nat.reduceLeDiff,Int.reduceToNat,reduceIte]
     have e4 : List.take opn'.length (List.map It.cells (opn' ++ [y])) = List.map It.cells opn' := by rw [List.map_append]; exact List.take_left' (by simp)
     have e5 : List.take (opn'.length + 1 - (opn'.length + 1)) (List.drop (opn'.length + 1) (List.map It.cells (opn' ++ [y]))) = [] := by simp
     simp only [e4,e5,List.append_nil,List.length_map,List.length_nil,Nat.add_zero]
     refine ⟨hin,by omega,by omega,⟨by omega,by simp only [maxLen]; omega⟩,by omega,⟨by omega,by simp only [maxLen]; omega⟩,?_⟩
     exact tail ⟨3,tagName y.text,y.id⟩ (itRow g2 false (opn' ++ [y])) [itRow 1 false opn'] 3 (k1 + 1) opn' id 1 rfl (by simp) (by omega) (by omega) (fun z hz => hot z (by simp [hz])) (by rw [hn]; exact hG2) (by simp only; omega) (by omega) (by repeat first | exact .nil | refine .cons (.refl _) ?_ | refine .cons (.forget _) ?_)
   ·rcases List.eq_nil_or_concat opn with h0 | ⟨opn',y,h0⟩
    ·subst h0
     have e1 : decide ((0 : Int) ≤ IntKind.i64.wrap (((0 : Nat) : Int) - 1)) = false := rfl
     simp only [nb,nbs,List.map_nil,List.length_nil,e1,VV,Int.reduceBEq,pexec,xexec,binV,Nat.reduceAdd,Nat.reduceLeDiff,reduceIte,reduceCtorEq]
     exact tail ⟨1,t,0⟩ (itRow g2 false []) [] 1 (k1 + 1) [] id g2 rfl (by simp) (by omega) (by simp; omega) (by simp) (hG.text t) (by simp only; omega) (by omega) (by repeat first | exact .nil | refine .cons (.refl _) ?_ | refine .cons (.forget _) ?_)
    ·rw [List.concat_eq_append] at h0
     subst h0
     have hol : (opn' ++ [y]).length = opn'.length + 1 := by simp
     have hw1 : IntKind.i64.wrap (((opn'.length + 1 : Nat) : Int) - 1) = (opn'.length : Int) := by rw [IntWalk.i64_in _ (by omega)]; omega
     have hw2 : IntKind.i64.wrap ((opn'.length : Int) + 1) = ((opn'.length + 1 : Nat) : Int) := wrap_succ (by omega)
     have e1 : decide ((0 : Int) ≤ (opn'.length : Int)) = true := by simp
     have hyt := hot y (by simp)
     have htn := tagName_len y.text
     have hat : ∀ j,at2 (List.map It.cells (opn' ++ [y])) opn'.length j = y.cells[j]? := fun j => at2_at
     have hin : (0 : Int) ≤ (opn'.length : Int) ∧ (opn'.length : Int) < ((opn'.length + 1 : Nat) : Int) := ⟨by omega,by omega⟩
     obtain ⟨hG2,hn⟩ := hG.close (by omega)
     simp only [nb,nbs,List.length_map,hol,hw1,e1,hat,It.cells,Int.toNat_natCast,VV,Int.reduceBEq,pexec,xexec,binV,Nat.reduceAdd,Nat.reduceLeDiff,reduceIte,reduceCtorEq]
     refine ⟨hin,hin,?_⟩
     refine call_eq (r3Name_pc y.text _) rfl ?_
     simp only [nst_len,nb,nbs,List.length_map,hol,hw2,hat,It.cells,Int.toNat_natCast,VV,pexec,xexec,binV,Nat.reduceAdd,Nat.reduceLeDiff,Int.reduceToNat,reduceIte]
     have e4 : List.take opn'.length (List.map It.cells (opn' ++ [y])) = List.map It.cells opn' := by rw [List.map_append]; exact List.take_left' (by simp)
     have e5 : List.take (opn'.length + 1 - (opn'.length + 1)) (List.drop (opn'.length + 1) (List.map It.cells (opn' ++ [y]))) = [] := by simp
     simp only [e4,e5,List.append_nil,List.length_map,List.length_nil,Nat.add_zero]
     refine ⟨hin,by omega,by omega,⟨by omega,by simp only [maxLen]; omega⟩,by omega,⟨by omega,by simp only [maxLen]; omega⟩,?_⟩
     exact tail ⟨3,tagName y.text,y.id⟩ (itRow g2 false (opn' ++ [y])) [itRow 1 false opn'] 3 (k1 + 1) opn' id 1 rfl (by simp) (by omega) (by omega) (fun z hz => hot z (by simp [hz])) (by rw [hn]; exact hG2) (by simp only; omega) (by omega) (by repeat first | exact .nil | refine .cons (.refl _) ?_ | refine .cons (.forget _) ?_)
  ·simp only [nb,nbs,VV,Int.reduceBEq,pexec,xexec,binV,Nat.reduceAdd,Nat.reduceLeDiff,reduceIte,reduceCtorEq]
   exact tail ⟨1,t,0⟩ (itRow g2 false opn) [] 1 (k1 + 1) opn id g2 rfl (by simp) (by omega) (by omega) hot (hG.text t) (by simp only; omega) (by omega) (by repeat first | exact .nil | refine .cons (.refl _) ?_ | refine .cons (.forget _) ?_)
theorem fragment_pc (S : Store) (a : Nat) (ha : a < S.length) (l : List Int) (k : Nat) (hk : k < 2 ^ 49) (N : Nat) (hN : N ≤ 20) :
  PC Tryz.prog 96 [.ptr a 0,.i .i64 N,.b true,.b true] (nst S a l k) (fun r σ' => ∃ (f : List It) (k' : Nat),r = .sl 3 (f.map It.cells) ∧ itemsErr [] f = 0 ∧ f.length ≤ 2 * N ∧ textLen f ≤ 23 * N ∧ k' ≤ k + 12 * N + 1 ∧ σ' = nst S a l k') := by
 refine PC.intro Tryz.func96 c96 fun hcl hwf => ?_
 have hw : IntKind.i64.wrap ((N : Int) + 1) = ((N + 1 : Nat) : Int) := wrap_succ (by omega)
 simp only [p96,List.length_cons,List.length_nil,List.replicate,List.cons_append,List.nil_append,Nat.reduceAdd,Nat.reduceSub]
 refine PWc.cut fun R hR => ?_
 simp only [nst_len,VV,pexec]
 refine hR _ ?_
 clear hR R
 refine PWc.cut fun R hR => ?_
 simp only [nst_len,VV,pexec]
 refine hR _ ?_
 clear hR R
 refine PWc.cut fun R hR => ?_
 simp only [nst_len,VV,pexec]
 refine hR _ ?_
 clear hR R
 refine PWc.cut fun R hR => ?_
 simp only [nst_len,hw,VV,pexec,binV,reduceIte]
 refine call_ex (next_pc S a ha l k (by omega) ((N + 1 : Nat) : Int) (by omega) (by omega)) rfl ?_
 rintro _ _ ⟨v,rfl,hv,rfl⟩
 obtain ⟨m,rfl⟩ : ∃ m : Nat,v = m := ⟨v.toNat,by omega⟩
 simp only [VV,pexec]
 refine PWc.wk (((Wk.cvs (ys := [.ptr a 0,.u,.b true,.b true,.u,.u,.u,.u,.u,.nil,.nil,.i .i64 (0 : Nat),.i .i64 m,.u,.u,.u,.u,.u,.u,.u,.u,.u,.u,.u,.u,.u,.u,.u,.u,.u,.u,.u,.u,.u,.u,.u,.u,.u,.u,.u,.u,.u,.u,.u,.u,.u,.u,.u,.u,.u,.u,.u,.u,.u,.u,.u,.u,.u,.u,.u,.u,.u,.u,.u,.u,.u,.u,.u,.u,.u,.u,.u,.u,.u,.u,.u,.u,.u,.u,.u,.u,.u,.u,.u,.u,.u,.u,.u,.u,.u,.u,.u,.u,.u,.u,.u,.u,.u,.u,.u,.u,.u,.u,.u,.u,.u,.u,.u,.u,.u,.u,.u,.u,.u,.u,.u,.u,.u,.u,.u,.u,.u,.u,.u,.u,.u,.u,.u,.u,.u,.u,.u,.u,.u,.u,.u,.u,.u,.u,.u,.u]) (by repeat first | exact .nil | refine .cons (.refl _) ?_ | refine .cons (.forget _) ?_)).trans (Wk.promote (P := Tryz.prog) (σ := nst S a l (k + 1)) (k := 9) ti_it rfl)).trans ((Wk.promote_at (P := Tryz.prog) (σ := nst S a l (k + 1)) [_] (k := 10) ti_it rfl).trans (Wk.cvs (ys := [.ptr a 0,.u,.b true,.b true,.u,.u,.u,.u,.u,.own S.length 0,.own (S.length + 1) 0,.i .i64 (0 : Nat),.i .i64 m,.u,.u,.u,.u,.u,.u,.u,.u,.u,.u,.u,.u,.u,.u,.u,.u,.u,.u,.u,.u,.u,.u,.u,.u,.u,.u,.u,.u,.u,.u,.u,.u,.u,.u,.u,.u,.u,.u,.u,.u,.u,.u,.u,.u,.u,.u,.u,.u,.u,.u,.u,.u,.u,.u,.u,.u,.u,.u,.u,.u,.u,.u,.u,.u,.u,.u,.u,.u,.u,.u,.u,.u,.u,.u,.u,.u,.u,.u,.u,.u,.u,.u,.u,.u,.u,.u,.u,.u,.u,.u,.u,.u,.u,.u,.u,.u,.u,.u,.u,.u,.u,.u,.u,.u,.u,.u,.u,.u,.u,.u,.u,.u,.u,.u,.u,.u,.u,.u,.u,.u,.u,.u,.u,.u,.u,.u,.u,.u]) ?_)))
  (PWc.rnd (m + 1) (loop96_0 S a ha l (k + 1) (by omega) (nst_closed hcl) m (by omega) m (k + 1) [] [] 0 0 0 (Nat.le_refl _) (by omega) (by simp) (by simp) Gen.nil (by simp) (by simp [textLen]) (by omega) ?_))
 ·simp only [nst_len,List.length_cons,List.length_nil,VV]
  repeat first | exact .nil | refine .cons (.refl _) ?_ | refine .cons (.forget _) ?_
 intro k' f opn id g1 g2 c1 c2 c3 c4 c5 c6 c7
 intros
 simp only [VV]
 refine hR _ (PWc.cvs (fr' := [.u,.u,.u,.b true,.u,.u,.u,.u,.u,.own S.length g1,.own (S.length + 1) g2,.u,.u,.u,.u,.u,.u,.u,.u,.u,.u,.u,.u,.u,.u,.u,.u,.u,.u,.u,.u,.u,.u,.u,.u,.u,.u,.u,.u,.u,.u,.u,.u,.u,.u,.u,.u,.u,.u,.u,.u,.u,.u,.u,.u,.u,.u,.u,.u,.u,.u,.u,.u,.u,.u,.u,.u,.u,.u,.u,.u,.u,.u,.u,.u,.u,.u,.u,.u,.u,.u,.u,.u,.u,.u,.u,.u,.u,.u,.u,.u,.u,.u,.u,.u,.u,.u,.u,.u,.u,.u,.u,.u,.u,.u,.u,.u,.u,.u,.u,.u,.u,.u,.u,.u,.u,.u,.u,.u,.u,.u,.u,.u,.u,.u,.u,.u,.u,.u,.u,.u,.u,.u,.u,.u,.u,.u,.u,.u,.u,.u]) ?_ (by repeat first | exact .nil | refine .cons (.refl _) ?_ | refine .cons (.forget _) ?_))
 clear hR R
 refine PWc.cut fun R hR => ?_
 simp only [itRow,nst_len,nb,List.length_map,VV,pexec,binV,reduceIte]
 have hwo : IntKind.i64.wrap ((opn.length : Int) - 1) = (opn.length : Int) - 1 := IntWalk.i64_in _ (by omega)
 rw [hwo]
 refine PWc.rnd_cvs (fr' := [.u,.u,.u,.b true,.u,.u,.u,.u,.u,.own S.length g1,.own (S.length + 1) g2,.u,.u,.u,.u,.i .i64 ((opn.length : Int) - 1),.u,.u,.u,.u,.u,.u,.u,.u,.u,.u,.u,.u,.u,.u,.u,.u,.u,.u,.u,.u,.u,.u,.u,.u,.u,.u,.u,.u,.u,.u,.u,.u,.u,.u,.u,.u,.u,.u,.u,.u,.u,.u,.u,.u,.u,.u,.u,.u,.u,.u,.u,.u,.u,.u,.u,.u,.u,.u,.u,.u,.u,.u,.u,.u,.u,.u,.u,.u,.u,.u,.u,.u,.u,.u,.u,.u,.u,.u,.u,.u,.u,.u,.u,.u,.u,.u,.u,.u,.u,.u,.u,.u,.u,.u,.u,.u,.u,.u,.u,.u,.u,.u,.u,.u,.u,.u,.u,.u,.u,.u,.u,.u,.u,.u,.u,.u,.u,.u,.u,.u,.u,.u,.u,.u,.u]) (by repeat first | exact .nil | refine .cons (.refl _) ?_ | refine .cons (.forget _) ?_) (opn.length + 1) (loop96_1 S a l k' opn (by omega) c3 id (by omega) g2 opn.length opn f g1 rfl ⟨[],by simp⟩ c4 (by omega) ?_)
 intro f' g1' q1 q2 q3
 intros
 simp only [itRow,VV]
 refine hR _ (wpc_sound ?_)
 clear hR R
 simp only [nst_len,VV,pexec]
 refine ret_wk (xs' := [.sl 3 (f'.map It.cells)]) (.inr rfl) rfl ((Wk.fz S.length (E := 23) (sz := 3) (by' := 32) (g := g1') (sh := false) (rows := f'.map It.cells) (by rw [nb0]; rfl)).trans ?_) ?_ ⟨f',k',rfl,q1,by omega,by omega,by omega,rfl⟩
 ·rw [nbs0]
  simp only [List.map_cons,List.map_nil,List.getD_cons_zero,List.getD_cons_succ,List.set_cons_zero,fz,fz1,and_self,if_true]
  have := Wk.end0 (P := Tryz.prog) (xs := [.sl 3 (f'.map It.cells)]) (loc := [Ob.row 23 3 32 g1' true (f'.map It.cells),Ob.row 23 3 32 g2 false (opn.map It.cells)]) (nst_closed (k' := k') hcl) (by simp only [nst_len,LW])
  rw [nst_len] at this
  exact this
 ·rfl
theorem frag_at (S : Store) (a : Nat) (ha : a < S.length) (l : List Int) (k : Nat) (hk : k < 2 ^ 49) (N : Nat) (hN : N ≤ 20) (loc : Store) :
  PC Tryz.prog 96 [.ptr a 0,.i .i64 N,.b true,.b true] (nst S a l k ++ loc) (fun r σ' => ∃ (f : List It) (k' : Nat),r = .sl 3 (f.map It.cells) ∧ itemsErr [] f = 0 ∧ f.length ≤ 2 * N ∧ textLen f ≤ 23 * N ∧ k' ≤ k + 12 * N + 1 ∧ σ' = nst S a l k' ++ loc) := by
 rw [nst_app ha]
 refine (fragment_pc (S ++ loc) a (by rw [List.length_append]; omega) l k hk N hN).mono ?_
 rintro r σ' ⟨f,k',h1,h2,h3,h4,h5,h6⟩
 exact ⟨f,k',h1,h2,h3,h4,h5,by rw [h6,nst_app ha]⟩
theorem target_at (S : Store) (a : Nat) (ha : a < S.length) (l : List Int) (k : Nat) (hk : k < 2 ^ 50) (src : List It) (hsrc : itemsErr [] src = 0) (hlen : src.length ≤ 100) (htx : textLen src ≤ 10000) (loc : Store) :
  PC Tryz.prog 97 [.ptr a 0,.sl 3 (src.map It.cells)] (nst S a l k ++ loc) (fun r σ' => ∃ (f : List It) (k' : Nat),r = .sl 3 (f.map It.cells) ∧ itemsErr [] f = 0 ∧ f.length ≤ 2 * src.length ∧ textLen f ≤ textLen src + 20 * src.length ∧ k' ≤ k + 10 * src.length ∧ σ' = nst S a l k' ++ loc) := by
 rw [nst_app ha]
 refine (target_pc (S ++ loc) a (by rw [List.length_append]; omega) l k hk src hsrc hlen htx).mono ?_
 rintro r σ' ⟨f,k',h1,h2,h3,h4,h5,h6⟩
 exact ⟨f,k',h1,h2,h3,h4,h5,by rw [h6,nst_app ha]⟩
def genSaves : List (List UInt8) := [[83,97,118,101],[114,101,100,32,99,97,114],[82,101,100,32,99,97,114,115]]
theorem genSaves_ok : ∀ s ∈ genSaves,itemsErr [] [⟨1,s,0⟩] = 0 ∧ s.length ≤ 8 := by decide +kernel
def genPrevs : List (List UInt8) := [[],[],[83,97,118,101],[114,101,100,32,99,97,114]]
def genNexts : List (List UInt8) := [[],[],[120],[83,97,118,101]]
def genAuthors : List (List UInt8) := [[],[97,110,110],[98,111,98]]
def genProjects : List (List UInt8) := [[],[112],[113]]
theorem gen_in : (∀ s ∈ genPrevs,s ∈ genCtx) ∧ (∀ s ∈ genNexts,s ∈ genCtx) ∧ (∀ s ∈ genAuthors,s ∈ genNames) ∧ ∀ s ∈ genProjects,s ∈ genNames := by decide +kernel
set_option maxHeartbeats 2000000 in
set_option maxRecDepth 20000 in
theorem entry_pc (S : Store) (a : Nat) (ha : a < S.length) (l : List Int) (k : Nat) (hk : k < 2 ^ 48) :
  PC Tryz.prog 49 [.ptr a 0] (nst S a l k) (fun r σ' => ∃ (e : En) (k' : Nat),r = .agg e.cells ∧ GenEn e ∧ k' ≤ k + 200 ∧ σ' = nst S a l k') := by
 refine PC.intro Tryz.func49 c49 fun hcl hwf => ?_
 simp only [p49,List.length_cons,List.length_nil,List.replicate,List.cons_append,List.nil_append,Nat.reduceAdd,Nat.reduceSub]
 refine PWc.cut fun R hR => ?_
 simp only [nst_len,VV,xexec]
 refine hR _ ?_
 clear hR R
 refine PWc.cut fun R hR => ?_
 simp only [nst_len,VV,pexec]
 refine call_ex (frag_at S a ha l k (by omega) 4 (by decide) _) rfl ?_
 rintro _ _ ⟨f0,k1,rfl,f1,f2,f3,f4,rfl⟩
 simp only [VV,pexec]
 refine hR _ (PWc.cvs (fr' := [.ptr a 0,.u,.ptr S.length 0,.sl 3 (f0.map It.cells),.u,.u,.u,.u,.u,.u,.u,.u,.u,.u,.u,.u,.u,.u,.u,.u,.u,.u,.u,.u,.u,.u,.u,.u,.u,.u,.u,.u,.u,.u,.u,.u,.u,.u,.u,.u,.u,.u,.u,.u,.u,.u,.u,.u,.u,.u,.u,.u,.u,.u,.u,.u]) ?_ (by repeat first | exact .nil | refine .cons (.refl _) ?_ | refine .cons (.forget _) ?_))
 clear hR R
 refine PWc.cut fun R hR => ?_
 have tail : ∀ (f : List It) (k2 : Nat) {fr : List V},itemsErr [] f = 0 → f ≠ [] → f.length ≤ 8 → textLen f ≤ 92 → k2 ≤ k + 50 → Cvs fr [.ptr a 0,.u,.ptr S.length 0,.sl 3 (f.map It.cells),.u,.u,.u,.u,.u,.u,.u,.u,.u,.u,.u,.u,.u,.u,.u,.u,.u,.u,.u,.u,.u,.u,.u,.u,.u,.u,.u,.u,.u,.u,.u,.u,.u,.u,.u,.u,.u,.u,.u,.u,.u,.u,.u,.u,.u,.u,.u,.u,.u,.u,.u,.u] →
   R ⟨fr,nst S a l k2 ++ [.box 26 [.nil,.nil,.s [],.s [],.s [],.s [],.i .i64 0,.i .i64 0]]⟩ := by
  intro f k2 fr c1 c2 c3 c4 c5 hc
  refine hR _ (PWc.cvs ?_ hc)
  clear hR R
  refine PWc.cut fun R hR => ?_
  simp only [nst_len,VV,pexec]
  refine call_ex (target_at S a ha l k2 (by omega) f c1 (by omega) (by omega) _) rfl ?_
  rintro _ _ ⟨t,k3,rfl,t1,t2,t3,t4,rfl⟩
  simp only [VV,pexec]
  refine hR _ (PWc.cvs (fr' := [.ptr a 0,.u,.ptr S.length 0,.sl 3 (f.map It.cells),.sl 3 (t.map It.cells),.u,.u,.u,.u,.u,.u,.u,.u,.u,.u,.u,.u,.u,.u,.u,.u,.u,.u,.u,.u,.u,.u,.u,.u,.u,.u,.u,.u,.u,.u,.u,.u,.u,.u,.u,.u,.u,.u,.u,.u,.u,.u,.u,.u,.u,.u,.u,.u,.u,.u,.u]) ?_ (by repeat first | exact .nil | refine .cons (.refl _) ?_ | refine .cons (.forget _) ?_))
  clear hR R
  refine PWc.cut fun R hR => ?_
  simp only [nst_len,VV,pexec]
  refine call_eq (r3Canonical_pc f t (by omega) (by omega) (by omega) (by omega) _) rfl ?_
  simp only [VV,pexec]
  refine hR _ (PWc.cvs (fr' := [.ptr a 0,.u,.ptr S.length 0,.u,.u,.sl 3 ((canonS f t).map It.cells),.sl 3 ((canonT f t).map It.cells),.u,.u,.u,.u,.u,.u,.u,.u,.u,.u,.u,.u,.u,.u,.u,.u,.u,.u,.u,.u,.u,.u,.u,.u,.u,.u,.u,.u,.u,.u,.u,.u,.u,.u,.u,.u,.u,.u,.u,.u,.u,.u,.u,.u,.u,.u,.u,.u,.u]) (wpc_sound ?_) (by repeat first | exact .nil | refine .cons (.refl _) ?_ | refine .cons (.forget _) ?_))
  clear hR R
  simp only [nst_len,VV,pexec]
  refine call_ex (next_at S a ha l k3 (by omega) 4 (by decide) (by decide) _) rfl ?_
  rintro _ _ ⟨v1,rfl,hv1,rfl⟩
  obtain ⟨w1,hw1,e1⟩ := strs_at (ws := genPrevs) (n := v1.toNat) (by simp [genPrevs]; omega)
  simp only [genPrevs,List.map_cons,List.map_nil] at e1
  simp only [e1,VV,pexec,binV,Nat.reduceAdd,reduceIte]
  refine ⟨by omega,?_⟩
  refine call_ex (next_at S a ha l (k3 + 1) (by omega) 4 (by decide) (by decide) _) rfl ?_
  rintro _ _ ⟨v2,rfl,hv2,rfl⟩
  obtain ⟨w2,hw2,e2⟩ := strs_at (ws := genNexts) (n := v2.toNat) (by simp [genNexts]; omega)
  simp only [genNexts,List.map_cons,List.map_nil] at e2
  simp only [e1,e2,VV,pexec,binV,Nat.reduceAdd,reduceIte]
  iterate 3 (try refine And.intro (by omega) ?_)
  refine call_ex (next_at S a ha l (k3 + 1 + 1) (by omega) 3 (by decide) (by decide) _) rfl ?_
  rintro _ _ ⟨v3,rfl,hv3,rfl⟩
  obtain ⟨w3,hw3,e3⟩ := strs_at (ws := genAuthors) (n := v3.toNat) (by simp [genAuthors]; omega)
  simp only [genAuthors,List.map_cons,List.map_nil] at e3
  simp only [e1,e2,e3,VV,pexec,binV,Nat.reduceAdd,reduceIte]
  iterate 4 (try refine And.intro (by omega) ?_)
  refine call_ex (next_at S a ha l (k3 + 1 + 1 + 1) (by omega) 3 (by decide) (by decide) _) rfl ?_
  rintro _ _ ⟨v4,rfl,hv4,rfl⟩
  obtain ⟨w4,hw4,e4⟩ := strs_at (ws := genProjects) (n := v4.toNat) (by simp [genProjects]; omega)
  simp only [genProjects,List.map_cons,List.map_nil] at e4
  simp only [e1,e2,e3,e4,VV,pexec,binV,Nat.reduceAdd,reduceIte]
  iterate 6 (try refine And.intro (by omega) ?_)
  refine call_ex (next_at S a ha l (k3 + 1 + 1 + 1 + 1) (by omega) 50 (by decide) (by decide) _) rfl ?_
  rintro _ _ ⟨v5,rfl,hv5,rfl⟩
  simp only [e1,e2,e3,e4,VV,pexec,binV,Nat.reduceAdd,reduceIte]
  iterate 6 (try refine And.intro (by omega) ?_)
  refine call_ex (next_at S a ha l (k3 + 1 + 1 + 1 + 1 + 1) (by omega) 3 (by decide) (by decide) _) rfl ?_
  rintro _ _ ⟨v6,rfl,hv6,rfl⟩
  have hw6 : IntKind.i64.wrap (1 + v6) = 1 + v6 := IntWalk.i64_in _ (by omega)
  simp only [e1,e2,e3,e4,hw6,nb0,nbs0,VV,pexec,xexec,binV,Nat.reduceAdd,Nat.reduceLeDiff,reduceIte]
  refine ⟨by omega,?_⟩
  obtain ⟨i1,i2,i3,i4⟩ := gen_in
  have hE : GenEn ⟨canonS f t,canonT f t,w1,w2,w3,w4,v5,1 + v6⟩ := gen_entry c1 t1 c2 (by omega) (by omega) (by omega) (by omega) (i1 _ hw1) (i2 _ hw2) (i3 _ hw3) (i4 _ hw4) (by omega) (by omega)
  refine ret_wk (xs := [.agg (En.cells ⟨canonS f t,canonT f t,w1,w2,w3,w4,v5,1 + v6⟩)]) (xs' := [.agg (En.cells ⟨canonS f t,canonT f t,w1,w2,w3,w4,v5,1 + v6⟩)]) (.inr rfl) (by simp only [resVs,resV,nb0,VV,Nat.reduceAdd,reduceIte]; rfl) ?_ rfl ⟨_,k3 + 1 + 1 + 1 + 1 + 1 + 1,rfl,hE,by omega,rfl⟩
  have := Wk.end0 (P := Tryz.prog) (xs := [.agg (En.cells ⟨canonS f t,canonT f t,w1,w2,w3,w4,v5,1 + v6⟩)]) (loc := [Ob.box 26 (En.cells ⟨canonS f t,canonT f t,w1,w2,w3,w4,v5,1 + v6⟩)]) (nst_closed (k' := k3 + 1 + 1 + 1 + 1 + 1 + 1) hcl) (by simp only [En.cells,nst_len,LW])
  rw [nst_len] at this
  exact this
 simp only [List.length_map,nst_len,VV,pexec,binV,reduceIte]
 refine ⟨fun h => ?_,fun h => ?_⟩
 ·refine call_ex (next_at S a ha l k1 (by omega) 3 (by decide) (by decide) _) rfl ?_
  rintro _ _ ⟨v,rfl,hv,rfl⟩
  obtain ⟨w,hw,e⟩ := strs_at (ws := genSaves) (n := v.toNat) (by simp [genSaves]; omega)
  obtain ⟨w1,w2⟩ := genSaves_ok _ hw
  simp only [genSaves,List.map_cons,List.map_nil] at e
  simp only [e,VV,pexec,Nat.reduceAdd,Nat.reduceLeDiff,reduceIte]
  refine ⟨by omega,?_⟩
  refine tail [⟨1,w,0⟩] (k1 + 1) w1 (by simp) (by simp) (by simp [textLen]; omega) (by omega) ?_
  simp only [List.map_cons,List.map_nil,It.cells]
  repeat first | exact .nil | refine .cons (.refl _) ?_ | refine .cons (.lit _ _) ?_ | refine .cons (.forget _) ?_
 ·have h : f0 ≠ [] := by rintro rfl; simp at h
  refine tail f0 k1 f1 h (by omega) (by omega) (by omega) ?_
  repeat first | exact .nil | refine .cons (.refl _) ?_ | refine .cons (.forget _) ?_
theorem entry_at (S : Store) (a : Nat) (ha : a < S.length) (l : List Int) (k : Nat) (hk : k < 2 ^ 48) (loc : Store) :
  PC Tryz.prog 49 [.ptr a 0] (nst S a l k ++ loc) (fun r σ' => ∃ (e : En) (k' : Nat),r = .agg e.cells ∧ GenEn e ∧ k' ≤ k + 200 ∧ σ' = nst S a l k' ++ loc) := by
 rw [nst_app ha]
 refine (entry_pc (S ++ loc) a (by rw [List.length_append]; omega) l k hk).mono ?_
 rintro r σ' ⟨e,k',h1,h2,h3,h4⟩
 exact ⟨e,k',h1,h2,h3,by rw [h4,nst_app ha]⟩
set_option maxHeartbeats 2000000 in
set_option maxRecDepth 20000 in
theorem op_pc (S : Store) (a : Nat) (ha : a < S.length) (l : List Int) (k : Nat) (hk : k < 2 ^ 47) :
  PC Tryz.prog 19 [.ptr a 0] (nst S a l k) (fun r σ' => ∃ (o : Opr) (k' : Nat),r = .agg o.cells ∧ GenOp o ∧ k' ≤ k + 300 ∧ σ' = nst S a l k') := by
 refine PC.intro Tryz.func19 c19 fun hcl hwf => ?_
 simp only [p19,List.length_cons,List.length_nil,List.replicate,List.cons_append,List.nil_append,Nat.reduceAdd,Nat.reduceSub]
 refine PWc.cut fun R hR => ?_
 simp only [nst_len,VV,xexec]
 refine hR _ ?_
 clear hR R
 refine PWc.cut fun R hR => ?_
 simp only [nst_len,VV,pexec]
 refine call_ex (next_at S a ha l k (by omega) 9 (by decide) (by decide) _) rfl ?_
 rintro _ _ ⟨v1,rfl,hv1,rfl⟩
 have w1 : IntKind.i64.wrap (1 + v1) = 1 + v1 := IntWalk.i64_in _ (by omega)
 simp only [w1,VV,pexec,binV,reduceIte]
 refine call_ex (next_at S a ha l (k + 1) (by omega) 3 (by decide) (by decide) _) rfl ?_
 rintro _ _ ⟨v2,rfl,hv2,rfl⟩
 simp only [VV,pexec]
 refine call_ex (next_at S a ha l (k + 1 + 1) (by omega) 3 (by decide) (by decide) _) rfl ?_
 rintro _ _ ⟨v3,rfl,hv3,rfl⟩
 have w3 : IntKind.i64.wrap (1 + v3) = 1 + v3 := IntWalk.i64_in _ (by omega)
 simp only [w3,VV,pexec,binV,Nat.reduceAdd,Nat.reduceLeDiff,reduceIte]
 refine call_ex (entry_at S a ha l (k + 1 + 1 + 1) (by omega) _) rfl ?_
 rintro _ _ ⟨e,k1,rfl,hE,hk1,rfl⟩
 simp only [En.cells,nst_len,nb,nbs,VV,pexec,xexec,Nat.reduceAdd,Nat.reduceLeDiff,reduceIte]
 refine hR _ (PWc.cvs (fr' := [.ptr a 0,.u,.ptr S.length 0,.ptr (S.length + 1) 0,.u,.u,.u,.u,.u,.u,.u,.u,.u,.u,.u,.u,.u,.u,.u,.u,.u,.u,.u,.u,.u,.u,.u,.u,.u,.u,.u,.u,.u,.u,.u,.u,.u,.u,.u,.u,.u,.u,.u,.u,.u,.u,.u,.u,.u,.u,.u,.u]) ?_ (by repeat first | exact .nil | refine .cons (.refl _) ?_ | refine .cons (.forget _) ?_))
 clear hR R
 refine PWc.cut fun R hR => ?_
 simp only [nst_len,VV,pexec]
 refine call_ex (next_at S a ha l k1 (by omega) 3 (by decide) (by decide) _) rfl ?_
 rintro _ _ ⟨x1,rfl,hx1,rfl⟩
 simp only [VV,pexec]
 refine call_ex (next_at S a ha l (k1 + 1) (by omega) 3 (by decide) (by decide) _) rfl ?_
 rintro _ _ ⟨x2,rfl,hx2,rfl⟩
 simp only [VV,pexec]
 refine call_ex (next_at S a ha l (k1 + 1 + 1) (by omega) 3 (by decide) (by decide) _) rfl ?_
 rintro _ _ ⟨x3,rfl,hx3,rfl⟩
 simp only [nst_len,V.pure,VV,pexec,xexec,Nat.reduceAdd]
 refine hR _ (PWc.cvs (fr' := [.ptr a 0,.u,.ptr S.length 0,.ptr (S.length + 1) 0,.own (S.length + 2) 0,.u,.u,.u,.u,.u,.u,.u,.u,.u,.u,.u,.u,.u,.u,.u,.u,.u,.u,.u,.u,.u,.u,.u,.u,.u,.u,.u,.u,.u,.u,.u,.u,.u,.u,.u,.u,.u,.u,.u,.u,.u,.u,.u,.u,.u,.u,.u]) ?_ (by repeat first | exact .nil | refine .cons (.refl _) ?_ | refine .cons (.forget _) ?_))
 clear hR R
 refine PWc.cut fun R hR => ?_
 have tail : ∀ (v : List Int) {fr : List V},(∃ x y z : Int,v = [x,y,z] ∧ (0 ≤ x ∧ x < 3) ∧ (0 ≤ y ∧ y < 3) ∧ (0 ≤ z ∧ z < 3)) → v.getD v2.toNat 0 = v3 → Cvs fr [.ptr a 0,.u,.ptr S.length 0,.ptr (S.length + 1) 0,.own (S.length + 2) 0,.u,.u,.u,.u,.u,.u,.u,.u,.u,.u,.u,.u,.u,.u,.u,.u,.u,.u,.u,.u,.u,.u,.u,.u,.u,.u,.u,.u,.u,.u,.u,.u,.u,.u,.u,.u,.u,.u,.u,.u,.u,.u,.u,.u,.u,.u,.u] →
   R ⟨fr,nst S a l (k1 + 1 + 1 + 1) ++ [.box 33 [.i .i64 0,.i .i64 0,.i .i64 0,.i .i64 0,.nil,.nil,.s [],.s [],.s [],.s [],.i .i64 0,.i .i64 0,.nil],
    .box 33 [.i .i64 (1 + v1),.i .i64 v2,.i .i64 (1 + v3),.i .i64 1,.sl 3 (e.source.map It.cells),.sl 3 (e.target.map It.cells),.s e.previous,.s e.next,.s e.author,.s e.project,.i .i64 e.created,.i .i64 e.origin,.nil],
    .row 3 1 8 0 false (v.map iRow)]⟩ := by
  intro v fr hv hvn hc
  obtain ⟨hO1,hO2⟩ := gen_op hE (t := 1 + v1) (f := v2) (n := 1 + v3) (k := 0) (v := v) (by omega) hv2 (by omega) hv (by rw [hvn]; omega)
  refine hR _ (PWc.cvs ?_ hc)
  clear hR R hc
  refine PWc.cut fun R hR => ?_
  simp only [nst_len,VV,pexec]
  refine call_wk (zs := [.sl 1 (v.map iRow)]) (σ1 := nst S a l (k1 + 1 + 1 + 1) ++ [.box 33 [.i .i64 0,.i .i64 0,.i .i64 0,.i .i64 0,.nil,.nil,.s [],.s [],.s [],.s [],.i .i64 0,.i .i64 0,.nil],
    .box 33 [.i .i64 (1 + v1),.i .i64 v2,.i .i64 (1 + v3),.i .i64 1,.sl 3 (e.source.map It.cells),.sl 3 (e.target.map It.cells),.s e.previous,.s e.next,.s e.author,.s e.project,.i .i64 e.created,.i .i64 e.origin,.nil],
    .row 3 1 8 0 true (v.map iRow)]) ?_ (r36Trim_pc v _) ?_
  ·refine (Wk.fz (S.length + 2) (E := 3) (sz := 1) (by' := 8) (g := 0) (sh := false) (rows := v.map iRow) (by rw [nb]; rfl)).trans ?_
   rw [nbs]
   simp only [List.map_cons,List.map_nil,ev,List.getD_cons_zero,List.getD_cons_succ,List.set_cons_zero,List.set_cons_succ,fz,fz1,and_self,if_true]
   exact Wk.refl _ _
  simp only [nb,nbs,VV,pexec,xexec,Nat.reduceAdd]
  refine hR _ (PWc.cvs (fr' := [.ptr a 0,.u,.ptr S.length 0,.ptr (S.length + 1) 0,.u,.u,.u,.u,.u,.u,.u,.u,.u,.u,.u,.u,.u,.u,.u,.u,.u,.u,.u,.u,.u,.u,.u,.u,.u,.u,.u,.u,.u,.u,.u,.u,.u,.u,.u,.u,.u,.u,.u,.u,.u,.u,.u,.u,.u,.u,.u,.u]) (wpc_sound ?_) (by repeat first | exact .nil | refine .cons (.refl _) ?_ | refine .cons (.forget _) ?_))
  clear hR R
  simp only [nst_len,VV,pexec]
  refine call_ex (next_at S a ha l (k1 + 1 + 1 + 1) (by omega) 3 (by decide) (by decide) _) rfl ?_
  rintro _ _ ⟨u,rfl,hu,rfl⟩
  simp only [nb0,nb,nbs0,nbs,VV,pexec,xexec,binV,Nat.reduceAdd,Nat.reduceLeDiff,reduceIte]
  have fin : ∀ (o : Opr) {fr : List V} {loc : Store} {cs : List V},GenOp o → resVs ⟨fr,nst S a l (k1 + 1 + 1 + 1 + 1) ++ loc⟩ [.c 2 (some 13)] = some [.agg cs] → Cvs cs o.cells → retK Tryz.prog S.length [.c 2 (some 13)] (fun r σ' => ∃ (o : Opr) (k' : Nat),r = .agg o.cells ∧ GenOp o ∧ k' ≤ k + 300 ∧ σ' = nst S a l k') .ret ⟨fr,nst S a l (k1 + 1 + 1 + 1 + 1) ++ loc⟩ := by
   intro o fr loc cs hO hr hcs
   refine ret_wk (xs' := [.agg o.cells]) (.inr rfl) hr ?_ rfl ⟨o,k1 + 1 + 1 + 1 + 1,rfl,hO,by omega,rfl⟩
   have := Wk.end0 (P := Tryz.prog) (xs := [.agg o.cells]) (loc := loc) (nst_closed (k' := k1 + 1 + 1 + 1 + 1) hcl) (by simp only [Opr.cells,Stamp.cells,En.cells,List.cons_append,List.nil_append,nst_len,LW])
   rw [nst_len] at this
   exact (Wk.cvs (.cons (Cv.aggs hcs) .nil)).trans this
  refine ⟨fun h => ?_,fun h => ?_⟩
  ·refine fin _ hO2 (by simp only [resVs,resV,nb0,VV,Nat.reduceAdd,reduceIte]; rfl) ?_
   simp only [Opr.cells,Stamp.cells,En.cells,bareOf,List.cons_append,List.nil_append,List.map_nil]
   repeat first | exact .nil | refine .cons (.refl _) ?_ | refine .cons (.nil _) ?_
  ·refine fin _ hO1 (by simp only [resVs,resV,nb0,VV,Nat.reduceAdd,reduceIte]; rfl) ?_
   simp only [Opr.cells,Stamp.cells,En.cells,List.cons_append,List.nil_append]
   repeat first | exact .nil | refine .cons (.refl _) ?_ | refine .cons (.nil _) ?_
 have hw3 : IntKind.i64.wrap (1 + v3 - 1) = v3 := by rw [IntWalk.i64_in _ (by omega)]; omega
 have hv2' : v2 = 0 ∨ v2 = 1 ∨ v2 = 2 := by omega
 rcases hv2' with rfl | rfl | rfl
 ·simp only [hw3,nst_len,nb,nbs,V.pure,VV,pexec,xexec,binV,Nat.reduceAdd,Int.reduceToNat,reduceIte]
  exact ⟨by decide,by decide,tail [v3,x2,x3] ⟨v3,x2,x3,rfl,hv3,hx2,hx3⟩ rfl (by repeat first | exact .nil | refine .cons (.refl _) ?_ | refine .cons (.forget _) ?_)⟩
 ·simp only [hw3,nst_len,nb,nbs,V.pure,VV,pexec,xexec,binV,Nat.reduceAdd,Int.reduceToNat,reduceIte]
  exact ⟨by decide,by decide,tail [x1,v3,x3] ⟨x1,v3,x3,rfl,hx1,hv3,hx3⟩ rfl (by repeat first | exact .nil | refine .cons (.refl _) ?_ | refine .cons (.forget _) ?_)⟩
 ·simp only [hw3,nst_len,nb,nbs,V.pure,VV,pexec,xexec,binV,Nat.reduceAdd,Int.reduceToNat,reduceIte]
  exact ⟨by decide,by decide,tail [x1,x2,v3] ⟨x1,x2,v3,rfl,hx1,hx2,hv3⟩ rfl (by repeat first | exact .nil | refine .cons (.refl _) ?_ | refine .cons (.forget _) ?_)⟩
theorem op_at (S : Store) (a : Nat) (ha : a < S.length) (l : List Int) (k : Nat) (hk : k < 2 ^ 47) (loc : Store) :
  PC Tryz.prog 19 [.ptr a 0] (nst S a l k ++ loc) (fun r σ' => ∃ (o : Opr) (k' : Nat),r = .agg o.cells ∧ GenOp o ∧ k' ≤ k + 300 ∧ σ' = nst S a l k' ++ loc) := by
 rw [nst_app ha]
 refine (op_pc (S ++ loc) a (by rw [List.length_append]; omega) l k hk).mono ?_
 rintro r σ' ⟨o,k',h1,h2,h3,h4⟩
 exact ⟨o,k',h1,h2,h3,by rw [h4,nst_app ha]⟩
end Go.Proofs.Tryz
