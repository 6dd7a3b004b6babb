/- A part of the proof of the statement of the last text of this claim: for every input the law returns true and leaves its argument as it was. -/
import Derived.Test.YtdhbodgefhojnaaGreatDoorW15
import Derived.Test.YtdhbodgefhojnaaGreatDoorW20
import Derived.Test.YtdhbodgefhojnaaGreatDoorW25
import Derived.Test.YtdhbodgefhojnaaGreatDoorW29
set_option linter.all false

namespace Go.Proofs.Tryz
open Go Go.Pm Go.Bt
theorem opOrd_zero {a b : Opr} (h : orI [cmpI a.stamp.office b.stamp.office,cmpI a.stamp.number b.stamp.number,cmpI a.stamp.time b.stamp.time,cmpI a.kind b.kind] = 0) : opOrd a b = cmpB (encode a).1 (encode b).1 := by
 simp only [opOrd,h,ne_eq,not_true,if_false]
theorem opOrd_some {a b : Opr} (h : orI [cmpI a.stamp.office b.stamp.office,cmpI a.stamp.number b.stamp.number,cmpI a.stamp.time b.stamp.time,cmpI a.kind b.kind] ≠ 0) :
  opOrd a b = orI [cmpI a.stamp.office b.stamp.office,cmpI a.stamp.number b.stamp.number,cmpI a.stamp.time b.stamp.time,cmpI a.kind b.kind] := by
 simp only [opOrd,if_pos h]
theorem opCompare_pc (a b : Opr) (ha : a.small) (hb : b.small) (σ : Store) : PC Tryz.prog 26 [.agg a.cells,.agg b.cells] σ (fun r σ' => r = .i .i64 (opOrd a b) ∧ σ' = σ) := by
 refine PC.intro Tryz.func26 c26 fun hcl hwf => wpc_sound ?_
 simp only [p26,List.length_cons,List.length_nil,List.replicate,List.cons_append,List.nil_append,Nat.reduceAdd,Nat.reduceSub]
 simp only [Opr.cells,Stamp.cells,En.cells,VV,pexec,xexec,binV,Nat.reduceAdd,Nat.reduceLeDiff]
 refine ⟨?_,?_⟩
 all_goals
  refine call_eq (cmpI_pc _ _ _) rfl ?_
  simp only [VV,pexec,binV]
  refine call_eq (cmpI_pc _ _ _) rfl ?_
  simp only [VV,pexec,binV]
  refine call_eq (cmpI_pc _ _ _) rfl ?_
  simp only [VV,pexec,binV]
  refine call_eq (cmpI_pc _ _ _) rfl ?_
  simp only [VV,pexec]
  refine call_cv (zs := [.sl 1 ([cmpI a.stamp.office b.stamp.office,cmpI a.stamp.number b.stamp.number,cmpI a.stamp.time b.stamp.time,cmpI a.kind b.kind].map iRow)]) (.cons (.lit _ _) .nil) (orI_pc _ _) ?_
  simp only [VV,pexec,binV,Nat.reduceAdd,reduceIte]
  refine ⟨fun h => ?_,fun h => ?_⟩
  ·have h : orI [cmpI a.stamp.office b.stamp.office,cmpI a.stamp.number b.stamp.number,cmpI a.stamp.time b.stamp.time,cmpI a.kind b.kind] ≠ 0 := by simpa using h
   rw [opOrd_some h]
   exact ret_end hcl (.inr rfl) (by simp only [resVs,resV,W]; rfl) (by simp only [LW]) ⟨rfl,rfl⟩
  ·have h : orI [cmpI a.stamp.office b.stamp.office,cmpI a.stamp.number b.stamp.number,cmpI a.stamp.time b.stamp.time,cmpI a.kind b.kind] = 0 := by simpa using h
   rw [opOrd_zero h]
   refine call_eq (encode_pc a ha _) rfl ?_
   simp only [VV,pexec,Nat.reduceAdd]
   refine call_eq (encode_pc b hb _) rfl ?_
   simp only [VV,pexec]
   refine call_eq (bytesCompare_pc (encode a).1 (encode b).1 _) rfl ?_
   simp only [VV,pexec]
   exact ret_end hcl (.inr rfl) (by simp only [resVs,resV,W]; rfl) (by simp only [LW]) ⟨rfl,rfl⟩
theorem opWins_pc (a b : Opr) (ha : a.small) (hb : b.small) (σ : Store) : PC Tryz.prog 28 [.agg a.cells,.agg b.cells] σ (fun r σ' => r = .b (wins a b) ∧ σ' = σ) := by
 refine PC.intro Tryz.func28 c28 fun hcl hwf => wpc_sound ?_
 simp only [p28,List.length_cons,List.length_nil,List.replicate,List.cons_append,List.nil_append,Nat.reduceAdd,Nat.reduceSub]
 simp only [Opr.cells,Stamp.cells,En.cells,VV,pexec,xexec,Nat.reduceAdd,Nat.reduceLeDiff]
 refine call_eq (stampCompare_pc a.stamp b.stamp _) rfl ?_
 simp only [VV,pexec,binV,Nat.reduceAdd,reduceIte]
 refine callg_eq (by simp only [VV] <;> rfl) (fun _ => opCompare_pc a b ha hb _) rfl ?_
 simp only [VV,pexec,binV,reduceIte]
 refine ret_end hcl (.inr rfl) (by simp only [resVs,resV,W]; rfl) (by simp only [LW]) ⟨?_,rfl⟩
 simp only [Pm.one,wins,V.b.injEq]
 by_cases h1 : 0 < cmpStamp a.stamp b.stamp <;> by_cases h2 : cmpStamp a.stamp b.stamp = 0 <;> simp [h1,h2]
theorem opConcurrent_pc (a b : Opr) (σ : Store) : PC Tryz.prog 30 [.agg a.cells,.agg b.cells] σ (fun r σ' => r = .b (concurrent a b) ∧ σ' = σ) := by
 refine PC.intro Tryz.func30 c30 fun hcl hwf => wpc_sound ?_
 simp only [p30,List.length_cons,List.length_nil,List.replicate,List.cons_append,List.nil_append,Nat.reduceAdd,Nat.reduceSub]
 simp only [Opr.cells,Stamp.cells,En.cells,VV,pexec,xexec,binV,Nat.reduceAdd,Nat.reduceLeDiff,reduceIte]
 refine callg_eq (by simp only [VV] <;> rfl) (fun _ => covers_pc a.seen b.stamp _) rfl ?_
 simp only [VV,pexec,Nat.reduceAdd,Nat.reduceLeDiff]
 refine callg_eq (by simp only [VV] <;> rfl) (fun _ => covers_pc b.seen a.stamp _) rfl ?_
 simp only [VV,pexec]
 refine ret_end hcl (.inr rfl) (by simp only [resVs,resV,W]; rfl) (by simp only [LW]) ⟨?_,rfl⟩
 simp only [Pm.one,concurrent]
theorem loop27 {n : Nat} {σ : Store} {K : Exit → St → Prop} (q2 q3 : V) (l : List Int) (hlen : l.length < 2 ^ 62) : ∀ (rest pre : List Int),l = pre ++ rest →
  (orI rest = 0 → (∀ j0 j1 j4 j5 j6 j7 j8 j9 j10 j11 j12 j13 j14 j15 j16 j17 j18 j19 j20 j21 j22 j23 j24 j25 j26 j27 j28 j29 j30 j31 j32 j33 j34 j35 j36 j37 j38 j39 j40 j41 j42 j43 j44 j45 j46 j47 j48 j49 j50 j51 j52 j53 j54 j55 j56 j57 j58 j59 j60 j61 j62 j63 j64 j65 j66,K (.exit 0) ⟨[j0,j1,q2,q3,j4,j5,j6,j7,j8,j9,j10,j11,j12,j13,j14,j15,j16,j17,j18,j19,j20,j21,j22,j23,j24,j25,j26,j27,j28,j29,j30,j31,j32,j33,j34,j35,j36,j37,j38,j39,j40,j41,j42,j43,j44,j45,j46,j47,j48,j49,j50,j51,j52,j53,j54,j55,j56,j57,j58,j59,j60,j61,j62,j63,j64,j65,j66],σ⟩)) → (orI rest ≠ 0 → (∀ j0 j1 j2 j3 j5 j6 j7 j8 j9 j10 j11 j12 j13 j14 j15 j16 j17 j18 j19 j20 j21 j22 j23 j24 j25 j26 j27 j28 j29 j30 j31 j32 j33 j34 j35 j36 j37 j38 j39 j40 j41 j42 j43 j44 j45 j46 j47 j48 j49 j50 j51 j52 j53 j54 j55 j56 j57 j58 j59 j60 j61 j62 j63 j64 j65 j66,K .ret ⟨[j0,j1,j2,j3,.i .i64 (orI rest),j5,j6,j7,j8,j9,j10,j11,j12,j13,j14,j15,j16,j17,j18,j19,j20,j21,j22,j23,j24,j25,j26,j27,j28,j29,j30,j31,j32,j33,j34,j35,j36,j37,j38,j39,j40,j41,j42,j43,j44,j45,j46,j47,j48,j49,j50,j51,j52,j53,j54,j55,j56,j57,j58,j59,j60,j61,j62,j63,j64,j65,j66],σ⟩)) →
  Rnd n Tryz.prog p27_0 K (rest.length + 1) ⟨[.u,.u,q2,q3,.u,.u,.u,.u,.u,.u,.u,.u,.u,.u,.u,.u,.u,.u,.u,.u,.u,.u,.u,.u,.u,.u,.u,.u,.u,.u,.u,.u,.u,.u,.u,.u,.u,.sl 1 (l.map iRow),.i .i64 l.length,.i .i64 pre.length,.u,.u,.u,.u,.u,.u,.u,.u,.u,.u,.u,.u,.u,.u,.u,.u,.u,.u,.u,.u,.u,.u,.u,.u,.u,.u,.u],σ⟩ := by
 intro rest
 induction rest with
 | nil =>
  intro pre he h1 _
  have he : l = pre := by simpa using he
  subst he
  refine rnd_step fun R hR => ?_
  simp only [p27_0,VV,pexec,binV,reduceIte]
  exact ⟨fun h => by simp at h,fun _ => h1 rfl ..⟩
 | cons c rest ih =>
  intro pre he h1 h2
  subst he
  have hat : at2 (List.map iRow (pre ++ c :: rest)) pre.length 0 = some (.i .i64 c) := at2_at
  have hw : IntKind.i64.wrap ((pre.length : Int) + 1) = (((pre ++ [c]).length : Nat) : Int) := by
   rw [wrap_succ (by simp at hlen; omega)]; simp
  refine rnd_step fun R hR => ?_
  simp only [p27_0,Int.toNat_natCast,hat,hw,List.length_map,VV,pexec,binV,reduceIte]
  refine ⟨fun _ => ⟨by simp; omega,fun h => ?_,fun h => ?_⟩,fun h => by simp at h <;> omega⟩
  ·have h : c ≠ 0 := by simpa using h
   have e : orI (c :: rest) = c := by simp only [orI,if_pos h]
   rw [e] at h2
   exact h2 h ..
  ·have h : c = 0 := by simpa using h
   have e : orI (c :: rest) = orI rest := by simp only [orI,h,ne_eq,not_true,if_false]
   rw [e] at h1 h2
   refine hR _ (rnd_cvs ?_ (ih (pre ++ [c]) (by simp) h1 h2))
   repeat first | exact .nil | refine .cons (.refl _) ?_ | refine .cons (.forget _) ?_
theorem r36CompareOps_pc (a b : Opr) (ha : a.small) (hb : b.small) (σ : Store) : PC Tryz.prog 27 [.agg a.cells,.agg b.cells] σ (fun r σ' => r = .i .i64 (opOrd a b) ∧ σ' = σ) := by
 refine PC.intro Tryz.func27 c27 fun hcl hwf => wpc_sound ?_
 simp only [p27,List.length_cons,List.length_nil,List.replicate,List.cons_append,List.nil_append,Nat.reduceAdd,Nat.reduceSub]
 simp only [Opr.cells,Stamp.cells,En.cells,VV,pexec,xexec]
 refine call_eq (r36order_pc _ _ _) rfl ?_
 simp only [VV,pexec,binV]
 refine call_eq (r36order_pc _ _ _) rfl ?_
 simp only [VV,pexec,binV]
 refine call_eq (r36order_pc _ _ _) rfl ?_
 simp only [VV,pexec,binV]
 refine call_eq (r36order_pc _ _ _) rfl ?_
 simp only [V.pure,VV,pexec,binV,Nat.reduceAdd]
 refine PWc.rnd_cvs (fr' := [.u,.u,.ptr σ.length 0,.ptr (σ.length + 1) 0,.u,.u,.u,.u,.u,.u,.u,.u,.u,.u,.u,.u,.u,.u,.u,.u,.u,.u,.u,.u,.u,.u,.u,.u,.u,.u,.u,.u,.u,.u,.u,.u,.u,.sl 1 ([cmpI a.stamp.office b.stamp.office,cmpI a.stamp.number b.stamp.number,cmpI a.stamp.time b.stamp.time,cmpI a.kind b.kind].map iRow),.i .i64 (4 : Nat),.i .i64 (([] : List Int).length : Nat),.u,.u,.u,.u,.u,.u,.u,.u,.u,.u,.u,.u,.u,.u,.u,.u,.u,.u,.u,.u,.u,.u,.u,.u,.u,.u,.u]) ?_ 5
  (loop27 (.ptr σ.length 0) (.ptr (σ.length + 1) 0) [cmpI a.stamp.office b.stamp.office,cmpI a.stamp.number b.stamp.number,cmpI a.stamp.time b.stamp.time,cmpI a.kind b.kind] (by simp) _ [] rfl (fun h => ?_) (fun h => ?_))
 ·repeat first | exact .nil | refine .cons (.refl _) ?_ | refine .cons (.lit _ _) ?_ | refine .cons (.forget _) ?_
 ·intros
  simp only [VV,pexec,Nat.reduceAdd]
  refine call_eq (r36Encode_pc a ha _) rfl ?_
  simp only [VV,pexec,Nat.reduceAdd]
  refine call_eq (r36Encode_pc b hb _) rfl ?_
  simp only [bytesOf_bytesV,bytesLess_cmpB,VV,pexec,binV,reduceIte]
  rw [opOrd_zero h]
  have hv := cmpB_vals (encode a).1 (encode b).1
  have hz := cmpB_zero (a := (encode a).1) (b := (encode b).1)
  refine ⟨fun h1 => ?_,fun h1 => ⟨fun h2 => ?_,fun h2 => ?_⟩⟩
  ·have e : cmpB (encode a).1 (encode b).1 = -1 := by have := of_decide_eq_true h1; omega
   rw [e]
   exact ret_end hcl (.inr rfl) (by simp only [resVs,resV,W]; rfl) (by simp only [LW]) ⟨rfl,rfl⟩
  ·have n1 := of_decide_eq_false h1
   have n2 : cmpB (encode a).1 (encode b).1 ≠ 0 := fun h0 => by rw [hz.1 h0] at h2; simp at h2
   have e : cmpB (encode a).1 (encode b).1 = 1 := by omega
   rw [e]
   exact ret_end hcl (.inr rfl) (by simp only [resVs,resV,W]; rfl) (by simp only [LW]) ⟨rfl,rfl⟩
  ·have e : cmpB (encode a).1 (encode b).1 = 0 := by
    rw [h1] at h2
    exact hz.2 (by simpa using h2)
   rw [e]
   exact ret_end hcl (.inr rfl) (by simp only [resVs,resV,W]; rfl) (by simp only [LW]) ⟨rfl,rfl⟩
 ·intros
  rw [opOrd_some h]
  exact ret_end hcl (.inr rfl) (by simp only [resVs,resV,W]; rfl) (by simp only [LW]) ⟨rfl,rfl⟩
theorem r36Wins_pc (a b : Opr) (ha : a.small) (hb : b.small) (σ : Store) : PC Tryz.prog 29 [.agg a.cells,.agg b.cells] σ (fun r σ' => r = .b (wins a b) ∧ σ' = σ) := by
 refine PC.intro Tryz.func29 c29 fun hcl hwf => wpc_sound ?_
 simp only [p29,List.length_cons,List.length_nil,List.replicate,List.cons_append,List.nil_append,Nat.reduceAdd,Nat.reduceSub]
 simp only [Opr.cells,Stamp.cells,En.cells,VV,pexec,xexec,Nat.reduceAdd,Nat.reduceLeDiff]
 refine call_eq (r36CompareStamps_pc a.stamp b.stamp _) rfl ?_
 simp only [VV,pexec,binV,Nat.reduceAdd,reduceIte]
 refine callg_eq (by simp only [VV] <;> rfl) (fun _ => r36CompareOps_pc a b ha hb _) rfl ?_
 simp only [VV,pexec,binV,reduceIte]
 refine ret_end hcl (.inr rfl) (by simp only [resVs,resV,W]; rfl) (by simp only [LW]) ⟨?_,rfl⟩
 simp only [Pm.one,wins,V.b.injEq]
 by_cases h1 : 0 < cmpStamp a.stamp b.stamp <;> by_cases h2 : cmpStamp a.stamp b.stamp = 0 <;> simp [h1,h2]
end Go.Proofs.Tryz
