/- A part of the proof that OperationCurrent returns true and leaves its arguments as they were, for every input of bounded size. -/
import Derived.Test.YtdhbodgefhojnaaGreatDoorU10
import Derived.Test.YtdhbodgefhojnaaGreatDoorU12
import Derived.Test.YtdhbodgefhojnaaGreatDoorU15
import Derived.Test.YtdhbodgefhojnaaGreatDoorU16
import Derived.Test.YtdhbodgefhojnaaGreatDoorU20
import Derived.Test.YtdhbodgefhojnaaGreatDoorU21
import Derived.Test.YtdhbodgefhojnaaGreatDoorU26
import Derived.Test.YtdhbodgefhojnaaGreatDoorU30
set_option linter.all false

namespace Go.Proofs.Tryz
open Go Go.Pm Go.Bt
theorem opOrd_zero {a b : Opr} (h : orI [cmpI a.stamp.office b.stamp.office,cmpI a.stamp.number b.stamp.number,cmpI a.stamp.time b.stamp.time,cmpI a.kind b.kind] = 0) : opOrd a b = cmpB (encode a).1 (encode b).1 := by
 simp only [opOrd,h,ne_eq,not_true,if_false]
theorem opOrd_some {a b : Opr} (h : orI [cmpI a.stamp.office b.stamp.office,cmpI a.stamp.number b.stamp.number,cmpI a.stamp.time b.stamp.time,cmpI a.kind b.kind] ≠ 0) :
  opOrd a b = orI [cmpI a.stamp.office b.stamp.office,cmpI a.stamp.number b.stamp.number,cmpI a.stamp.time b.stamp.time,cmpI a.kind b.kind] := by
 simp only [opOrd,if_pos h]
theorem opCompare_pc (a b : Opr) (ha : a.small) (hb : b.small) (σ : Store) : PC Tryz.prog 26 [.agg a.cells,.agg b.cells] σ (fun r σ' => r = .i .i64 (opOrd a b) ∧ σ' = σ) := by
 refine PC.intro Tryz.func26 c26 fun hcl hwf => wpc_sound ?_
 simp only [p26,List.length_cons,List.length_nil,List.replicate,List.cons_append,List.nil_append,Nat.reduceAdd,Nat.reduceSub]
 simp only [Opr.cells,Stamp.cells,En.cells,VV,pexec,xexec,binV,Nat.reduceAdd,Nat.reduceLeDiff]
 refine ⟨?_,?_⟩
 all_goals
  refine call_eq (cmpI_pc _ _ _) rfl ?_
  simp only [VV,pexec,binV]
  refine call_eq (cmpI_pc _ _ _) rfl ?_
  simp only [VV,pexec,binV]
  refine call_eq (cmpI_pc _ _ _) rfl ?_
  simp only [VV,pexec,binV]
  refine call_eq (cmpI_pc _ _ _) rfl ?_
  simp only [VV,pexec]
  refine call_cv (zs := [.sl 1 ([cmpI a.stamp.office b.stamp.office,cmpI a.stamp.number b.stamp.number,cmpI a.stamp.time b.stamp.time,cmpI a.kind b.kind].map iRow)]) (.cons (.lit _ _) .nil) (orI_pc _ _) ?_
  simp only [VV,pexec,binV,Nat.reduceAdd,reduceIte]
  refine ⟨fun h => ?_,fun h => ?_⟩
  ·have h : orI [cmpI a.stamp.office b.stamp.office,cmpI a.stamp.number b.stamp.number,cmpI a.stamp.time b.stamp.time,cmpI a.kind b.kind] ≠ 0 := by simpa using h
   rw [opOrd_some h]
   exact ret_end hcl (.inr rfl) (by simp only [resVs,resV,W]; rfl) (by simp only [LW]) ⟨rfl,rfl⟩
  ·have h : orI [cmpI a.stamp.office b.stamp.office,cmpI a.stamp.number b.stamp.number,cmpI a.stamp.time b.stamp.time,cmpI a.kind b.kind] = 0 := by simpa using h
   rw [opOrd_zero h]
   refine call_eq (encode_pc a ha _) rfl ?_
   simp only [VV,pexec,Nat.reduceAdd]
   refine call_eq (encode_pc b hb _) rfl ?_
   simp only [VV,pexec]
   refine call_eq (bytesCompare_pc (encode a).1 (encode b).1 _) rfl ?_
   simp only [VV,pexec]
   exact ret_end hcl (.inr rfl) (by simp only [resVs,resV,W]; rfl) (by simp only [LW]) ⟨rfl,rfl⟩
theorem opWins_pc (a b : Opr) (ha : a.small) (hb : b.small) (σ : Store) : PC Tryz.prog 28 [.agg a.cells,.agg b.cells] σ (fun r σ' => r = .b (wins a b) ∧ σ' = σ) := by
 refine PC.intro Tryz.func28 c28 fun hcl hwf => wpc_sound ?_
 simp only [p28,List.length_cons,List.length_nil,List.replicate,List.cons_append,List.nil_append,Nat.reduceAdd,Nat.reduceSub]
 simp only [Opr.cells,Stamp.cells,En.cells,VV,pexec,xexec,Nat.reduceAdd,Nat.reduceLeDiff]
 refine call_eq (stampCompare_pc a.stamp b.stamp _) rfl ?_
 simp only [VV,pexec,binV,Nat.reduceAdd,reduceIte]
 refine callg_eq (by simp only [VV] <;> rfl) (fun _ => opCompare_pc a b ha hb _) rfl ?_
 simp only [VV,pexec,binV,reduceIte]
 refine ret_end hcl (.inr rfl) (by simp only [resVs,resV,W]; rfl) (by simp only [LW]) ⟨?_,rfl⟩
 simp only [Pm.one,wins,V.b.injEq]
 by_cases h1 : 0 < cmpStamp a.stamp b.stamp <;> by_cases h2 : cmpStamp a.stamp b.stamp = 0 <;> simp [h1,h2]
theorem opConcurrent_pc (a b : Opr) (σ : Store) : PC Tryz.prog 30 [.agg a.cells,.agg b.cells] σ (fun r σ' => r = .b (concurrent a b) ∧ σ' = σ) := by
 refine PC.intro Tryz.func30 c30 fun hcl hwf => wpc_sound ?_
 simp only [p30,List.length_cons,List.length_nil,List.replicate,List.cons_append,List.nil_append,Nat.reduceAdd,Nat.reduceSub]
 simp only [Opr.cells,Stamp.cells,En.cells,VV,pexec,xexec,binV,Nat.reduceAdd,Nat.reduceLeDiff,reduceIte]
 refine callg_eq (by simp only [VV] <;> rfl) (fun _ => covers_pc a.seen b.stamp _) rfl ?_
 simp only [VV,pexec,Nat.reduceAdd,Nat.reduceLeDiff]
 refine callg_eq (by simp only [VV] <;> rfl) (fun _ => covers_pc b.seen a.stamp _) rfl ?_
 simp only [VV,pexec]
 refine ret_end hcl (.inr rfl) (by simp only [resVs,resV,W]; rfl) (by simp only [LW]) ⟨?_,rfl⟩
 simp only [Pm.one,concurrent]
theorem loop27 {n : Nat} {σ : Store} {K : Exit → St → Prop} (q2 q3 : V) (l : List Int) (hlen : l.length < 2 ^ 62) : ∀ (rest pre : List Int),l = pre ++ rest →
  (orI rest = 0 → (∀ j0 j1 j4 j5 j6 j7 j8 j9 j10 j11 j12 j13 j14 j15 j16 j17 j18 j19 j20 j21 j22 j23 j24 j25 j26 j27 j28 j29 j30 j31 j32 j33 j34 j35 j36 j37 j38 j39 j40 j41 j42 j43 j44 j45 j46 j47 j48 j49 j50 j51 j52 j53 j54 j55 j56 j57 j58 j59 j60 j61 j62 j63 j64 j65 j66,K (.exit 0) ⟨[j0,j1,q2,q3,j4,j5,j6,j7,j8,j9,j10,j11,j12,j13,j14,j15,j16,j17,j18,j19,j20,j21,j22,j23,j24,j25,j26,j27,j28,j29,j30,j31,j32,j33,j34,j35,j36,j37,j38,j39,j40,j41,j42,j43,j44,j45,j46,j47,j48,j49,j50,j51,j52,j53,j54,j55,j56,j57,j58,j59,j60,j61,j62,j63,j64,j65,j66],σ⟩)) → (orI rest ≠ 0 → (∀ j0 j1 j2 j3 j5 j6 j7 j8 j9 j10 j11 j12 j13 j14 j15 j16 j17 j18 j19 j20 j21 j22 j23 j24 j25 j26 j27 j28 j29 j30 j31 j32 j33 j34 j35 j36 j37 j38 j39 j40 j41 j42 j43 j44 j45 j46 j47 j48 j49 j50 j51 j52 j53 j54 j55 j56 j57 j58 j59 j60 j61 j62 j63 j64 j65 j66,K .ret ⟨[j0,j1,j2,j3,.i .i64 (orI rest),j5,j6,j7,j8,j9,j10,j11,j12,j13,j14,j15,j16,j17,j18,j19,j20,j21,j22,j23,j24,j25,j26,j27,j28,j29,j30,j31,j32,j33,j34,j35,j36,j37,j38,j39,j40,j41,j42,j43,j44,j45,j46,j47,j48,j49,j50,j51,j52,j53,j54,j55,j56,j57,j58,j59,j60,j61,j62,j63,j64,j65,j66],σ⟩)) →
  Rnd n Tryz.prog p27_0 K (rest.length + 1) ⟨[.u,.u,q2,q3,.u,.u,.u,.u,.u,.u,.u,.u,.u,.u,.u,.u,.u,.u,.u,.u,.u,.u,.u,.u,.u,.u,.u,.u,.u,.u,.u,.u,.u,.u,.u,.u,.u,.sl 1 (l.map iRow),.i .i64 l.length,.i .i64 pre.length,.u,.u,.u,.u,.u,.u,.u,.u,.u,.u,.u,.u,.u,.u,.u,.u,.u,.u,.u,.u,.u,.u,.u,.u,.u,.u,.u],σ⟩ := by
 intro rest
 induction rest with
 | nil =>
  intro pre he h1 _
  have he : l = pre := by simpa using he
  subst he
  refine rnd_step fun R hR => ?_
  simp only [p27_0,VV,pexec,binV,reduceIte]
  exact ⟨fun h => by simp at h,fun _ => h1 rfl ..⟩
 | cons c rest ih =>
  intro pre he h1 h2
  subst he
  have hat : at2 (List.map iRow (pre ++ c :: rest)) pre.length 0 = some (.i .i64 c) := at2_at
  have hw : IntKind.i64.wrap ((pre.length : Int) + 1) = (((pre ++ [c]).length : Nat) : Int) := by
   rw [wrap_succ (by simp at hlen; omega)]; simp
  refine rnd_step fun R hR => ?_
  simp only [p27_0,Int.toNat_natCast,hat,hw,List.length_map,VV,pexec,binV,reduceIte]
  refine ⟨fun _ => ⟨by simp; omega,fun h => ?_,fun h => ?_⟩,fun h => by simp at h <;> omega⟩
  ·have h : c ≠ 0 := by simpa using h
   have e : orI (c :: rest) = c := by simp only [orI,if_pos h]
   rw [e] at h2
   exact h2 h ..
  ·have h : c = 0 := by simpa using h
   have e : orI (c :: rest) = orI rest := by simp only [orI,h,ne_eq,not_true,if_false]
   rw [e] at h1 h2
   refine hR _ (rnd_cvs ?_ (ih (pre ++ [c]) (by simp) h1 h2))
   repeat first | exact .nil | refine .cons (.refl _) ?_ | refine .cons (.forget _) ?_
theorem r36CompareOps_pc (a b : Opr) (ha : a.small) (hb : b.small) (σ : Store) : PC Tryz.prog 27 [.agg a.cells,.agg b.cells] σ (fun r σ' => r = .i .i64 (opOrd a b) ∧ σ' = σ) := by
 refine PC.intro Tryz.func27 c27 fun hcl hwf => wpc_sound ?_
 simp only [p27,List.length_cons,List.length_nil,List.replicate,List.cons_append,List.nil_append,Nat.reduceAdd,Nat.reduceSub]
 simp only [Opr.cells,Stamp.cells,En.cells,VV,pexec,xexec]
 refine call_eq (r36order_pc _ _ _) rfl ?_
 simp only [VV,pexec,binV]
 refine call_eq (r36order_pc _ _ _) rfl ?_
 simp only [VV,pexec,binV]
 refine call_eq (r36order_pc _ _ _) rfl ?_
 simp only [VV,pexec,binV]
 refine call_eq (r36order_pc _ _ _) rfl ?_
 simp only [V.pure,VV,pexec,binV,Nat.reduceAdd]
 refine PWc.rnd_cvs (fr' := [.u,.u,.ptr σ.length 0,.ptr (σ.length + 1) 0,.u,.u,.u,.u,.u,.u,.u,.u,.u,.u,.u,.u,.u,.u,.u,.u,.u,.u,.u,.u,.u,.u,.u,.u,.u,.u,.u,.u,.u,.u,.u,.u,.u,.sl 1 ([cmpI a.stamp.office b.stamp.office,cmpI a.stamp.number b.stamp.number,cmpI a.stamp.time b.stamp.time,cmpI a.kind b.kind].map iRow),.i .i64 (4 : Nat),.i .i64 (([] : List Int).length : Nat),.u,.u,.u,.u,.u,.u,.u,.u,.u,.u,.u,.u,.u,.u,.u,.u,.u,.u,.u,.u,.u,.u,.u,.u,.u,.u,.u]) ?_ 5
  (loop27 (.ptr σ.length 0) (.ptr (σ.length + 1) 0) [cmpI a.stamp.office b.stamp.office,cmpI a.stamp.number b.stamp.number,cmpI a.stamp.time b.stamp.time,cmpI a.kind b.kind] (by simp) _ [] rfl (fun h => ?_) (fun h => ?_))
 ·repeat first | exact .nil | refine .cons (.refl _) ?_ | refine .cons (.lit _ _) ?_ | refine .cons (.forget _) ?_
 ·intros
  simp only [VV,pexec,Nat.reduceAdd]
  refine call_eq (r36Encode_pc a ha _) rfl ?_
  simp only [VV,pexec,Nat.reduceAdd]
  refine call_eq (r36Encode_pc b hb _) rfl ?_
  simp only [bytesOf_bytesV,bytesLess_cmpB,VV,pexec,binV,reduceIte]
  rw [opOrd_zero h]
  have hv := cmpB_vals (encode a).1 (encode b).1
  have hz := cmpB_zero (a := (encode a).1) (b := (encode b).1)
  refine ⟨fun h1 => ?_,fun h1 => ⟨fun h2 => ?_,fun h2 => ?_⟩⟩
  ·have e : cmpB (encode a).1 (encode b).1 = -1 := by have := of_decide_eq_true h1; omega
   rw [e]
   exact ret_end hcl (.inr rfl) (by simp only [resVs,resV,W]; rfl) (by simp only [LW]) ⟨rfl,rfl⟩
  ·have n1 := of_decide_eq_false h1
   have n2 : cmpB (encode a).1 (encode b).1 ≠ 0 := fun h0 => by rw [hz.1 h0] at h2; simp at h2
   have e : cmpB (encode a).1 (encode b).1 = 1 := by omega
   rw [e]
   exact ret_end hcl (.inr rfl) (by simp only [resVs,resV,W]; rfl) (by simp only [LW]) ⟨rfl,rfl⟩
  ·have e : cmpB (encode a).1 (encode b).1 = 0 := by
    rw [h1] at h2
    exact hz.2 (by simpa using h2)
   rw [e]
   exact ret_end hcl (.inr rfl) (by simp only [resVs,resV,W]; rfl) (by simp only [LW]) ⟨rfl,rfl⟩
 ·intros
  rw [opOrd_some h]
  exact ret_end hcl (.inr rfl) (by simp only [resVs,resV,W]; rfl) (by simp only [LW]) ⟨rfl,rfl⟩
theorem r36Wins_pc (a b : Opr) (ha : a.small) (hb : b.small) (σ : Store) : PC Tryz.prog 29 [.agg a.cells,.agg b.cells] σ (fun r σ' => r = .b (wins a b) ∧ σ' = σ) := by
 refine PC.intro Tryz.func29 c29 fun hcl hwf => wpc_sound ?_
 simp only [p29,List.length_cons,List.length_nil,List.replicate,List.cons_append,List.nil_append,Nat.reduceAdd,Nat.reduceSub]
 simp only [Opr.cells,Stamp.cells,En.cells,VV,pexec,xexec,Nat.reduceAdd,Nat.reduceLeDiff]
 refine call_eq (r36CompareStamps_pc a.stamp b.stamp _) rfl ?_
 simp only [VV,pexec,binV,Nat.reduceAdd,reduceIte]
 refine callg_eq (by simp only [VV] <;> rfl) (fun _ => r36CompareOps_pc a b ha hb _) rfl ?_
 simp only [VV,pexec,binV,reduceIte]
 refine ret_end hcl (.inr rfl) (by simp only [resVs,resV,W]; rfl) (by simp only [LW]) ⟨?_,rfl⟩
 simp only [Pm.one,wins,V.b.injEq]
 by_cases h1 : 0 < cmpStamp a.stamp b.stamp <;> by_cases h2 : cmpStamp a.stamp b.stamp = 0 <;> simp [h1,h2]
theorem loop34_0 {σ : Store} {K : Exit → St → Prop} (out : List Opr) (hlen : out.length ≤ 1024) (hs : ∀ o ∈ out,o.small) (x : Opr) (l : List (List V)) (n i : Int) (g : Nat) : ∀ (rest pre : List Opr),out = pre ++ rest →
  (∀ j0 j1 j2 j4 j8 j9 j10 j14 j15 j16 j17 j18 j19 j20 j21 j22 j23 j24 j25 j26 j27 j28 j29 j30 j31 j32 j33 j34 j35 j36 j37 j38 j39 j40 j41 j42 j43 j44 j45 j46 j47 j48 j49 j50 j51 j52 j53 j54 j55 j56 j57 j58 j59 j60 j61 j62 j63 j64 j65 j66 j67 j68 j69 j70 j71 j72,K (.exit 2) ⟨[j0,j1,j2,.own σ.length g,j4,.ptr (σ.length + 1) 0,.s (opKey x),.i .i64 (pre.length + keyPos (opKey x) rest : Nat),j8,j9,j10,.sl 13 l,.i .i64 n,.i .i64 i,j14,j15,j16,j17,j18,j19,j20,j21,j22,j23,j24,j25,j26,j27,j28,j29,j30,j31,j32,j33,j34,j35,j36,j37,j38,j39,j40,j41,j42,j43,j44,j45,j46,j47,j48,j49,j50,j51,j52,j53,j54,j55,j56,j57,j58,j59,j60,j61,j62,j63,j64,j65,j66,j67,j68,j69,j70,j71,j72],σ ++ [opRow g false out,.box 33 x.cells]⟩) →
  Rnd σ.length Tryz.prog p34_0 K (rest.length + 1) ⟨[.u,.u,.u,.own σ.length g,.u,.ptr (σ.length + 1) 0,.s (opKey x),.i .i64 pre.length,.u,.u,.u,.sl 13 l,.i .i64 n,.i .i64 i,.u,.u,.u,.u,.u,.u,.u,.u,.u,.u,.u,.u,.u,.u,.u,.u,.u,.u,.u,.u,.u,.u,.u,.u,.u,.u,.u,.u,.u,.u,.u,.u,.u,.u,.u,.u,.u,.u,.u,.u,.u,.u,.u,.u,.u,.u,.u,.u,.u,.u,.u,.u,.u,.u,.u,.u,.u,.u,.u],σ ++ [opRow g false out,.box 33 x.cells]⟩ := by
 intro rest
 induction rest with
 | nil =>
  intro pre he h1
  have he : out = pre := by simpa using he
  subst he
  have hd : decide ((out.length : Int) < (out.length : Int)) = false := by simp
  simp only [keyPos,Nat.add_zero] at h1
  refine rnd_step fun R hR => ?_
  simp only [p34_0,opRow,hd,List.length_map,VV,pexec,binV,reduceIte]
  refine ⟨by simp,.u,by simp,?_⟩
  refine callg_eq (c := false) (v := .s []) (by simp only [VV] <;> rfl) (fun h => by simp at h) rfl ?_
  simp only [VV,pexec,binV,reduceIte,reduceCtorEq]
  exact h1 ..
 | cons y rest ih =>
  intro pre he h1
  have hy := hs y (by rw [he]; simp)
  have hml : out.length = pre.length + (rest.length + 1) := by rw [he]; simp
  have hw : IntKind.i64.wrap ((pre.length : Int) + 1) = (((pre ++ [y]).length : Nat) : Int) := by
   rw [wrap_succ (by omega)]; simp
  have hat : (List.map Opr.cells out).getD pre.length [] = y.cells := by rw [he]; exact row_at
  have hd : decide ((pre.length : Int) < (out.length : Int)) = true := by simp; omega
  refine rnd_step fun R hR => ?_
  simp only [p34_0,opRow,Int.toNat_natCast,hat,hd,Opr.cells,Stamp.cells,En.cells,List.length_map,VV,pexec,binV,Nat.reduceAdd,reduceIte]
  refine ⟨by omega,_,rfl,?_⟩
  refine callg_eq (by simp only [VV] <;> rfl) (fun _ => r36KeyOf_pc y hy _) rfl ?_
  simp only [hw,VV,pexec,binV,reduceIte]
  simp only [keyPos] at h1
  refine ⟨fun h => ?_,fun h => ?_⟩
  ·rw [if_pos h] at h1
   have e : pre.length + (keyPos (opKey x) rest + 1) = (pre ++ [y]).length + keyPos (opKey x) rest := by simp; omega
   rw [e] at h1
   refine hR _ (rnd_cvs ?_ (ih (pre ++ [y]) (by rw [he]; simp) h1))
   repeat first | exact .nil | refine .cons (.refl _) ?_ | refine .cons (.forget _) ?_
  ·rw [h] at h1
   simp only [Bool.false_eq_true,if_false,Nat.add_zero] at h1
   exact h1 ..
theorem loop34_1 {σ : Store} {K : Exit → St → Prop} (hcl : Closed σ) (l : List Opr) (hlen : l.length ≤ 1024) (hs : ∀ o ∈ l,o.small) : ∀ (rest pre out : List Opr) (g : Nat),l = pre ++ rest → out.length ≤ pre.length → (∀ o ∈ out,o ∈ l) →
  (∀ g,(∀ j0 j1 j2 j4 j5 j6 j7 j8 j9 j10 j11 j12 j13 j14 j15 j16 j17 j18 j19 j20 j21 j22 j23 j24 j25 j26 j27 j28 j29 j30 j31 j32 j33 j34 j35 j36 j37 j38 j39 j40 j41 j42 j43 j44 j45 j46 j47 j48 j49 j50 j51 j52 j53 j54 j55 j56 j57 j58 j59 j60 j61 j62 j63 j64 j65 j66 j67 j68 j69 j70 j71 j72,K (.exit 0) ⟨[j0,j1,j2,.own σ.length g,j4,j5,j6,j7,j8,j9,j10,j11,j12,j13,j14,j15,j16,j17,j18,j19,j20,j21,j22,j23,j24,j25,j26,j27,j28,j29,j30,j31,j32,j33,j34,j35,j36,j37,j38,j39,j40,j41,j42,j43,j44,j45,j46,j47,j48,j49,j50,j51,j52,j53,j54,j55,j56,j57,j58,j59,j60,j61,j62,j63,j64,j65,j66,j67,j68,j69,j70,j71,j72],σ ++ [opRow g false (rest.foldl rStep out)]⟩)) →
  Rnd σ.length Tryz.prog p34_1 K (rest.length + 1) ⟨[.u,.u,.u,.own σ.length g,.u,.u,.u,.u,.u,.u,.u,.sl 13 (l.map Opr.cells),.i .i64 l.length,.i .i64 pre.length,.u,.u,.u,.u,.u,.u,.u,.u,.u,.u,.u,.u,.u,.u,.u,.u,.u,.u,.u,.u,.u,.u,.u,.u,.u,.u,.u,.u,.u,.u,.u,.u,.u,.u,.u,.u,.u,.u,.u,.u,.u,.u,.u,.u,.u,.u,.u,.u,.u,.u,.u,.u,.u,.u,.u,.u,.u,.u,.u],σ ++ [opRow g false out]⟩ := by
 intro rest
 induction rest with
 | nil =>
  intro pre out g he ho hm h1
  have he : l = pre := by simpa using he
  subst he
  refine rnd_step fun R hR => ?_
  simp only [p34_1,VV,pexec,xexec,binV,Nat.reduceAdd,reduceIte]
  exact ⟨fun h => by simp at h,fun _ => h1 g ..⟩
 | cons x rest ih =>
  intro pre out g he ho hm h1
  have hx : x ∈ l := by rw [he]; simp
  have sx := hs x hx
  have hml : l.length = pre.length + (rest.length + 1) := by rw [he]; simp
  have hw : IntKind.i64.wrap ((pre.length : Int) + 1) = (((pre ++ [x]).length : Nat) : Int) := by
   rw [wrap_succ (by omega)]; simp
  have hat : (List.map Opr.cells l).getD pre.length [] = x.cells := by rw [he]; exact row_at
  have hd : decide ((pre.length : Int) < (l.length : Int)) = true := by simp; omega
  refine rnd_stepW fun R hR => ?_
  simp only [p34_1]
  refine PWc.cut fun R1 hR1 => ?_
  simp only [hd,VV,pexec,binV,reduceIte]
  refine hR1 _ (PWc.cvs (fr' := [.u,.u,.u,.own σ.length g,.u,.u,.u,.u,.u,.u,.u,.sl 13 (l.map Opr.cells),.i .i64 l.length,.i .i64 pre.length,.b true,.u,.u,.u,.u,.u,.u,.u,.u,.u,.u,.u,.u,.u,.u,.u,.u,.u,.u,.u,.u,.u,.u,.u,.u,.u,.u,.u,.u,.u,.u,.u,.u,.u,.u,.u,.u,.u,.u,.u,.u,.u,.u,.u,.u,.u,.u,.u,.u,.u,.u,.u,.u,.u,.u,.u,.u,.u,.u]) ?_ (by repeat first | exact .nil | refine .cons (.refl _) ?_ | refine .cons (.forget _) ?_))
  clear hR1 R1
  refine PWc.cut fun R1 hR1 => ?_
  simp only [VV,reduceCtorEq]
  refine hR1 _ ?_
  clear hR1 R1
  refine PWc.cutW fun R1 hR1 => ?_
  have next : ∀ (out' : List Opr) (k g' : Nat) {loc : Store} {fr : List V},rStep out x = out' → loc[k]? = some (opRow g' false out') →
    Cvs fr [.u,.u,.u,.own (σ.length + k) g',.u,.u,.u,.u,.u,.u,.u,.sl 13 (l.map Opr.cells),.i .i64 l.length,.i .i64 pre.length,.u,.u,.u,.u,.u,.u,.u,.u,.u,.u,.u,.u,.u,.u,.u,.u,.u,.u,.u,.u,.u,.u,.u,.u,.u,.u,.u,.u,.u,.u,.u,.u,.u,.u,.u,.u,.u,.u,.u,.u,.u,.u,.u,.u,.u,.u,.u,.u,.u,.u,.u,.u,.u,.u,.u,.u,.u,.u,.u] → R1 ⟨fr,σ ++ loc⟩ := by
   intro out' k g' loc fr hr hk hc
   have hl := rStep_len out x
   refine hR1 _ (PWc.wk ((Wk.cvs hc).trans (Wk.keepL (ys := [.u,.u,.u,.own σ.length 0,.u,.u,.u,.u,.u,.u,.u,.sl 13 (l.map Opr.cells),.i .i64 l.length,.i .i64 pre.length,.u,.u,.u,.u,.u,.u,.u,.u,.u,.u,.u,.u,.u,.u,.u,.u,.u,.u,.u,.u,.u,.u,.u,.u,.u,.u,.u,.u,.u,.u,.u,.u,.u,.u,.u,.u,.u,.u,.u,.u,.u,.u,.u,.u,.u,.u,.u,.u,.u,.u,.u,.u,.u,.u,.u,.u,.u,.u,.u]) (os := [opRow 0 false out']) [k] hcl (by simp) rfl (fun i k' hk' => ?_) ?_)) (wpc_sound ?_))
   ·rcases i with _ | i
    ·simp only [List.getElem?_cons_zero,Option.some.injEq] at hk'; subst hk'; exact ⟨_,hk,rfl,rfl⟩
    ·simp at hk'
   ·repeat first | exact .nil | refine .cons (.keep _ (by constructor)) ?_ | refine .cons (.own 0 k _ _ _ g' _ _ rfl hk) ?_
   simp only [hw,VV,pexec,binV,reduceIte]
   refine hR _ (rnd_cvs ?_ (ih (pre ++ [x]) out' 0 (by rw [he]; simp) (by rw [← hr]; simp; omega) (fun o ho => ?_) ?_))
   ·repeat first | exact .nil | refine .cons (.refl _) ?_ | refine .cons (.forget _) ?_
   ·rw [← hr] at ho
    rcases rStep_mem ho with rfl | ho
    ·exact hx
    ·exact hm o ho
   ·rw [← hr]; exact h1
  clear hR1
  refine PWc.blk ?_
  refine PWc.cut fun R2 hR2 => ?_
  simp only [opRow,Int.toNat_natCast,hat,Opr.cells,Stamp.cells,En.cells,List.length_map,VV,pexec,xexec,Nat.reduceAdd,reduceIte]
  refine ⟨⟨by omega,by omega⟩,?_⟩
  refine hR2 _ (PWc.cvs (fr' := [.u,.u,.u,.own σ.length g,.u,.ptr (σ.length + 1) 0,.u,.u,.u,.u,.u,.sl 13 (l.map Opr.cells),.i .i64 l.length,.i .i64 pre.length,.u,.u,.u,.u,.u,.u,.u,.u,.u,.u,.u,.u,.u,.u,.u,.u,.u,.u,.u,.u,.u,.u,.u,.u,.u,.u,.u,.u,.u,.u,.u,.u,.u,.u,.u,.u,.u,.u,.u,.u,.u,.u,.u,.u,.u,.u,.u,.u,.u,.u,.u,.u,.u,.u,.u,.u,.u,.u,.u]) ?_ (by repeat first | exact .nil | refine .cons (.refl _) ?_ | refine .cons (.forget _) ?_))
  clear hR2 R2
  refine PWc.cut fun R2 hR2 => ?_
  simp only [VV,pexec,Nat.reduceAdd]
  refine call_eq (r36KeyOf_pc x sx _) rfl ?_
  simp only [VV,pexec]
  refine hR2 _ (PWc.cvs (fr' := [.u,.u,.u,.own σ.length g,.u,.ptr (σ.length + 1) 0,.s (opKey x),.u,.u,.u,.u,.sl 13 (l.map Opr.cells),.i .i64 l.length,.i .i64 pre.length,.u,.u,.u,.u,.u,.u,.u,.u,.u,.u,.u,.u,.u,.u,.u,.u,.u,.u,.u,.u,.u,.u,.u,.u,.u,.u,.u,.u,.u,.u,.u,.u,.u,.u,.u,.u,.u,.u,.u,.u,.u,.u,.u,.u,.u,.u,.u,.u,.u,.u,.u,.u,.u,.u,.u,.u,.u,.u,.u]) ?_ (by repeat first | exact .nil | refine .cons (.refl _) ?_ | refine .cons (.forget _) ?_))
  clear hR2 R2
  refine PWc.cut fun R2 hR2 => ?_
  simp only [VV,pexec,binV]
  refine ⟨fun h => next out 0 g (by simp only [rStep,if_pos (show opKey x = [] by simpa using h)]) rfl (by repeat first | exact .nil | refine .cons (.refl _) ?_ | refine .cons (.forget _) ?_),fun h => ?_⟩
  have hne : ¬ opKey x = [] := by simpa using h
  refine hR2 _ ?_
  clear hR2 R2
  refine PWc.cut fun R2 hR2 => ?_
  simp only [VV,pexec]
  refine hR2 _ (PWc.cvs (fr' := [.u,.u,.u,.own σ.length g,.u,.ptr (σ.length + 1) 0,.s (opKey x),.i .i64 (([] : List Opr).length : Nat),.u,.u,.u,.sl 13 (l.map Opr.cells),.i .i64 l.length,.i .i64 pre.length,.u,.u,.u,.u,.u,.u,.u,.u,.u,.u,.u,.u,.u,.u,.u,.u,.u,.u,.u,.u,.u,.u,.u,.u,.u,.u,.u,.u,.u,.u,.u,.u,.u,.u,.u,.u,.u,.u,.u,.u,.u,.u,.u,.u,.u,.u,.u,.u,.u,.u,.u,.u,.u,.u,.u,.u,.u,.u,.u]) ?_ (by repeat first | exact .nil | refine .cons (.refl _) ?_ | refine .cons (.forget _) ?_))
  clear hR2 R2
  have hso : ∀ o ∈ out,o.small := fun o ho => hs o (hm o ho)
  have hkp := keyPos_le (opKey x) out
  refine PWc.cutW fun R2 hR2 => ?_
  refine PWc.blk (PWc.rnd (out.length + 1) (loop34_0 out (by omega) hso x (l.map Opr.cells) l.length pre.length g out [] rfl ?_))
  intros
  simp only [List.length_nil,Nat.zero_add,VV]
  refine hR2 _ (PWc.cvs (fr' := [.u,.u,.u,.own σ.length g,.u,.ptr (σ.length + 1) 0,.s (opKey x),.i .i64 (keyPos (opKey x) out : Nat),.u,.u,.u,.sl 13 (l.map Opr.cells),.i .i64 l.length,.i .i64 pre.length,.u,.u,.u,.u,.u,.u,.u,.u,.u,.u,.u,.u,.u,.u,.u,.u,.u,.u,.u,.u,.u,.u,.u,.u,.u,.u,.u,.u,.u,.u,.u,.u,.u,.u,.u,.u,.u,.u,.u,.u,.u,.u,.u,.u,.u,.u,.u,.u,.u,.u,.u,.u,.u,.u,.u,.u,.u,.u,.u]) ?_ (by repeat first | exact .nil | refine .cons (.refl _) ?_ | refine .cons (.forget _) ?_))
  clear hR2 R2
  have hnew := insW_new (o := x) (l := out)
  have hold := fun y => insW_old (o := x) (l := out) (y := y)
  have hrs : rStep out x = insW x out := by simp only [rStep,if_neg hne]
  generalize keyPos (opKey x) out = k at hkp hnew hold ⊢
  refine PWc.cut fun R2 hR2 => ?_
  have ins : (∀ y,out[k]? = some y → opKey y ≠ opKey x) → ∀ {fr : List V},Cvs fr [.u,.u,.u,.own σ.length g,.u,.ptr (σ.length + 1) 0,.s (opKey x),.i .i64 k,.u,.u,.u,.sl 13 (l.map Opr.cells),.i .i64 l.length,.i .i64 pre.length,.u,.u,.u,.u,.u,.u,.u,.u,.u,.u,.u,.u,.u,.u,.u,.u,.u,.u,.u,.u,.u,.u,.u,.u,.u,.u,.u,.u,.u,.u,.u,.u,.u,.u,.b true,.u,.u,.u,.u,.u,.u,.u,.u,.u,.u,.u,.u,.u,.u,.u,.u,.u,.u,.u,.u,.u,.u,.u,.u] → R2 ⟨fr,σ ++ [opRow g false out,.box 33 x.cells]⟩ := by
   intro hn fr hc
   have hn := hnew hn
   rw [← hrs] at hn
   refine hR2 _ (PWc.cvs (PWc.iteT rfl (wpc_sound ?_)) hc)
   have ht : (out.map Opr.cells).take k = (out.take k).map Opr.cells := List.map_take.symm
   have hdr : ((out.map Opr.cells).drop k).take (out.length - k) = (out.drop k).map Opr.cells := by rw [← List.map_drop]; exact List.take_of_length_le (by simp)
   have hlt : (out.take k).length = k := by simp; omega
   cases hke : ((out.take k).map Opr.cells).isEmpty with
   | true =>
    have hk0 : out.take k = [] := by simpa using hke
    simp only [opRow,ht,hke,Int.toNat_natCast,Opr.cells,Stamp.cells,En.cells,List.length_map,List.isEmpty_cons,Bool.false_eq_true,if_false,V.pure,maxLen,VV,pexec,xexec,binV,Nat.reduceAdd,Int.reduceToNat,reduceIte]
    simp only [hdr,hlt,List.length_map,List.length_drop]
    refine ⟨by omega,by omega,by omega,by omega,by omega,by omega,by omega,?_⟩
    rw [hk0] at hn
    exact next _ 2 1 hn (by simp [opRow,Opr.cells,Stamp.cells,En.cells]) (by repeat first | exact .nil | refine .cons (.refl _) ?_ | refine .cons (.forget _) ?_)
   | false =>
    simp only [opRow,ht,hke,Int.toNat_natCast,Opr.cells,Stamp.cells,En.cells,List.length_map,Bool.false_eq_true,if_false,V.pure,maxLen,VV,pexec,xexec,binV,Nat.reduceAdd,Int.reduceToNat,reduceIte]
    simp only [hdr,hlt,List.length_append,List.length_map,List.length_drop,VV]
    refine ⟨by omega,by omega,by omega,by omega,by omega,by omega,by omega,?_⟩
    exact next _ 2 2 hn (by simp [opRow,Opr.cells,Stamp.cells,En.cells]) (by repeat first | exact .nil | refine .cons (.refl _) ?_ | refine .cons (.forget _) ?_)
  have els : ∀ y,out[k]? = some y → opKey y = opKey x → ∀ {fr : List V},Cvs fr [.u,.u,.u,.own σ.length g,.u,.ptr (σ.length + 1) 0,.s (opKey x),.i .i64 k,.u,.u,.u,.sl 13 (l.map Opr.cells),.i .i64 l.length,.i .i64 pre.length,.u,.u,.u,.u,.u,.u,.u,.u,.u,.u,.u,.u,.u,.u,.u,.u,.u,.u,.u,.u,.u,.u,.u,.u,.u,.u,.u,.u,.u,.u,.u,.u,.u,.u,.b false,.u,.u,.u,.u,.u,.u,.u,.u,.u,.u,.u,.u,.u,.u,.u,.u,.u,.u,.u,.u,.u,.u,.u,.u] → R2 ⟨fr,σ ++ [opRow g false out,.box 33 x.cells]⟩ := by
   intro y hy hyk fr hc
   have hn := hold y hy hyk
   rw [← hrs] at hn
   refine hR2 _ (PWc.cvs (PWc.iteF rfl (wpc_sound ?_)) hc)
   have hkl := (List.getElem?_eq_some_iff.1 hy).1
   have haty : (List.map Opr.cells out).getD k [] = y.cells := by rw [List.getD_eq_getElem?_getD,List.getElem?_map,hy]; rfl
   simp only [opRow,Int.toNat_natCast,haty,Opr.cells,Stamp.cells,En.cells,List.length_map,VV,pexec,Nat.reduceAdd,reduceIte]
   refine ⟨by omega,?_⟩
   refine call_eq (r36Wins_pc x y sx (hso y (List.mem_of_getElem? hy)) _) rfl ?_
   simp only [Int.toNat_natCast,haty,Opr.cells,Stamp.cells,En.cells,List.length_map,V.pure,VV,pexec,xexec,Nat.reduceAdd,reduceIte]
   refine ⟨fun h => ⟨by omega,hkl,next (out.set k x) 0 g (by rw [hn,if_pos h]) ?_ (by repeat first | exact .nil | refine .cons (.refl _) ?_ | refine .cons (.forget _) ?_)⟩,fun h => next out 0 g (by rw [hn,if_neg (by rw [h]; simp)]) rfl (by repeat first | exact .nil | refine .cons (.refl _) ?_ | refine .cons (.forget _) ?_)⟩
   simp [opRow,List.map_set,Opr.cells,Stamp.cells,En.cells]
  clear hR2
  by_cases hk : k = out.length
  ·simp only [hk] at ins
   simp only [hk,opRow,Int.toNat_natCast,List.length_map,VV,pexec,binV,reduceIte]
   refine ⟨by simp,.u,by simp,?_⟩
   refine callg_eq (c := false) (v := .s []) (by simp only [VV] <;> rfl) (fun h => by simp at h) rfl ?_
   simp only [VV,pexec,binV]
   exact ins (by simp) (by repeat first | exact .nil | refine .cons (.refl _) ?_ | refine .cons (.forget _) ?_)
  ·have hkl : k < out.length := by omega
   obtain ⟨y,hy⟩ : ∃ y,out[k]? = some y := ⟨_,List.getElem?_eq_getElem hkl⟩
   have haty : (List.map Opr.cells out).getD k [] = y.cells := by rw [List.getD_eq_getElem?_getD,List.getElem?_map,hy]; rfl
   have hkd : ((k : Int) == (out.length : Int)) = false := by simp; omega
   simp only [hkd,haty,opRow,Int.toNat_natCast,Opr.cells,Stamp.cells,En.cells,List.length_map,VV,pexec,binV,Nat.reduceAdd,reduceIte]
   refine ⟨by omega,_,rfl,?_⟩
   refine callg_eq (by simp only [VV] <;> rfl) (fun _ => r36KeyOf_pc y (hso y (List.mem_of_getElem? hy)) _) rfl ?_
   simp only [VV,pexec,binV]
   by_cases hyk : opKey y = opKey x
   ·have e : (!opKey y == opKey x) = false := by simp [hyk]
    simp only [e]
    exact els y hy hyk (by repeat first | exact .nil | refine .cons (.refl _) ?_ | refine .cons (.forget _) ?_)
   ·have e : (!opKey y == opKey x) = true := by simp [hyk]
    simp only [e]
    refine ins (fun z hz => ?_) (by repeat first | exact .nil | refine .cons (.refl _) ?_ | refine .cons (.forget _) ?_)
    rw [hy] at hz
    simp only [Option.some.injEq] at hz
    rw [← hz]; exact hyk
theorem r36Current_pc (l : List Opr) (hs : ∀ o ∈ l,o.small) (σ : Store) : PC Tryz.prog 34 [.sl 13 (l.map Opr.cells)] σ (fun r σ' => r = .sl 13 ((current l).map Opr.cells) ∧ σ' = σ) := by
 refine PC.intro Tryz.func34 c34 fun hcl hwf => wpc_sound ?_
 rw [← rcurrent_eq]
 simp only [p34,List.length_cons,List.length_nil,List.replicate,List.cons_append,List.nil_append,Nat.reduceAdd,Nat.reduceSub]
 simp only [List.length_map,VV,pexec,binV,reduceIte]
 refine ⟨fun h => ?_,fun h => ?_⟩
 ·have h : 1024 < l.length := by simp at h; omega
  refine ret_wk (xs' := [.sl 13 []]) (.inr rfl) (by simp only [resVs,resV,VV]) (Wk.cvs (.cons (.nil _) .nil)) rfl ?_
  simp only [rcurrent,if_pos h]; exact ⟨rfl,by trivial⟩
 ·have h : ¬ 1024 < l.length := by simp at h; omega
  refine PWc.wk ((Wk.promote (P := Tryz.prog) (σ := σ) (k := 3) ti_opR rfl).trans (Wk.cvs ?_)) (PWc.rnd (l.length + 1) (loop34_1 hcl l (by omega) hs l [] [] 0 rfl (by simp) (by simp) ?_))
  ·simp only [VV]
   repeat first | exact .nil | refine .cons (.refl _) ?_ | refine .cons (.forget _) ?_
  ·intro g
   intros
   simp only [VV,pexec]
   refine ret_fz 0 hcl (.inr rfl) (by simp only [resVs,resV,VV]; rfl) rfl ?_ ?_
   ·simp only [List.map_cons,List.map_nil,Nat.add_zero,fz,fz1,and_self,if_true,LW]
   ·simp only [List.map_cons,List.map_nil,Nat.add_zero,fz,fz1,and_self,if_true,rcurrent,if_neg h]
    exact ⟨rfl,trivial⟩
theorem loop35 {σ : Store} {K : Exit → St → Prop} (l : List Opr) (hcl : Closed σ) (hlen : l.length ≤ 1024) : ∀ (rest pre : List Opr) (out : List En) (g : Nat),l = pre ++ rest → out.length + rest.length ≤ l.length →
  (∀ g,(∀ j0 j1 j2 j4 j5 j6 j7 j8 j9 j10 j11 j12 j13 j14 j15 j16 j17 j18 j19 j20 j21 j22,K (.exit 0) ⟨[j0,j1,j2,.own σ.length g,j4,j5,j6,j7,j8,j9,j10,j11,j12,j13,j14,j15,j16,j17,j18,j19,j20,j21,j22],σ ++ [.row 26 8 128 g false ((out ++ (rest.filter fun o => o.kind == 1).map (·.entry)).map En.cells)]⟩)) →
  Rnd σ.length Tryz.prog p35_0 K (rest.length + 1) ⟨[.u,.u,.u,.own σ.length g,.u,.u,.u,.sl 13 (l.map Opr.cells),.i .i64 l.length,.i .i64 pre.length,.u,.u,.u,.u,.u,.u,.u,.u,.u,.u,.u,.u,.u],σ ++ [.row 26 8 128 g false (out.map En.cells)]⟩ := by
 intro rest
 induction rest with
 | nil =>
  intro pre out g he ho h1
  have he : l = pre := by simpa using he
  subst he
  refine rnd_step fun R hR => ?_
  simp only [p35_0,VV,pexec,xexec,binV,Nat.reduceAdd,reduceIte]
  simp only [List.filter_nil,List.map_nil,List.append_nil] at h1
  exact ⟨fun h => by simp at h,fun _ => h1 g ..⟩
 | cons x rest ih =>
  intro pre out g he ho h1
  subst he
  simp only [List.length_cons] at ho
  have next : ∀ (out' : List En) (g' : Nat) {loc : Store},out'.length ≤ out.length + 1 → out ++ ((x :: rest).filter fun o => o.kind == 1).map (·.entry) = out' ++ (rest.filter fun o => o.kind == 1).map (·.entry) → ∀ {R : St → Prop} {fr : List V},(∀ st',Rnd σ.length Tryz.prog p35_0 K (rest.length + 1) st' → R st') →
    Cvs fr [.u,.u,.u,.own σ.length g',.u,.u,.u,.sl 13 ((pre ++ x :: rest).map Opr.cells),.i .i64 (pre ++ x :: rest).length,.i .i64 (IntKind.i64.wrap ((pre.length : Int) + 1)),.u,.u,.u,.u,.u,.u,.u,.u,.u,.u,.u,.u,.u] → R ⟨fr,σ ++ (.row 26 8 128 g' false (out'.map En.cells) :: loc)⟩ := by
   intro out' g' loc hl hw R fr hR hc
   have e1 : IntKind.i64.wrap ((pre.length : Int) + 1) = (((pre ++ [x]).length : Nat) : Int) := by
    rw [wrap_succ (by simp at hlen; omega)]; simp
   rw [e1] at hc
   rw [hw] at h1
   refine hR _ (rnd_drop [_] loc (closed_add hcl (by simp)) hc ?_ (ih (pre ++ [x]) out' g' (by simp) (by omega) h1))
   simp only [LW,List.length_cons,List.length_nil,Nat.zero_add]
   omega
  refine rnd_step fun R hR => ?_
  simp only [p35_0,Opr.cells,Stamp.cells,En.cells,VV,pexec,xexec,binV,Nat.reduceAdd,Nat.reduceLeDiff,reduceIte]
  refine ⟨fun _ => ⟨by simp; omega,?_⟩,fun h => by simp at h <;> omega⟩
  refine ⟨fun h => ?_,fun h => ?_⟩
  ·simp only [List.length_map,maxLen]
   refine ⟨by simp at ho hlen; omega,?_⟩
   have e0 : (out.map En.cells ++ [[.sl 3 (x.entry.source.map It.cells),.sl 3 (x.entry.target.map It.cells),.s x.entry.previous,.s x.entry.next,.s x.entry.author,.s x.entry.project,.i .i64 x.entry.created,.i .i64 x.entry.origin]]) = (out ++ [x.entry]).map En.cells := by
    simp [En.cells]
   rw [e0]
   refine next (out ++ [x.entry]) (g + 1) (by simp) (by simp [h]) hR ?_
   repeat first | exact .nil | refine .cons (.refl _) ?_ | refine .cons (.forget _) ?_
  ·refine next out g (by omega) (by simp [h]) hR ?_
   repeat first | exact .nil | refine .cons (.refl _) ?_ | refine .cons (.forget _) ?_
theorem r36MemoryOf_pc (l : List Opr) (hs : ∀ o ∈ l,o.small) (σ : Store) : PC Tryz.prog 35 [.sl 13 (l.map Opr.cells)] σ (fun r σ' => r = .sl 8 ((memoryOf l).map En.cells) ∧ σ' = σ) := by
 refine PC.intro Tryz.func35 c35 fun hcl hwf => wpc_sound ?_
 simp only [p35,List.length_cons,List.length_nil,List.replicate,List.cons_append,List.nil_append,Nat.reduceAdd,Nat.reduceSub]
 simp only [VV,pexec]
 refine call_eq (r36Current_pc l hs _) rfl ?_
 simp only [List.length_map,VV,pexec]
 have hlen := current_len l
 refine PWc.wk ((Wk.promote (σ := σ) (k := 3) (P := Tryz.prog) (E := 26) (tiB_ok (by kernel_rfl)) rfl).trans (Wk.cvs ?_)) (PWc.rnd ((current l).length + 1) (loop35 (current l) hcl (by omega) (current l) [] [] 0 rfl (by simp) ?_))
 ·simp only [W]
  repeat first | exact .nil | refine .cons (.refl _) ?_ | refine .cons (.forget _) ?_
 ·intro g
  intros
  simp only [VV,pexec]
  refine ret_fz 0 hcl (.inr rfl) rfl rfl ?_ ?_
  ·simp only [List.getD_cons_zero,List.getD_cons_succ,List.map_cons,List.map_nil,Nat.add_zero,fz,fz1,and_self,if_true,LW]
  ·simp only [List.getD_cons_zero,List.getD_cons_succ,List.map_cons,List.map_nil,Nat.add_zero,fz,fz1,and_self,if_true]
   exact ⟨rfl,trivial⟩
end Go.Proofs.Tryz
