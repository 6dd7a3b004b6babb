/- A part of the proof that OperationKeeps returns true and leaves its argument as it was, for every input. -/
import Derived.Test.YtdhbodgefhojnaaGreatDoorK13
import Derived.Test.YtdhbodgefhojnaaGreatDoorK15
import Derived.Test.YtdhbodgefhojnaaGreatDoorK16
import Derived.Test.YtdhbodgefhojnaaGreatDoorK18
import Derived.Test.YtdhbodgefhojnaaGreatDoorK19
set_option linter.all false

namespace Go.Proofs.Tryz
open Go Go.Pm Go.Bt
theorem ne62 (c : UInt8) : ((c.toNat : Int) != 62) = (c != 62) := by revert c; exact u8_all (by decide +kernel)
theorem dig_int (c : UInt8) : (decide (48 ≤ (c.toNat : Int)) && decide ((c.toNat : Int) ≤ 57)) = digitB c := by revert c; exact u8_all (by decide +kernel)
theorem dec_step {pre : List UInt8} {c : UInt8} (hp : ∀ c ∈ pre,digitB c = true) (hl : pre.length ≤ 4) (hc : digitB c = true) :
  IntKind.i64.wrap (IntKind.i64.wrap (10 * decFrom 0 pre) + IntKind.i64.wrap (IntKind.u8.wrap ((c.toNat : Int) - 48))) = decFrom 0 (pre ++ [c]) := by
 have h := decFrom_le pre 0 pre.length rfl (List.all_eq_true.2 hp) (Int.le_refl 0)
 have h10 : (10 : Int) ^ pre.length ≤ 10 ^ 4 := by
  have : pre.length = 0 ∨ pre.length = 1 ∨ pre.length = 2 ∨ pre.length = 3 ∨ pre.length = 4 := by omega
  rcases this with h | h | h | h | h <;> rw [h] <;> decide
 simp only [digitB,Bool.and_eq_true,decide_eq_true_eq] at hc
 have e : IntKind.u8.wrap ((c.toNat : Int) - 48) = (c.toNat : Int) - 48 := IntWalk.u8_in _ (by omega)
 have h2 : decFrom 0 pre < 10000 := by omega
 rw [e,IntWalk.i64_in (10 * decFrom 0 pre) (by omega),IntWalk.i64_in ((c.toNat : Int) - 48) (by omega),IntWalk.i64_in _ (by omega)]
 simp [decFrom]
theorem tw_pre {pre rest : List UInt8} (hp : ∀ c ∈ pre,digitB c = true) : ((pre ++ rest).takeWhile digitB).length = pre.length + (rest.takeWhile digitB).length := by
 rw [List.takeWhile_append_of_pos hp,List.length_append]
set_option maxRecDepth 4000 in
theorem loop171_0 {n : Nat} {σ : Store} {K : Exit → St → Prop} (A : V) (s : List UInt8) (hlen : s.length < 2 ^ 62) : ∀ (rest pre : List UInt8),s = pre ++ rest →
  ((∀ j1 j3 j5 j6 j7 j8 j9 j10 j11 j12 j13 j14 j15 j16 j17 j18 j19 j20 j21 j22 j23 j24 j25 j26 j27 j28 j29 j30 j31 j32 j33 j34 j35 j36 j37 j38 j39 j40 j41 j42 j43 j44 j45 j46 j47 j48 j49 j50 j51 j52 j53 j54 j55 j56 j57 j58 j59 j60 j61 j62 j63 j64 j65 j66 j67 j68 j69 j70 j71 j72 j73 j74 j75 j76 j77 j78 j79 j80 j81 j82 j83 j84 j85 j86 j87 j88 j89 j90 j91 j92 j93 j94 j95 j96 j97 j98 j99 j100 j101 j102 j103 j104 j105 j106 j107 j108 j109 j110 j111 j112 j113 j114 j115 j116 j117 j118 j119 j120 j121 j122 j123 j124 j125 j126 j127 j128 j129 j130 j131 j132 j133 j134 j135 j136 j137 j138,K (.exit 0) ⟨[.s s,j1,A,j3,.i .i64 ((pre.length + (rest.takeWhile fun c => c != 62).length : Nat) : Int),j5,j6,j7,j8,j9,j10,j11,j12,j13,j14,j15,j16,j17,j18,j19,j20,j21,j22,j23,j24,j25,j26,j27,j28,j29,j30,j31,j32,j33,j34,j35,j36,j37,j38,j39,j40,j41,j42,j43,j44,j45,j46,j47,j48,j49,j50,j51,j52,j53,j54,j55,j56,j57,j58,j59,j60,j61,j62,j63,j64,j65,j66,j67,j68,j69,j70,j71,j72,j73,j74,j75,j76,j77,j78,j79,j80,j81,j82,j83,j84,j85,j86,j87,j88,j89,j90,j91,j92,j93,j94,j95,j96,j97,j98,j99,j100,j101,j102,j103,j104,j105,j106,j107,j108,j109,j110,j111,j112,j113,j114,j115,j116,j117,j118,j119,j120,j121,j122,j123,j124,j125,j126,j127,j128,j129,j130,j131,j132,j133,j134,j135,j136,j137,j138],σ⟩)) →
  Rnd n Tryz.prog p171_0 K (rest.length + 1) ⟨[.s s,.u,A,.u,.i .i64 pre.length,.u,.u,.u,.u,.u,.u,.u,.u,.u,.u,.u,.u,.u,.u,.u,.u,.u,.u,.u,.u,.u,.u,.u,.u,.u,.u,.u,.u,.u,.u,.u,.u,.u,.u,.u,.u,.u,.u,.u,.u,.u,.u,.u,.u,.u,.u,.u,.u,.u,.u,.u,.u,.u,.u,.u,.u,.u,.u,.u,.u,.u,.u,.u,.u,.u,.u,.u,.u,.u,.u,.u,.u,.u,.u,.u,.u,.u,.u,.u,.u,.u,.u,.u,.u,.u,.u,.u,.u,.u,.u,.u,.u,.u,.u,.u,.u,.u,.u,.u,.u,.u,.u,.u,.u,.u,.u,.u,.u,.u,.u,.u,.u,.u,.u,.u,.u,.u,.u,.u,.u,.u,.u,.u,.u,.u,.u,.u,.u,.u,.u,.u,.u,.u,.u],σ⟩ := by
 intro rest
 induction rest with
 | nil =>
  intro pre he h1
  have he : s = pre := by simpa using he
  subst he
  have e0 : decide ((s.length : Int) < (s.length : Int)) = false := by simp
  simp only [List.takeWhile_nil,List.length_nil,Nat.add_zero] at h1
  refine rnd_step fun R hR => ?_
  simp only [p171_0,e0,VV,pexec,binV,reduceIte,reduceCtorEq]
  exact ⟨fun h => by simp at h,h1 ..⟩
 | cons c rest ih =>
  intro pre he h1
  subst he
  have e0 : decide ((pre.length : Int) < ((pre ++ c :: rest).length : Int)) = true := by simp; omega
  refine rnd_step fun R hR => ?_
  simp only [p171_0,e0,VV,pexec,binV,reduceIte]
  refine ⟨by simp; omega,fun hc => ?_,fun hc => ?_⟩
  ·have hc2 : (c != 62) = true := by rw [← ne62]; exact hc
   have e2 : pre.length + ((c :: rest).takeWhile fun c => c != 62).length = (pre ++ [c]).length + (rest.takeWhile fun c => c != 62).length := by
    rw [List.takeWhile_cons,if_pos hc2]; simp; omega
   rw [e2] at h1
   refine hR _ (rnd_cvs ?_ (ih (pre ++ [c]) (by simp) h1))
   rw [wrap_succ (by simp at hlen; omega)]
   simp only [List.length_append,List.length_cons,List.length_nil]
   repeat first | exact .nil | refine .cons (.refl _) ?_ | refine .cons (.forget _) ?_
  ·have hc2 : ¬ (c != 62) = true := by rw [← ne62,hc]; simp
   have e2 : pre.length + ((c :: rest).takeWhile fun c => c != 62).length = pre.length := by
    rw [List.takeWhile_cons,if_neg hc2]; simp
   rw [e2] at h1
   exact h1 ..
set_option maxRecDepth 4000 in
theorem loop171_1 {n : Nat} {σ : Store} {K : Exit → St → Prop} (A B C : V) (t : List UInt8) (hlen : t.length < 2 ^ 62) : ∀ (m : Nat) (pre rest : List UInt8),t = pre ++ rest → pre.length + m = 4 → (∀ c ∈ pre,digitB c = true) →
  (∀ k : Nat,k = min 4 (t.takeWhile digitB).length → (∀ j0 j1 j3 j9 j10 j11 j12 j13 j14 j15 j16 j17 j18 j19 j20 j21 j22 j23 j24 j25 j26 j27 j28 j29 j30 j31 j32 j33 j34 j35 j36 j37 j38 j39 j40 j41 j42 j43 j44 j45 j46 j47 j48 j49 j50 j51 j52 j53 j54 j55 j56 j57 j58 j59 j60 j61 j62 j63 j64 j65 j66 j67 j68 j69 j70 j71 j72 j73 j74 j75 j76 j77 j78 j79 j80 j81 j82 j83 j84 j85 j86 j87 j88 j89 j90 j91 j92 j93 j94 j95 j96 j97 j98 j99 j100 j101 j102 j103 j104 j105 j106 j107 j108 j109 j110 j111 j112 j113 j114 j115 j116 j117 j118 j119 j120 j121 j122 j123 j124 j125 j126 j127 j128 j129 j130 j131 j132 j133 j134 j135 j136 j137 j138,K (.exit 2) ⟨[j0,j1,A,j3,B,.s t,C,.i .i64 (decFrom 0 (t.take k)),.i .i64 k,j9,j10,j11,j12,j13,j14,j15,j16,j17,j18,j19,j20,j21,j22,j23,j24,j25,j26,j27,j28,j29,j30,j31,j32,j33,j34,j35,j36,j37,j38,j39,j40,j41,j42,j43,j44,j45,j46,j47,j48,j49,j50,j51,j52,j53,j54,j55,j56,j57,j58,j59,j60,j61,j62,j63,j64,j65,j66,j67,j68,j69,j70,j71,j72,j73,j74,j75,j76,j77,j78,j79,j80,j81,j82,j83,j84,j85,j86,j87,j88,j89,j90,j91,j92,j93,j94,j95,j96,j97,j98,j99,j100,j101,j102,j103,j104,j105,j106,j107,j108,j109,j110,j111,j112,j113,j114,j115,j116,j117,j118,j119,j120,j121,j122,j123,j124,j125,j126,j127,j128,j129,j130,j131,j132,j133,j134,j135,j136,j137,j138],σ⟩)) →
  Rnd n Tryz.prog p171_1 K (m + 1) ⟨[.u,.u,A,.u,B,.s t,C,.i .i64 (decFrom 0 pre),.i .i64 pre.length,.u,.u,.u,.u,.u,.u,.u,.u,.u,.u,.u,.u,.u,.u,.u,.u,.u,.u,.u,.u,.u,.u,.u,.u,.u,.u,.u,.u,.u,.u,.u,.u,.u,.u,.u,.u,.u,.u,.u,.u,.u,.u,.u,.u,.u,.u,.u,.u,.u,.u,.u,.u,.u,.u,.u,.u,.u,.u,.u,.u,.u,.u,.u,.u,.u,.u,.u,.u,.u,.u,.u,.u,.u,.u,.u,.u,.u,.u,.u,.u,.u,.u,.u,.u,.u,.u,.u,.u,.u,.u,.u,.u,.u,.u,.u,.u,.u,.u,.u,.u,.u,.u,.u,.u,.u,.u,.u,.u,.u,.u,.u,.u,.u,.u,.u,.u,.u,.u,.u,.u,.u,.u,.u,.u,.u,.u,.u,.u,.u,.u],σ⟩ := by
 intro m
 induction m with
 | zero =>
  intro pre rest he hm hp h1
  subst he
  have e1 : decide ((pre.length : Int) < 4) = false := by simp; omega
  refine rnd_step fun R hR => ?_
  simp only [p171_1,e1,VV,pexec,binV,reduceIte,reduceCtorEq]
  have := h1 pre.length (by rw [tw_pre hp]; omega)
  rw [List.take_left] at this
  exact ⟨fun h => by simp at h,fun h => by simp at h,this ..⟩
 | succ m ih =>
  intro pre rest he hm hp h1
  subst he
  have e1 : decide ((pre.length : Int) < 4) = true := by simp; omega
  cases rest with
  | nil =>
   have e0 : decide ((pre.length : Int) < (pre.length : Int)) = false := by simp
   have h2 := h1 pre.length (by rw [tw_pre hp]; simp; omega)
   rw [List.take_left] at h2
   clear h1 ih
   simp only [List.append_nil] at h2 ⊢
   refine rnd_step fun R hR => ?_
   simp only [p171_1,e0,e1,VV,pexec,binV,reduceIte,reduceCtorEq]
   exact ⟨fun h => by simp at h,fun h => by simp at h,h2 ..⟩
  | cons c rest =>
   have e0 : decide ((pre.length : Int) < ((pre ++ c :: rest).length : Int)) = true := by simp; omega
   refine rnd_step fun R hR => ?_
   simp only [p171_1,e0,e1,VV,pexec,binV,reduceIte]
   have hb : (0 : Int) ≤ (pre.length : Int) ∧ (pre.length : Int) < ((pre ++ c :: rest).length : Int) := by simp; omega
   rw [dig_int]
   refine ⟨hb,fun _ => hb,fun hc => ⟨hb,?_⟩,fun hc => ?_⟩
   ·rw [dec_step hp (by omega) hc]
    refine hR _ (rnd_cvs ?_ (ih (pre ++ [c]) rest (by simp) (by simp; omega) (by
     intro x hx
     rcases List.mem_append.1 hx with hx | hx
     ·exact hp x hx
     ·simp only [List.mem_cons,List.not_mem_nil,or_false] at hx; subst hx; exact hc) h1))
    rw [wrap_succ (by omega)]
    simp only [List.length_append,List.length_cons,List.length_nil]
    repeat first | exact .nil | refine .cons (.refl _) ?_ | refine .cons (.forget _) ?_
   ·have := h1 pre.length (by rw [tw_pre hp,List.takeWhile_cons,if_neg (by rw [hc]; simp)]; simp; omega)
    rw [List.take_left] at this
    exact this ..
theorem idx_tw (c : UInt8) : ∀ l : List UInt8,Lib.indexByte l c = if (l.takeWhile fun x => x != c).length < l.length then ((l.takeWhile fun x => x != c).length : Int) else -1
 | [] => by simp [Lib.indexByte]
 | a :: l => by
  by_cases ha : a = c
  ·subst ha; simp [Lib.indexByte]
  ·have ha2 : (a == c) = false := by simpa using ha
   have ha3 : (a != c) = true := by simpa using ha
   have ih := idx_tw c l
   simp only [Lib.indexByte,ha2,Bool.false_eq_true,if_false,List.takeWhile_cons,ha3,if_true,List.length_cons]
   generalize (l.takeWhile fun x => x != c).length = tw at ih
   by_cases h : tw < l.length
   ·rw [if_pos h] at ih
    have e : ((tw : Int) == -1) = false := by rw [beq_eq_false_iff_ne]; omega
    rw [ih,if_pos (show tw + 1 < l.length + 1 by omega),e]; rfl
   ·rw [if_neg h] at ih
    rw [ih,if_neg (show ¬ tw + 1 < l.length + 1 by omega)]; rfl
theorem rread_rest (rest : List UInt8) : rread (60 :: rest) = if (rest.takeWhile fun x => x != 62).length < rest.length then
  (if (rtag (rest.take (rest.takeWhile fun x => x != 62).length)).2 = true then ((rtag (rest.take (rest.takeWhile fun x => x != 62).length)).1,((rest.takeWhile fun x => x != 62).length : Int) + 2) else (noIt,0)) else (noIt,0) := by
 have hi := idx_tw 62 (60 :: rest)
 simp only [List.takeWhile_cons,show ((60 : UInt8) != 62) = true from rfl,if_true,List.length_cons] at hi
 rw [rread_tag rfl]
 by_cases h : (rest.takeWhile fun x => x != 62).length < rest.length
 ·rw [if_pos (by omega)] at hi
  rw [hi,if_pos h,if_neg (by omega)]
  have e : ((60 :: rest).take (((rest.takeWhile fun x => x != 62).length + 1 : Nat) : Int).toNat).drop 1 = rest.take (rest.takeWhile fun x => x != 62).length := by
   rw [Int.toNat_natCast,List.take_succ_cons]; rfl
  rw [e]
  congr 2
 ·rw [if_neg (by omega)] at hi
  rw [hi,if_neg h,if_pos (by decide)]
theorem u47 (a : UInt8) : ((a.toNat : Int) == 47) = (a == 47) := by revert a; exact u8_all (by decide +kernel)
theorem u48 (a : UInt8) : ((a.toNat : Int) == 48) = (a == 48) := by revert a; exact u8_all (by decide +kernel)
theorem u58 (a : UInt8) : ((a.toNat : Int) != 58) = (a != 58) := by revert a; exact u8_all (by decide +kernel)
theorem pre47 {t : List UInt8} (h : t ≠ []) : hasPrefix t [47] = (((t.getD 0 0).toNat : Int) == 47) := by
 cases t with
 | nil => exact absurd rfl h
 | cons a t => rw [u47]; simp [hasPrefix]
theorem suf47 {t : List UInt8} (h : t ≠ []) : hasSuffix t [47] = (((t.getD (t.length - 1) 0).toNat : Int) == 47) := by
 rcases List.eq_nil_or_concat t with ht | ⟨t',a,ht⟩
 ·exact absurd ht h
 ·rw [List.concat_eq_append] at ht
  subst ht
  rw [u47,hasSuffix_snoc]
  simp [List.getD_eq_getElem?_getD]
set_option maxRecDepth 8000 in
theorem r3readTag_pc (s : List UInt8) (h0 : s.getD 0 0 = 60) (hlen : s.length < 2 ^ 62) (σ : Store) : PC Tryz.prog 171 [.s s] σ (fun r σ' => r = .tup [.agg (rread s).1.cells,.i .i64 (rread s).2] ∧ σ' = σ) := by
 obtain ⟨rest,rfl⟩ : ∃ rest,s = 60 :: rest := by
  cases s with
  | nil => simp at h0
  | cons a r => simp only [List.getD_cons_zero] at h0; exact ⟨r,by rw [h0]⟩
 refine PC.intro Tryz.func171 c171 fun hcl hwf => ?_
 simp only [p171,List.length_cons,List.length_nil,List.replicate,List.cons_append,List.nil_append,Nat.reduceAdd,Nat.reduceSub]
 refine PWc.cut fun R hR => ?_
 simp only [VV,pexec,xexec]
 refine hR _ (PWc.cvs (fr' := [.s (60 :: rest),.u,.ptr σ.length 0,.u,.u,.u,.u,.u,.u,.u,.u,.u,.u,.u,.u,.u,.u,.u,.u,.u,.u,.u,.u,.u,.u,.u,.u,.u,.u,.u,.u,.u,.u,.u,.u,.u,.u,.u,.u,.u,.u,.u,.u,.u,.u,.u,.u,.u,.u,.u,.u,.u,.u,.u,.u,.u,.u,.u,.u,.u,.u,.u,.u,.u,.u,.u,.u,.u,.u,.u,.u,.u,.u,.u,.u,.u,.u,.u,.u,.u,.u,.u,.u,.u,.u,.u,.u,.u,.u,.u,.u,.u,.u,.u,.u,.u,.u,.u,.u,.u,.u,.u,.u,.u,.u,.u,.u,.u,.u,.u,.u,.u,.u,.u,.u,.u,.u,.u,.u,.u,.u,.u,.u,.u,.u,.u,.u,.u,.u,.u,.u,.u,.u,.u,.u,.u,.u,.u,.u]) ?_ (by repeat first | exact .nil | refine .cons (.refl _) ?_ | refine .cons (.forget _) ?_))
 clear hR R
 refine PWc.cut fun R hR => ?_
 simp only [VV,pexec]
 refine hR _ (PWc.cvs (fr' := [.s (60 :: rest),.u,.ptr σ.length 0,.u,.i .i64 ((1 : Nat) : Int),.u,.u,.u,.u,.u,.u,.u,.u,.u,.u,.u,.u,.u,.u,.u,.u,.u,.u,.u,.u,.u,.u,.u,.u,.u,.u,.u,.u,.u,.u,.u,.u,.u,.u,.u,.u,.u,.u,.u,.u,.u,.u,.u,.u,.u,.u,.u,.u,.u,.u,.u,.u,.u,.u,.u,.u,.u,.u,.u,.u,.u,.u,.u,.u,.u,.u,.u,.u,.u,.u,.u,.u,.u,.u,.u,.u,.u,.u,.u,.u,.u,.u,.u,.u,.u,.u,.u,.u,.u,.u,.u,.u,.u,.u,.u,.u,.u,.u,.u,.u,.u,.u,.u,.u,.u,.u,.u,.u,.u,.u,.u,.u,.u,.u,.u,.u,.u,.u,.u,.u,.u,.u,.u,.u,.u,.u,.u,.u,.u,.u,.u,.u,.u,.u]) ?_ (by repeat first | exact .nil | refine .cons (.refl _) ?_ | refine .cons (.forget _) ?_))
 clear hR R
 refine PWc.cut fun R hR => ?_
 simp only [VV]
 have hr := rread_rest rest
 refine PWc.rnd_cvs ?_ (rest.length + 1) (loop171_0 (.ptr σ.length 0) (60 :: rest) hlen rest [60] rfl ?_)
 ·simp only [List.length_cons,List.length_nil]
  repeat first | exact .nil | refine .cons (.refl _) ?_ | refine .cons (.forget _) ?_
 generalize he : (rest.takeWhile fun x => x != 62).length = e at hr
 have hle : e ≤ rest.length := by rw [← he]; exact (List.takeWhile_prefix _).length_le
 intros
 simp only [List.length_cons,List.length_nil,Nat.zero_add,VV]
 refine hR _ (PWc.cvs (fr' := [.s (60 :: rest),.u,.ptr σ.length 0,.u,.i .i64 ((1 + e : Nat) : Int),.u,.u,.u,.u,.u,.u,.u,.u,.u,.u,.u,.u,.u,.u,.u,.u,.u,.u,.u,.u,.u,.u,.u,.u,.u,.u,.u,.u,.u,.u,.u,.u,.u,.u,.u,.u,.u,.u,.u,.u,.u,.u,.u,.u,.u,.u,.u,.u,.u,.u,.u,.u,.u,.u,.u,.u,.u,.u,.u,.u,.u,.u,.u,.u,.u,.u,.u,.u,.u,.u,.u,.u,.u,.u,.u,.u,.u,.u,.u,.u,.u,.u,.u,.u,.u,.u,.u,.u,.u,.u,.u,.u,.u,.u,.u,.u,.u,.u,.u,.u,.u,.u,.u,.u,.u,.u,.u,.u,.u,.u,.u,.u,.u,.u,.u,.u,.u,.u,.u,.u,.u,.u,.u,.u,.u,.u,.u,.u,.u,.u,.u,.u,.u,.u]) ?_ (by repeat first | exact .nil | refine .cons (.refl _) ?_ | refine .cons (.forget _) ?_))
 clear hR R
 refine PWc.cut fun R hR => ?_
 simp only [List.length_cons,VV,pexec,xexec,binV,Nat.reduceAdd,reduceIte]
 refine ⟨fun h => ?_,fun h => ?_⟩
 ·have h : ¬ e < rest.length := by simp at h; omega
  rw [if_neg h] at hr
  refine ret_end hcl (.inr rfl) (by simp only [resVs,resV,W]; rfl) (by simp only [LW]) ⟨?_,rfl⟩
  rw [hr]; rfl
 have h : e < rest.length := by simp at h; omega
 rw [if_pos h] at hr
 refine hR _ (PWc.cvs (fr' := [.s (60 :: rest),.u,.ptr σ.length 0,.u,.i .i64 ((1 + e : Nat) : Int),.u,.u,.u,.u,.u,.u,.u,.u,.u,.u,.u,.u,.u,.u,.u,.u,.u,.u,.u,.u,.u,.u,.u,.u,.u,.u,.u,.u,.u,.u,.u,.u,.u,.u,.u,.u,.u,.u,.u,.u,.u,.u,.u,.u,.u,.u,.u,.u,.u,.u,.u,.u,.u,.u,.u,.u,.u,.u,.u,.u,.u,.u,.u,.u,.u,.u,.u,.u,.u,.u,.u,.u,.u,.u,.u,.u,.u,.u,.u,.u,.u,.u,.u,.u,.u,.u,.u,.u,.u,.u,.u,.u,.u,.u,.u,.u,.u,.u,.u,.u,.u,.u,.u,.u,.u,.u,.u,.u,.u,.u,.u,.u,.u,.u,.u,.u,.u,.u,.u,.u,.u,.u,.u,.u,.u,.u,.u,.u,.u,.u,.u,.u,.u,.u]) ?_ (by repeat first | exact .nil | refine .cons (.refl _) ?_ | refine .cons (.forget _) ?_))
 clear hR R
 generalize ht : rest.take e = t at hr
 have htl : t.length < 2 ^ 62 := by rw [← ht,List.length_take]; simp at hlen; omega
 refine PWc.cut fun R hR => ?_
 simp only [List.length_cons,VV,pexec,Int.reduceToNat]
 refine ⟨by omega,?_⟩
 have e1 : List.take (1 + e - 1) rest = t := by rw [← ht]; congr 1; omega
 rw [e1]
 refine hR _ (PWc.cvs (fr' := [.u,.u,.ptr σ.length 0,.u,.i .i64 ((1 + e : Nat) : Int),.s t,.i .i64 2,.u,.u,.u,.u,.u,.u,.u,.u,.u,.u,.u,.u,.u,.u,.u,.u,.u,.u,.u,.u,.u,.u,.u,.u,.u,.u,.u,.u,.u,.u,.u,.u,.u,.u,.u,.u,.u,.u,.u,.u,.u,.u,.u,.u,.u,.u,.u,.u,.u,.u,.u,.u,.u,.u,.u,.u,.u,.u,.u,.u,.u,.u,.u,.u,.u,.u,.u,.u,.u,.u,.u,.u,.u,.u,.u,.u,.u,.u,.u,.u,.u,.u,.u,.u,.u,.u,.u,.u,.u,.u,.u,.u,.u,.u,.u,.u,.u,.u,.u,.u,.u,.u,.u,.u,.u,.u,.u,.u,.u,.u,.u,.u,.u,.u,.u,.u,.u,.u,.u,.u,.u,.u,.u,.u,.u,.u,.u,.u,.u,.u,.u,.u]) ?_ (by repeat first | exact .nil | refine .cons (.refl _) ?_ | refine .cons (.forget _) ?_))
 clear hR R
 refine PWc.cut fun R hR => ?_
 have tail : ∀ (kind : Int) (u : List UInt8),u.length < 2 ^ 62 → rread (60 :: rest) = (if (rbody kind u).2 = true then ((rbody kind u).1,(e : Int) + 2) else (noIt,0)) → (kind = 2 ∨ kind = 3 ∨ kind = 4) →
   ∀ {fr : List V},Cvs fr [.u,.u,.ptr σ.length 0,.u,.i .i64 ((1 + e : Nat) : Int),.s u,.i .i64 kind,.u,.u,.u,.u,.u,.u,.u,.u,.u,.u,.u,.u,.u,.u,.u,.u,.u,.u,.u,.u,.u,.u,.u,.u,.u,.u,.u,.u,.u,.u,.u,.u,.u,.u,.u,.u,.u,.u,.u,.u,.u,.u,.u,.u,.u,.u,.u,.u,.u,.u,.u,.u,.u,.u,.u,.u,.u,.u,.u,.u,.u,.u,.u,.u,.u,.u,.u,.u,.u,.u,.u,.u,.u,.u,.u,.u,.u,.u,.u,.u,.u,.u,.u,.u,.u,.u,.u,.u,.u,.u,.u,.u,.u,.u,.u,.u,.u,.u,.u,.u,.u,.u,.u,.u,.u,.u,.u,.u,.u,.u,.u,.u,.u,.u,.u,.u,.u,.u,.u,.u,.u,.u,.u,.u,.u,.u,.u,.u,.u,.u,.u,.u] → R ⟨fr,σ ++ [.box 23 [.i .i64 0,.s [],.i .i64 0]]⟩ := by
  intro kind u hu hru hkind fr hc
  refine hR _ (PWc.cvs ?_ hc)
  clear hR R
  refine PWc.cut fun R hR => ?_
  simp only [VV,pexec]
  refine hR _ (PWc.cvs (fr' := [.u,.u,.ptr σ.length 0,.u,.i .i64 ((1 + e : Nat) : Int),.s u,.i .i64 kind,.i .i64 (decFrom 0 []),.i .i64 (([] : List UInt8).length : Nat),.u,.u,.u,.u,.u,.u,.u,.u,.u,.u,.u,.u,.u,.u,.u,.u,.u,.u,.u,.u,.u,.u,.u,.u,.u,.u,.u,.u,.u,.u,.u,.u,.u,.u,.u,.u,.u,.u,.u,.u,.u,.u,.u,.u,.u,.u,.u,.u,.u,.u,.u,.u,.u,.u,.u,.u,.u,.u,.u,.u,.u,.u,.u,.u,.u,.u,.u,.u,.u,.u,.u,.u,.u,.u,.u,.u,.u,.u,.u,.u,.u,.u,.u,.u,.u,.u,.u,.u,.u,.u,.u,.u,.u,.u,.u,.u,.u,.u,.u,.u,.u,.u,.u,.u,.u,.u,.u,.u,.u,.u,.u,.u,.u,.u,.u,.u,.u,.u,.u,.u,.u,.u,.u,.u,.u,.u,.u,.u,.u,.u]) ?_ (by repeat first | exact .nil | refine .cons (.refl _) ?_ | refine .cons (.forget _) ?_))
  clear hR R
  refine PWc.cut fun R hR => ?_
  simp only [VV]
  refine PWc.rnd_cvs ?_ 5 (loop171_1 (.ptr σ.length 0) (.i .i64 ((1 + e : Nat) : Int)) (.i .i64 kind) u hu 4 [] u rfl rfl (by simp) ?_)
  ·repeat first | exact .nil | refine .cons (.refl _) ?_ | refine .cons (.forget _) ?_
  intro k hk
  intros
  simp only [VV]
  refine hR _ (PWc.cvs (fr' := [.u,.u,.ptr σ.length 0,.u,.i .i64 ((1 + e : Nat) : Int),.s u,.i .i64 kind,.i .i64 (decFrom 0 (u.take k)),.i .i64 k,.u,.u,.u,.u,.u,.u,.u,.u,.u,.u,.u,.u,.u,.u,.u,.u,.u,.u,.u,.u,.u,.u,.u,.u,.u,.u,.u,.u,.u,.u,.u,.u,.u,.u,.u,.u,.u,.u,.u,.u,.u,.u,.u,.u,.u,.u,.u,.u,.u,.u,.u,.u,.u,.u,.u,.u,.u,.u,.u,.u,.u,.u,.u,.u,.u,.u,.u,.u,.u,.u,.u,.u,.u,.u,.u,.u,.u,.u,.u,.u,.u,.u,.u,.u,.u,.u,.u,.u,.u,.u,.u,.u,.u,.u,.u,.u,.u,.u,.u,.u,.u,.u,.u,.u,.u,.u,.u,.u,.u,.u,.u,.u,.u,.u,.u,.u,.u,.u,.u,.u,.u,.u,.u,.u,.u,.u,.u,.u,.u,.u]) ?_ (by repeat first | exact .nil | refine .cons (.refl _) ?_ | refine .cons (.forget _) ?_))
  clear hR R
  have hrb : rbody kind u = if k = 0 ∨ u.length ≤ k ∨ u.getD 0 0 = 48 ∨ 999 < decFrom 0 (u.take k) ∨ u.getD k 0 ≠ 58 then (noIt,false) else
    if (kind = 3 ∧ isName (u.drop (k + 1)) = false) ∨ (kind ≠ 3 ∧ isContent (u.drop (k + 1)) = false) then (noIt,false) else (⟨kind,u.drop (k + 1),decFrom 0 (u.take k)⟩,true) := by rw [hk]; rfl
  refine PWc.cut fun R hR => ?_
  simp only [Int.toNat_natCast,VV,pexec,xexec,binV,Nat.reduceAdd,Int.reduceToNat,reduceIte]
  have hC : (((((k : Int) == 0 || decide ((u.length : Int) ≤ (k : Int))) || ((u.getD 0 0).toNat : Int) == 48) || decide (999 < decFrom 0 (u.take k))) || ((u.getD k 0).toNat : Int) != 58) = decide (k = 0 ∨ u.length ≤ k ∨ u.getD 0 0 = 48 ∨ 999 < decFrom 0 (u.take k) ∨ u.getD k 0 ≠ 58) := by
   rw [u48,u58,Bool.eq_iff_iff]; simp [or_assoc]
  rw [hC]
  refine ⟨fun h => by simp at h; omega,fun h => by simp at h; omega,fun h => ?_,fun h => ?_⟩
  ·rw [if_pos (by simpa using h)] at hrb
   refine ret_end hcl (.inr rfl) (by simp only [resVs,resV,W]; rfl) (by simp only [LW]) ⟨?_,rfl⟩
   rw [hru,hrb]; rfl
  have h := of_decide_eq_false h
  rw [if_neg h] at hrb
  simp only [not_or] at h
  refine hR _ (PWc.cvs (fr' := [.u,.u,.ptr σ.length 0,.u,.i .i64 ((1 + e : Nat) : Int),.s u,.i .i64 kind,.i .i64 (decFrom 0 (u.take k)),.i .i64 k,.u,.u,.u,.u,.u,.u,.u,.u,.u,.u,.u,.u,.u,.u,.u,.u,.u,.u,.u,.u,.u,.u,.u,.u,.u,.u,.u,.u,.u,.u,.u,.u,.u,.u,.u,.u,.u,.u,.u,.u,.u,.u,.u,.u,.u,.u,.u,.u,.u,.u,.u,.u,.u,.u,.u,.u,.u,.u,.u,.u,.u,.u,.u,.u,.u,.u,.u,.u,.u,.u,.u,.u,.u,.u,.u,.u,.u,.u,.u,.u,.u,.u,.u,.u,.u,.u,.u,.u,.u,.u,.u,.u,.u,.u,.u,.u,.u,.u,.u,.u,.u,.u,.u,.u,.u,.u,.u,.u,.u,.u,.u,.u,.u,.u,.u,.u,.u,.u,.u,.u,.u,.u,.u,.u,.u,.u,.u,.u,.u,.u]) ?_ (by repeat first | exact .nil | refine .cons (.refl _) ?_ | refine .cons (.forget _) ?_))
  clear hR R
  have hk1 : IntKind.i64.wrap ((k : Int) + 1) = ((k + 1 : Nat) : Int) := by rw [IntWalk.i64_in _ (by omega)]; omega
  refine PWc.cut fun R hR => ?_
  simp only [hk1,Int.toNat_natCast,VV,pexec,xexec,binV,Nat.reduceAdd,Nat.reduceLeDiff,reduceIte]
  have htk : List.take (u.length - (k + 1)) (List.drop (k + 1) u) = u.drop (k + 1) := List.take_of_length_le (by simp)
  rw [htk]
  refine ⟨by omega,?_⟩
  refine hR _ (PWc.cvs (fr' := [.u,.u,.ptr σ.length 0,.u,.i .i64 ((1 + e : Nat) : Int),.u,.i .i64 kind,.u,.u,.ptr (σ.length + 1) 0,.u,.u,.u,.u,.u,.u,.u,.u,.u,.u,.u,.u,.u,.u,.u,.u,.u,.u,.u,.u,.u,.u,.u,.u,.u,.u,.u,.u,.u,.u,.u,.u,.u,.u,.u,.u,.u,.u,.u,.u,.u,.u,.u,.u,.u,.u,.u,.u,.u,.u,.u,.u,.u,.u,.u,.u,.u,.u,.u,.u,.u,.u,.u,.u,.u,.u,.u,.u,.u,.u,.u,.u,.u,.u,.u,.u,.u,.u,.u,.u,.u,.u,.u,.u,.u,.u,.u,.u,.u,.u,.u,.u,.u,.u,.u,.u,.u,.u,.u,.u,.u,.u,.u,.u,.u,.u,.u,.u,.u,.u,.u,.u,.u,.u,.u,.u,.u,.u,.u,.u,.u,.u,.u,.u,.u,.u,.u,.u,.u]) ?_ (by repeat first | exact .nil | refine .cons (.refl _) ?_ | refine .cons (.forget _) ?_))
  clear hR R
  have he2 : IntKind.i64.wrap (((1 + e : Nat) : Int) + 1) = (e : Int) + 2 := by rw [IntWalk.i64_in _ (by simp at hlen; omega)]; omega
  refine PWc.cut fun R hR => ?_
  have fin : ∀ {fr : List V},rread (60 :: rest) = (⟨kind,u.drop (k + 1),decFrom 0 (u.take k)⟩,(e : Int) + 2) → Cvs fr [.u,.u,.ptr σ.length 0,.u,.i .i64 ((1 + e : Nat) : Int),.u,.u,.u,.u,.ptr (σ.length + 1) 0,.u,.u,.u,.u,.u,.u,.u,.u,.u,.u,.u,.u,.u,.u,.u,.u,.u,.u,.u,.u,.u,.u,.u,.u,.u,.u,.u,.u,.u,.u,.u,.u,.u,.u,.u,.u,.u,.u,.u,.u,.u,.u,.u,.u,.u,.u,.u,.u,.u,.u,.u,.u,.u,.u,.u,.u,.u,.u,.u,.u,.u,.u,.u,.u,.u,.u,.u,.u,.u,.u,.u,.u,.u,.u,.u,.u,.u,.u,.u,.u,.u,.u,.u,.u,.u,.u,.u,.u,.u,.u,.u,.u,.u,.u,.u,.u,.u,.u,.u,.u,.u,.u,.u,.u,.u,.u,.u,.u,.u,.u,.u,.u,.u,.u,.u,.u,.u,.u,.u,.u,.u,.u,.u,.u,.u,.u,.u,.u,.u] →
    R ⟨fr,σ ++ [.box 23 [.i .i64 0,.s [],.i .i64 0],.box 23 [.i .i64 kind,.s (u.drop (k + 1)),.i .i64 (decFrom 0 (u.take k))]]⟩ := by
   intro fr hg hc
   refine hR _ (PWc.cvs ?_ hc)
   clear hR R
   refine wpc_sound ?_
   simp only [he2,VV,pexec,xexec,binV,Nat.reduceAdd,reduceIte]
   refine ret_end hcl (.inr rfl) (by simp only [resVs,resV,W]; rfl) (by simp only [LW]) ⟨?_,rfl⟩
   rw [hg]; rfl
  by_cases k3 : kind = 3
  ·subst k3
   simp only [VV,pexec,binV,reduceIte]
   refine callg_eq (by simp only [VV] <;> rfl) (fun _ => r1IsName_pc _ _) rfl ?_
   simp only [VV,Int.reduceBNe,pexec,binV,reduceIte]
   refine callg_eq (c := false) (v := .b false) (by simp only [VV] <;> simp) (fun h => by simp at h) rfl ?_
   simp only [VV,pexec,xexec,Nat.reduceAdd]
   refine ⟨fun h2 => ?_,fun h2 => ?_⟩
   ·have h2 : isName (u.drop (k + 1)) = false := by rw [Bool.not_eq_true'] at h2; exact h2
    rw [if_pos (.inl ⟨rfl,h2⟩)] at hrb
    refine ret_end hcl (.inr rfl) (by simp only [resVs,resV,W]; rfl) (by simp only [LW]) ⟨?_,rfl⟩
    rw [hru,hrb]; rfl
   ·have h2 : isName (u.drop (k + 1)) = true := by rw [Bool.not_eq_false'] at h2; exact h2
    rw [if_neg (by simp only [h2]; simp)] at hrb
    exact fin (by rw [hru,hrb]; rfl) (by repeat first | exact .nil | refine .cons (.refl _) ?_ | refine .cons (.forget _) ?_)
  ·have n3 : (kind == 3) = false := by simpa using k3
   have n3' : (kind != 3) = true := by simpa using k3
   simp only [n3,VV,pexec,binV,reduceIte]
   refine callg_eq (c := false) (v := .b false) (by simp only [VV] <;> rfl) (fun h => by simp at h) rfl ?_
   simp only [n3',VV,pexec,binV,reduceIte]
   refine callg_eq (by simp only [VV] <;> rfl) (fun _ => r3IsContent_pc _ _) rfl ?_
   simp only [VV,pexec,xexec,Nat.reduceAdd]
   refine ⟨fun h2 => ?_,fun h2 => ?_⟩
   ·have h2 : isContent (u.drop (k + 1)) = false := by rw [Bool.not_eq_true'] at h2; exact h2
    rw [if_pos (.inr ⟨k3,h2⟩)] at hrb
    refine ret_end hcl (.inr rfl) (by simp only [resVs,resV,W]; rfl) (by simp only [LW]) ⟨?_,rfl⟩
    rw [hru,hrb]; rfl
   ·have h2 : isContent (u.drop (k + 1)) = true := by rw [Bool.not_eq_false'] at h2; exact h2
    rw [if_neg (by simp only [h2,k3]; simp)] at hrb
    exact fin (by rw [hru,hrb]; rfl) (by repeat first | exact .nil | refine .cons (.refl _) ?_ | refine .cons (.forget _) ?_)
 simp only [VV,pexec,binV,Int.reduceToNat,reduceIte]
 have hput : t.length ≤ rest.length := by rw [← ht,List.length_take]; omega
 by_cases htn : t = []
 ·subst htn
  refine ⟨fun h => by simp at h,fun h => by simp at h,fun _ => ⟨fun h => by simp at h,fun h => by simp at h,fun _ => tail 2 [] (by simp) ?_ (.inl rfl) ?_⟩⟩
  ·exact hr
  ·repeat first | exact .nil | refine .cons (.refl _) ?_ | refine .cons (.forget _) ?_
 have hpos : 0 < t.length := List.length_pos_iff.2 htn
 have hw : IntKind.i64.wrap ((t.length : Int) - 1) = ((t.length - 1 : Nat) : Int) := by rw [IntWalk.i64_in _ (by omega)]; omega
 have hd : decide ((0 : Int) < (t.length : Int)) = true := by simp; omega
 have hdr : List.take (t.length - 1) (List.drop 1 t) = t.drop 1 := List.take_of_length_le (by simp)
 simp only [hw,hd,hdr,Int.toNat_natCast,Bool.true_and,← pre47 htn,← suf47 htn]
 refine ⟨fun _ => by omega,fun h => ⟨by omega,tail 3 (t.drop 1) (by simp; omega) ?_ (.inr (.inl rfl)) ?_⟩,fun h => ⟨fun _ => by omega,fun h2 => ⟨by omega,tail 4 (t.take (t.length - 1)) (by simp; omega) ?_ (.inr (.inr rfl)) ?_⟩,fun h2 => tail 2 t htl ?_ (.inl rfl) ?_⟩⟩
 ·rw [hr]; simp only [rtag,h,if_true]
 ·repeat first | exact .nil | refine .cons (.refl _) ?_ | refine .cons (.forget _) ?_
 ·rw [hr]; simp only [rtag,h,h2,Bool.false_eq_true,if_false,if_true]
 ·repeat first | exact .nil | refine .cons (.refl _) ?_ | refine .cons (.forget _) ?_
 ·rw [hr]; simp only [rtag,h,h2,Bool.false_eq_true,if_false]
 ·repeat first | exact .nil | refine .cons (.refl _) ?_ | refine .cons (.forget _) ?_
def slotAt (s : List UInt8) (k : Nat) : Prop := s.getD k 0 = 125 ∧ isName ((s.take k).drop 1) = true
theorem u125 (a : UInt8) : ((a.toNat : Int) == 125) = (a == 125) := by revert a; exact u8_all (by decide +kernel)
theorem loop141_0 {σ : Store} {K : Exit → St → Prop} (s : List UInt8) (hlen : s.length < 2 ^ 62) : ∀ (m k : Nat),k + m = 26 → 1 ≤ k → (∀ j,1 ≤ j → j < k → j < s.length → ¬ slotAt s j) →
  ((∀ j,1 ≤ j → j < s.length → j ≤ 25 → ¬ slotAt s j) → (∀ j0 j1 j3 j4 j5 j6 j7 j8 j9 j10 j11 j12 j13 j14 j15 j16 j17 j18 j19 j20 j21 j22 j23 j24 j25 j26 j27 j28 j29 j30 j31 j32 j33 j34 j35 j36 j37 j38 j39 j40 j41 j42 j43 j44 j45 j46 j47 j48 j49 j50 j51 j52 j53 j54 j55 j56 j57 j58 j59 j60 j61 j62 j63 j64 j65 j66 j67 j68 j69 j70 j71 j72 j73,K (.exit 1) ⟨[j0,j1,.ptr σ.length 0,j3,j4,j5,j6,j7,j8,j9,j10,j11,j12,j13,j14,j15,j16,j17,j18,j19,j20,j21,j22,j23,j24,j25,j26,j27,j28,j29,j30,j31,j32,j33,j34,j35,j36,j37,j38,j39,j40,j41,j42,j43,j44,j45,j46,j47,j48,j49,j50,j51,j52,j53,j54,j55,j56,j57,j58,j59,j60,j61,j62,j63,j64,j65,j66,j67,j68,j69,j70,j71,j72,j73],σ ++ [.box 23 [.i .i64 0,.s [],.i .i64 0]]⟩)) →
  (∀ k : Nat,1 ≤ k → k < s.length → slotAt s k → (∀ j0 j1 j4 j5 j6 j7 j8 j9 j10 j11 j12 j13 j14 j15 j16 j17 j18 j19 j20 j21 j22 j23 j24 j25 j26 j27 j28 j29 j30 j31 j32 j33 j34 j35 j36 j37 j38 j39 j40 j41 j42 j43 j44 j45 j46 j47 j48 j49 j50 j51 j52 j53 j54 j55 j56 j57 j58 j59 j60 j61 j62 j63 j64 j65 j66 j67 j68 j69 j70 j71 j72 j73,K .ret ⟨[j0,j1,.ptr σ.length 0,.i .i64 ((k + 1 : Nat) : Int),j4,j5,j6,j7,j8,j9,j10,j11,j12,j13,j14,j15,j16,j17,j18,j19,j20,j21,j22,j23,j24,j25,j26,j27,j28,j29,j30,j31,j32,j33,j34,j35,j36,j37,j38,j39,j40,j41,j42,j43,j44,j45,j46,j47,j48,j49,j50,j51,j52,j53,j54,j55,j56,j57,j58,j59,j60,j61,j62,j63,j64,j65,j66,j67,j68,j69,j70,j71,j72,j73],σ ++ [.box 23 [.i .i64 5,.s ((s.take k).drop 1),.i .i64 0]]⟩)) →
  Rnd σ.length Tryz.prog p141_0 K (m + 1) ⟨[.s s,.u,.ptr σ.length 0,.u,.i .i64 k,.u,.u,.u,.u,.u,.u,.u,.u,.u,.u,.u,.u,.u,.u,.u,.u,.u,.u,.u,.u,.u,.u,.u,.u,.u,.u,.u,.u,.u,.u,.u,.u,.u,.u,.u,.u,.u,.u,.u,.u,.u,.u,.u,.u,.u,.u,.u,.u,.u,.u,.u,.u,.u,.u,.u,.u,.u,.u,.u,.u,.u,.u,.u,.u,.u,.u,.u,.u,.u],σ ++ [.box 23 [.i .i64 0,.s [],.i .i64 0]]⟩ := by
 intro m
 induction m with
 | zero =>
  intro k hk hk1 hno h1 h2
  have e1 : decide ((k : Int) ≤ 25) = false := by simp; omega
  refine rnd_step fun R hR => ?_
  simp only [p141_0,e1,Bool.and_false,VV,pexec,binV,Int.reduceToNat,reduceIte,reduceCtorEq]
  exact h1 (fun j j1 j2 j3 => hno j j1 (by omega) j2) ..
 | succ m ih =>
  intro k hk hk1 hno h1 h2
  have e1 : decide ((k : Int) ≤ 25) = true := by simp; omega
  have hw : IntKind.i64.wrap ((k : Int) + 1) = ((k + 1 : Nat) : Int) := by rw [IntWalk.i64_in _ (by omega)]; omega
  by_cases hks : k < s.length
  ·have e0 : decide ((k : Int) < (s.length : Int)) = true := by simp; omega
   refine rnd_step fun R hR => ?_
   have hdt : List.take (k - 1) (List.drop 1 s) = (s.take k).drop 1 := by rw [List.drop_take]
   simp only [p141_0,e0,e1,Int.toNat_natCast,hdt,VV,pexec,binV,Int.reduceToNat,reduceIte,reduceCtorEq]
   refine ⟨by omega,fun _ => by omega,callg_eq (by simp only [VV] <;> rfl) (fun _ => r1IsName_pc _ _) rfl ?_⟩
   simp only [hw,hdt,u125,Int.toNat_natCast,VV,pexec,xexec,binV,Nat.reduceAdd,Nat.reduceLeDiff,Int.reduceToNat,reduceIte]
   refine ⟨fun h => ⟨by omega,?_⟩,fun h => ?_⟩
   ·exact h2 k hk1 hks (by simpa [slotAt] using h) ..
   ·refine hR _ (rnd_cvs ?_ (ih (k + 1) (by omega) (by omega) (fun j j1 j2 j3 => ?_) h1 h2))
    ·repeat first | exact .nil | refine .cons (.refl _) ?_ | refine .cons (.forget _) ?_
    ·by_cases hj : j = k
     ·subst hj
      intro hs
      rw [hs.1,hs.2] at h
      simp at h
     ·exact hno j j1 (by omega) j3
  ·have e0 : decide ((k : Int) < (s.length : Int)) = false := by simp; omega
   refine rnd_step fun R hR => ?_
   simp only [p141_0,e0,e1,Int.toNat_natCast,VV,pexec,binV,Int.reduceToNat,reduceIte,reduceCtorEq]
   exact h1 (fun j j1 j2 j3 => hno j j1 (by omega) j2) ..
theorem loop141_1 {σ : Store} {K : Exit → St → Prop} (s : List UInt8) (hlen : s.length < 2 ^ 62) : ∀ (m c : Nat),c + m = 256 → (∀ j,j < c → hasPrefix s (writB (UInt8.ofNat j)) = false) →
  ((∀ j,j < 256 → hasPrefix s (writB (UInt8.ofNat j)) = false) → (∀ j0 j1 j3 j4 j5 j6 j7 j8 j9 j10 j11 j12 j13 j14 j15 j16 j17 j18 j19 j20 j21 j22 j23 j24 j25 j26 j27 j28 j29 j30 j31 j32 j33 j34 j35 j36 j37 j38 j39 j40 j41 j42 j43 j44 j45 j46 j47 j48 j49 j50 j51 j52 j53 j54 j55 j56 j57 j58 j59 j60 j61 j62 j63 j64 j65 j66 j67 j68 j69 j70 j71 j72 j73,K (.exit 3) ⟨[j0,j1,.ptr σ.length 0,j3,j4,j5,j6,j7,j8,j9,j10,j11,j12,j13,j14,j15,j16,j17,j18,j19,j20,j21,j22,j23,j24,j25,j26,j27,j28,j29,j30,j31,j32,j33,j34,j35,j36,j37,j38,j39,j40,j41,j42,j43,j44,j45,j46,j47,j48,j49,j50,j51,j52,j53,j54,j55,j56,j57,j58,j59,j60,j61,j62,j63,j64,j65,j66,j67,j68,j69,j70,j71,j72,j73],σ ++ [.box 23 [.i .i64 0,.s [],.i .i64 0]]⟩)) →
  (∀ b : UInt8,hasPrefix s (writB b) = true → (∀ j0 j1 j4 j5 j6 j7 j8 j9 j10 j11 j12 j13 j14 j15 j16 j17 j18 j19 j20 j21 j22 j23 j24 j25 j26 j27 j28 j29 j30 j31 j32 j33 j34 j35 j36 j37 j38 j39 j40 j41 j42 j43 j44 j45 j46 j47 j48 j49 j50 j51 j52 j53 j54 j55 j56 j57 j58 j59 j60 j61 j62 j63 j64 j65 j66 j67 j68 j69 j70 j71 j72 j73,K .ret ⟨[j0,j1,.ptr σ.length 0,.i .i64 (writB b).length,j4,j5,j6,j7,j8,j9,j10,j11,j12,j13,j14,j15,j16,j17,j18,j19,j20,j21,j22,j23,j24,j25,j26,j27,j28,j29,j30,j31,j32,j33,j34,j35,j36,j37,j38,j39,j40,j41,j42,j43,j44,j45,j46,j47,j48,j49,j50,j51,j52,j53,j54,j55,j56,j57,j58,j59,j60,j61,j62,j63,j64,j65,j66,j67,j68,j69,j70,j71,j72,j73],σ ++ [.box 23 [.i .i64 1,.s [b],.i .i64 0]]⟩)) →
  Rnd σ.length Tryz.prog p141_1 K (m + 1) ⟨[.s s,.u,.ptr σ.length 0,.u,.u,.i .i64 c,.u,.u,.u,.u,.u,.u,.u,.u,.u,.u,.u,.u,.u,.u,.u,.u,.u,.u,.u,.u,.u,.u,.u,.u,.u,.u,.u,.u,.u,.u,.u,.u,.u,.u,.u,.u,.u,.u,.u,.u,.u,.u,.u,.u,.u,.u,.u,.u,.u,.u,.u,.u,.u,.u,.u,.u,.u,.u,.u,.u,.u,.u,.u,.u,.u,.u,.u,.u],σ ++ [.box 23 [.i .i64 0,.s [],.i .i64 0]]⟩ := by
 intro m
 induction m with
 | zero =>
  intro c hc hno h1 h2
  have hc : c = 256 := by omega
  subst hc
  refine rnd_step fun R hR => ?_
  simp only [p141_1,VV,pexec,binV,reduceIte]
  exact ⟨fun h => by simp at h,fun _ => h1 hno ..⟩
 | succ m ih =>
  intro c hc hno h1 h2
  have hw : IntKind.i64.wrap ((c : Int) + 1) = ((c + 1 : Nat) : Int) := by rw [IntWalk.i64_in _ (by omega)]; omega
  have hb : IntKind.u8.wrap (c : Int) = ((UInt8.ofNat c).toNat : Int) := by rw [IntWalk.u8_in _ (by omega)]; simp; omega
  have e1 : decide ((c : Int) < 256) = true := by simp; omega
  refine rnd_step fun R hR => ?_
  simp only [p141_1,e1,hb,VV,pexec,binV,reduceIte,reduceCtorEq]
  refine call_eq (r3Written_pc (UInt8.ofNat c) _) rfl ?_
  simp only [hb,hw,Int.toNat_natCast,VV,pexec,xexec,binV,Nat.reduceAdd,Nat.reduceLeDiff,Int.reduceToNat,reduceIte]
  have hP : (decide (((writB (UInt8.ofNat c)).length : Int) ≤ (s.length : Int)) && List.take (writB (UInt8.ofNat c)).length s == writB (UInt8.ofNat c)) = hasPrefix s (writB (UInt8.ofNat c)) := by
   simp only [hasPrefix,Int.ofNat_le]
  rw [hP]
  refine ⟨fun h => by simp at h; omega,fun h => h2 _ h ..,fun h => ?_⟩
  refine hR _ (rnd_cvs ?_ (ih (c + 1) (by omega) (fun j hj => ?_) h1 h2))
  ·repeat first | exact .nil | refine .cons (.refl _) ?_ | refine .cons (.forget _) ?_
  ·by_cases hjc : j = c
   ·subst hjc; exact h
   ·exact hno j (by omega)
theorem r3read_pc (s : List UInt8) (hs : s ≠ []) (hlen : s.length < 2 ^ 62) (σ : Store) : PC Tryz.prog 141 [.s s] σ (fun r σ' => r = .tup [.agg (rread s).1.cells,.i .i64 (rread s).2] ∧ σ' = σ) := by
 refine PC.intro Tryz.func141 c141 fun hcl hwf => wpc_sound ?_
 have hpos : 0 < s.length := List.length_pos_iff.2 hs
 have u123 : (((s.getD 0 0).toNat : Int) == 123) = (s.getD 0 0 == 123) := by
  generalize s.getD 0 0 = a; revert a; exact u8_all (by decide +kernel)
 have u60 : (((s.getD 0 0).toNat : Int) == 60) = (s.getD 0 0 == 60) := by
  generalize s.getD 0 0 = a; revert a; exact u8_all (by decide +kernel)
 have hb : (0 : Int) ≤ 0 ∧ (0 : Int) < (s.length : Int) := by omega
 simp only [p141,List.length_cons,List.length_nil,List.replicate,List.cons_append,List.nil_append,Nat.reduceAdd,Nat.reduceSub]
 by_cases h123 : s.getD 0 0 = 123
 ·have e1 : (s.getD 0 0 == 123) = true := by simpa using h123
  simp only [u123,e1,VV,pexec,xexec,binV,Int.reduceToNat,reduceIte,reduceCtorEq]
  refine ⟨hb,?_⟩
  refine PWc.rnd_cvs ?_ 26 (loop141_0 s hlen 25 1 rfl (Nat.le_refl _) (fun j j1 j2 => by omega) (fun hno => ?_) (fun k k1 k2 hk => ?_))
  ·simp only [Int.natCast_one]
   repeat first | exact .nil | refine .cons (.refl _) ?_ | refine .cons (.forget _) ?_
  ·intros
   simp only [VV,pexec,xexec,Nat.reduceAdd]
   refine ret_end hcl (.inr rfl) (by simp only [resVs,resV,W]; rfl) (by simp only [LW]) ⟨?_,rfl⟩
   rw [rread_noslot h123 hno]; rfl
  ·intros
   simp only [VV]
   refine ret_end hcl (.inr rfl) (by simp only [resVs,resV,W]; rfl) (by simp only [LW]) ⟨?_,rfl⟩
   rw [rread_slot h123 k1 k2 hk.1 hk.2]; rfl
 have e1 : (s.getD 0 0 == 123) = false := by simpa using h123
 by_cases h60 : s.getD 0 0 = 60
 ·have e2 : (s.getD 0 0 == 60) = true := by simpa using h60
  simp only [u123,u60,e1,e2,VV,pexec,xexec,binV,Int.reduceToNat,reduceIte,reduceCtorEq]
  refine ⟨hb,hb,?_⟩
  refine call_eq (r3readTag_pc s h60 hlen _) rfl ?_
  simp only [It.cells,VV,pexec,xexec,Nat.reduceAdd]
  refine ret_end hcl (.inr rfl) (by simp only [resVs,resV,W]; rfl) (by simp only [LW]) ⟨?_,rfl⟩
  rfl
 ·have e2 : (s.getD 0 0 == 60) = false := by simpa using h60
  simp only [u123,u60,e1,e2,VV,pexec,xexec,binV,Int.reduceToNat,reduceIte,reduceCtorEq]
  refine ⟨hb,hb,?_⟩
  refine PWc.rnd_cvs ?_ 257 (loop141_1 s hlen 256 0 rfl (fun j hj => by omega) (fun hno => ?_) (fun b hb2 => ?_))
  ·simp only [Int.natCast_zero]
   repeat first | exact .nil | refine .cons (.refl _) ?_ | refine .cons (.forget _) ?_
  ·intros
   simp only [VV,pexec,xexec,Nat.reduceAdd]
   refine ret_end hcl (.inr rfl) (by simp only [resVs,resV,W]; rfl) (by simp only [LW]) ⟨?_,rfl⟩
   rw [rread_none hs h60 h123 (fun c => by
    have := hno c.toNat c.toNat_lt
    rwa [UInt8.ofNat_toNat] at this)]
   rfl
  ·intros
   simp only [VV]
   refine ret_end hcl (.inr rfl) (by simp only [resVs,resV,W]; rfl) (by simp only [LW]) ⟨?_,rfl⟩
   rw [rread_char hb2]; rfl
theorem loop106 {σ : Store} {K : Exit → St → Prop} (s : List UInt8) (hcl : Closed σ) (hlen : s.length < 2 ^ 30) : ∀ (n : Nat) (rest pre : List UInt8) (f : List It) (len : Nat),s = pre ++ rest → rest.length < n → f.length ≤ 512 → textLen f ≤ pre.length → len ≤ 1024 →
  ((rparseN n f len rest pre.length).2.2 = 0 → (∀ j0 j1 j2 j3 j4 j6 j7 j8 j9 j10 j11 j12 j13 j14 j15 j16 j17 j18 j19 j20 j21 j22 j23 j24 j25 j26 j27 j28 j29 j30 j31 j32 j33 j34 j35 j36 j37 j38 j39 j40 j41 j42 j43 j44 j45 j46 j47 j48 j49 j50 j51 j52 j53 j54,K (.exit 0) ⟨[j0,j1,j2,j3,j4,.sl 3 ((rparseN n f len rest pre.length).1.map It.cells),j6,j7,j8,j9,j10,j11,j12,j13,j14,j15,j16,j17,j18,j19,j20,j21,j22,j23,j24,j25,j26,j27,j28,j29,j30,j31,j32,j33,j34,j35,j36,j37,j38,j39,j40,j41,j42,j43,j44,j45,j46,j47,j48,j49,j50,j51,j52,j53,j54],σ⟩)) →
  ((rparseN n f len rest pre.length).2.2 ≠ 0 → ∀ loc,(∀ j0 j1 j5 j6 j7 j8 j9 j10 j11 j12 j13 j14 j15 j16 j17 j18 j19 j20 j21 j22 j23 j24 j25 j26 j27 j28 j29 j30 j31 j32 j33 j34 j35 j36 j37 j38 j39 j40 j41 j42 j43 j44 j45 j46 j47 j48 j49 j50 j51 j52 j53 j54,K .ret ⟨[j0,j1,.nil,.i .i64 (rparseN n f len rest pre.length).2.1,.i .i64 (rparseN n f len rest pre.length).2.2,j5,j6,j7,j8,j9,j10,j11,j12,j13,j14,j15,j16,j17,j18,j19,j20,j21,j22,j23,j24,j25,j26,j27,j28,j29,j30,j31,j32,j33,j34,j35,j36,j37,j38,j39,j40,j41,j42,j43,j44,j45,j46,j47,j48,j49,j50,j51,j52,j53,j54],σ ++ loc⟩)) →
  Rnd σ.length Tryz.prog p106_0 K n ⟨[.s s,.u,.u,.u,.u,.sl 3 (f.map It.cells),.i .i64 pre.length,.i .i64 len,.u,.u,.u,.u,.u,.u,.u,.u,.u,.u,.u,.u,.u,.u,.u,.u,.u,.u,.u,.u,.u,.u,.u,.u,.u,.u,.u,.u,.u,.u,.u,.u,.u,.u,.u,.u,.u,.u,.u,.u,.u,.u,.u,.u,.u,.u,.u],σ⟩ := by
 intro n
 induction n with
 | zero => intro rest pre f len he hn; omega
 | succ n ih =>
  intro rest pre f len he hn hf ht hl h1 h2
  cases rest with
  | nil =>
   have he : s = pre := by simpa using he
   subst he
   simp only [rparseN] at h1
   refine rnd_step fun R hR => ?_
   simp only [p106_0,VV,pexec,binV,reduceIte]
   exact ⟨fun h => by simp at h,fun _ => h1 trivial ..⟩
  | cons c rest =>
   subst he
   have hrs := rread_step (s := c :: rest) (by simp)
   have hd : List.take ((pre ++ c :: rest).length - pre.length) (List.drop pre.length (pre ++ c :: rest)) = c :: rest := by simp
   simp only [rparseN] at h1 h2
   refine rnd_step fun R hR => ?_
   simp only [p106_0,hd,Int.toNat_natCast,VV,pexec,binV,reduceIte]
   refine ⟨fun _ => ⟨by simp; omega,?_⟩,fun h => by simp at h <;> omega⟩
   refine call_eq (r3read_pc (c :: rest) (by simp) (by simp at hlen ⊢; omega) _) rfl ?_
   generalize hx : rread (c :: rest) = xm at *
   obtain ⟨x,m⟩ := xm
   simp only at hrs h1 h2
   simp only [It.cells,VV,pexec,xexec,binV,Nat.reduceAdd,reduceIte]
   refine ⟨fun hm => ?_,fun hm => ?_⟩
   ·have hm : m = 0 := by simpa using hm
    simp only [hm,if_true] at h2
    exact h2 (by simp) [_] ..
   have hm : m ≠ 0 := by simpa using hm
   obtain ⟨m1,m2,m3⟩ := hrs hm
   rw [if_neg hm] at h1 h2
   have hg := norm_bound (f ++ [x])
   simp only [textLen_append,textLen,List.length_append,List.length_cons,List.length_nil] at hg
   have hlen2 : pre.length + (rest.length + 1) < 2 ^ 30 := by simpa using hlen
   simp only [List.length_cons] at m2 hn
   have hpl : (pre ++ (c :: rest).take m.toNat).length = pre.length + m.toNat := by
    rw [List.length_append,List.length_take,List.length_cons]; omega
   have hwl : IntKind.i64.wrap ((len : Int) + 1) = ((len + 1 : Nat) : Int) := by rw [IntWalk.i64_in _ (by omega)]; omega
   have hwa : IntKind.i64.wrap ((pre.length : Int) + m) = (pre.length : Int) + m := IntWalk.i64_in _ (by omega)
   have el : (len : Int) + 1 = ((len + 1 : Nat) : Int) := by omega
   have ea : (pre.length : Int) + m = (((pre ++ (c :: rest).take m.toNat).length : Nat) : Int) := by rw [hpl]; omega
   refine ⟨fun hk => ?_,fun hk => ?_⟩
   ·have hk : x.kind ≠ 1 := by simpa using hk
    refine call_eq (r3Check_pc f x _) rfl ?_
    simp only [VV,pexec,binV,Nat.reduceAdd,reduceIte]
    refine ⟨fun he => ?_,fun he => ?_⟩
    ·have he : checkErr f x ≠ 0 := by simpa using he
     rw [if_pos ⟨hk,he⟩] at h2
     exact h2 he [_] ..
    have he : checkErr f x = 0 := by simpa using he
    rw [if_neg (fun h => h.2 he)] at h1 h2
    refine call_cv (zs := [.sl 3 (f.map It.cells),.sl 3 ([x].map It.cells)]) (.cons (.refl _) (.cons (.lit _ _) .nil)) (r3Concat_pc f [x] (by omega) (by simp) (by omega) (by simp only [textLen]; omega) _) ?_
    simp only [hwl,hwa,List.length_map,VV,pexec,binV,reduceIte]
    refine ⟨fun hc => ?_,fun hc => ?_⟩
    ·have hc : 512 < (normalize (f ++ [x])).length ∨ (1024 : Int) < (len : Int) + 1 := by simp at hc; omega
     rw [if_pos hc] at h2
     exact h2 (by simp) [_] ..
    ·have hc : ¬ (512 < (normalize (f ++ [x])).length ∨ (1024 : Int) < (len : Int) + 1) := by simp at hc; omega
     rw [if_neg hc,el,ea] at h1 h2
     refine hR _ (rnd_back (Nat.le_refl _) hcl ?_ ?_ (ih ((c :: rest).drop m.toNat) (pre ++ (c :: rest).take m.toNat) (normalize (f ++ [x])) (len + 1) (by simp) (by rw [List.length_drop,List.length_cons]; omega) (by omega) (by rw [hpl]; omega) (by omega) h1 h2))
     ·rw [← ea]
      repeat first | exact .nil | refine .cons (.refl _) ?_ | refine .cons (.forget _) ?_
     ·simp only [LW]
   ·have hk : x.kind = 1 := by simpa using hk
    rw [if_neg (fun h => h.1 hk)] at h1 h2
    refine call_cv (zs := [.sl 3 (f.map It.cells),.sl 3 ([x].map It.cells)]) (.cons (.refl _) (.cons (.lit _ _) .nil)) (r3Concat_pc f [x] (by omega) (by simp) (by omega) (by simp only [textLen]; omega) _) ?_
    simp only [hwl,hwa,List.length_map,VV,pexec,binV,reduceIte]
    refine ⟨fun hc => ?_,fun hc => ?_⟩
    ·have hc : 512 < (normalize (f ++ [x])).length ∨ (1024 : Int) < (len : Int) + 1 := by simp at hc; omega
     rw [if_pos hc] at h2
     exact h2 (by simp) [_] ..
    ·have hc : ¬ (512 < (normalize (f ++ [x])).length ∨ (1024 : Int) < (len : Int) + 1) := by simp at hc; omega
     rw [if_neg hc,el,ea] at h1 h2
     refine hR _ (rnd_back (Nat.le_refl _) hcl ?_ ?_ (ih ((c :: rest).drop m.toNat) (pre ++ (c :: rest).take m.toNat) (normalize (f ++ [x])) (len + 1) (by simp) (by rw [List.length_drop,List.length_cons]; omega) (by omega) (by rw [hpl]; omega) (by omega) h1 h2))
     ·rw [← ea]
      repeat first | exact .nil | refine .cons (.refl _) ?_ | refine .cons (.forget _) ?_
     ·simp only [LW]
theorem r3Parse_pc (s : List UInt8) (hlen : s.length < 2 ^ 30) (σ : Store) : PC Tryz.prog 106 [.s s] σ (fun r σ' => r = .tup [.sl 3 ((parse s).1.map It.cells),.i .i64 (parse s).2.1,.i .i64 (parse s).2.2] ∧ σ' = σ) := by
 refine PC.intro Tryz.func106 c106 fun hcl hwf => wpc_sound ?_
 rw [← rparse_parse]
 simp only [p106,List.length_cons,List.length_nil,List.replicate,List.cons_append,List.nil_append,Nat.reduceAdd,Nat.reduceSub]
 simp only [VV,pexec]
 refine PWc.wk (Wk.cvs ?_) (PWc.rnd (s.length + 1) (loop106 s hcl hlen (s.length + 1) s [] [] 0 rfl (by omega) (by simp) (by simp [textLen]) (by omega) (fun h => ?_) (fun h => ?_)))
 ·simp only [List.length_nil,Int.natCast_zero,List.map_nil]
  repeat first | exact .nil | refine .cons (.refl _) ?_ | refine .cons (.forget _) ?_
  exact .cons (.nil _) (by repeat first | exact .nil | refine .cons (.refl _) ?_ | refine .cons (.forget _) ?_)
 ·have e := rparseN_ok _ _ _ _ _ h
  intros
  simp only [VV,pexec]
  refine ret_end0 (.inr rfl) (by simp only [resVs,resV,W]; rfl) ⟨?_,rfl⟩
  have h' : (rparse s).2.2 = 0 := h
  have e' : (rparse s).2.1 = 0 := e
  rw [h',e']; rfl
 ·intros
  simp only [VV]
  refine ret_cvs (ys := [.sl 3 [],.i .i64 (rparse s).2.1,.i .i64 (rparse s).2.2]) hcl (.inr rfl) (by simp only [resVs,resV,W]; rfl) ?_ (by simp only [LW]) ⟨?_,rfl⟩
  ·exact .cons (.nil _) (.cons (.refl _) (.cons (.refl _) .nil))
  ·have hz := rparseN_bad _ _ _ _ _ h
   have hz' : (rparse s).1 = [] := hz
   rw [hz']; rfl
theorem named_pc (s : List UInt8) (σ : Store) : PC Tryz.prog 107 [.s s] σ (fun r σ' => r = .b (named s) ∧ σ' = σ) := by
 refine PC.intro Tryz.func107 c107 fun hcl hwf => wpc_sound ?_
 simp only [p107,List.length_cons,List.length_nil,List.replicate,List.cons_append,List.nil_append,Nat.reduceAdd,Nat.reduceSub]
 simp only [VV,pexec,binV]
 refine callg_eq (by simp only [VV] <;> rfl) (fun _ => r1IsName_pc s _) rfl ?_
 simp only [VV,pexec]
 exact ret_end0 (.inr rfl) (by simp only [resVs,resV,W]; rfl) ⟨rfl,rfl⟩
theorem r16Validate_pc (e : En) (hs : e.small) (σ : Store) : PC Tryz.prog 61 [.agg e.cells] σ (fun r σ' => r = .i .i64 (entryErr e) ∧ σ' = σ) := by
 refine PC.intro Tryz.func61 c61 fun hcl hwf => wpc_sound ?_
 simp only [p61,List.length_cons,List.length_nil,List.replicate,List.cons_append,List.nil_append,Nat.reduceAdd,Nat.reduceSub]
 simp only [En.cells,VV,pexec,xexec]
 refine call_eq (r3Validate_pc e.source _) rfl ?_
 simp only [VV,pexec,binV,reduceIte]
 refine ⟨fun h => ?_,fun h => ?_⟩
 ·have h : validItems e.source ≠ 0 := by simpa using h
  exact ret_end hcl (.inr rfl) (by simp only [resVs,resV,W]; rfl) (by simp only [LW]) ⟨by simp only [entryErr,h,if_true,ne_eq,not_false_eq_true]; rfl,rfl⟩
 have h1 : validItems e.source = 0 := by simpa using h
 refine call_eq (r3Validate_pc e.target _) rfl ?_
 simp only [VV,pexec,binV,reduceIte]
 refine ⟨fun h => ?_,fun h => ?_⟩
 ·have h : validItems e.target ≠ 0 := by simpa using h
  refine ret_end hcl (.inr rfl) (by simp only [resVs,resV,W]; rfl) (by simp only [LW]) ⟨?_,rfl⟩
  simp only [entryErr,h1,h,if_true,ne_eq,not_false_eq_true,not_true,if_false]; rfl
 have h2 : validItems e.target = 0 := by simpa using h
 refine call_eq (r3Canonical_pc e.source e.target (by have := hs.source; omega) (by have := hs.target; omega) (by have := hs.sourceT; omega) (by have := hs.targetT; omega) _) rfl ?_
 simp only [List.length_map,VV,pexec,binV,reduceIte]
 refine callg_eq (by simp only [VV] <;> rfl) (fun _ => r3Same_pc (canonS e.source e.target) e.source _) rfl ?_
 simp only [VV,pexec]
 refine callg_eq (by simp only [VV] <;> rfl) (fun _ => r3Same_pc (canonT e.source e.target) e.target _) rfl ?_
 simp only [VV,pexec]
 have hco : canonOk e = !((((e.source.length : Int) == 0) || !itsEq (canonS e.source e.target) e.source) || !itsEq (canonT e.source e.target) e.target) := by
  have : ((e.source.length : Int) == 0) = (e.source.length == 0) := by rw [Bool.eq_iff_iff]; simp
  simp only [canonOk,this]
  cases (e.source.length == 0) <;> cases itsEq (canonS e.source e.target) e.source <;> cases itsEq (canonT e.source e.target) e.target <;> rfl
 refine ⟨fun h => ?_,fun h => ?_⟩
 ·rw [h] at hco
  refine ret_end hcl (.inr rfl) (by simp only [resVs,resV,W]; rfl) (by simp only [LW]) ⟨?_,rfl⟩
  simp only [entryErr,h1,h2,hco,ne_eq,not_true,if_false]; rfl
 rw [h] at hco
 have e1 : entryErr e = if (parse e.previous).2.2 ≠ 0 then (parse e.previous).2.2 else if (parse e.next).2.2 ≠ 0 then (parse e.next).2.2 else
   if (named e.author && named e.project) = false then 4 else if e.created < 0 ∨ 1073741824 < e.created ∨ e.origin < 1 ∨ 3 < e.origin then 1 else 0 := by
  simp only [entryErr,h1,h2,hco,ne_eq,not_true,if_false]; rfl
 refine call_eq (r3Parse_pc e.previous (by have := hs.previous; omega) _) rfl ?_
 simp only [VV,pexec,binV,reduceIte]
 refine ⟨fun h => ?_,fun h => ?_⟩
 ·have h : (parse e.previous).2.2 ≠ 0 := by simpa using h
  rw [e1,if_pos h]
  exact ret_end hcl (.inr rfl) (by simp only [resVs,resV,W]; rfl) (by simp only [LW]) ⟨rfl,rfl⟩
 have h3 : ¬ (parse e.previous).2.2 ≠ 0 := by simpa using h
 refine call_eq (r3Parse_pc e.next (by have := hs.next; omega) _) rfl ?_
 simp only [VV,pexec,binV,reduceIte]
 refine ⟨fun h => ?_,fun h => ?_⟩
 ·have h : (parse e.next).2.2 ≠ 0 := by simpa using h
  rw [e1,if_neg h3,if_pos h]
  exact ret_end hcl (.inr rfl) (by simp only [resVs,resV,W]; rfl) (by simp only [LW]) ⟨rfl,rfl⟩
 have h4 : ¬ (parse e.next).2.2 ≠ 0 := by simpa using h
 rw [if_neg h3,if_neg h4] at e1
 refine call_eq (named_pc e.author _) rfl ?_
 simp only [VV,pexec]
 refine callg_eq (by simp only [VV] <;> rfl) (fun _ => named_pc e.project _) rfl ?_
 simp only [VV,pexec,binV,reduceIte]
 have hna : (!named e.author || !named e.project) = !(named e.author && named e.project) := by
  cases named e.author <;> cases named e.project <;> rfl
 rw [hna]
 refine ⟨fun h => ?_,fun h => ⟨fun h5 => ?_,fun h5 => ?_⟩⟩
 ·have h : (named e.author && named e.project) = false := by rw [Bool.not_eq_true'] at h; exact h
  rw [e1,if_pos h]
  exact ret_end hcl (.inr rfl) (by simp only [resVs,resV,W]; rfl) (by simp only [LW]) ⟨rfl,rfl⟩
 ·have h : ¬ (named e.author && named e.project) = false := by rw [Bool.not_eq_false'] at h; rw [h]; simp
  have h5 : e.created < 0 ∨ 1073741824 < e.created ∨ e.origin < 1 ∨ 3 < e.origin := by
   simp at h5; omega
  rw [e1,if_neg h,if_pos h5]
  exact ret_end hcl (.inr rfl) (by simp only [resVs,resV,W]; rfl) (by simp only [LW]) ⟨rfl,rfl⟩
 ·have h : ¬ (named e.author && named e.project) = false := by rw [Bool.not_eq_false'] at h; rw [h]; simp
  have h5 : ¬ (e.created < 0 ∨ 1073741824 < e.created ∨ e.origin < 1 ∨ 3 < e.origin) := by
   simp at h5; omega
  rw [e1,if_neg h,if_neg h5]
  exact ret_end hcl (.inr rfl) (by simp only [resVs,resV,W]; rfl) (by simp only [LW]) ⟨rfl,rfl⟩
theorem loop59 {n : Nat} {σ : Store} {K : Exit → St → Prop} (a b : List Int) (hlen : a.length < 2 ^ 63) (hab : a.length = b.length) : ∀ (ra rb pa pb : List Int),a = pa ++ ra → b = pb ++ rb → pa.length = pb.length →
  (ra = rb → (∀ j0 j1 j2 j3 j4 j5 j6 j7 j8 j9 j10 j11 j12 j13 j14 j15 j16 j17 j18 j19 j20 j21 j22 j23 j24 j25,K (.exit 0) ⟨[j0,j1,j2,j3,j4,j5,j6,j7,j8,j9,j10,j11,j12,j13,j14,j15,j16,j17,j18,j19,j20,j21,j22,j23,j24,j25],σ⟩)) → (ra ≠ rb → (∀ j0 j1 j2 j3 j5 j6 j7 j8 j9 j10 j11 j12 j13 j14 j15 j16 j17 j18 j19 j20 j21 j22 j23 j24 j25,K .ret ⟨[j0,j1,j2,j3,.b false,j5,j6,j7,j8,j9,j10,j11,j12,j13,j14,j15,j16,j17,j18,j19,j20,j21,j22,j23,j24,j25],σ⟩)) →
  Rnd n Tryz.prog p59_0 K (ra.length + 1) ⟨[.sl 1 (a.map iRow),.sl 1 (b.map iRow),.u,.u,.u,.u,.u,.u,.u,.u,.u,.u,.i .i64 a.length,.i .i64 pa.length,.u,.u,.u,.u,.u,.u,.u,.u,.u,.u,.u,.u],σ⟩ := by
 intro ra
 induction ra with
 | nil =>
  intro rb pa pb ha hb hp h1 h2
  have : rb = [] := by
   subst ha; subst hb
   simp at hab
   exact List.eq_nil_of_length_eq_zero (by omega)
  subst this
  have ha : a = pa := by simpa using ha
  subst ha
  refine rnd_step fun R hR => ?_
  simp only [p59_0,VV,pexec,binV,reduceIte]
  exact ⟨fun h => by simp at h,fun _ => h1 rfl ..⟩
 | cons x ra ih =>
  intro rb pa pb ha hb hp h1 h2
  cases rb with
  | nil => subst ha; subst hb; simp at hab; omega
  | cons y rb =>
   subst ha; subst hb
   have e2 : at2 (List.map iRow (pb ++ y :: rb)) pa.length 0 = some (.i .i64 y) := by rw [hp,at2_at]; rfl
   have hw : IntKind.i64.wrap ((pa.length : Int) + 1) = (((pa ++ [x]).length : Nat) : Int) := by
    rw [wrap_succ (by simp at hlen; omega)]; simp
   refine rnd_step fun R hR => ?_
   have e1 : at2 (List.map iRow (pa ++ x :: ra)) pa.length 0 = some (.i .i64 x) := by rw [at2_at]; rfl
   simp only [p59_0,Int.toNat_natCast,e1,e2,VV,pexec,binV,reduceIte]
   have hla : (0 : Int) ≤ pa.length ∧ (pa.length : Int) < (List.map iRow (pa ++ x :: ra)).length := by simp; omega
   have hlb : (0 : Int) ≤ pa.length ∧ (pa.length : Int) < (List.map iRow (pb ++ y :: rb)).length := by simp at hab ⊢; omega
   refine ⟨fun _ => ⟨hla,hlb,fun h => ?_,fun h => ?_⟩,fun h => by simp at h <;> omega⟩
   ·have h : ¬ x = y := by simpa using h
    exact h2 (by simp [h]) ..
   ·have h : x = y := by simpa using h
    subst h
    refine hR _ (rnd_cvs ?_ (ih rb (pa ++ [x]) (pb ++ [x]) (by simp) (by simp) (by simp [hp]) (fun e => h1 (by rw [e])) (fun e => h2 (by simpa using e))))
    rw [hw]; repeat first | exact .nil | refine .cons (.refl _) ?_ | refine .cons (.forget _) ?_
theorem r3SameInts_pc (a b : List Int) (σ : Store) : PC Tryz.prog 59 [.sl 1 (a.map iRow),.sl 1 (b.map iRow)] σ (fun r σ' => r = .b (a == b) ∧ σ' = σ) := by
 refine PC.intro Tryz.func59 c59 fun hcl hwf => wpc_sound ?_
 have hlen := wf_sl (hwf 0 _ rfl).1
 rw [List.length_map] at hlen
 simp only [p59,List.length_cons,List.length_nil,List.replicate,List.cons_append,List.nil_append,Nat.reduceAdd,Nat.reduceSub]
 simp only [List.length_map,VV,pexec,binV,reduceIte]
 refine ⟨fun h => ?_,fun h => ?_⟩
 ·refine ret_end0 (.inr rfl) rfl ⟨?_,rfl⟩
  have : a ≠ b := fun e => by subst e; simp at h
  simp [Pm.one,this]
 ·have hab : a.length = b.length := by simp at h; omega
  refine PWc.rnd_cvs ?_ (a.length + 1) (loop59 a b hlen hab a b [] [] rfl rfl rfl (fun h => ?_) (fun h => ?_))
  ·repeat first | exact .nil | refine .cons (.refl _) ?_ | refine .cons (.forget _) ?_
  ·intros
   simp only [VV,pexec]
   exact ret_end0 (.inr rfl) rfl ⟨by simp [Pm.one,h],rfl⟩
  ·intros
   exact ret_end0 (.inr rfl) rfl ⟨by simp [Pm.one,h],rfl⟩
theorem loop22 {n : Nat} {σ : Store} {K : Exit → St → Prop} (q : V) (l : List Int) (hlen : l.length < 2 ^ 63) : ∀ (rest pre : List Int),l = pre ++ rest →
  (rest.any (fun n => decide (128 < n)) = false → (∀ j0 j2 j3 j4 j5 j6 j7 j8 j9 j10 j11 j12 j13 j14 j15 j16 j17 j18 j19 j20 j21 j22 j23 j24 j25 j26 j27 j28 j29 j30 j31 j32 j33 j34 j35 j36 j37 j38 j39 j40 j41 j42 j43 j44 j45 j46 j47 j48 j49 j50 j51 j52 j53 j54 j55 j56 j57 j58 j59 j60 j61 j62 j63 j64 j65 j66 j67 j68 j69 j70 j71 j72 j73 j74 j75 j76 j77 j78 j79 j80 j81 j82 j83 j84 j85,K (.exit 0) ⟨[j0,q,j2,j3,j4,j5,j6,j7,j8,j9,j10,j11,j12,j13,j14,j15,j16,j17,j18,j19,j20,j21,j22,j23,j24,j25,j26,j27,j28,j29,j30,j31,j32,j33,j34,j35,j36,j37,j38,j39,j40,j41,j42,j43,j44,j45,j46,j47,j48,j49,j50,j51,j52,j53,j54,j55,j56,j57,j58,j59,j60,j61,j62,j63,j64,j65,j66,j67,j68,j69,j70,j71,j72,j73,j74,j75,j76,j77,j78,j79,j80,j81,j82,j83,j84,j85],σ⟩)) → (rest.any (fun n => decide (128 < n)) = true → (∀ j0 j3 j4 j5 j6 j7 j8 j9 j10 j11 j12 j13 j14 j15 j16 j17 j18 j19 j20 j21 j22 j23 j24 j25 j26 j27 j28 j29 j30 j31 j32 j33 j34 j35 j36 j37 j38 j39 j40 j41 j42 j43 j44 j45 j46 j47 j48 j49 j50 j51 j52 j53 j54 j55 j56 j57 j58 j59 j60 j61 j62 j63 j64 j65 j66 j67 j68 j69 j70 j71 j72 j73 j74 j75 j76 j77 j78 j79 j80 j81 j82 j83 j84 j85,K .ret ⟨[j0,q,.i .i64 1,j3,j4,j5,j6,j7,j8,j9,j10,j11,j12,j13,j14,j15,j16,j17,j18,j19,j20,j21,j22,j23,j24,j25,j26,j27,j28,j29,j30,j31,j32,j33,j34,j35,j36,j37,j38,j39,j40,j41,j42,j43,j44,j45,j46,j47,j48,j49,j50,j51,j52,j53,j54,j55,j56,j57,j58,j59,j60,j61,j62,j63,j64,j65,j66,j67,j68,j69,j70,j71,j72,j73,j74,j75,j76,j77,j78,j79,j80,j81,j82,j83,j84,j85],σ⟩)) →
  Rnd n Tryz.prog p22_0 K (rest.length + 1) ⟨[.u,q,.u,.u,.u,.u,.u,.u,.u,.u,.u,.u,.u,.u,.u,.u,.u,.u,.u,.u,.u,.u,.u,.u,.u,.u,.u,.u,.u,.u,.u,.sl 1 (l.map iRow),.i .i64 l.length,.i .i64 pre.length,.u,.u,.u,.u,.u,.u,.u,.u,.u,.u,.u,.u,.u,.u,.u,.u,.u,.u,.u,.u,.u,.u,.u,.u,.u,.u,.u,.u,.u,.u,.u,.u,.u,.u,.u,.u,.u,.u,.u,.u,.u,.u,.u,.u,.u,.u,.u,.u,.u,.u,.u,.u],σ⟩ := by
 intro rest
 induction rest with
 | nil =>
  intro pre he h1 h2
  have he : l = pre := by simpa using he
  subst he
  refine rnd_step fun R hR => ?_
  simp only [p22_0,VV,pexec,binV,reduceIte]
  exact ⟨fun h => by simp at h,fun _ => h1 rfl ..⟩
 | cons c rest ih =>
  intro pre he h1 h2
  subst he
  refine rnd_step fun R hR => ?_
  simp only [p22_0,iRow,VV,pexec,binV,reduceIte]
  refine ⟨fun _ => ⟨by simp; omega,fun h => ?_,fun h => ?_⟩,fun h => by simp at h <;> omega⟩
  ·have h : 128 < c := by simpa using h
   exact h2 (by simp [h]) ..
  ·have h : ¬ 128 < c := by simpa using h
   have e : (c :: rest).any (fun n => decide (128 < n)) = rest.any (fun n => decide (128 < n)) := by simp [h]
   rw [e] at h1 h2
   refine hR _ (rnd_cvs ?_ (ih (pre ++ [c]) (by simp) h1 h2))
   rw [wrap_succ (by simp at hlen; omega)]
   simp only [List.length_append,List.length_cons,List.length_nil]
   repeat first | exact .nil | refine .cons (.refl _) ?_ | refine .cons (.forget _) ?_
theorem r36ValidateOp_pc (o : Opr) (hs : o.small) (σ : Store) : PC Tryz.prog 22 [.agg o.cells] σ (fun r σ' => r = .i .i64 (opErr o) ∧ σ' = σ) := by
 refine PC.intro Tryz.func22 c22 fun hcl hwf => wpc_sound ?_
 have hsl := hs.seen
 simp only [p22,List.length_cons,List.length_nil,List.replicate,List.cons_append,List.nil_append,Nat.reduceAdd,Nat.reduceSub]
 simp only [Opr.cells,Stamp.cells,En.cells,VV,pexec,xexec,Nat.reduceAdd,Nat.reduceLeDiff]
 refine call_eq (r36Stamp_pc o.stamp _) rfl ?_
 simp only [VV,pexec,binV,reduceIte]
 refine ⟨fun h => ?_,fun h => ?_⟩
 ·have h : stampOk o.stamp = false := by
   cases hk : stampOk o.stamp with
   | false => rfl
   | true => rw [hk] at h; simp at h
  refine ret_end hcl (.inr rfl) (by simp only [resVs,resV,W]; rfl) (by simp only [LW]) ⟨?_,rfl⟩
  simp only [opErr,h,if_true]; rfl
 have h0 : ¬ stampOk o.stamp = false := by
  intro hk; rw [hk] at h; simp at h
 have e0 : opErr o = if (o.kind ≠ 1 ∧ o.kind ≠ 2) ∨ vTrim o.seen ≠ o.seen then 1 else
   if o.seen.any (fun n => decide (128 < n)) then 1 else
   if vAt o.seen o.stamp.office ≠ o.stamp.number - 1 then 11 else
   if o.kind = 2 ∧ bareEn o.entry = false then 1 else entryErr (looked o) := by simp only [opErr,if_neg h0]
 have hnum : 1 ≤ o.stamp.number ∧ o.stamp.number ≤ 128 := by
  have : stampOk o.stamp = true := by simpa using h0
  simp only [stampOk,decide_eq_true_eq] at this; omega
 rw [e0]
 have hkind : (bif (o.kind != 1) then (o.kind != 2) else false) = decide (o.kind ≠ 1 ∧ o.kind ≠ 2) := by
  rw [Bool.eq_iff_iff]; by_cases h1 : o.kind = 1 <;> by_cases h2 : o.kind = 2 <;> simp [h1,h2]
 refine callg_eq (by simp only [VV] <;> rfl) (fun _ => r36Trim_pc o.seen _) rfl ?_
 simp only [VV,pexec,binV]
 refine callg_eq (by simp only [VV] <;> rfl) (fun _ => r3SameInts_pc (vTrim o.seen) o.seen _) rfl ?_
 simp only [VV,pexec]
 have hl63 : o.seen.length < 2 ^ 63 := by omega
 refine ⟨fun h => ?_,fun h => PWc.rnd_cvs ?_ (o.seen.length + 1) (loop22 (.ptr σ.length 0) o.seen hl63 o.seen [] rfl (fun ha => ?_) (fun ha => ?_))⟩
 ·have h : (o.kind ≠ 1 ∧ o.kind ≠ 2) ∨ vTrim o.seen ≠ o.seen := by
   simpa [vTrim] using h
  refine ret_end hcl (.inr rfl) (by simp only [resVs,resV,W]; rfl) (by simp only [LW]) ⟨?_,rfl⟩
  rw [if_pos h]; rfl
 ·simp only [List.length_map,List.length_nil]
  repeat first | exact .nil | refine .cons (.refl _) ?_ | refine .cons (.forget _) ?_
 ·have h : ¬ ((o.kind ≠ 1 ∧ o.kind ≠ 2) ∨ vTrim o.seen ≠ o.seen) := by
   intro h2
   have : (o.kind != 1 && o.kind != 2 || !vTrim o.seen == o.seen) = true := by simpa using h2
   rw [h] at this; simp at this
  have hkk := h
  rw [if_neg h,if_neg (show ¬ (o.seen.any fun n => decide (128 < n)) = true by rw [ha]; simp)]
  intros
  simp only [VV,pexec,binV,reduceIte]
  refine call_eq (r36At_pc o.seen o.stamp.office _) rfl ?_
  simp only [VV,pexec,xexec,binV,Nat.reduceAdd,Nat.reduceLeDiff,reduceIte]
  have hw : IntKind.i64.wrap (o.stamp.number - 1) = o.stamp.number - 1 := IntWalk.i64_in _ (by omega)
  rw [hw]
  refine ⟨fun h => ?_,fun h => ?_⟩
  ·have h : vAt o.seen o.stamp.office ≠ o.stamp.number - 1 := by simpa using h
   refine ret_end hcl (.inr rfl) (by simp only [resVs,resV,W]; rfl) (by simp only [LW]) ⟨?_,rfl⟩
   rw [if_pos h]; rfl
  have h : ¬ vAt o.seen o.stamp.office ≠ o.stamp.number - 1 := by simpa using h
  rw [if_neg h]
  refine ⟨fun h1 => ?_,fun h1 => ?_⟩
  ·have h1 : o.kind = 1 := by simpa using h1
   have hl : looked o = o.entry := by simp only [looked,h1]; rfl
   rw [if_neg (by rw [h1]; simp),hl]
   refine call_eq (r16Validate_pc o.entry hs.entry _) rfl ?_
   simp only [VV,pexec]
   exact ret_end hcl (.inr rfl) (by simp only [resVs,resV,W]; rfl) (by simp only [LW]) ⟨rfl,rfl⟩
  have h1 : o.kind = 2 := by
   simp only [not_or] at hkk
   have h1 : ¬ o.kind = 1 := by simpa using h1
   have := hkk.1
   omega
  have hl : looked o = asked o.entry := by simp only [looked,h1]; rfl
  have hbare : (decide ((0 : Int) < (o.entry.target.length : Int)) || !o.entry.author == [] || !o.entry.project == [] || o.entry.created != 0 || o.entry.origin != 0) = !bareEn o.entry := by
   have e : decide ((0 : Int) < (o.entry.target.length : Int)) = !(o.entry.target.length == 0) := by
    rw [Bool.eq_iff_iff]; simp only [decide_eq_true_eq,Bool.not_eq_true',beq_eq_false_iff_ne]; omega
   rw [e]
   simp only [bareEn,bne]
   cases o.entry.target.length == 0 <;> cases o.entry.author == [] <;> cases o.entry.project == [] <;> cases o.entry.created == 0 <;> cases o.entry.origin == 0 <;> rfl
  simp only [List.length_map]
  rw [hbare]
  refine ⟨fun h2 => ?_,fun h2 => ?_⟩
  ·have h2 : bareEn o.entry = false := by rw [Bool.not_eq_true'] at h2; exact h2
   refine ret_end hcl (.inr rfl) (by simp only [resVs,resV,W]; rfl) (by simp only [LW]) ⟨?_,rfl⟩
   rw [if_pos ⟨h1,h2⟩]; rfl
  have h2 : bareEn o.entry = true := by rw [Bool.not_eq_false'] at h2; exact h2
  rw [if_neg (by rw [h2]; simp)]
  refine call_eq (r36Asked_pc o.entry _) rfl ?_
  simp only [VV]
  have hsl2 := looked_small hs
  rw [hl] at hsl2 ⊢
  refine call_eq (r16Validate_pc (asked o.entry) hsl2 _) rfl ?_
  simp only [VV,pexec]
  exact ret_end hcl (.inr rfl) (by simp only [resVs,resV,W]; rfl) (by simp only [LW]) ⟨rfl,rfl⟩
 ·have h : ¬ ((o.kind ≠ 1 ∧ o.kind ≠ 2) ∨ vTrim o.seen ≠ o.seen) := by
   intro h2
   have : (o.kind != 1 && o.kind != 2 || !vTrim o.seen == o.seen) = true := by simpa using h2
   rw [h] at this; simp at this
  rw [if_neg h,if_pos ha]
  intros
  simp only [VV]
  exact ret_end hcl (.inr rfl) (by simp only [resVs,resV,W]; rfl) (by simp only [LW]) ⟨rfl,rfl⟩
theorem ti_opR : Ti Tryz.prog 33 13 184 := tiB_ok (by kernel_rfl)
def opRow (g : Nat) (sh : Bool) (f : List Opr) : Ob := .row 33 13 184 g sh (f.map Opr.cells)
theorem op_row {out : List Opr} {n : Nat} (h : n < out.length) : ∃ x ∈ out,(out.map Opr.cells).getD n [] = x.cells :=
 ⟨out[n],List.getElem_mem h,by simp [List.getD_eq_getElem?_getD,h]⟩
set_option maxHeartbeats 4000000 in
set_option maxRecDepth 20000 in
theorem loop65 (S : Store) (a : Nat) (ha : a < S.length) (l : List Int) {K : Exit → St → Prop} (k0 : Nat) (hk0 : k0 < 2 ^ 46) (hcl : Closed (nst S a l k0)) (N : Nat) (hN : N ≤ 20) : ∀ (m : Nat) (k : Nat) (out : List Opr) (g : Nat),m ≤ N → out.length + m ≤ N → (∀ o ∈ out,GenOp o) → k + 1000 * m ≤ k0 + 1000 * N →
  (∀ (k : Nat) (out : List Opr) (g : Nat),(∀ o ∈ out,GenOp o) → out.length ≤ N → k ≤ k0 + 1000 * N → (∀ j0 j1 j2 j3 j4 j6 j7 j8 j9 j10 j11 j12 j13 j14 j15 j16 j17 j18 j19 j20 j21 j22 j23 j24 j25 j26 j27 j28 j29 j30 j31 j32 j33 j34 j35 j36 j37 j38 j39 j40 j41 j42 j43 j44 j45 j46 j47 j48 j49 j50 j51 j52 j53 j54 j55 j56 j57 j58 j59 j60 j61 j62 j63,K (.exit 0) ⟨[j0,j1,j2,j3,j4,.own S.length g,j6,j7,j8,j9,j10,j11,j12,j13,j14,j15,j16,j17,j18,j19,j20,j21,j22,j23,j24,j25,j26,j27,j28,j29,j30,j31,j32,j33,j34,j35,j36,j37,j38,j39,j40,j41,j42,j43,j44,j45,j46,j47,j48,j49,j50,j51,j52,j53,j54,j55,j56,j57,j58,j59,j60,j61,j62,j63],nst S a l k ++ [opRow g false out]⟩)) →
  Rnd S.length Tryz.prog p65_0 K (m + 1) ⟨[.ptr a 0,.u,.u,.u,.u,.own S.length g,.i .i64 m,.u,.u,.u,.u,.u,.u,.u,.u,.u,.u,.u,.u,.u,.u,.u,.u,.u,.u,.u,.u,.u,.u,.u,.u,.u,.u,.u,.u,.u,.u,.u,.u,.u,.u,.u,.u,.u,.u,.u,.u,.u,.u,.u,.u,.u,.u,.u,.u,.u,.u,.u,.u,.u,.u,.u,.u,.u],nst S a l k ++ [opRow g false out]⟩ := by
 intro m
 induction m with
 | zero =>
  intro k out g hm hol ho hk h1
  refine rnd_step fun R hR => ?_
  simp only [p65_0,VV,pexec,binV,reduceIte]
  exact ⟨fun h => by simp at h,fun _ => h1 k out g ho (by omega) (by omega) ..⟩
 | succ m ih =>
  intro k out g hm hol ho hk h1
  have hw : IntKind.i64.wrap (((m + 1 : Nat) : Int) - 1) = (m : Int) := by rw [IntWalk.i64_in _ (by omega)]; omega
  refine rnd_stepW fun R hR => ?_
  simp only [p65_0]
  refine PWc.cut fun R1 hR1 => ?_
  simp only [VV,pexec,binV,reduceIte]
  refine ⟨fun _ => ?_,fun h => by simp at h <;> omega⟩
  refine hR1 _ (PWc.cvs (fr' := [.ptr a 0,.u,.u,.u,.u,.own S.length g,.i .i64 (m + 1 : Nat),.u,.u,.u,.u,.u,.u,.u,.u,.u,.u,.u,.u,.u,.u,.u,.u,.u,.u,.u,.u,.u,.u,.u,.u,.u,.u,.u,.u,.u,.u,.u,.u,.u,.u,.u,.u,.u,.u,.u,.u,.u,.u,.u,.u,.u,.u,.u,.u,.u,.u,.u,.u,.u,.u,.u,.u,.u]) ?_ (by repeat first | exact .nil | refine .cons (.refl _) ?_ | refine .cons (.forget _) ?_))
  clear hR1 R1
  refine PWc.cutW fun R2 hR2 => PWc.blk ?_
  have again : ∀ (out2 : List Opr) (g2 k2 : Nat) (ext : Store) {fr : List V},(∀ o ∈ out2,GenOp o) → out2.length ≤ out.length + 1 → k2 ≤ k + 1000 → Cvs fr [.ptr a 0,.u,.u,.u,.u,.own S.length g2,.i .i64 (m + 1 : Nat),.u,.u,.u,.u,.u,.u,.u,.u,.u,.u,.u,.u,.u,.u,.u,.u,.u,.u,.u,.u,.u,.u,.u,.u,.u,.u,.u,.u,.u,.u,.u,.u,.u,.u,.u,.u,.u,.u,.u,.u,.u,.u,.u,.u,.u,.u,.u,.u,.u,.u,.u,.u,.u,.u,.u,.u,.u] → R2 ⟨fr,nst S a l k2 ++ (opRow g2 false out2 :: ext)⟩ := by
   intro out2 g2 k2 ext fr c1 c2 c3 hc
   refine hR2 _ (PWc.cvs (wpc_sound ?_) hc)
   simp only [hw,VV,pexec,binV,reduceIte]
   have hw2 : Wk Tryz.prog S.length [.ptr a 0,.u,.u,.u,.u,.own S.length g2,.i .i64 m,.u,.u,.u,.u,.u,.u,.u,.u,.u,.u,.u,.u,.u,.u,.u,.u,.u,.u,.u,.u,.u,.u,.u,.u,.u,.u,.u,.u,.u,.u,.u,.u,.u,.u,.u,.u,.u,.u,.u,.u,.u,.u,.u,.u,.u,.u,.u,.u,.u,.u,.u,.u,.u,.u,.u,.u,.u] (nst S a l k2 ++ (opRow g2 false out2 :: ext)) [.ptr a 0,.u,.u,.u,.u,.own S.length g2,.i .i64 m,.u,.u,.u,.u,.u,.u,.u,.u,.u,.u,.u,.u,.u,.u,.u,.u,.u,.u,.u,.u,.u,.u,.u,.u,.u,.u,.u,.u,.u,.u,.u,.u,.u,.u,.u,.u,.u,.u,.u,.u,.u,.u,.u,.u,.u,.u,.u,.u,.u,.u,.u,.u,.u,.u,.u,.u,.u] (nst S a l k2 ++ [opRow g2 false out2]) := by
    have := Wk.drop0 (P := Tryz.prog) (n := S.length) (xs := [.ptr a 0,.u,.u,.u,.u,.own S.length g2,.i .i64 m,.u,.u,.u,.u,.u,.u,.u,.u,.u,.u,.u,.u,.u,.u,.u,.u,.u,.u,.u,.u,.u,.u,.u,.u,.u,.u,.u,.u,.u,.u,.u,.u,.u,.u,.u,.u,.u,.u,.u,.u,.u,.u,.u,.u,.u,.u,.u,.u,.u,.u,.u,.u,.u,.u,.u,.u,.u]) (σ := nst S a l k2 ++ [opRow g2 false out2]) (loc := ext) (by simp [nst_len]) (closed_add (nst_closed hcl) (by simp [opRow])) (allLt_iff.1 (by
     rw [List.length_append,nst_len]
     simp only [List.length_cons,List.length_nil,Nat.lt_add_one,Nat.lt_add_right 1 ha,Nat.zero_add,LW]))
    rwa [List.append_assoc,List.singleton_append] at this
   exact hR _ (rnd_wk ((Wk.cvs (by repeat first | exact .nil | refine .cons (.refl _) ?_ | refine .cons (.forget _) ?_)).trans hw2) (ih k2 out2 g2 (by omega) (by omega) c1 (by omega) h1))
  refine PWc.cut fun R3 hR3 => ?_
  simp only [opRow,VV,pexec]
  refine call_ex (op_at S a ha l k (by omega) _) rfl ?_
  rintro _ _ ⟨o,k1,rfl,hO,hk1,rfl⟩
  simp only [Opr.cells,Stamp.cells,En.cells,nst_len,nb,nbs,VV,xexec,Nat.reduceAdd]
  refine hR3 _ (PWc.cvs (fr' := [.ptr a 0,.u,.u,.u,.u,.own S.length g,.i .i64 (m + 1 : Nat),.ptr (S.length + 1) 0,.u,.u,.u,.u,.u,.u,.u,.u,.u,.u,.u,.u,.u,.u,.u,.u,.u,.u,.u,.u,.u,.u,.u,.u,.u,.u,.u,.u,.u,.u,.u,.u,.u,.u,.u,.u,.u,.u,.u,.u,.u,.u,.u,.u,.u,.u,.u,.u,.u,.u,.u,.u,.u,.u,.u,.u]) ?_ (by repeat first | exact .nil | refine .cons (.refl _) ?_ | refine .cons (.forget _) ?_))
  clear hR3 R3
  refine PWc.cutW fun R4 hR4 => ?_
  have tail : ∀ (o : Opr) (k2 : Nat) (ext : Store) {fr : List V},o.small → (opErr o = 0 → GenOp o) → k2 ≤ k + 1000 → Cvs fr [.ptr a 0,.u,.u,.u,.u,.own S.length g,.i .i64 (m + 1 : Nat),.ptr (S.length + 1) 0,.u,.u,.u,.u,.u,.u,.u,.u,.u,.u,.u,.u,.u,.u,.u,.u,.u,.u,.u,.u,.u,.u,.u,.u,.u,.u,.u,.u,.u,.u,.u,.u,.u,.u,.u,.u,.u,.u,.u,.u,.u,.u,.u,.u,.u,.u,.u,.u,.u,.u,.u,.u,.u,.u,.u,.u] →
    R4 ⟨fr,nst S a l k2 ++ (opRow g false out :: .box 33 o.cells :: ext)⟩ := by
   intro o k2 ext fr c1 c2 c3 hc
   refine hR4 _ (PWc.cvs (wpc_sound ?_) hc)
   simp only [opRow,Opr.cells,Stamp.cells,En.cells,List.cons_append,List.nil_append,nb,VV,pexec,Nat.reduceAdd]
   refine call_eq (r36ValidateOp_pc o c1 _) rfl ?_
   simp only [nb0,nb,nbs0,List.length_map,V.pure,VV,pexec,xexec,binV,Nat.reduceAdd,reduceIte]
   refine ⟨fun h => ⟨⟨by omega,by simp only [maxLen]; omega⟩,?_⟩,fun h => ?_⟩
   ·have e0 : out.map Opr.cells ++ [[.i .i64 o.stamp.time,.i .i64 o.stamp.office,.i .i64 o.stamp.number,.i .i64 o.kind,.sl 3 (o.entry.source.map It.cells),.sl 3 (o.entry.target.map It.cells),.s o.entry.previous,.s o.entry.next,.s o.entry.author,.s o.entry.project,.i .i64 o.entry.created,.i .i64 o.entry.origin,.sl 1 (o.seen.map iRow)]] = (out ++ [o]).map Opr.cells := by
     simp [Opr.cells,Stamp.cells,En.cells]
    rw [e0]
    refine again (out ++ [o]) (g + 1) k2 _ (fun z hz => ?_) (by simp) c3 (by repeat first | exact .nil | refine .cons (.refl _) ?_ | refine .cons (.forget _) ?_)
    rcases List.mem_append.1 hz with hz | hz
    ·exact ho z hz
    ·rw [List.mem_singleton] at hz; subst hz; exact c2 (by simpa using h)
   ·exact again out g k2 _ ho (by omega) c3 (by repeat first | exact .nil | refine .cons (.refl _) ?_ | refine .cons (.forget _) ?_)
  refine PWc.cut fun R5 hR5 => ?_
  have skip : ∀ (k2 : Nat) {fr : List V},k2 ≤ k1 + 1 → Cvs fr [.ptr a 0,.u,.u,.u,.u,.own S.length g,.i .i64 (m + 1 : Nat),.ptr (S.length + 1) 0,.u,.u,.u,.u,.u,.u,.u,.u,.u,.u,.u,.u,.u,.u,.u,.u,.u,.u,.b false,.u,.u,.u,.u,.u,.u,.u,.u,.u,.u,.u,.u,.u,.u,.u,.u,.u,.u,.u,.u,.u,.u,.u,.u,.u,.u,.u,.u,.u,.u,.u,.u,.u,.u,.u,.u,.u] → R5 ⟨fr,nst S a l k2 ++ [opRow g false out,.box 33 o.cells]⟩ := by
   intro k2 fr hk2 hc
   refine hR5 _ (PWc.cvs (PWc.iteF rfl (wpc_sound ?_)) hc)
   simp only [VV]
   exact tail o k2 [] hO.small (fun _ => hO) (by omega) (by repeat first | exact .nil | refine .cons (.refl _) ?_ | refine .cons (.forget _) ?_)
  simp only [nb0,List.length_map,VV,pexec,binV,reduceIte]
  by_cases hne : out = []
  ·have e1 : decide ((0 : Int) < (out.length : Int)) = false := by simp [hne]
   refine callg_ex (Q := fun _ _ => True) (c := false) (by simp only [e1,VV] <;> rfl) (fun h => by simp at h) rfl (fun h => by simp at h) fun _ => ⟨.i .i64 0,?_⟩
   simp only [e1,VV,pexec,binV,reduceIte]
   refine skip k1 (by omega) ?_
   repeat first | exact .nil | refine .cons (.refl _) ?_ | refine .cons (.forget _) ?_
  have e1 : decide ((0 : Int) < (out.length : Int)) = true := by
   have := List.length_pos_iff.2 hne
   simp; omega
  refine callg_ex (c := true) (by simp only [e1,VV] <;> rfl) (fun _ => next_at S a ha l k1 (by omega) 2 (by decide) (by decide) _) rfl ?_ (fun h => by simp at h)
  rintro _ _ _ ⟨v,rfl,hv,rfl⟩
  by_cases hv0 : v = 0
  ·have e2 : (v == 0) = true := by simp [hv0]
   simp only [e1,e2,VV,pexec,binV,reduceIte]
   refine hR5 _ (PWc.cvs (fr' := [.ptr a 0,.u,.u,.u,.u,.own S.length g,.i .i64 (m + 1 : Nat),.ptr (S.length + 1) 0,.u,.u,.u,.u,.u,.u,.u,.u,.u,.u,.u,.u,.u,.u,.u,.u,.u,.u,.b true,.u,.u,.u,.u,.u,.u,.u,.u,.u,.u,.u,.u,.u,.u,.u,.u,.u,.u,.u,.u,.u,.u,.u,.u,.u,.u,.u,.u,.u,.u,.u,.u,.u,.u,.u,.u,.u]) (PWc.iteT rfl ?_) (by repeat first | exact .nil | refine .cons (.refl _) ?_ | refine .cons (.forget _) ?_))
   clear hR5 skip R5
   refine PWc.cut fun R6 hR6 => ?_
   simp only [nb0,List.length_map,VV,pexec,reduceIte]
   refine call_ex (next_at S a ha l (k1 + 1) (by omega) out.length (by have := List.length_pos_iff.2 hne; omega) (by omega) _) rfl ?_
   rintro _ _ ⟨j,rfl,hj,rfl⟩
   simp only [nst_len,nb0,nb,nbs,List.length_map,VV,pexec,xexec,Nat.reduceAdd,reduceIte]
   obtain ⟨x,hxm,hxe⟩ := op_row (out := out) (n := j.toNat) (by omega)
   have hX := ho x hxm
   simp only [hxe,Opr.cells,Stamp.cells,En.cells,VV,Nat.reduceAdd,Nat.reduceLeDiff]
   refine ⟨⟨hj.1,hj.2⟩,?_⟩
   refine hR6 _ (PWc.cvs (fr' := [.ptr a 0,.u,.u,.u,.u,.own S.length g,.i .i64 (m + 1 : Nat),.ptr (S.length + 1) 0,.ptr (S.length + 2) 0,.u,.u,.u,.u,.u,.u,.u,.u,.u,.u,.u,.u,.u,.u,.u,.u,.u,.u,.u,.u,.u,.u,.u,.u,.u,.u,.u,.u,.u,.u,.u,.u,.u,.u,.u,.u,.u,.u,.u,.u,.u,.u,.u,.u,.u,.u,.u,.u,.u,.u,.u,.u,.u,.u,.u]) ?_ (by repeat first | exact .nil | refine .cons (.refl _) ?_ | refine .cons (.forget _) ?_))
   clear hR6 R6
   refine PWc.cut fun R7 hR7 => ?_
   simp only [nb,nbs,V.pure,VV,pexec,xexec,binV,Nat.reduceAdd,Nat.reduceLeDiff]
   refine hR7 _ (PWc.cvs (fr' := [.ptr a 0,.u,.u,.u,.u,.own S.length g,.i .i64 (m + 1 : Nat),.ptr (S.length + 1) 0,.ptr (S.length + 2) 0,.u,.u,.u,.u,.u,.u,.u,.u,.u,.u,.u,.u,.u,.u,.u,.u,.u,.u,.u,.u,.u,.u,.u,.u,.u,.u,.u,.u,.u,.u,.u,.u,.u,.u,.u,.u,.u,.u,.u,.u,.u,.u,.u,.u,.u,.u,.u,.u,.u,.u,.u,.u,.u,.u,.u]) (wpc_sound ?_) (by repeat first | exact .nil | refine .cons (.refl _) ?_ | refine .cons (.forget _) ?_))
   clear hR7 R7
   simp only [nb,VV,pexec,binV,reduceIte]
   refine ⟨fun hk1' => ?_,fun hk1' => ?_⟩
   ·refine call_ex (target_at S a ha l (k1 + 1 + 1) (by omega) x.entry.source hX.src (by have := hX.srcLen; omega) (by have := hX.srcText; omega) _) rfl ?_
    rintro _ _ ⟨t,k2,rfl,t1,t2,t3,t4,rfl⟩
    simp only [nb,nbs,VV,pexec,xexec,Nat.reduceAdd,Nat.reduceLeDiff]
    have hs := mix_small hO hX (t := t) (by have := hX.srcLen; omega) (by have := hX.srcLen; have := hX.srcText; omega) (fun y hy => by have := err_ids t1 y hy; omega)
    refine tail (mixOp o x t) k2 _ hs (mix_gen hO hX hs) (by have := hX.srcLen; omega) ?_
    repeat first | exact .nil | refine .cons (.refl _) ?_ | refine .cons (.forget _) ?_
   ·have hs := mix_small hO hX (t := o.entry.target) hO.small.entry.target hO.small.entry.targetT (fun y hy => hO.small.entry.ids y (List.mem_append_right _ hy))
    refine tail (mixOp o x o.entry.target) (k1 + 1 + 1) _ hs (mix_gen hO hX hs) (by omega) ?_
    repeat first | exact .nil | refine .cons (.refl _) ?_ | refine .cons (.forget _) ?_
  ·have e2 : (v == 0) = false := by simpa using hv0
   simp only [e1,e2,VV,pexec,binV,reduceIte]
   refine skip (k1 + 1) (by omega) ?_
   repeat first | exact .nil | refine .cons (.refl _) ?_ | refine .cons (.forget _) ?_
theorem ops_pc (S : Store) (a : Nat) (ha : a < S.length) (l : List Int) (k : Nat) (hk : k < 2 ^ 45) (N : Nat) (hN : N ≤ 20) :
  PC Tryz.prog 65 [.ptr a 0,.i .i64 N] (nst S a l k) (fun r σ' => ∃ (out : List Opr) (k' : Nat),r = .sl 13 (out.map Opr.cells) ∧ (∀ o ∈ out,GenOp o) ∧ out.length ≤ N ∧ σ' = nst S a l k') := by
 refine PC.intro Tryz.func65 c65 fun hcl hwf => wpc_sound ?_
 have hw : IntKind.i64.wrap ((N : Int) + 1) = ((N + 1 : Nat) : Int) := wrap_succ (by omega)
 simp only [p65,List.length_cons,List.length_nil,List.replicate,List.cons_append,List.nil_append,Nat.reduceAdd,Nat.reduceSub]
 simp only [nst_len,hw,VV,Int.reduceBEq,Int.reduceBNe,pexec,xexec,binV,Nat.reduceAdd,Nat.reduceSub,Nat.reduceLeDiff,Nat.reduceEqDiff,Int.reduceToNat,reduceIte,reduceCtorEq]
 refine call_ex (next_pc S a ha l k (by omega) ((N + 1 : Nat) : Int) (by omega) (by omega)) rfl ?_
 rintro _ _ ⟨v,rfl,hv,rfl⟩
 obtain ⟨m,rfl⟩ : ∃ m : Nat,v = m := ⟨v.toNat,by omega⟩
 simp only [nst_len,hw,VV,Int.reduceBEq,Int.reduceBNe,pexec,xexec,binV,Nat.reduceAdd,Nat.reduceSub,Nat.reduceLeDiff,Nat.reduceEqDiff,Int.reduceToNat,reduceIte,reduceCtorEq]
 refine PWc.wk (((Wk.cvs (ys := [.ptr a 0,.u,.u,.u,.u,.nil,.i .i64 m,.u,.u,.u,.u,.u,.u,.u,.u,.u,.u,.u,.u,.u,.u,.u,.u,.u,.u,.u,.u,.u,.u,.u,.u,.u,.u,.u,.u,.u,.u,.u,.u,.u,.u,.u,.u,.u,.u,.u,.u,.u,.u,.u,.u,.u,.u,.u,.u,.u,.u,.u,.u,.u,.u,.u,.u,.u]) (by repeat first | exact .nil | refine .cons (.refl _) ?_ | refine .cons (.forget _) ?_)).trans (Wk.promote (P := Tryz.prog) (σ := nst S a l (k + 1)) (k := 5) ti_opR rfl)).trans (Wk.cvs (ys := [.ptr a 0,.u,.u,.u,.u,.own S.length 0,.i .i64 m,.u,.u,.u,.u,.u,.u,.u,.u,.u,.u,.u,.u,.u,.u,.u,.u,.u,.u,.u,.u,.u,.u,.u,.u,.u,.u,.u,.u,.u,.u,.u,.u,.u,.u,.u,.u,.u,.u,.u,.u,.u,.u,.u,.u,.u,.u,.u,.u,.u,.u,.u,.u,.u,.u,.u,.u,.u]) ?_))
  (PWc.rnd (m + 1) (loop65 S a ha l (k + 1) (by omega) (nst_closed hcl) m (by omega) m (k + 1) [] 0 (Nat.le_refl _) (by simp) (by simp) (by omega) ?_))
 ·simp only [nst_len,List.length_cons,List.length_nil,VV,Int.reduceBEq,Int.reduceBNe,pexec,xexec,binV,Nat.reduceAdd,Nat.reduceSub,Nat.reduceLeDiff,Nat.reduceEqDiff,Int.reduceToNat,reduceIte,reduceCtorEq]
  repeat first | exact .nil | refine .cons (.refl _) ?_ | refine .cons (.forget _) ?_
 intro k' out g c1 c2 c3
 intros
 simp only [opRow,nst_len,nb0,nb,nbs0,nbs,VV,Int.reduceBEq,Int.reduceBNe,pexec,xexec,binV,Nat.reduceAdd,Nat.reduceSub,Nat.reduceLeDiff,Nat.reduceEqDiff,Int.reduceToNat,reduceIte,reduceCtorEq]
 refine ret_wk (xs' := [.sl 13 (out.map Opr.cells)]) (.inr rfl) rfl ((Wk.fz S.length (E := 33) (sz := 13) (by' := 184) (g := g) (sh := false) (rows := out.map Opr.cells) (by rw [nb0]; rfl)).trans ?_) rfl ⟨out,k',rfl,c1,by omega,rfl⟩
 rw [nbs0]
 simp only [List.map_cons,List.map_nil,ev,setd,List.getD_cons_zero,List.getD_cons_succ,List.set_cons_zero,List.set_cons_succ,fz,fz1,and_self,if_true]
 have := Wk.end0 (P := Tryz.prog) (xs := [.sl 13 (out.map Opr.cells)]) (loc := [Ob.row 33 13 184 g true (out.map Opr.cells)]) (nst_closed (k' := k') hcl) (by simp only [nst_len,LW])
 rw [nst_len] at this
 exact this
end Go.Proofs.Tryz
