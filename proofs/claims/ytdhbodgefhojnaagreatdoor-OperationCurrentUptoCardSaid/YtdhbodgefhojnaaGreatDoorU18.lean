/- A part of the proof that OperationCurrent returns true and leaves its arguments as they were, for every input of bounded size. -/
import Derived.Test.YtdhbodgefhojnaaGreatDoorU10
import Derived.Test.YtdhbodgefhojnaaGreatDoorU12
import Derived.Test.YtdhbodgefhojnaaGreatDoorU13
import Derived.Test.YtdhbodgefhojnaaGreatDoorU15
set_option linter.all false

namespace Go.Proofs.Tryz
open Go Go.Pm Go.Bt
theorem r36Stamp_pc (s : Stamp) (σ : Store) : PC Tryz.prog 58 [.agg s.cells] σ (fun r σ' => r = .i .i64 (if stampOk s = false then 1 else 0) ∧ σ' = σ) := by
 refine PC.intro Tryz.func58 c58 fun hcl hwf => wpc_sound ?_
 simp only [p58,List.length_cons,List.length_nil,List.replicate,List.cons_append,List.nil_append,Nat.reduceAdd,Nat.reduceSub]
 simp only [Stamp.cells,VV,pexec,xexec,binV,reduceIte]
 have e : (decide (s.time < 1) || decide (1073741824 < s.time) || decide (s.office < 0) || decide (8 ≤ s.office) || decide (s.number < 1) || decide (128 < s.number)) = !stampOk s := by
  simp only [stampOk]
  rw [Bool.eq_iff_iff]
  simp
  omega
 rw [e]
 refine ⟨fun h => ?_,fun h => ?_⟩
 ·refine ret_end hcl (.inr rfl) (by simp only [resVs,resV,W]; rfl) (by simp only [LW]) ⟨?_,rfl⟩
  rw [Bool.not_eq_true'] at h; rw [h]; rfl
 ·refine ret_end hcl (.inr rfl) (by simp only [resVs,resV,W]; rfl) (by simp only [LW]) ⟨?_,rfl⟩
  rw [Bool.not_eq_false'] at h; rw [h]; rfl
theorem r36order_pc (a b : Int) (σ : Store) : PC Tryz.prog 69 [.i .i64 a,.i .i64 b] σ (fun r σ' => r = .i .i64 (cmpI a b) ∧ σ' = σ) := by
 refine PC.intro Tryz.func69 c69 fun hcl hwf => wpc_sound ?_
 simp only [p69,List.length_cons,List.length_nil,List.replicate,List.cons_append,List.nil_append,Nat.reduceAdd,Nat.reduceSub]
 simp only [VV,pexec,binV,reduceIte]
 refine ⟨fun h => ?_,fun h => ⟨fun h2 => ?_,fun h2 => ?_⟩⟩ <;> simp at h
 ·exact ret_end0 (.inr rfl) (by simp only [resVs,resV,W]; rfl) ⟨by simp [Pm.one,cmpI,h],rfl⟩
 ·simp at h2
  exact ret_end0 (.inr rfl) (by simp only [resVs,resV,W]; rfl) ⟨by simp [Pm.one,cmpI,Int.not_lt.2 h,h2],rfl⟩
 ·simp at h2
  exact ret_end0 (.inr rfl) (by simp only [resVs,resV,W]; rfl) ⟨by simp [Pm.one,cmpI,Int.not_lt.2 h,Int.not_lt.2 h2],rfl⟩
theorem r36CompareStamps_pc (a b : Stamp) (σ : Store) : PC Tryz.prog 71 [.agg a.cells,.agg b.cells] σ (fun r σ' => r = .i .i64 (cmpStamp a b) ∧ σ' = σ) := by
 refine PC.intro Tryz.func71 c71 fun hcl hwf => wpc_sound ?_
 simp only [p71,List.length_cons,List.length_nil,List.replicate,List.cons_append,List.nil_append,Nat.reduceAdd,Nat.reduceSub]
 simp only [Stamp.cells,VV,pexec,xexec]
 refine call_eq (r36order_pc a.time b.time _) rfl ?_
 simp only [VV,pexec,binV,reduceIte]
 refine ⟨fun h => ?_,fun h => ?_⟩
 ·have h : cmpI a.time b.time ≠ 0 := by simpa using h
  exact ret_end hcl (.inr rfl) (by simp only [resVs,resV,W]; rfl) (by simp only [LW]) ⟨by simp [Pm.one,cmpStamp,orI,h],rfl⟩
 have h : cmpI a.time b.time = 0 := by simpa using h
 refine call_eq (r36order_pc a.office b.office _) rfl ?_
 simp only [VV,pexec,binV,reduceIte]
 refine ⟨fun h2 => ?_,fun h2 => ?_⟩
 ·have h2 : cmpI a.office b.office ≠ 0 := by simpa using h2
  exact ret_end hcl (.inr rfl) (by simp only [resVs,resV,W]; rfl) (by simp only [LW]) ⟨by simp [Pm.one,cmpStamp,orI,h,h2],rfl⟩
 have h2 : cmpI a.office b.office = 0 := by simpa using h2
 refine call_eq (r36order_pc a.number b.number _) rfl ?_
 simp only [VV,pexec]
 refine ret_end hcl (.inr rfl) (by simp only [resVs,resV,W]; rfl) (by simp only [LW]) ⟨?_,rfl⟩
 by_cases h3 : cmpI a.number b.number = 0
 ·simp [Pm.one,cmpStamp,orI,h,h2,h3]
 ·simp [Pm.one,cmpStamp,orI,h,h2,h3]
theorem r36At_pc (v : List Int) (o : Int) (σ : Store) : PC Tryz.prog 60 [.sl 1 (v.map iRow),.i .i64 o] σ (fun r σ' => r = .i .i64 (vAt v o) ∧ σ' = σ) := by
 refine PC.intro Tryz.func60 c60 fun hcl hwf => wpc_sound ?_
 simp only [p60,List.length_cons,List.length_nil,List.replicate,List.cons_append,List.nil_append,Nat.reduceAdd,Nat.reduceSub]
 simp only [List.length_map,VV,pexec,binV,reduceIte]
 have e : (decide (o < 0) || decide ((v.length : Int) ≤ o) || decide (8 ≤ o)) = decide (o < 0 ∨ (v.length : Int) ≤ o ∨ 8 ≤ o) := by
  rw [Bool.eq_iff_iff]; simp [or_assoc]
 rw [e]
 refine ⟨fun h => ?_,fun h => ?_⟩
 ·have h := of_decide_eq_true h
  exact ret_end0 (.inr rfl) (by simp only [resVs,resV,W]; rfl) ⟨by simp only [vAt,if_pos h]; rfl,rfl⟩
 ·have h := of_decide_eq_false h
  obtain ⟨n,rfl⟩ : ∃ n : Nat,o = n := ⟨o.toNat,by omega⟩
  have hn : n < v.length := by omega
  simp only [Int.toNat_natCast,at2_iRow hn,VV,pexec]
  refine ⟨by omega,?_⟩
  refine ret_end0 (.inr rfl) (by simp only [resVs,resV,W]; rfl) ⟨?_,rfl⟩
  simp only [vAt,if_neg h,Int.toNat_natCast]; rfl
theorem r36Asked_pc (e : En) (σ : Store) : PC Tryz.prog 62 [.agg e.cells] σ (fun r σ' => r = .agg (asked e).cells ∧ σ' = σ) := by
 refine PC.intro Tryz.func62 c62 fun hcl hwf => wpc_sound ?_
 simp only [p62,List.length_cons,List.length_nil,List.replicate,List.cons_append,List.nil_append,Nat.reduceAdd,Nat.reduceSub]
 simp only [En.cells,VV,pexec,xexec,Nat.reduceAdd,Nat.reduceLeDiff,reduceIte]
 exact ret_end hcl (.inr rfl) (by simp only [resVs,resV,W]; rfl) (by simp only [LW]) ⟨rfl,rfl⟩
theorem r1Class_pc (b : UInt8) (σ : Store) : PC Tryz.prog 188 [.i .u8 b.toNat] σ (fun r σ' => r = .i .i64 (classOf b) ∧ σ' = σ) := by
 refine PC.intro Tryz.func188 c188 fun hcl hwf => wpc_sound ?_
 simp only [p188,List.length_cons,List.length_nil,List.replicate,List.cons_append,List.nil_append,Nat.reduceAdd,Nat.reduceSub]
 simp only [W,pexec,binV,reduceIte]
 clear hwf hcl
 refine ⟨fun h1 => ?_,fun h1 => ⟨fun h2 => ?_,fun h2 => ⟨fun h3 => ?_,fun h3 => ⟨fun h4 => ?_,fun h4 => ?_⟩⟩⟩⟩ <;> refine ret_end0 (.inr rfl) rfl ⟨?_,rfl⟩ <;> simp at * <;> simp only [Pm.one,classOf,V.i.injEq,true_and] <;> (repeat' split) <;> omega
theorem r3IsTag_pc (x : It) (σ : Store) : PC Tryz.prog 159 [.agg x.cells] σ (fun r σ' => r = .b (isTag x) ∧ σ' = σ) := by
 refine PC.intro Tryz.func159 c159 fun hcl hwf => wpc_sound ?_
 simp only [p159,It.cells,List.length_cons,List.length_nil,List.replicate,List.cons_append,List.nil_append,Nat.reduceAdd,Nat.reduceSub]
 simp only [VV,pexec,xexec,binV,reduceIte]
 refine ret_end hcl (.inr rfl) rfl (by simp only [LW]) ⟨?_,rfl⟩
 simp only [Pm.one,isTag,List.getD_cons_zero,List.getD_cons_succ]
theorem loop142 {n : Nat} {σ : Store} {K : Exit → St → Prop} (s : List UInt8) (hlen : s.length < 2 ^ 63) : ∀ (rest pre : List UInt8),s = pre ++ rest → pre ≠ [] →
  (rest.all nameByte = true → (∀ j0 j1 j2 j3 j4 j5 j6 j7 j8 j9 j10 j11 j12 j13 j14 j15 j16 j17 j18 j19 j20 j21 j22 j23 j24 j25 j26 j27 j28 j29 j30 j31 j32 j33 j34 j35 j36 j37 j38 j39 j40 j41 j42 j43,K (.exit 0) ⟨[j0,j1,j2,j3,j4,j5,j6,j7,j8,j9,j10,j11,j12,j13,j14,j15,j16,j17,j18,j19,j20,j21,j22,j23,j24,j25,j26,j27,j28,j29,j30,j31,j32,j33,j34,j35,j36,j37,j38,j39,j40,j41,j42,j43],σ⟩)) → (rest.all nameByte = false → (∀ j0 j1 j3 j4 j5 j6 j7 j8 j9 j10 j11 j12 j13 j14 j15 j16 j17 j18 j19 j20 j21 j22 j23 j24 j25 j26 j27 j28 j29 j30 j31 j32 j33 j34 j35 j36 j37 j38 j39 j40 j41 j42 j43,K .ret ⟨[j0,j1,.b false,j3,j4,j5,j6,j7,j8,j9,j10,j11,j12,j13,j14,j15,j16,j17,j18,j19,j20,j21,j22,j23,j24,j25,j26,j27,j28,j29,j30,j31,j32,j33,j34,j35,j36,j37,j38,j39,j40,j41,j42,j43],σ⟩)) →
  Rnd n Tryz.prog p142_0 K (rest.length + 1) ⟨[.s s,.u,.u,.i .i64 pre.length,.u,.u,.u,.u,.u,.u,.u,.u,.u,.u,.u,.u,.u,.u,.u,.u,.u,.u,.u,.u,.u,.u,.u,.u,.u,.u,.u,.u,.u,.u,.u,.u,.u,.u,.u,.u,.u,.u,.u,.u],σ⟩ := by
 intro rest
 induction rest with
 | nil =>
  intro pre he hp h1 h2
  have he : s = pre := by simpa using he
  subst he
  refine rnd_step fun R hR => ?_
  simp only [p142_0,VV,pexec,binV,reduceIte]
  exact ⟨fun h => by simp at h,fun _ => h1 rfl ..⟩
 | cons c rest ih =>
  intro pre he hp h1 h2
  subst he
  have hpl : 0 < pre.length := List.length_pos_iff.2 hp
  have hd : decide ((0 : Int) < pre.length) = true := by simp; omega
  refine rnd_step fun R hR => ?_
  simp only [p142_0,hd,VV,pexec,binV,reduceIte]
  have hn : nameByte c = ((decide (97 ≤ (c.toNat : Int)) && decide ((c.toNat : Int) ≤ 122)) || ((decide (48 ≤ (c.toNat : Int)) && decide ((c.toNat : Int) ≤ 57)) || ((c.toNat : Int) == 45))) := by
   rw [Bool.eq_iff_iff]; simp [nameByte]; omega
  rw [← hn]
  refine ⟨fun _ => ⟨by simp; omega,fun h => ?_,fun h => ?_⟩,fun h => by simp at h <;> omega⟩
  ·have e : (c :: rest).all nameByte = rest.all nameByte := by simp [h]
   rw [e] at h1 h2
   refine hR _ (rnd_cvs ?_ (ih (pre ++ [c]) (by simp) (by simp) h1 h2))
   rw [wrap_succ (by simp at hlen; omega)]
   simp only [List.length_append,List.length_cons,List.length_nil]
   repeat first | exact .nil | refine .cons (.refl _) ?_ | refine .cons (.forget _) ?_
  ·exact h2 (by simp [h]) ..
theorem r1IsName_pc (s : List UInt8) (σ : Store) : PC Tryz.prog 142 [.s s] σ (fun r σ' => r = .b (isName s) ∧ σ' = σ) := by
 refine PC.intro Tryz.func142 c142 fun hcl hwf => wpc_sound ?_
 have hlen := wf_s (hwf 0 _ rfl).1
 simp only [p142,List.length_cons,List.length_nil,List.replicate,List.cons_append,List.nil_append,Nat.reduceAdd,Nat.reduceSub]
 simp only [VV,pexec,binV,reduceIte]
 cases s with
 | nil =>
  refine ⟨fun _ => ret_end0 (.inr rfl) rfl ⟨rfl,rfl⟩,fun h => by simp at h⟩
 | cons c r =>
  refine ⟨fun h => ?_,fun h => ?_⟩
  ·refine ret_end0 (.inr rfl) rfl ⟨?_,rfl⟩
   simp at h
   simp [Pm.one,isName]
   omega
  ·simp at h
   refine PWc.rnd (r.length + 2) (rnd_step fun R hR => ?_)
   simp only [p142_0,List.getD_cons_zero,VV,pexec,binV,Int.reduceToNat,reduceIte]
   have hlo : ((decide (97 ≤ (c.toNat : Int)) && decide ((c.toNat : Int) ≤ 122)) || (decide ((0 : Int) < 0) && ((decide (48 ≤ (c.toNat : Int)) && decide ((c.toNat : Int) ≤ 57)) || ((c.toNat : Int) == 45)))) = decide (97 ≤ c.toNat ∧ c.toNat ≤ 122) := by
    rw [Bool.eq_iff_iff]; simp; omega
   have hln : (c :: r).length ≤ 24 := by simp; omega
   rw [hlo]
   refine ⟨fun _ => ⟨by simp,fun h2 => ?_,fun h2 => ?_⟩,fun h => by simp at h <;> omega⟩
   ·have e : isName (c :: r) = r.all nameByte := by
     simp only [isName,h2,hln,decide_true,Bool.true_and]
    refine hR _ (rnd_cvs ?_ (loop142 (c :: r) hlen r [c] rfl (by simp) (fun h1 => ?_) (fun h1 => ?_)))
    ·rw [show IntKind.i64.wrap (0 + 1) = (([c].length : Nat) : Int) from IntWalk.i64_in _ (by decide)]
     repeat first | exact .nil | refine .cons (.refl _) ?_ | refine .cons (.forget _) ?_
    ·intros
     simp only [VV,pexec]
     exact ret_end0 (.inr rfl) rfl ⟨by simp only [Pm.one,e,h1,List.getD_cons_zero,List.getD_cons_succ],rfl⟩
    ·intros
     simp only [VV]
     exact ret_end0 (.inr rfl) rfl ⟨by simp only [Pm.one,e,h1,List.getD_cons_zero,List.getD_cons_succ],rfl⟩
   ·refine ret_end0 (.inr rfl) rfl ⟨?_,rfl⟩
    have e : isName (c :: r) = false := by simp only [isName,h2,Bool.and_false,Bool.false_and]
    rw [e]; rfl
theorem loop122 {n : Nat} {σ : Store} {K : Exit → St → Prop} (s : List UInt8) (hlen : s.length < 2 ^ 63) : ∀ (rest pre : List UInt8),s = pre ++ rest → 32 ∉ pre →
  (32 ∉ s → (∀ j1 j2 j3 j4 j5 j6 j7 j8 j9 j10 j11 j12 j13 j14 j15 j16 j17,K (.exit 0) ⟨[.s s,j1,j2,j3,j4,j5,j6,j7,j8,j9,j10,j11,j12,j13,j14,j15,j16,j17],σ⟩)) → (32 ∈ s → (∀ j0 j1 j3 j4 j5 j6 j7 j8 j9 j10 j11 j12 j13 j14 j15 j16 j17,K .ret ⟨[j0,j1,.s (s.take (Lib.indexByte s 32).toNat),j3,j4,j5,j6,j7,j8,j9,j10,j11,j12,j13,j14,j15,j16,j17],σ⟩)) →
  Rnd n Tryz.prog p122_0 K (rest.length + 1) ⟨[.s s,.u,.u,.i .i64 pre.length,.u,.u,.u,.u,.u,.u,.u,.u,.u,.u,.u,.u,.u,.u],σ⟩ := by
 intro rest
 induction rest with
 | nil =>
  intro pre he hp h1 h2
  have he : s = pre := by simpa using he
  subst he
  refine rnd_step fun R hR => ?_
  simp only [p122_0,VV,pexec,binV,Int.reduceToNat,reduceIte]
  exact ⟨fun h => by simp at h,fun _ => h1 hp ..⟩
 | cons c rest ih =>
  intro pre he hp h1 h2
  subst he
  refine rnd_step fun R hR => ?_
  simp only [p122_0,VV,pexec,binV,Int.reduceToNat,reduceIte]
  refine ⟨fun _ => ⟨by simp; omega,fun h => ⟨by simp; omega,?_⟩,fun h => ?_⟩,fun h => by simp at h <;> omega⟩
  ·have hc : c = 32 := by
    rw [show (32 : Int) = ((32 : UInt8).toNat : Int) from rfl,u8_beq] at h
    simpa using h
   subst hc
   have e : (Lib.indexByte (pre ++ 32 :: rest) 32).toNat = pre.length := by
    rw [indexByte_at hp]; simp
   have := h2 (by simp)
   rw [e] at this
   exact this ..
  ·have hc : ¬ c = 32 := by
    rw [show (32 : Int) = ((32 : UInt8).toNat : Int) from rfl,u8_beq] at h
    simpa using h
   refine hR _ (rnd_cvs ?_ (ih (pre ++ [c]) (by simp) (by simp [hp,Ne.symm hc]) h1 h2))
   rw [wrap_succ (by simp at hlen; omega)]
   simp only [List.length_append,List.length_cons,List.length_nil]
   repeat first | exact .nil | refine .cons (.refl _) ?_ | refine .cons (.forget _) ?_
theorem r3Name_pc (s : List UInt8) (σ : Store) : PC Tryz.prog 122 [.s s] σ (fun r σ' => r = .s (tagName s) ∧ σ' = σ) := by
 refine PC.intro Tryz.func122 c122 fun hcl hwf => wpc_sound ?_
 have hlen := wf_s (hwf 0 _ rfl).1
 simp only [p122,List.length_cons,List.length_nil,List.replicate,List.cons_append,List.nil_append,Nat.reduceAdd,Nat.reduceSub]
 simp only [VV,pexec]
 refine PWc.rnd_cvs ?_ (s.length + 1) (loop122 s hlen s [] rfl (by simp) (fun h => ?_) (fun h => ?_))
 ·repeat first | exact .nil | refine .cons (.refl _) ?_ | refine .cons (.forget _) ?_
 ·intros
  simp only [VV,pexec]
  refine ret_end0 (.inr rfl) rfl ⟨?_,rfl⟩
  have : Lib.indexByte s 32 = -1 := indexByte_none h
  simp [Pm.one,tagName,cutAt,this]
 ·intros
  refine ret_end0 (.inr rfl) rfl ⟨?_,rfl⟩
  have : 0 ≤ Lib.indexByte s 32 := indexByte_some h
  simp [Pm.one,tagName,cutAt,this]
theorem decDigits_ten {n : Nat} (h : ¬ n < 10) : Lib.decDigits n = Lib.decDigits (n / 10) ++ [UInt8.ofNat (48 + n % 10)] := by
 rw [Lib.decDigits,dif_neg h]
theorem dig_byte {n : Nat} : UInt8.ofNat ((IntKind.u8.wrap (IntKind.i64.wrap (48 + (n : Int).tmod 10))).toNat) = UInt8.ofNat (48 + n % 10) := by
 have h : (n : Int).tmod 10 = ((n % 10 : Nat) : Int) := by rw [Int.tmod_eq_emod_of_nonneg (by omega)]; rfl
 rw [h,IntWalk.i64_in _ (by omega)]
 have h2 : IntKind.u8.wrap (48 + ((n % 10 : Nat) : Int)) = ((48 + n % 10 : Nat) : Int) := by
  rw [IntWalk.u8_in _ (by omega)]; omega
 rw [h2]; rfl
theorem dec_quo {n : Nat} (h : n < 2 ^ 62) : IntKind.i64.wrap ((n : Int).tdiv 10) = ((n / 10 : Nat) : Int) := by
 have e : (n : Int).tdiv 10 = ((n / 10 : Nat) : Int) := by rw [Int.tdiv_eq_ediv_of_nonneg (by omega)]; rfl
 rw [e,IntWalk.i64_in _ (by omega)]
theorem loop189 {σ : Store} {K : Exit → St → Prop} : ∀ (k n : Nat) (s : List UInt8),n < 10 ^ (k + 1) → n < 2 ^ 62 → s.length + k < 2 ^ 40 →
  ((∀ j0 j1 j3 j4 j5 j6 j7 j8 j9 j10 j11 j12 j13 j14 j15 j16,K .ret ⟨[j0,j1,.s (Lib.decDigits n ++ s),j3,j4,j5,j6,j7,j8,j9,j10,j11,j12,j13,j14,j15,j16],σ⟩)) →
  Rnd σ.length Tryz.prog p189_0 K (k + 1) ⟨[.i .i64 n,.u,.u,.s s,.u,.u,.u,.u,.u,.u,.u,.u,.u,.u,.u,.u,.u],σ⟩ := by
 have last : ∀ (k n : Nat) (s : List UInt8),n < 10 → n < 2 ^ 62 → s.length + k < 2 ^ 40 → ((∀ j0 j1 j3 j4 j5 j6 j7 j8 j9 j10 j11 j12 j13 j14 j15 j16,K .ret ⟨[j0,j1,.s (Lib.decDigits n ++ s),j3,j4,j5,j6,j7,j8,j9,j10,j11,j12,j13,j14,j15,j16],σ⟩)) →
   Rnd σ.length Tryz.prog p189_0 K (k + 1) ⟨[.i .i64 n,.u,.u,.s s,.u,.u,.u,.u,.u,.u,.u,.u,.u,.u,.u,.u,.u],σ⟩ := by
  intro k n s h10 hb hs h1
  refine rnd_step fun R hR => ?_
  simp only [p189_0,dec_quo hb,dig_byte,VV,pexec,binV,reduceIte]
  rw [Lib.decDigits_one h10] at h1
  have e : n % 10 = n := by omega
  have e2 : n / 10 = 0 := by omega
  rw [e,e2]
  exact ⟨by decide,by simp [maxLen]; omega,by decide,fun h => h1 ..,fun h => by simp at h⟩
 intro k
 induction k with
 | zero => intro n s hn hb hs h1; exact last 0 n s (by omega) hb hs h1
 | succ k ih =>
  intro n s hn hb hs h1
  by_cases h10 : n < 10
  ·exact last (k + 1) n s h10 hb hs h1
  ·rw [decDigits_ten h10,List.append_assoc] at h1
   have hk : n / 10 < 10 ^ (k + 1) := by rw [Nat.pow_succ] at hn; omega
   refine rnd_step fun R hR => ?_
   simp only [p189_0,dec_quo hb,dig_byte,VV,pexec,binV,reduceIte]
   refine ⟨by decide,by simp [maxLen]; omega,by decide,fun h => by simp at h; omega,fun h => ?_⟩
   refine hR _ (rnd_cvs ?_ (ih (n / 10) (UInt8.ofNat (48 + n % 10) :: s) hk (by omega) (by simp; omega) h1))
   repeat first | exact .nil | refine .cons (.refl _) ?_ | refine .cons (.forget _) ?_
theorem r1decimal_pc (n : Nat) (hn : n < 2 ^ 62) (σ : Store) : PC Tryz.prog 189 [.i .i64 n] σ (fun r σ' => r = .s (Lib.decDigits n) ∧ σ' = σ) := by
 refine PC.intro Tryz.func189 c189 fun hcl hwf => wpc_sound ?_
 simp only [p189,List.length_cons,List.length_nil,List.replicate,List.cons_append,List.nil_append,Nat.reduceAdd,Nat.reduceSub]
 simp only [VV,pexec]
 refine PWc.rnd_cvs ?_ 19 (loop189 18 n [] (by omega) hn (by simp) ?_)
 ·repeat first | exact .nil | refine .cons (.refl _) ?_ | refine .cons (.forget _) ?_
 ·intros
  simp only [VV]
  exact ret_end0 (.inr rfl) (by simp only [resVs,resV,W]; rfl) ⟨by simp [Pm.one],rfl⟩
theorem r1Decimal_pc (n : Nat) (hn : n < 2 ^ 62) (σ : Store) : PC Tryz.prog 173 [.i .i64 n] σ (fun r σ' => r = .s (Lib.itoa n) ∧ σ' = σ) := by
 refine PC.intro Tryz.func173 c173 fun hcl hwf => wpc_sound ?_
 have h0 : decide ((n : Int) < 0) = false := by simp
 have hm : (if (n : Int) < 0 then (0 : Int) else n) = n := if_neg (by omega)
 simp only [p173,List.length_cons,List.length_nil,List.replicate,List.cons_append,List.nil_append,Nat.reduceAdd,Nat.reduceSub]
 simp only [h0,hm,VV,pexec,binV,reduceIte,reduceCtorEq]
 refine call_eq (r1decimal_pc n hn _) rfl ?_
 simp only [VV,pexec]
 refine ret_end0 (.inr rfl) (by simp only [resVs,resV,W]; rfl) ⟨?_,rfl⟩
 have e : Lib.itoa (n : Int) = Lib.decDigits n := by unfold Lib.itoa; rw [if_neg (by omega)]; rfl
 rw [e]; rfl
theorem writ_cases : ∀ c : UInt8,((((c.toNat : Int) == 92 || (c.toNat : Int) == 60) || (c.toNat : Int) == 123) = true → writB c = [92,c]) ∧
  ((((c.toNat : Int) == 92 || (c.toNat : Int) == 60) || (c.toNat : Int) == 123) = false → (((c.toNat : Int) == 10) = true → writB c = [92,110]) ∧
  (((c.toNat : Int) == 10) = false → (((c.toNat : Int) == 9) = true → writB c = [92,116]) ∧
  (((c.toNat : Int) == 9) = false → (((c.toNat : Int) == 13 || classOf c == 1) = true → writB c = [92,120,hexDig (c.toNat / 16),hexDig (c.toNat % 16)]) ∧
  (((c.toNat : Int) == 13 || classOf c == 1) = false → writB c = [c])))) := u8_all (by decide +kernel)
theorem hex_at : ∀ c : UInt8,(0 ≤ IntKind.u8.wrap ((c.toNat : Int).tdiv 16) ∧ IntKind.u8.wrap ((c.toNat : Int).tdiv 16) < ((16 : Nat) : Int)) ∧ (0 ≤ (c.toNat : Int).tmod 16 ∧ (c.toNat : Int).tmod 16 < ((16 : Nat) : Int)) ∧
  ([48,49,50,51,52,53,54,55,56,57,97,98,99,100,101,102] : List UInt8).getD (IntKind.u8.wrap ((c.toNat : Int).tdiv 16)).toNat 0 = hexDig (c.toNat / 16) ∧
  ([48,49,50,51,52,53,54,55,56,57,97,98,99,100,101,102] : List UInt8).getD ((c.toNat : Int).tmod 16).toNat 0 = hexDig (c.toNat % 16) := u8_all (by decide +kernel)
theorem r3Written_pc (c : UInt8) (σ : Store) : PC Tryz.prog 172 [.i .u8 c.toNat] σ (fun r σ' => r = .s (writB c) ∧ σ' = σ) := by
 refine PC.intro Tryz.func172 c172 fun hcl hwf => wpc_sound ?_
 obtain ⟨w1,w2⟩ := writ_cases c
 simp only [p172,List.length_cons,List.length_nil,List.replicate,List.cons_append,List.nil_append,Nat.reduceAdd,Nat.reduceSub]
 simp only [VV,pexec,binV,Nat.reduceAdd,reduceIte]
 refine ⟨fun h1 => ⟨by decide,?_⟩,fun h1 => ⟨fun h2 => ?_,fun h2 => ⟨fun h3 => ?_,fun h3 => ?_⟩⟩⟩
 ·exact ret_end0 (.inr rfl) (by simp only [resVs,resV,W]; rfl) ⟨by rw [w1 h1]; rfl,rfl⟩
 ·exact ret_end0 (.inr rfl) (by simp only [resVs,resV,W]; rfl) ⟨by rw [(w2 h1).1 h2]; rfl,rfl⟩
 ·exact ret_end0 (.inr rfl) (by simp only [resVs,resV,W]; rfl) ⟨by rw [((w2 h1).2 h2).1 h3]; rfl,rfl⟩
 ·have w5 := ((w2 h1).2 h2).2 h3
  refine callg_eq (by simp only [VV] <;> rfl) (fun _ => r1Class_pc c _) rfl ?_
  simp only [VV,pexec,binV,Nat.reduceAdd,reduceIte]
  obtain ⟨x1,x2,x3,x4⟩ := hex_at c
  refine ⟨fun h4 => ⟨by decide,x1,by decide,x2,by decide,?_⟩,fun h4 => ?_⟩
  ·refine ret_end0 (.inr rfl) (by simp only [resVs,resV,W]; rfl) ⟨?_,rfl⟩
   rw [w5.1 h4,← x3,← x4]; rfl
  ·exact ret_end0 (.inr rfl) (by simp only [resVs,resV,W]; rfl) ⟨by rw [w5.2 h4]; rfl,rfl⟩
def numB (n : Int) : Nat → List UInt8
 | 0 => []
 | m + 1 => lowB (n / 2 ^ (8 * m)) :: numB n m
theorem numB_4 (n : Int) : numB n 4 = be4 n := by
 have e : n / 65536 / 256 = n / 16777216 := by omega
 simp [numB,be4,be2,e]
theorem numB_2 (n : Int) : numB n 2 = be2 n := by simp [numB,be2]
theorem low_wrap (n : Int) : IntKind.u8.wrap n = ((lowB n).toNat : Int) := by
 have h1 : IntKind.u8.wrap n = n % 256 := by
  simp [IntKind.wrap,IntKind.bits,IntKind.signed]
 rw [h1]
 have h2 : 0 ≤ n % 256 := Int.emod_nonneg _ (by decide)
 have h3 : n % 256 < 256 := Int.emod_lt_of_pos _ (by decide)
 simp only [lowB,UInt8.toNat_ofNat']
 omega
theorem tiR_u8 : Ti Tryz.prog 5 1 1 := tiB_ok (by kernel_rfl)
theorem loop81 {σ : Store} {K : Exit → St → Prop} (n : Int) : ∀ (m : Nat) (out : List UInt8) (g : Nat),m ≤ 8 → out.length + m ≤ 8 →
  (∀ g,(∀ j0 j1 j2 j3 j4 j6 j7 j8 j9 j10 j11 j12 j13 j14 j15 j16 j17 j18 j19 j20 j21,K (.exit 0) ⟨[j0,j1,j2,j3,j4,.own σ.length g,j6,j7,j8,j9,j10,j11,j12,j13,j14,j15,j16,j17,j18,j19,j20,j21],σ ++ [.row 5 1 1 g false (bytesV (out ++ numB n m))]⟩)) →
  Rnd σ.length Tryz.prog p81_0 K (m + 1) ⟨[.i .i64 n,.u,.u,.u,.u,.own σ.length g,.i .i64 ((m : Int) - 1),.u,.u,.u,.u,.u,.u,.u,.u,.u,.u,.u,.u,.u,.u,.u],σ ++ [.row 5 1 1 g false (bytesV out)]⟩ := by
 intro m
 induction m with
 | zero =>
  intro out g hm ho h1
  simp only [numB,List.append_nil] at h1
  refine rnd_step fun R hR => ?_
  have e1 : decide ((0 : Int) ≤ ((0 : Nat) : Int) - 1) = false := rfl
  simp only [p81_0,e1,VV,pexec,xexec,binV,reduceIte,reduceCtorEq]
  exact h1 g ..
 | succ m ih =>
  intro out g hm ho h1
  have e0 : ((m + 1 : Nat) : Int) - 1 = (m : Int) := by omega
  have hw : IntKind.i64.wrap ((m : Int) - 1) = (m : Int) - 1 := IntWalk.i64_in _ (by omega)
  have h8 : IntKind.i64.wrap (8 * (m : Int)) = ((8 * m : Nat) : Int) := by rw [IntWalk.i64_in _ (by omega)]; omega
  rw [e0]
  refine rnd_step fun R hR => ?_
  have hmin : min (8 * m) IntKind.i64.bits = 8 * m := Nat.min_eq_left (show 8 * m ≤ 64 by omega)
  have hf : n.fdiv (2 ^ (8 * m)) = n / 2 ^ (8 * m) := Int.fdiv_eq_ediv_of_nonneg _ (Int.pow_nonneg (by decide))
  simp only [p81_0,hw,h8,hmin,hf,low_wrap,Int.toNat_natCast,VV,pexec,xexec,binV,reduceIte]
  have hrow : bytesV out ++ [[V.i .u8 ((lowB (n / 2 ^ (8 * m))).toNat : Int)]] = bytesV (out ++ [lowB (n / 2 ^ (8 * m))]) := by simp [bytesV]
  have hl : (bytesV out).length = out.length := by simp [bytesV]
  rw [hrow,hl]
  refine ⟨fun _ => ⟨by omega,by simp only [maxLen]; omega,?_⟩,fun h => by simp at h <;> omega⟩
  refine hR _ (rnd_cvs ?_ (ih (out ++ [lowB (n / 2 ^ (8 * m))]) (g + 1) (by omega) (by simp; omega) ?_))
  ·repeat first | exact .nil | refine .cons (.refl _) ?_ | refine .cons (.forget _) ?_
  ·simpa only [numB,List.append_assoc,List.cons_append,List.nil_append] using h1
theorem r36number_own (n : Int) (m : Nat) (hm : m ≤ 8) (σ : Store) : PC Tryz.prog 81 [.i .i64 n,.i .i64 m] σ (fun r σ' => r = .own σ.length 0 ∧ σ' = σ ++ [.row 5 1 1 0 false (bytesV (numB n m))]) := by
 refine PC.intro Tryz.func81 c81 fun hcl hwf => wpc_sound ?_
 have hw : IntKind.i64.wrap ((m : Int) - 1) = (m : Int) - 1 := IntWalk.i64_in _ (by omega)
 simp only [p81,List.length_cons,List.length_nil,List.replicate,List.cons_append,List.nil_append,Nat.reduceAdd,Nat.reduceSub]
 simp only [hw,VV,pexec,binV,reduceIte]
 refine PWc.wk ((Wk.promote (k := 5) tiR_u8 rfl).trans (Wk.cvs ?_)) (PWc.rnd (m + 1) (loop81 n m [] 0 hm (by simpa using hm) ?_))
 ·simp only [VV]
  repeat first | exact .nil | refine .cons (.refl _) ?_ | refine .cons (.forget _) ?_
 ·intro g
  intros
  simp only [List.nil_append,VV,pexec]
  exact ret_own 0 hcl (.inr rfl) rfl rfl rfl (by simp [mvOK,Ob.gen]) (by simp [Pm.one,mv1,Ob.fresh])
theorem r36number_pc (n : Int) (m : Nat) (hm : m ≤ 8) (σ : Store) : PC Tryz.prog 81 [.i .i64 n,.i .i64 m] σ (fun r σ' => r = .sl 1 (bytesV (numB n m)) ∧ σ' = σ) :=
 PC.closed fun hcl => PC.fz hcl (r36number_own n m hm σ)
theorem r36text_pc (s : List UInt8) (hs : s.length < 2 ^ 40) (σ : Store) : PC Tryz.prog 83 [.s s] σ (fun r σ' => r = .sl 1 (bytesV (encText s)) ∧ σ' = σ) := by
 refine PC.intro Tryz.func83 c83 fun hcl hwf => wpc_sound ?_
 simp only [p83,List.length_cons,List.length_nil,List.replicate,List.cons_append,List.nil_append,Nat.reduceAdd,Nat.reduceSub]
 simp only [VV,pexec]
 refine call_eq (r36number_own (s.length : Int) 4 (by decide) _) rfl ?_
 simp only [VV,pexec,xexec,reduceIte]
 have e : bytesV (numB (s.length : Int) 4) ++ bytesV s = bytesV (encText s) := by rw [numB_4]; simp [bytesV,encText]
 have l4 : (bytesV (numB (s.length : Int) 4)).length = 4 := by rw [numB_4]; simp [bytesV,be4_length]
 have ls : (bytesV s).length = s.length := by simp [bytesV]
 rw [e,l4,ls]
 refine ⟨⟨by omega,by simp only [maxLen]; omega⟩,?_⟩
 refine ret_fz 0 hcl (.inr rfl) (by simp only [resVs,resV,W]; rfl) rfl ?_ ⟨?_,rfl⟩
 ·simp [fz,fz1,AllLt,lt_sl]
 ·simp [fz,fz1,Pm.one]
theorem loop160 {n : Nat} {σ : Store} {K : Exit → St → Prop} (l : List Int) (x : Int) (hlen : l.length < 2 ^ 63) : ∀ (rest pre : List Int),l = pre ++ rest →
  (rest.contains x = false → (∀ j0 j1 j2 j3 j4 j5 j6 j7 j8 j9 j10 j11 j12 j13 j14 j15 j16 j17,K (.exit 0) ⟨[j0,j1,j2,j3,j4,j5,j6,j7,j8,j9,j10,j11,j12,j13,j14,j15,j16,j17],σ⟩)) → (rest.contains x = true → (∀ j0 j1 j2 j3 j5 j6 j7 j8 j9 j10 j11 j12 j13 j14 j15 j16 j17,K .ret ⟨[j0,j1,j2,j3,.b true,j5,j6,j7,j8,j9,j10,j11,j12,j13,j14,j15,j16,j17],σ⟩)) →
  Rnd n Tryz.prog p160_0 K (rest.length + 1) ⟨[.sl 1 (l.map iRow),.i .i64 x,.u,.u,.u,.u,.u,.i .i64 l.length,.i .i64 pre.length,.u,.u,.u,.u,.u,.u,.u,.u,.u],σ⟩ := by
 intro rest
 induction rest with
 | nil =>
  intro pre he h1 h2
  have he : l = pre := by simpa using he
  subst he
  refine rnd_step fun R hR => ?_
  simp only [p160_0,VV,pexec,binV,reduceIte]
  exact ⟨fun h => by simp at h,fun _ => h1 rfl ..⟩
 | cons c rest ih =>
  intro pre he h1 h2
  subst he
  refine rnd_step fun R hR => ?_
  simp only [p160_0,iRow,VV,pexec,binV,reduceIte]
  refine ⟨fun _ => ⟨by simp; omega,fun h => ?_,fun h => ?_⟩,fun h => by simp at h <;> omega⟩
  ·have h : c = x := by simpa using h
   exact h2 (by simp [h]) ..
  ·have h : ¬ c = x := by simpa using h
   have e : (c :: rest).contains x = rest.contains x := by
    have : (x == c) = false := by simpa using fun e => h e.symm
    simp only [List.contains_cons,this,Bool.false_or]
   rw [e] at h1 h2
   refine hR _ (rnd_cvs ?_ (ih (pre ++ [c]) (by simp) h1 h2))
   rw [wrap_succ (by simp at hlen; omega)]
   simp only [List.length_append,List.length_cons,List.length_nil]
   repeat first | exact .nil | refine .cons (.refl _) ?_ | refine .cons (.forget _) ?_
theorem r3Has_pc (l : List Int) (x : Int) (σ : Store) : PC Tryz.prog 160 [.sl 1 (l.map iRow),.i .i64 x] σ (fun r σ' => r = .b (l.contains x) ∧ σ' = σ) := by
 refine PC.intro Tryz.func160 c160 fun hcl hwf => wpc_sound ?_
 have hlen := wf_sl (hwf 0 _ rfl).1
 rw [List.length_map] at hlen
 simp only [p160,List.length_cons,List.length_nil,List.replicate,List.cons_append,List.nil_append,Nat.reduceAdd,Nat.reduceSub]
 simp only [List.length_map,VV,pexec]
 refine PWc.rnd_cvs ?_ (l.length + 1) (loop160 l x hlen l [] rfl (fun h => ?_) (fun h => ?_))
 ·repeat first | exact .nil | refine .cons (.refl _) ?_ | refine .cons (.forget _) ?_
 ·intros
  simp only [VV,pexec]
  exact ret_end0 (.inr rfl) rfl ⟨by rw [h]; rfl,rfl⟩
 ·intros
  exact ret_end0 (.inr rfl) rfl ⟨by rw [h]; rfl,rfl⟩
theorem loop139 {n : Nat} {σ : Store} {K : Exit → St → Prop} (its : List It) (hlen : its.length < 2 ^ 63) : ∀ (rest pre : List It) (acc : Int),its = pre ++ rest →
  (∀ j0 j1 j2 j4 j5 j6 j7 j8 j9 j10 j11 j12 j13 j14 j15 j16 j17 j18 j19 j20 j21 j22 j23 j24 j25 j26 j27,K (.exit 0) ⟨[j0,j1,j2,.i .i64 (lengthFrom acc rest),j4,j5,j6,j7,j8,j9,j10,j11,j12,j13,j14,j15,j16,j17,j18,j19,j20,j21,j22,j23,j24,j25,j26,j27],σ⟩) →
  Rnd n Tryz.prog p139_0 K (rest.length + 1) ⟨[.sl 3 (its.map It.cells),.u,.u,.i .i64 acc,.u,.u,.i .i64 its.length,.i .i64 pre.length,.u,.u,.u,.u,.u,.u,.u,.u,.u,.u,.u,.u,.u,.u,.u,.u,.u,.u,.u,.u],σ⟩ := by
 intro rest
 induction rest with
 | nil =>
  intro pre acc he h1
  have he : its = pre := by simpa using he
  subst he
  refine rnd_step fun R hR => ?_
  simp only [p139_0,VV,pexec,binV,reduceIte]
  exact ⟨fun h => by simp at h,fun _ => h1 ..⟩
 | cons x rest ih =>
  intro pre acc he h1
  subst he
  have hw : IntKind.i64.wrap ((pre.length : Int) + 1) = (((pre ++ [x]).length : Nat) : Int) := by
   rw [wrap_succ (by simp at hlen; omega)]; simp
  refine rnd_step fun R hR => ?_
  simp only [p139_0,It.cells,VV,pexec,binV,reduceIte]
  have e : lengthFrom acc (x :: rest) = lengthFrom (IntKind.i64.wrap (acc + width x)) rest := rfl
  rw [e] at h1
  refine ⟨fun _ => ⟨by simp; omega,fun h => ⟨by simp; omega,?_⟩,fun h => ?_⟩,fun h => by simp at h <;> omega⟩
  ·have h : x.kind = 1 := by simpa using h
   have ew : width x = x.text.length := by simp [width,h]
   rw [ew] at h1
   refine hR _ (rnd_cvs ?_ (ih (pre ++ [x]) _ (by simp) h1))
   rw [hw]; repeat first | exact .nil | refine .cons (.refl _) ?_ | refine .cons (.forget _) ?_
  ·have h : ¬ x.kind = 1 := by simpa using h
   have ew : width x = 1 := by simp [width,h]
   rw [ew] at h1
   refine hR _ (rnd_cvs ?_ (ih (pre ++ [x]) _ (by simp) h1))
   rw [hw]; repeat first | exact .nil | refine .cons (.refl _) ?_ | refine .cons (.forget _) ?_
theorem r3Length_pc (its : List It) (σ : Store) : PC Tryz.prog 139 [.sl 3 (its.map It.cells)] σ (fun r σ' => r = .i .i64 (lengthFrom 0 its) ∧ σ' = σ) := by
 refine PC.intro Tryz.func139 c139 fun hcl hwf => wpc_sound ?_
 have hlen := wf_sl (hwf 0 _ rfl).1
 rw [List.length_map] at hlen
 simp only [p139,List.length_cons,List.length_nil,List.replicate,List.cons_append,List.nil_append,Nat.reduceAdd,Nat.reduceSub]
 simp only [List.length_map,VV,pexec]
 refine PWc.rnd_cvs ?_ (its.length + 1) (loop139 its hlen its [] 0 rfl ?_)
 ·repeat first | exact .nil | refine .cons (.refl _) ?_ | refine .cons (.forget _) ?_
 ·intros
  simp only [VV,pexec]
  exact ret_end0 (.inr rfl) rfl ⟨rfl,rfl⟩
theorem loop76 {n : Nat} {σ : Store} {K : Exit → St → Prop} (a b : List It) (hlen : a.length < 2 ^ 63) (hab : a.length = b.length) : ∀ (ra rb pa pb : List It),a = pa ++ ra → b = pb ++ rb → pa.length = pb.length →
  (itsEq ra rb = true → (∀ j0 j1 j2 j3 j4 j5 j6 j7 j8 j9 j10 j11 j12 j13 j14 j15 j16 j17 j18 j19 j20 j21 j22 j23 j24 j25,K (.exit 0) ⟨[j0,j1,j2,j3,j4,j5,j6,j7,j8,j9,j10,j11,j12,j13,j14,j15,j16,j17,j18,j19,j20,j21,j22,j23,j24,j25],σ⟩)) → (itsEq ra rb = false → (∀ j0 j1 j2 j3 j5 j6 j7 j8 j9 j10 j11 j12 j13 j14 j15 j16 j17 j18 j19 j20 j21 j22 j23 j24 j25,K .ret ⟨[j0,j1,j2,j3,.b false,j5,j6,j7,j8,j9,j10,j11,j12,j13,j14,j15,j16,j17,j18,j19,j20,j21,j22,j23,j24,j25],σ⟩)) →
  Rnd n Tryz.prog p76_0 K (ra.length + 1) ⟨[.sl 3 (a.map It.cells),.sl 3 (b.map It.cells),.u,.u,.u,.u,.u,.u,.u,.u,.u,.u,.i .i64 a.length,.i .i64 pa.length,.u,.u,.u,.u,.u,.u,.u,.u,.u,.u,.u,.u],σ⟩ := by
 intro ra
 induction ra with
 | nil =>
  intro rb pa pb ha hb hp h1 h2
  have : rb = [] := by
   subst ha; subst hb
   simp at hab
   exact List.eq_nil_of_length_eq_zero (by omega)
  subst this
  have ha : a = pa := by simpa using ha
  subst ha
  refine rnd_step fun R hR => ?_
  simp only [p76_0,VV,pexec,binV,reduceIte]
  exact ⟨fun h => by simp at h,fun _ => h1 rfl ..⟩
 | cons x ra ih =>
  intro rb pa pb ha hb hp h1 h2
  cases rb with
  | nil => subst ha; subst hb; simp at hab; omega
  | cons y rb =>
   subst ha; subst hb
   have e2 : (List.map It.cells (pb ++ y :: rb)).getD pa.length [] = y.cells := by rw [hp]; exact row_at
   have hw : IntKind.i64.wrap ((pa.length : Int) + 1) = (((pa ++ [x]).length : Nat) : Int) := by
    rw [wrap_succ (by simp at hlen; omega)]; simp
   refine rnd_step fun R hR => ?_
   simp only [p76_0,Int.toNat_natCast,e2,It.cells,cellsEq,scalEq,VV,pexec,binV,Nat.reduceAdd,reduceIte]
   have hla : (0 : Int) ≤ pa.length ∧ (pa.length : Int) < (List.map It.cells (pa ++ x :: ra)).length := by simp; omega
   have hlb : (0 : Int) ≤ pa.length ∧ (pa.length : Int) < (List.map It.cells (pb ++ y :: rb)).length := by simp at hab ⊢; omega
   have hq : itEq x y = (x.kind == y.kind && (x.text == y.text && x.id == y.id)) := rfl
   rw [← hq]
   refine ⟨fun _ => ⟨hla,hlb,fun h => ?_,fun h => ?_⟩,fun h => by simp at h <;> omega⟩
   ·have h : itEq x y = false := by rw [Bool.not_eq_true'] at h; exact h
    exact h2 (by simp [itsEq,h]) ..
   ·have h : itEq x y = true := by rw [Bool.not_eq_false'] at h; exact h
    have e : itsEq (x :: ra) (y :: rb) = itsEq ra rb := by simp [itsEq,h]
    rw [e] at h1 h2
    refine hR _ (rnd_cvs ?_ (ih rb (pa ++ [x]) (pb ++ [y]) (by simp) (by simp) (by simp [hp]) h1 h2))
    rw [hw]; repeat first | exact .nil | refine .cons (.refl _) ?_ | refine .cons (.forget _) ?_
theorem r3Same_pc (a b : List It) (σ : Store) : PC Tryz.prog 76 [.sl 3 (a.map It.cells),.sl 3 (b.map It.cells)] σ (fun r σ' => r = .b (itsEq a b) ∧ σ' = σ) := by
 refine PC.intro Tryz.func76 c76 fun hcl hwf => wpc_sound ?_
 have hlen := wf_sl (hwf 0 _ rfl).1
 rw [List.length_map] at hlen
 simp only [p76,List.length_cons,List.length_nil,List.replicate,List.cons_append,List.nil_append,Nat.reduceAdd,Nat.reduceSub]
 simp only [List.length_map,VV,pexec,binV,reduceIte]
 refine ⟨fun h => ?_,fun h => ?_⟩
 ·refine ret_end0 (.inr rfl) rfl ⟨?_,rfl⟩
  have : itsEq a b = false := by
   cases h2 : itsEq a b with
   | false => rfl
   | true => have := itsEq_len h2; simp at h; omega
  simp [Pm.one,this]
 ·have hab : a.length = b.length := by simp at h; omega
  refine PWc.rnd_cvs ?_ (a.length + 1) (loop76 a b hlen hab a b [] [] rfl rfl rfl (fun h => ?_) (fun h => ?_))
  ·repeat first | exact .nil | refine .cons (.refl _) ?_ | refine .cons (.forget _) ?_
  ·intros
   simp only [VV,pexec]
   exact ret_end0 (.inr rfl) rfl ⟨by simp [Pm.one,h],rfl⟩
  ·intros
   exact ret_end0 (.inr rfl) rfl ⟨by simp [Pm.one,h],rfl⟩
theorem loop125 {σ : Store} {K : Exit → St → Prop} (N : Nat) (hN : N < 2 ^ 40) : ∀ (k i : Nat),i + k = N →
  (∀ j0 j1 j2 j4 j5 j6 j7 j8 j9 j10 j11 j12 j13 j14,K (.exit 0) ⟨[j0,j1,j2,.own σ.length N,j4,j5,j6,j7,j8,j9,j10,j11,j12,j13,j14],σ ++ [.row 3 1 8 N false ((counting N).map iRow)]⟩) →
  Rnd σ.length Tryz.prog p125_0 K (k + 1) ⟨[.i .i64 N,.u,.u,.own σ.length i,.i .i64 ((i + 1 : Nat) : Int),.u,.u,.u,.u,.u,.u,.u,.u,.u,.u],σ ++ [.row 3 1 8 i false ((counting i).map iRow)]⟩ := by
 intro k
 induction k with
 | zero =>
  intro i he h1
  have he : i = N := by omega
  subst he
  refine rnd_step fun R hR => ?_
  simp only [p125_0,VV,pexec,xexec,binV,reduceIte]
  exact ⟨fun h => by simp at h <;> omega,fun _ => h1 ..⟩
 | succ k ih =>
  intro i he h1
  refine rnd_step fun R hR => ?_
  have hc : (counting i).map iRow ++ [[.i .i64 ((i + 1 : Nat) : Int)]] = (counting (i + 1)).map iRow := by simp [counting,List.range_succ,iRow]
  have hcl : (counting i).length = i := by simp [counting]
  simp only [p125_0,hc,List.length_map,hcl,VV,pexec,xexec,binV,reduceIte]
  refine ⟨fun _ => ⟨⟨by omega,by simp only [maxLen]; omega⟩,?_⟩,fun h => by simp at h <;> omega⟩
  refine hR _ (rnd_cvs ?_ (ih (i + 1) (by omega) h1))
  rw [wrap_succ (by omega)]
  repeat first | exact .nil | refine .cons (.refl _) ?_ | refine .cons (.forget _) ?_
theorem r3UpTo_pc (n : Nat) (hn : n < 2 ^ 40) (σ : Store) : PC Tryz.prog 125 [.i .i64 n] σ (fun r σ' => r = .sl 1 ((counting n).map iRow) ∧ σ' = σ) := by
 refine PC.intro Tryz.func125 c125 fun hcl hwf => wpc_sound ?_
 simp only [p125,List.length_cons,List.length_nil,List.replicate,List.cons_append,List.nil_append,Nat.reduceAdd,Nat.reduceSub]
 simp only [VV,pexec]
 refine PWc.wk ((Wk.promote (k := 3) tI rfl).trans (Wk.cvs ?_)) (PWc.rnd (n + 1) (loop125 n hn n 0 (by omega) ?_))
 ·simp only [VV]
  repeat first | exact .nil | refine .cons (.refl _) ?_ | refine .cons (.forget _) ?_
 ·intros
  simp only [VV,pexec]
  refine ret_fz 0 hcl (.inr rfl) rfl rfl ?_ ?_
  ·simp [fz,fz1,AllLt,lt_sl]
  ·simp [fz,fz1,Pm.one]
theorem loop170 {n : Nat} {σ : Store} {K : Exit → St → Prop} (s : List UInt8) (hlen : s.length < 2 ^ 63) : ∀ (rest pre : List UInt8),s = pre ++ rest →
  (rest.all (fun b => !contentBad b) = true → (∀ j1 j2 j3 j4 j5 j6 j7 j8 j9 j10 j11 j12 j13 j14 j15 j16 j17 j18 j19 j20 j21 j22 j23 j24 j25 j26 j27 j28 j29 j30 j31 j32 j33 j34 j35 j36 j37 j38 j39 j40 j41 j42 j43 j44 j45 j46 j47 j48 j49 j50 j51 j52 j53 j54 j55 j56 j57 j58 j59 j60 j61 j62 j63 j64 j65 j66,K (.exit 0) ⟨[.s s,j1,j2,j3,j4,j5,j6,j7,j8,j9,j10,j11,j12,j13,j14,j15,j16,j17,j18,j19,j20,j21,j22,j23,j24,j25,j26,j27,j28,j29,j30,j31,j32,j33,j34,j35,j36,j37,j38,j39,j40,j41,j42,j43,j44,j45,j46,j47,j48,j49,j50,j51,j52,j53,j54,j55,j56,j57,j58,j59,j60,j61,j62,j63,j64,j65,j66],σ⟩)) → (rest.all (fun b => !contentBad b) = false → (∀ j0 j1 j3 j4 j5 j6 j7 j8 j9 j10 j11 j12 j13 j14 j15 j16 j17 j18 j19 j20 j21 j22 j23 j24 j25 j26 j27 j28 j29 j30 j31 j32 j33 j34 j35 j36 j37 j38 j39 j40 j41 j42 j43 j44 j45 j46 j47 j48 j49 j50 j51 j52 j53 j54 j55 j56 j57 j58 j59 j60 j61 j62 j63 j64 j65 j66,K .ret ⟨[j0,j1,.b false,j3,j4,j5,j6,j7,j8,j9,j10,j11,j12,j13,j14,j15,j16,j17,j18,j19,j20,j21,j22,j23,j24,j25,j26,j27,j28,j29,j30,j31,j32,j33,j34,j35,j36,j37,j38,j39,j40,j41,j42,j43,j44,j45,j46,j47,j48,j49,j50,j51,j52,j53,j54,j55,j56,j57,j58,j59,j60,j61,j62,j63,j64,j65,j66],σ⟩)) →
  Rnd n Tryz.prog p170_0 K (rest.length + 1) ⟨[.s s,.u,.u,.i .i64 pre.length,.u,.u,.u,.u,.u,.u,.u,.u,.u,.u,.u,.u,.u,.u,.u,.u,.u,.u,.u,.u,.u,.u,.u,.u,.u,.u,.u,.u,.u,.u,.u,.u,.u,.u,.u,.u,.u,.u,.u,.u,.u,.u,.u,.u,.u,.u,.u,.u,.u,.u,.u,.u,.u,.u,.u,.u,.u,.u,.u,.u,.u,.u,.u],σ⟩ := by
 intro rest
 induction rest with
 | nil =>
  intro pre he h1 h2
  have he : s = pre := by simpa using he
  subst he
  refine rnd_step fun R hR => ?_
  simp only [p170_0,VV,pexec,binV,reduceIte]
  exact ⟨fun h => by simp at h,fun _ => h1 rfl ..⟩
 | cons c rest ih =>
  intro pre he h1 h2
  subst he
  have hb : contentBad c = (((((decide ((c.toNat : Int) < 32) || decide (126 < (c.toNat : Int))) || ((c.toNat : Int) == 60)) || ((c.toNat : Int) == 62)) || ((c.toNat : Int) == 123)) || ((c.toNat : Int) == 125)) := by
   clear h1 h2 ih hlen
   revert c
   exact u8_all (by decide +kernel)
  refine rnd_step fun R hR => ?_
  simp only [p170_0,VV,pexec,binV,reduceIte]
  rw [← hb]
  refine ⟨fun _ => ⟨by simp; omega,fun h => ?_,fun h => ?_⟩,fun h => by simp at h <;> omega⟩
  ·exact h2 (by simp [h]) ..
  ·have e : (c :: rest).all (fun b => !contentBad b) = rest.all (fun b => !contentBad b) := by simp [h]
   rw [e] at h1 h2
   refine hR _ (rnd_cvs ?_ (ih (pre ++ [c]) (by simp) h1 h2))
   rw [wrap_succ (by simp at hlen; omega)]
   simp only [List.length_append,List.length_cons,List.length_nil]
   repeat first | exact .nil | refine .cons (.refl _) ?_ | refine .cons (.forget _) ?_
theorem cut_name (s : List UInt8) : contentName s = (isName (tagName s) && (decide ((tagName s).length = s.length) || decide ((tagName s).length + 1 < s.length))) := by
 have hb := indexByte_lt s 32
 by_cases h : 0 ≤ Lib.indexByte s 32
 ·have e0 : cutAt s 32 = (s.take (Lib.indexByte s 32).toNat,s.drop ((Lib.indexByte s 32).toNat + 1),true) := by simp only [cutAt,if_pos h]
  have e3 : tagName s = s.take (Lib.indexByte s 32).toNat := by simp only [tagName,e0]
  simp only [contentName,e0,e3]
  have e1 : (s.take (Lib.indexByte s 32).toNat).length = (Lib.indexByte s 32).toNat := by rw [List.length_take]; omega
  have e2 : (s.drop ((Lib.indexByte s 32).toNat + 1)).length = s.length - ((Lib.indexByte s 32).toNat + 1) := by simp
  simp only [e1,e2,Bool.not_true,Bool.false_or]
  congr 1
  rw [Bool.eq_iff_iff]; simp; omega
 ·have e0 : cutAt s 32 = (s,[],false) := by simp only [cutAt,if_neg h]
  have e3 : tagName s = s := by simp only [tagName,e0]
  simp only [contentName,e0,e3]; simp
theorem r3IsContent_pc (s : List UInt8) (σ : Store) : PC Tryz.prog 170 [.s s] σ (fun r σ' => r = .b (isContent s) ∧ σ' = σ) := by
 refine PC.intro Tryz.func170 c170 fun hcl hwf => wpc_sound ?_
 have hlen := wf_s (hwf 0 _ rfl).1
 simp only [p170,List.length_cons,List.length_nil,List.replicate,List.cons_append,List.nil_append,Nat.reduceAdd,Nat.reduceSub]
 simp only [VV,pexec,binV,reduceIte]
 refine ⟨fun h => ?_,fun h => ?_⟩
 ·refine ret_end0 (.inr rfl) rfl ⟨?_,rfl⟩
  have h : ¬ s.length ≤ 64 := by simp at h; omega
  simp [Pm.one,isContent,contentEnds,h]
 have h64 : s.length ≤ 64 := by simp at h; omega
 refine PWc.rnd_cvs ?_ (s.length + 1) (loop170 s hlen s [] rfl (fun ha => ?_) (fun ha => ?_))
 ·repeat first | exact .nil | refine .cons (.refl _) ?_ | refine .cons (.forget _) ?_
 ·intros
  simp only [VV,pexec]
  refine call_eq (r3Name_pc s _) rfl ?_
  simp only [VV,pexec]
  refine call_eq (r1IsName_pc (tagName s) _) rfl ?_
  simp only [VV,pexec,binV,reduceIte]
  have hle : (tagName s).length ≤ s.length := (cutAt_len s 32).1
  have hw : IntKind.i64.wrap (((tagName s).length : Int) + 1) = ((tagName s).length : Int) + 1 := IntWalk.i64_in _ (by omega)
  have hc : (((tagName s).length : Int) == (s.length : Int)) = decide ((tagName s).length = s.length) := by rw [Bool.eq_iff_iff]; simp; omega
  have hd : decide (((tagName s).length : Int) + 1 < (s.length : Int)) = decide ((tagName s).length + 1 < s.length) := by rw [Bool.eq_iff_iff]; simp; omega
  rw [hw,hc,hd,← cut_name]
  have hne : contentName s = true → 0 < s.length := fun h => by
   cases s with
   | nil => revert h; decide
   | cons c s => simp
  refine ⟨fun h => ?_,?_⟩
  ·have h : contentName s = true := by simpa using h
   have := hne h
   rw [IntWalk.i64_in _ (by omega)]; omega
  ·refine ret_end0 (.inr rfl) rfl ⟨?_,rfl⟩
   cases hn : contentName s with
   | false => simp [Pm.one,isContent,hn]
   | true =>
    have h0 := hne hn
    have e1 : (IntKind.i64.wrap ((s.length : Int) - 1)).toNat = s.length - 1 := by rw [IntWalk.i64_in _ (by omega)]; omega
    simp only [Pm.one,List.getD_cons_zero,List.getD_cons_succ,e1,isContent,contentEnds,hn,ha,Bool.true_and,Bool.and_true,h64,decide_true]
    have h3 : s.length ≠ 0 := by omega
    simp only [h3,ne_eq,not_false_eq_true,decide_true,Bool.true_and,V.b.injEq]
    rw [Bool.eq_iff_iff]; simp; omega
 ·intros
  exact ret_end0 (.inr rfl) rfl ⟨by simp [Pm.one,isContent,ha],rfl⟩
theorem range_not (b : Bool) (n : Int) : (b && decide (1 ≤ n) && decide (n ≤ 999)) = !(!b || decide (n < 1) || decide (999 < n)) := by
 rw [Bool.eq_iff_iff]; simp [Int.not_lt]
theorem loop140 {σ : Store} {K : Exit → St → Prop} (its : List It) (x : It) (hcl : Closed σ) (hlen : its.length < 2 ^ 63) : ∀ (rest pre : List It),its = pre ++ rest →
  ((rest.all fun y => !fitsBad x y) = true → (∀ j0 j1 j2 j3 j4 j5 j6 j7 j8 j9 j10 j11 j12 j13 j14 j15 j16 j17 j18 j19 j20 j21 j22 j23 j24 j25 j26 j27 j28 j29 j30 j31 j32 j33 j34 j35 j36 j37 j38 j39 j40 j41 j42 j43 j44 j45 j46 j47 j48 j49 j50 j51 j52 j53 j54 j55 j56 j57 j58 j59 j60 j61 j62 j63 j64 j65 j66 j67 j68 j69 j70 j71 j72 j73 j74 j75 j76 j77 j78 j79 j80 j81 j82 j83 j84 j85 j86 j87 j88 j89 j90 j91 j92 j93 j94 j95 j96 j97 j98 j99 j100 j101 j102 j103 j104 j105 j106 j107 j108 j109 j110 j111 j112 j113,K (.exit 1) ⟨[j0,j1,j2,j3,j4,j5,j6,j7,j8,j9,j10,j11,j12,j13,j14,j15,j16,j17,j18,j19,j20,j21,j22,j23,j24,j25,j26,j27,j28,j29,j30,j31,j32,j33,j34,j35,j36,j37,j38,j39,j40,j41,j42,j43,j44,j45,j46,j47,j48,j49,j50,j51,j52,j53,j54,j55,j56,j57,j58,j59,j60,j61,j62,j63,j64,j65,j66,j67,j68,j69,j70,j71,j72,j73,j74,j75,j76,j77,j78,j79,j80,j81,j82,j83,j84,j85,j86,j87,j88,j89,j90,j91,j92,j93,j94,j95,j96,j97,j98,j99,j100,j101,j102,j103,j104,j105,j106,j107,j108,j109,j110,j111,j112,j113],σ ++ [.box 23 x.cells]⟩)) → ((rest.all fun y => !fitsBad x y) = false → ∀ loc,(∀ j0 j1 j2 j3 j5 j6 j7 j8 j9 j10 j11 j12 j13 j14 j15 j16 j17 j18 j19 j20 j21 j22 j23 j24 j25 j26 j27 j28 j29 j30 j31 j32 j33 j34 j35 j36 j37 j38 j39 j40 j41 j42 j43 j44 j45 j46 j47 j48 j49 j50 j51 j52 j53 j54 j55 j56 j57 j58 j59 j60 j61 j62 j63 j64 j65 j66 j67 j68 j69 j70 j71 j72 j73 j74 j75 j76 j77 j78 j79 j80 j81 j82 j83 j84 j85 j86 j87 j88 j89 j90 j91 j92 j93 j94 j95 j96 j97 j98 j99 j100 j101 j102 j103 j104 j105 j106 j107 j108 j109 j110 j111 j112 j113,K .ret ⟨[j0,j1,j2,j3,.i .i64 7,j5,j6,j7,j8,j9,j10,j11,j12,j13,j14,j15,j16,j17,j18,j19,j20,j21,j22,j23,j24,j25,j26,j27,j28,j29,j30,j31,j32,j33,j34,j35,j36,j37,j38,j39,j40,j41,j42,j43,j44,j45,j46,j47,j48,j49,j50,j51,j52,j53,j54,j55,j56,j57,j58,j59,j60,j61,j62,j63,j64,j65,j66,j67,j68,j69,j70,j71,j72,j73,j74,j75,j76,j77,j78,j79,j80,j81,j82,j83,j84,j85,j86,j87,j88,j89,j90,j91,j92,j93,j94,j95,j96,j97,j98,j99,j100,j101,j102,j103,j104,j105,j106,j107,j108,j109,j110,j111,j112,j113],σ ++ (.box 23 x.cells :: loc)⟩)) →
  Rnd σ.length Tryz.prog p140_0 K (rest.length + 1) ⟨[.sl 3 (its.map It.cells),.u,.u,.ptr σ.length 0,.u,.u,.u,.u,.u,.u,.u,.u,.u,.u,.u,.u,.u,.u,.u,.u,.u,.u,.u,.u,.u,.u,.u,.u,.u,.u,.u,.u,.u,.u,.u,.u,.u,.u,.u,.u,.u,.u,.u,.u,.u,.u,.u,.u,.u,.u,.u,.u,.u,.u,.u,.u,.u,.u,.u,.u,.u,.u,.u,.u,.u,.u,.u,.u,.u,.u,.u,.u,.u,.u,.u,.u,.u,.u,.u,.i .i64 its.length,.i .i64 pre.length,.u,.u,.u,.u,.u,.u,.u,.u,.u,.u,.u,.u,.u,.u,.u,.u,.u,.u,.u,.u,.u,.u,.u,.u,.u,.u,.u,.u,.u,.u,.u,.u,.u],σ ++ [.box 23 x.cells]⟩ := by
 intro rest
 induction rest with
 | nil =>
  intro pre he h1 h2
  have he : its = pre := by simpa using he
  subst he
  refine rnd_step fun R hR => ?_
  simp only [p140_0,VV,pexec,xexec,binV,Nat.reduceAdd,reduceIte]
  exact ⟨fun h => by simp at h,fun _ => h1 rfl ..⟩
 | cons y rest ih =>
  intro pre he h1 h2
  subst he
  have hw : IntKind.i64.wrap ((pre.length : Int) + 1) = (((pre ++ [y]).length : Nat) : Int) := by
   rw [wrap_succ (by simp at hlen; omega)]; simp
  have next : fitsBad x y = false → ∀ {loc : Store} {R : St → Prop} {fr : List V},(∀ st',Rnd σ.length Tryz.prog p140_0 K (rest.length + 1) st' → R st') →
    Cvs fr [.sl 3 ((pre ++ y :: rest).map It.cells),.u,.u,.ptr σ.length 0,.u,.u,.u,.u,.u,.u,.u,.u,.u,.u,.u,.u,.u,.u,.u,.u,.u,.u,.u,.u,.u,.u,.u,.u,.u,.u,.u,.u,.u,.u,.u,.u,.u,.u,.u,.u,.u,.u,.u,.u,.u,.u,.u,.u,.u,.u,.u,.u,.u,.u,.u,.u,.u,.u,.u,.u,.u,.u,.u,.u,.u,.u,.u,.u,.u,.u,.u,.u,.u,.u,.u,.u,.u,.u,.u,.i .i64 (pre ++ y :: rest).length,.i .i64 (IntKind.i64.wrap ((pre.length : Int) + 1)),.u,.u,.u,.u,.u,.u,.u,.u,.u,.u,.u,.u,.u,.u,.u,.u,.u,.u,.u,.u,.u,.u,.u,.u,.u,.u,.u,.u,.u,.u,.u,.u,.u] → R ⟨fr,σ ++ (.box 23 x.cells :: loc)⟩ := by
   intro hf loc R fr hR hc
   rw [hw] at hc
   have e : ((y :: rest).all fun y => !fitsBad x y) = rest.all fun y => !fitsBad x y := by simp [hf]
   rw [e] at h1 h2
   refine hR _ (rnd_drop [_] loc (closed_add hcl (by simp only [List.forall_mem_cons,It.cells,LW]; simp)) hc ?_ (ih (pre ++ [y]) (by simp) h1 h2))
   simp only [LW,List.length_cons,List.length_nil,Nat.zero_add]
   omega
  refine rnd_step fun R hR => ?_
  simp only [p140_0,It.cells,VV,pexec,xexec,binV,Nat.reduceAdd,reduceIte]
  refine ⟨fun _ => ⟨by simp; omega,?_⟩,fun h => by simp at h <;> omega⟩
  refine call_eq (r3IsTag_pc y _) rfl ?_
  simp only [VV,pexec,binV,reduceIte]
  have e1 : fitsBad x y = (!(!isTag y || y.id != x.id) && (x.kind != 3 || y.kind != 2 || !(tagName y.text == x.text))) := rfl
  refine ⟨fun h => ?_,fun h => ?_⟩
  ·refine next (by rw [e1,h]; rfl) hR ?_
   simp only
   repeat first | exact .nil | refine .cons (.refl _) ?_ | refine .cons (.forget _) ?_
  ·refine callg_eq (by simp only [VV] <;> rfl) (fun _ => r3Name_pc y.text _) rfl ?_
   simp only [VV,pexec,binV,reduceIte]
   refine ⟨fun h3 => ?_,fun h3 => ?_⟩
   ·have hb : fitsBad x y = true := by rw [e1,h]; simpa [bne] using h3
    exact h2 (by simp [hb]) _ ..
   ·have hb : fitsBad x y = false := by rw [e1,h]; simpa [bne] using h3
    refine next hb hR ?_
    simp only
    repeat first | exact .nil | refine .cons (.refl _) ?_ | refine .cons (.forget _) ?_
theorem r3Check_pc (before : List It) (x : It) (σ : Store) : PC Tryz.prog 140 [.sl 3 (before.map It.cells),.agg x.cells] σ (fun r σ' => r = .i .i64 (checkErr before x) ∧ σ' = σ) := by
 refine PC.intro Tryz.func140 c140 fun hcl hwf => wpc_sound ?_
 have hlen := wf_sl (hwf 0 _ rfl).1
 rw [List.length_map] at hlen
 simp only [p140,List.length_cons,List.length_nil,List.replicate,List.cons_append,List.nil_append,Nat.reduceAdd,Nat.reduceSub]
 have loop : ∀ {fr : List V},itemFine before.getLast? x = true → isTag x = true → Cvs fr [.sl 3 (before.map It.cells),.u,.u,.ptr σ.length 0,.u,.u,.u,.u,.u,.u,.u,.u,.u,.u,.u,.u,.u,.u,.u,.u,.u,.u,.u,.u,.u,.u,.u,.u,.u,.u,.u,.u,.u,.u,.u,.u,.u,.u,.u,.u,.u,.u,.u,.u,.u,.u,.u,.u,.u,.u,.u,.u,.u,.u,.u,.u,.u,.u,.u,.u,.u,.u,.u,.u,.u,.u,.u,.u,.u,.u,.u,.u,.u,.u,.u,.u,.u,.u,.u,.i .i64 before.length,.i .i64 ((0 : Nat) : Int),.u,.u,.u,.u,.u,.u,.u,.u,.u,.u,.u,.u,.u,.u,.u,.u,.u,.u,.u,.u,.u,.u,.u,.u,.u,.u,.u,.u,.u,.u,.u,.u,.u] →
   PWc σ.length Tryz.prog (.loop p140_0) (blkK 1 (seqK (wpc σ.length Tryz.prog (.seq (.reg [] [⟨some 4,[],.mov (.c (.i .i64 0))⟩]) .ret) (retK Tryz.prog σ.length [.t 4] fun r σ' => r = .i .i64 (checkErr before x) ∧ σ' = σ)) (retK Tryz.prog σ.length [.t 4] fun r σ' => r = .i .i64 (checkErr before x) ∧ σ' = σ)))
    ⟨fr,σ ++ [.box 23 x.cells]⟩ := by
  intro fr hf ht hc
  refine PWc.rnd_cvs hc (before.length + 1) (loop140 before x hcl hlen before [] rfl (fun ha => ?_) (fun ha => ?_))
  ·intros
   simp only [VV,pexec]
   refine ret_end hcl (.inr rfl) (by simp only [resVs,resV,W]; rfl) (by simp only [LW]) ⟨?_,rfl⟩
   have hfi : fits before x = true := ha
   simp [Pm.one,checkErr,hf,ht,hfi]
  ·intros
   simp only [VV]
   refine ret_end hcl (.inr rfl) (by simp only [resVs,resV,W]; rfl) (by simp only [LW]) ⟨?_,rfl⟩
   have hfi : fits before x = false := ha
   simp [Pm.one,checkErr,hf,ht,hfi]
 have early : isTag x = false → checkErr before x = if itemFine before.getLast? x = false then 1 else 0 := by
  intro h; simp [checkErr,h]
 by_cases k1 : x.kind = 1
 ·have hnt : isTag x = false := by simp [isTag,k1]
  rw [early hnt]
  rcases List.eq_nil_or_concat before with hb | ⟨b',y,hb⟩
  ·subst hb
   have e0 : decide ((0 : Int) < (([] : List V).length : Int)) = false := rfl
   simp only [It.cells,k1,List.map_nil,VV,Int.reduceBEq,pexec,xexec,binV,reduceIte,reduceCtorEq]
   refine ⟨fun h => by simp at h,.i .i64 0,fun h => by simp at h,?_⟩
   simp only [VV,Int.reduceBEq,pexec,reduceIte]
   refine ⟨fun h => ?_,fun h => ?_⟩ <;>
   ·refine ret_end hcl (.inr rfl) (by simp only [resVs,resV,W]; rfl) (by simp only [LW]) ⟨?_,rfl⟩
    have e2 : itemFine ([] : List It).getLast? x = !(x.text == [] || x.id != 0) := by simp [itemFine,k1,bne]
    rw [e2,h]; rfl
  ·rw [List.concat_eq_append] at hb
   subst hb
   have hp : IntKind.i64.wrap (((b' ++ [y]).length : Int) - 1) = b'.length := by
    have : (b' ++ [y]).length < 2 ^ 63 := hlen
    rw [IntWalk.i64_in _ (by simp at this ⊢; omega)]; simp
   have hat : at2 (List.map It.cells (b' ++ [y])) b'.length 0 = some (.i .i64 y.kind) := by
    rw [at2_at]; rfl
   have e0 : decide ((0 : Int) < ((List.map It.cells (b' ++ [y])).length : Int)) = true := by simp
   have e2 : itemFine (b' ++ [y]).getLast? x = !((x.text == [] || x.id != 0) || y.kind == 1) := by simp [itemFine,k1,bne]
   rw [e2]
   simp only [It.cells,k1,VV,Int.reduceBEq,pexec,xexec,binV,reduceIte,reduceCtorEq]
   simp only [List.length_map,hp,Int.toNat_natCast,hat,VV]
   refine ⟨fun _ => by simp; omega,.i .i64 y.kind,fun _ => ?_,?_⟩
   ·rfl
   have e3 : decide ((0 : Int) < ((b' ++ [y]).length : Int)) = true := by simp
   simp only [e3,VV,pexec,reduceIte]
   refine ⟨fun h => ?_,fun h => ?_⟩ <;>
   ·refine ret_end hcl (.inr rfl) (by simp only [resVs,resV,W]; rfl) (by simp only [LW]) ⟨?_,rfl⟩
    rw [h]; rfl
 by_cases k5 : x.kind = 5
 ·have hnt : isTag x = false := by simp [isTag,k5]
  rw [early hnt]
  have e2 : itemFine before.getLast? x = !(!isName x.text || x.id != 0) := by simp [itemFine,k5,bne]
  rw [e2]
  simp only [It.cells,k5,VV,Int.reduceBEq,pexec,xexec,binV,reduceIte,reduceCtorEq]
  refine call_eq (r1IsName_pc _ _) rfl ?_
  simp only [VV,pexec,binV,reduceIte]
  refine ⟨fun h => ?_,fun h => ?_⟩ <;>
  ·refine ret_end hcl (.inr rfl) (by simp only [resVs,resV,W]; rfl) (by simp only [LW]) ⟨?_,rfl⟩
   rw [h]; rfl
 have bad : itemFine before.getLast? x = false → checkErr before x = 1 := fun h => by simp [checkErr,h]
 have skip : itemFine before.getLast? x = true → isTag x = false → checkErr before x = 0 := fun h h2 => by simp [checkErr,h,h2]
 by_cases k24 : x.kind = 2 ∨ x.kind = 4
 ·have ht : isTag x = true := by simp [isTag]; rcases k24 with h | h <;> simp [h]
  have e2 : itemFine before.getLast? x = !(!isContent x.text || decide (x.id < 1) || decide (999 < x.id)) := by
   rw [← range_not]; simp [itemFine,k24,k1,k5]
  rcases k24 with k | k
  ·rw [It.cells,k] at loop
   simp only [It.cells,k,VV,Int.reduceBEq,pexec,xexec,binV,reduceIte,reduceCtorEq]
   refine call_eq (r3IsContent_pc _ _) rfl ?_
   simp only [VV,pexec,binV,reduceIte]
   refine ⟨fun h => ?_,fun h => loop (by rw [e2,h]; rfl) ht (by simp only [List.length_map,Int.natCast_zero]; repeat first | exact .nil | refine .cons (.refl _) ?_ | refine .cons (.forget _) ?_)⟩
   refine ret_end hcl (.inr rfl) (by simp only [resVs,resV,W]; rfl) (by simp only [LW]) ⟨?_,rfl⟩
   rw [bad (by rw [e2,h]; rfl)]; rfl
  ·rw [It.cells,k] at loop
   simp only [It.cells,k,VV,Int.reduceBEq,pexec,xexec,binV,reduceIte,reduceCtorEq]
   refine call_eq (r3IsContent_pc _ _) rfl ?_
   simp only [VV,pexec,binV,reduceIte]
   refine ⟨fun h => ?_,fun h => loop (by rw [e2,h]; rfl) ht (by simp only [List.length_map,Int.natCast_zero]; repeat first | exact .nil | refine .cons (.refl _) ?_ | refine .cons (.forget _) ?_)⟩
   refine ret_end hcl (.inr rfl) (by simp only [resVs,resV,W]; rfl) (by simp only [LW]) ⟨?_,rfl⟩
   rw [bad (by rw [e2,h]; rfl)]; rfl
 by_cases k3 : x.kind = 3
 ·have ht : isTag x = true := by simp [isTag,k3]
  have e2 : itemFine before.getLast? x = !(!isName x.text || decide (x.id < 1) || decide (999 < x.id)) := by
   rw [← range_not]; simp [itemFine,k3]
  rw [It.cells,k3] at loop
  simp only [It.cells,k3,VV,Int.reduceBEq,pexec,xexec,binV,reduceIte,reduceCtorEq]
  refine call_eq (r1IsName_pc _ _) rfl ?_
  simp only [VV,pexec,binV,reduceIte]
  refine ⟨fun h => ?_,fun h => loop (by rw [e2,h]; rfl) ht (by simp only [List.length_map,Int.natCast_zero]; repeat first | exact .nil | refine .cons (.refl _) ?_ | refine .cons (.forget _) ?_)⟩
  refine ret_end hcl (.inr rfl) (by simp only [resVs,resV,W]; rfl) (by simp only [LW]) ⟨?_,rfl⟩
  rw [bad (by rw [e2,h]; rfl)]; rfl
 ·have n1 : (x.kind == 1) = false := by simpa using k1
  have n2 : (x.kind == 2) = false := by simp; omega
  have n3 : (x.kind == 3) = false := by simpa using k3
  have n4 : (x.kind == 4) = false := by simp; omega
  have n5 : (x.kind == 5) = false := by simpa using k5
  have e2 : itemFine before.getLast? x = false := by simp [itemFine,k1,k24,k3,k5]
  rw [bad e2]
  simp only [It.cells,n1,n2,n3,n4,n5,VV,pexec,xexec,binV,reduceIte,reduceCtorEq]
  exact ret_end hcl (.inr rfl) (by simp only [resVs,resV,W]; rfl) (by simp only [LW]) ⟨rfl,rfl⟩
theorem loop105 {σ : Store} {K : Exit → St → Prop} (its : List It) (hcl : Closed σ) (hlen : its.length < 2 ^ 63) : ∀ (rest pre : List It),its = pre ++ rest →
  (itemsErr pre rest = 0 → (∀ j0 j1 j2 j3 j4 j5 j6 j7 j8 j9 j10 j11 j12 j13 j14 j15 j16 j17 j18 j19 j20 j21 j22 j23 j24 j25 j26 j27 j28 j29,K (.exit 0) ⟨[j0,j1,j2,j3,j4,j5,j6,j7,j8,j9,j10,j11,j12,j13,j14,j15,j16,j17,j18,j19,j20,j21,j22,j23,j24,j25,j26,j27,j28,j29],σ⟩)) → (itemsErr pre rest ≠ 0 → (∀ j0 j1 j3 j4 j5 j6 j7 j8 j9 j10 j11 j12 j13 j14 j15 j16 j17 j18 j19 j20 j21 j22 j23 j24 j25 j26 j27 j28 j29,K .ret ⟨[j0,j1,.i .i64 (itemsErr pre rest),j3,j4,j5,j6,j7,j8,j9,j10,j11,j12,j13,j14,j15,j16,j17,j18,j19,j20,j21,j22,j23,j24,j25,j26,j27,j28,j29],σ⟩)) →
  Rnd σ.length Tryz.prog p105_0 K (rest.length + 1) ⟨[.sl 3 (its.map It.cells),.u,.u,.u,.u,.u,.u,.u,.u,.u,.u,.u,.u,.u,.i .i64 its.length,.i .i64 pre.length,.u,.u,.u,.u,.u,.u,.u,.u,.u,.u,.u,.u,.u,.u],σ⟩ := by
 intro rest
 induction rest with
 | nil =>
  intro pre he h1 h2
  have he : its = pre := by simpa using he
  subst he
  refine rnd_step fun R hR => ?_
  simp only [p105_0,VV,pexec,binV,Int.reduceToNat,reduceIte]
  exact ⟨fun h => by simp at h,fun _ => h1 rfl ..⟩
 | cons y rest ih =>
  intro pre he h1 h2
  subst he
  refine rnd_step fun R hR => ?_
  have ht : List.take pre.length (List.map It.cells (pre ++ y :: rest)) = pre.map It.cells := by simp
  simp only [p105_0,It.cells,VV,pexec,binV,Nat.reduceAdd,Int.reduceToNat,reduceIte]
  refine ⟨fun _ => ?_,fun h => by simp at h; omega⟩
  refine ⟨by simp; omega,by simp; omega,?_⟩
  rw [ht]
  refine call_eq (r3Check_pc pre y _) rfl ?_
  simp only [VV,pexec,binV,reduceIte]
  refine ⟨fun h => ?_,fun h => ?_⟩
  ·have h' : checkErr pre y ≠ 0 := by simpa using h
   have e : itemsErr pre (y :: rest) = checkErr pre y := by rw [itemsErr_check,if_pos h']
   rw [e] at h2
   exact h2 h' ..
  ·have h' : checkErr pre y = 0 := by simpa using h
   have e : itemsErr pre (y :: rest) = itemsErr (pre ++ [y]) rest := by rw [itemsErr_check,h']; simp
   rw [e] at h1 h2
   refine hR _ (rnd_cvs ?_ (ih (pre ++ [y]) (by simp) h1 h2))
   rw [wrap_succ (by simp at hlen; omega)]
   simp only [List.length_append,List.length_cons,List.length_nil]
   repeat first | exact .nil | refine .cons (.refl _) ?_ | refine .cons (.forget _) ?_
theorem r3Validate_pc (its : List It) (σ : Store) : PC Tryz.prog 105 [.sl 3 (its.map It.cells)] σ (fun r σ' => r = .i .i64 (validItems its) ∧ σ' = σ) := by
 refine PC.intro Tryz.func105 c105 fun hcl hwf => wpc_sound ?_
 have hlen := wf_sl (hwf 0 _ rfl).1
 rw [List.length_map] at hlen
 simp only [p105,List.length_cons,List.length_nil,List.replicate,List.cons_append,List.nil_append,Nat.reduceAdd,Nat.reduceSub]
 simp only [List.length_map,VV,pexec,binV,reduceIte]
 refine callg_eq (by simp only [VV] <;> rfl) (fun _ => r3Length_pc its _) rfl ?_
 simp only [List.length_map,VV,pexec,binV,reduceIte]
 refine ⟨fun h => ?_,fun h => ?_⟩
 ·refine ret_end0 (.inr rfl) (by simp only [resVs,resV,W]; rfl) ⟨?_,rfl⟩
  simp at h
  have : 512 < its.length ∨ 1024 < lengthFrom 0 its := by omega
  simp only [Pm.one,validItems,this,if_true]
 ·simp at h
  have hn : ¬ (512 < its.length ∨ 1024 < lengthFrom 0 its) := by omega
  refine PWc.rnd_cvs ?_ (its.length + 1) (loop105 its hcl hlen its [] rfl (fun h1 => ?_) (fun h1 => ?_))
  ·simp only [VV]
   repeat first | exact .nil | refine .cons (.refl _) ?_ | refine .cons (.forget _) ?_
  ·intros
   simp only [VV,pexec]
   exact ret_end0 (.inr rfl) (by simp only [resVs,resV,W]; rfl) ⟨by simp only [Pm.one,validItems,hn,h1,if_false],rfl⟩
  ·intros
   simp only [VV]
   exact ret_end0 (.inr rfl) (by simp only [resVs,resV,W]; rfl) ⟨by simp only [Pm.one,validItems,hn,if_false],rfl⟩
theorem loop143 {σ : Store} {K : Exit → St → Prop} (k d : Int) (s : List UInt8) (hlen : s.length < 2 ^ 40) : ∀ (rest pre t : List UInt8),s = pre ++ rest → t.length ≤ 4 * pre.length →
  ((∀ j0 j1 j2 j4 j5 j6 j7 j8 j9 j10 j11 j12 j13 j14 j15 j16 j17 j18 j19 j20 j21 j22 j23 j24 j25 j26 j27 j28 j29 j30 j31 j32 j33 j34 j35 j36 j37 j38 j39 j40 j41 j42 j43 j44 j45 j46 j47 j48 j49 j50 j51 j52 j53 j54 j55 j56 j57 j58 j59 j60,K (.exit 1) ⟨[j0,j1,j2,.s (t ++ rest.flatMap writB),j4,j5,j6,j7,j8,j9,j10,j11,j12,j13,j14,j15,j16,j17,j18,j19,j20,j21,j22,j23,j24,j25,j26,j27,j28,j29,j30,j31,j32,j33,j34,j35,j36,j37,j38,j39,j40,j41,j42,j43,j44,j45,j46,j47,j48,j49,j50,j51,j52,j53,j54,j55,j56,j57,j58,j59,j60],σ ++ [.box 23 [.i .i64 k,.s s,.i .i64 d]]⟩)) →
  Rnd σ.length Tryz.prog p143_0 K (rest.length + 1) ⟨[.u,.ptr σ.length 0,.u,.s t,.i .i64 pre.length,.u,.u,.u,.u,.u,.u,.u,.u,.u,.u,.u,.u,.u,.u,.u,.u,.u,.u,.u,.u,.u,.u,.u,.u,.u,.u,.u,.u,.u,.u,.u,.u,.u,.u,.u,.u,.u,.u,.u,.u,.u,.u,.u,.u,.u,.u,.u,.u,.u,.u,.u,.u,.u,.u,.u,.u],σ ++ [.box 23 [.i .i64 k,.s s,.i .i64 d]]⟩ := by
 intro rest
 induction rest with
 | nil =>
  intro pre t he ht h1
  have he : s = pre := by simpa using he
  subst he
  rw [List.flatMap_nil,List.append_nil] at h1
  refine rnd_step fun R hR => ?_
  simp only [p143_0,VV,pexec,binV,reduceIte]
  exact ⟨fun h => by simp at h,fun _ => h1 ..⟩
 | cons c rest ih =>
  intro pre t he ht h1
  subst he
  rw [List.flatMap_cons,← List.append_assoc] at h1
  have hl : pre.length + rest.length + 1 < 2 ^ 40 := by simp at hlen; omega
  have hw := writB_len c
  refine rnd_step fun R hR => ?_
  simp only [p143_0,VV,pexec,binV,reduceIte]
  refine ⟨fun _ => ⟨by simp; omega,?_⟩,fun h => by simp at h <;> omega⟩
  refine call_eq (r3Written_pc c _) rfl ?_
  simp only [VV,pexec,binV,reduceIte]
  refine ⟨by simp only [maxLen]; omega,?_⟩
  refine hR _ (rnd_cvs ?_ (ih (pre ++ [c]) (t ++ writB c) (by simp) (by simp; omega) h1))
  rw [wrap_succ (by omega)]
  simp only [List.length_append,List.length_cons,List.length_nil]
  repeat first | exact .nil | refine .cons (.refl _) ?_ | refine .cons (.forget _) ?_
theorem r3element_pc (x : It) (hk : 1 ≤ x.kind ∧ x.kind ≤ 5) (hid : 0 ≤ x.id ∧ x.id < 2 ^ 62) (hlen : x.text.length < 2 ^ 40) (σ : Store) : PC Tryz.prog 143 [.agg x.cells] σ (fun r σ' => r = .s (itemText x) ∧ σ' = σ) := by
 refine PC.intro Tryz.func143 c143 fun hcl hwf => wpc_sound ?_
 obtain ⟨k,t,d⟩ := x
 simp only at hk hid hlen
 obtain ⟨n,rfl⟩ : ∃ n : Nat,d = n := ⟨d.toNat,by omega⟩
 have hi := Lib.itoa_length_le (n : Int) (by omega) (by omega)
 have hdec := r1Decimal_pc n (by omega) (σ ++ [.box 23 [.i .i64 k,.s t,.i .i64 n]])
 simp only [p143,List.length_cons,List.length_nil,List.replicate,List.cons_append,List.nil_append,Nat.reduceAdd,Nat.reduceSub]
 by_cases k1 : k = 1
 ·subst k1
  simp only [It.cells,VV,Int.reduceBEq,pexec,xexec,binV,reduceIte,reduceCtorEq]
  refine PWc.rnd_cvs ?_ (t.length + 1) (loop143 1 n t hlen t [] [] rfl (Nat.le_refl _) ?_)
  ·simp only [List.length_nil,Int.natCast_zero]
   repeat first | exact .nil | refine .cons (.refl _) ?_ | refine .cons (.forget _) ?_
  ·intros
   simp only [List.nil_append,VV,pexec]
   exact ret_end hcl (.inr rfl) (by simp only [resVs,resV,W]; rfl) (by simp only [LW]) ⟨by simp [Pm.one,itemText],rfl⟩
 by_cases k2 : k = 2
 ·subst k2
  simp only [It.cells,VV,Int.reduceBEq,pexec,xexec,binV,reduceIte,reduceCtorEq]
  refine call_eq hdec rfl ?_
  simp only [VV,pexec,binV]
  refine ⟨by simp only [maxLen]; omega,by simp only [maxLen]; omega,by simp only [maxLen,List.length_append,List.length_cons,List.length_nil]; omega,by simp only [maxLen,List.length_append,List.length_cons]; omega,?_⟩
  exact ret_end hcl (.inr rfl) (by simp only [resVs,resV,W]; rfl) (by simp only [LW]) ⟨by simp [Pm.one,itemText],rfl⟩
 by_cases k3 : k = 3
 ·subst k3
  simp only [It.cells,VV,Int.reduceBEq,pexec,xexec,binV,reduceIte,reduceCtorEq]
  refine call_eq hdec rfl ?_
  simp only [VV,pexec,binV,Nat.reduceAdd]
  refine ⟨by simp only [maxLen]; omega,by simp only [maxLen]; omega,by simp only [maxLen,List.length_append,List.length_cons,List.length_nil]; omega,by simp only [maxLen,List.length_append,List.length_cons]; omega,?_⟩
  exact ret_end hcl (.inr rfl) (by simp only [resVs,resV,W]; rfl) (by simp only [LW]) ⟨by simp [Pm.one,itemText],rfl⟩
 by_cases k4 : k = 4
 ·subst k4
  simp only [It.cells,VV,Int.reduceBEq,pexec,xexec,binV,reduceIte,reduceCtorEq]
  refine call_eq hdec rfl ?_
  simp only [VV,pexec,binV,Nat.reduceAdd]
  refine ⟨by simp only [maxLen]; omega,by simp only [maxLen]; omega,by simp only [maxLen,List.length_append,List.length_cons,List.length_nil]; omega,by simp only [maxLen,List.length_append,List.length_cons]; omega,?_⟩
  exact ret_end hcl (.inr rfl) (by simp only [resVs,resV,W]; rfl) (by simp only [LW]) ⟨by simp [Pm.one,itemText],rfl⟩
 have k5 : k = 5 := by omega
 subst k5
 simp only [It.cells,VV,Int.reduceBEq,pexec,xexec,binV,reduceIte,reduceCtorEq]
 refine ⟨by simp only [maxLen]; omega,by simp only [maxLen]; omega,?_⟩
 exact ret_end hcl (.inr rfl) (by simp only [resVs,resV,W]; rfl) (by simp only [LW]) ⟨by simp [Pm.one,itemText],rfl⟩
theorem loop109 {σ : Store} {K : Exit → St → Prop} (f : List It) (hf : f.length ≤ 512) (hx : ∀ x ∈ f,(1 ≤ x.kind ∧ x.kind ≤ 5) ∧ (0 ≤ x.id ∧ x.id < 2 ^ 62) ∧ x.text.length ≤ 2 ^ 30 ∧ (itemText x).length < 2 ^ 33) : ∀ (rest pre : List It) (s : List UInt8),f = pre ++ rest → s.length ≤ 2 ^ 33 * pre.length →
  ((∀ j0 j1 j2 j3 j4 j6 j7 j8 j9 j10 j11 j12 j13 j14 j15 j16 j17 j18 j19 j20 j21 j22 j23 j24 j25,K (.exit 0) ⟨[j0,j1,j2,j3,j4,.s (s ++ rest.flatMap itemText),j6,j7,j8,j9,j10,j11,j12,j13,j14,j15,j16,j17,j18,j19,j20,j21,j22,j23,j24,j25],σ⟩)) →
  Rnd σ.length Tryz.prog p109_0 K (rest.length + 1) ⟨[.sl 3 (f.map It.cells),.u,.u,.u,.u,.s s,.u,.u,.u,.u,.u,.u,.u,.i .i64 f.length,.i .i64 pre.length,.u,.u,.u,.u,.u,.u,.u,.u,.u,.u,.u],σ⟩ := by
 intro rest
 induction rest with
 | nil =>
  intro pre s he hs h1
  have he : f = pre := by simpa using he
  subst he
  rw [List.flatMap_nil,List.append_nil] at h1
  refine rnd_step fun R hR => ?_
  simp only [p109_0,VV,pexec,binV,reduceIte]
  exact ⟨fun h => by simp at h,fun _ => h1 ..⟩
 | cons x rest ih =>
  intro pre s he hs h1
  subst he
  rw [List.flatMap_cons,← List.append_assoc] at h1
  obtain ⟨hk,hid,ht,hi⟩ := hx x (by simp)
  have hl : pre.length + rest.length + 1 ≤ 512 := by simp at hf; omega
  refine rnd_step fun R hR => ?_
  simp only [p109_0,It.cells,VV,pexec,binV,Nat.reduceAdd,reduceIte]
  refine ⟨fun _ => ⟨by simp; omega,?_⟩,fun h => by simp at h <;> omega⟩
  refine call_eq (r3element_pc x hk hid (by omega) _) rfl ?_
  simp only [VV,pexec,binV,reduceIte]
  refine ⟨by simp only [maxLen]; omega,?_⟩
  refine hR _ (rnd_cvs ?_ (ih (pre ++ [x]) (s ++ itemText x) (by simp) (by simp; omega) h1))
  rw [wrap_succ (by omega)]
  simp only [List.length_append,List.length_cons,List.length_nil]
  repeat first | exact .nil | refine .cons (.refl _) ?_ | refine .cons (.forget _) ?_
theorem valid_parts {f : List It} (ht : textLen f < 2 ^ 30) (h : validItems f = 0) : f.length ≤ 512 ∧ ∀ x ∈ f,(1 ≤ x.kind ∧ x.kind ≤ 5) ∧ (0 ≤ x.id ∧ x.id < 2 ^ 62) ∧ x.text.length ≤ 2 ^ 30 ∧ (itemText x).length < 2 ^ 33 := by
 have hk := validItems_kind h
 simp only [validItems] at h
 split at h
 ·simp at h
 ·rename_i h1
  refine ⟨by omega,fun x hx => ?_⟩
  have hfine := itemsErr_fine f [] h x hx
  have htx : ∀ f : List It,x ∈ f → x.text.length ≤ textLen f := by
   intro f
   induction f with
   | nil => simp
   | cons y f ih =>
    intro hm
    simp only [textLen]
    rcases List.mem_cons.1 hm with rfl | hm
    ·omega
    ·have := ih hm; omega
  have hl := htx f hx
  have hid : 0 ≤ x.id ∧ x.id < 2 ^ 62 := by
   simp only [itemFine] at hfine
   split at hfine
   ·simp at hfine; omega
   ·split at hfine
    ·simp at hfine; omega
    ·split at hfine
     ·simp at hfine; omega
     ·split at hfine
      ·simp at hfine; omega
      ·simp at hfine
  have hi := itemText_len x (by omega)
  exact ⟨hk x hx,hid,by omega,by omega⟩
theorem r3Format_pc (f : List It) (ht : textLen f < 2 ^ 30) (σ : Store) : PC Tryz.prog 109 [.sl 3 (f.map It.cells)] σ (fun r σ' => r = .tup [.s (format f).1,.i .i64 (format f).2] ∧ σ' = σ) := by
 refine PC.intro Tryz.func109 c109 fun hcl hwf => wpc_sound ?_
 simp only [p109,List.length_cons,List.length_nil,List.replicate,List.cons_append,List.nil_append,Nat.reduceAdd,Nat.reduceSub]
 simp only [VV,pexec]
 refine call_eq (r3Validate_pc f _) rfl ?_
 simp only [List.length_map,VV,pexec,binV,reduceIte]
 refine ⟨fun h => ?_,fun h => ?_⟩
 ·have h : validItems f ≠ 0 := by simpa using h
  refine ret_end0 (.inr rfl) (by simp only [resVs,resV,W]; rfl) ⟨?_,rfl⟩
  simp only [format,if_pos h]; rfl
 ·have h : validItems f = 0 := by simpa using h
  obtain ⟨v1,v2⟩ := valid_parts ht h
  refine PWc.rnd_cvs ?_ (f.length + 1) (loop109 f v1 v2 f [] [] rfl (Nat.zero_le _) ?_)
  ·simp only [List.length_nil,Int.natCast_zero]
   repeat first | exact .nil | refine .cons (.refl _) ?_ | refine .cons (.forget _) ?_
  ·intros
   simp only [List.nil_append,VV,pexec]
   refine ret_end0 (.inr rfl) (by simp only [resVs,resV,W]; rfl) ⟨?_,rfl⟩
   simp [format,h,Pm.one]
theorem r36notation_pc (f : List It) (hf : f.length < 2 ^ 30) (ht : textLen f < 2 ^ 30) (hid : ∀ x ∈ f,-9223372036854775808 ≤ x.id ∧ x.id ≤ 9223372036854775807) (σ : Store) : PC Tryz.prog 82 [.sl 3 (f.map It.cells)] σ (fun r σ' => r = .sl 1 (bytesV (encText (format f).1)) ∧ σ' = σ) := by
 refine PC.intro Tryz.func82 c82 fun hcl hwf => wpc_sound ?_
 have hl := format_len f hf ht hid
 simp only [p82,List.length_cons,List.length_nil,List.replicate,List.cons_append,List.nil_append,Nat.reduceAdd,Nat.reduceSub]
 simp only [VV,pexec]
 refine call_eq (r3Format_pc f ht _) rfl ?_
 simp only [VV,pexec]
 refine call_eq (r36text_pc (format f).1 (by omega) _) rfl ?_
 simp only [VV,pexec]
 exact ret_end0 (.inr rfl) (by simp only [resVs,resV,W]; rfl) ⟨rfl,rfl⟩
theorem loop124 {σ : Store} {K : Exit → St → Prop} (its : List It) (hcl : Closed σ) (hlen : its.length < 2 ^ 40) : ∀ (rest pre : List It) (acc : List Int) (g : Nat),its = pre ++ rest → acc.length ≤ pre.length →
  (∀ g,(∀ j0 j1 j2 j4 j5 j6 j7 j8 j9 j10 j11 j12 j13 j14 j15 j16 j17 j18 j19 j20 j21 j22 j23 j24 j25 j26 j27 j28 j29 j30 j31 j32 j33 j34,K (.exit 0) ⟨[j0,j1,j2,.own σ.length g,j4,j5,j6,j7,j8,j9,j10,j11,j12,j13,j14,j15,j16,j17,j18,j19,j20,j21,j22,j23,j24,j25,j26,j27,j28,j29,j30,j31,j32,j33,j34],σ ++ [.row 3 1 8 g true ((numbersFrom acc rest).map iRow)]⟩)) →
  Rnd σ.length Tryz.prog p124_0 K (rest.length + 1) ⟨[.sl 3 (its.map It.cells),.u,.u,.own σ.length g,.u,.u,.i .i64 its.length,.i .i64 pre.length,.u,.u,.u,.u,.u,.u,.u,.u,.u,.u,.u,.u,.u,.u,.u,.u,.u,.u,.u,.u,.u,.u,.u,.u,.u,.u,.u],σ ++ [.row 3 1 8 g true (acc.map iRow)]⟩ := by
 intro rest
 induction rest with
 | nil =>
  intro pre acc g he ha h1
  have he : its = pre := by simpa using he
  subst he
  refine rnd_step fun R hR => ?_
  simp only [p124_0,VV,pexec,binV,reduceIte]
  exact ⟨fun h => by simp at h,fun _ => h1 g ..⟩
 | cons y rest ih =>
  intro pre acc g he ha h1
  subst he
  have hw : IntKind.i64.wrap ((pre.length : Int) + 1) = (((pre ++ [y]).length : Nat) : Int) := by
   rw [wrap_succ (by simp at hlen; omega)]; simp
  refine rnd_step fun R hR => ?_
  simp only [p124_0,It.cells,VV,pexec,binV,Nat.reduceAdd,reduceIte]
  refine ⟨fun _ => ⟨by simp; omega,?_⟩,fun h => by simp at h <;> omega⟩
  refine call_eq (r3IsTag_pc y _) rfl ?_
  have bnd : (0 : Int) ≤ pre.length ∧ (pre.length : Int) < (List.map It.cells (pre ++ y :: rest)).length := by simp; omega
  cases ht : isTag y with
  | false =>
   have e : numbersFrom acc (y :: rest) = numbersFrom acc rest := by simp [numbersFrom,ht]
   rw [e] at h1
   simp only [It.cells,VV,pexec,reduceIte]
   refine ⟨fun h => by simp at h,.i .i64 0,fun h => by simp at h,?_⟩
   refine callg_eq (c := false) (v := .b false) (by rfl) (fun h => by simp at h) rfl ?_
   simp only [VV,pexec,binV,reduceIte,reduceCtorEq]
   refine hR _ (rnd_cvs ?_ (ih (pre ++ [y]) acc g (by simp) (by simp; omega) h1))
   rw [hw]; repeat first | exact .nil | refine .cons (.refl _) ?_ | refine .cons (.forget _) ?_
  | true =>
   simp only [It.cells,VV,pexec,reduceIte]
   refine ⟨bnd,.i .i64 y.id,rfl,?_⟩
   refine callg_eq (c := true) (by rfl) (fun _ => PC.fzs σ.length (by simp only [base_get0]; rfl) (r3Has_pc acc y.id _) (by simp only [List.map_cons,List.map_nil,ev,List.getD_cons_succ,List.getD_cons_zero,fz,fz1,and_self,if_true])) rfl ?_
   simp only [It.cells,VV,pexec,xexec,binV,reduceIte]
   refine ⟨fun h => ?_,fun h => ?_⟩
   ·have h : acc.contains y.id = false := by rw [Bool.not_eq_true'] at h; exact h
    have e : numbersFrom acc (y :: rest) = numbersFrom (acc ++ [y.id]) rest := by simp only [numbersFrom,ht,h,Bool.not_false,Bool.and_self,if_true]
    rw [e] at h1
    have hr : acc.map iRow ++ [[V.i .i64 y.id]] = (acc ++ [y.id]).map iRow := by simp [iRow]
    rw [hr]
    refine ⟨bnd,⟨by simp at hlen ⊢; omega,by simp at hlen ⊢; simp only [maxLen]; omega⟩,?_⟩
    refine hR _ (rnd_cvs ?_ (ih (pre ++ [y]) (acc ++ [y.id]) (g + 1) (by simp) (by simp; omega) h1))
    rw [hw]; repeat first | exact .nil | refine .cons (.refl _) ?_ | refine .cons (.forget _) ?_
   ·have h : acc.contains y.id = true := by rw [Bool.not_eq_false'] at h; exact h
    have e : numbersFrom acc (y :: rest) = numbersFrom acc rest := by simp only [numbersFrom,ht,h,Bool.not_true,Bool.and_false]; rfl
    rw [e] at h1
    refine hR _ (rnd_cvs ?_ (ih (pre ++ [y]) acc g (by simp) (by simp; omega) h1))
    rw [hw]; repeat first | exact .nil | refine .cons (.refl _) ?_ | refine .cons (.forget _) ?_
theorem r3Numbers_pc (its : List It) (hlen : its.length < 2 ^ 40) (σ : Store) : PC Tryz.prog 124 [.sl 3 (its.map It.cells)] σ (fun r σ' => r = .sl 1 ((numbers its).map iRow) ∧ σ' = σ) := by
 refine PC.intro Tryz.func124 c124 fun hcl hwf => wpc_sound ?_
 simp only [p124,List.length_cons,List.length_nil,List.replicate,List.cons_append,List.nil_append,Nat.reduceAdd,Nat.reduceSub]
 simp only [List.length_map,VV,pexec]
 refine PWc.wk ((Wk.promote (k := 3) tI rfl).trans (Wk.share0.trans (Wk.cvs ?_))) (PWc.rnd (its.length + 1) (loop124 its hcl hlen its [] [] 0 rfl (Nat.le_refl _) ?_))
 ·simp only [VV]
  repeat first | exact .nil | refine .cons (.refl _) ?_ | refine .cons (.forget _) ?_
 ·intro g
  intros
  simp only [VV,pexec]
  refine ret_fz 0 hcl (.inr rfl) rfl rfl ?_ ?_
  ·simp [fz,fz1,AllLt,lt_sl]
  ·simp [fz,fz1,Pm.one,numbers]
end Go.Proofs.Tryz
