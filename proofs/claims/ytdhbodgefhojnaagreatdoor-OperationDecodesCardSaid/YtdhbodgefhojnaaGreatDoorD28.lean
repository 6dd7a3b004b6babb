/- A part of the proof that OperationDecodes returns true and leaves its arguments as they were, for every input. -/
import Derived.Test.YtdhbodgefhojnaaGreatDoorD9
import Derived.Test.YtdhbodgefhojnaaGreatDoorD15
import Derived.Test.YtdhbodgefhojnaaGreatDoorD19
import Derived.Test.YtdhbodgefhojnaaGreatDoorD27
set_option linter.all false

namespace Go.Proofs.Tryz
open Go Go.Pm Go.Bt
theorem rst_at {σ : Store} {x y : Ob} {ext : Store} {r : Rb} : rst (σ ++ (x :: y :: ext)) (σ.length + 1) r = σ ++ (x :: .box 110 [.sl 1 (bytesV r.b),.b r.bad] :: ext) := by simp [rst]
theorem rbNumber_at {σ : Store} {x : Ob} {ext : Store} {b b' : List UInt8} {c c' : Bool} {v : Int} (n : Nat) (h : (Rb.mk b c).number n = (v,⟨b',c'⟩)) (hr : b.length < 2 ^ 60) (hn : n ≤ 4) :
  PC Tryz.prog 84 [.ptr (σ.length + 1) 0,.i .i64 n] (σ ++ (x :: .box 110 [.sl 1 (bytesV b),.b c] :: ext)) (fun w σ' => w = .i .i64 v ∧ σ' = σ ++ (x :: .box 110 [.sl 1 (bytesV b'),.b c'] :: ext)) := by
 have := rbNumber_pc (σ ++ (x :: .dead :: ext)) (σ.length + 1) (by simp) ⟨b,c⟩ hr n hn
 rw [h] at this
 simpa only [rst_at] using this
theorem rbText_at {σ : Store} {x : Ob} {ext : Store} {b b' : List UInt8} {c c' : Bool} {v : List UInt8} (h : (Rb.mk b c).text = (v,⟨b',c'⟩)) (hr : b.length < 2 ^ 60) :
  PC Tryz.prog 86 [.ptr (σ.length + 1) 0] (σ ++ (x :: .box 110 [.sl 1 (bytesV b),.b c] :: ext)) (fun w σ' => w = .s v ∧ σ' = σ ++ (x :: .box 110 [.sl 1 (bytesV b'),.b c'] :: ext)) := by
 have := rbText_pc (σ ++ (x :: .dead :: ext)) (σ.length + 1) (by simp) ⟨b,c⟩ hr
 rw [h] at this
 simpa only [rst_at] using this
theorem rbFragment_at {σ : Store} {x : Ob} {ext : Store} {b b' : List UInt8} {c c' : Bool} {v : List It} (h : (Rb.mk b c).fragment = (v,⟨b',c'⟩)) (hr : b.length < 2 ^ 38) :
  PC Tryz.prog 85 [.ptr (σ.length + 1) 0] (σ ++ (x :: .box 110 [.sl 1 (bytesV b),.b c] :: ext)) (fun w σ' => w = .sl 3 (v.map It.cells) ∧ σ' = σ ++ (x :: .box 110 [.sl 1 (bytesV b'),.b c'] :: ext)) := by
 have := rbFragment_pc (σ ++ (x :: .dead :: ext)) (σ.length + 1) (by simp) ⟨b,c⟩ hr
 rw [h] at this
 simpa only [rst_at] using this
theorem bytesEqual_pc (a b : List UInt8) (σ : Store) : PC Tryz.prog 87 [.sl 1 (bytesV a),.sl 1 (bytesV b)] σ (fun r σ' => r = .b (a == b) ∧ σ' = σ) := by
 refine PC.intro Tryz.func87 c87 fun hcl hwf => wpc_sound ?_
 simp only [p87,List.length_cons,List.length_nil,List.replicate,List.cons_append,List.nil_append,Nat.reduceAdd,Nat.reduceSub]
 simp only [bytesOf_bytesV,VV,Int.reduceBEq,Int.reduceBNe,pexec,xexec,binV,Nat.reduceAdd,Nat.reduceSub,Nat.reduceLeDiff,Nat.reduceEqDiff,Int.reduceToNat,reduceIte,reduceCtorEq]
 exact ret_end0 (.inr rfl) (by simp only [resVs,resV,W]; rfl) ⟨rfl,rfl⟩
theorem iRow_snoc (l : List Int) (x : Int) : l.map iRow ++ [[V.i .i64 x]] = (l ++ [x]).map iRow := by simp [iRow]
theorem loop42 {n0 : Nat} {σ : Store} {K : Exit → St → Prop} (R0 : Ob) (q0 q3 q6 : V) (t f m k : Int) (N : Nat) (hN : N < 256) : ∀ (n : Nat) (b : List UInt8) (c : Bool) (l : List Int) (g : Nat),l.length + n = N → b.length < 2 ^ 40 →
  (∀ g,(∀ j1 j7 j8 j9 j10 j11 j12 j13 j14 j15 j16 j17 j18 j19 j20 j21 j22 j23 j24 j25 j26 j27 j28 j29 j30 j31 j32 j33 j34 j35 j36 j37 j38 j39 j40 j41 j42 j43 j44 j45 j46 j47 j48 j49 j50 j51 j52 j53 j54 j55 j56 j57 j58 j59 j60 j61 j62 j63 j64 j65 j66 j67 j68 j69 j70 j71 j72 j73 j74 j75 j76 j77 j78 j79 j80 j81 j82 j83 j84 j85 j86 j87 j88 j89 j90 j91 j92 j93 j94 j95 j96 j97 j98 j99 j100 j101 j102 j103,K (.exit 0) ⟨[q0,j1,.ptr σ.length 0,q3,.ptr (σ.length + 1) 0,.ptr (σ.length + 2) 0,q6,j7,j8,j9,j10,j11,j12,j13,j14,j15,j16,j17,j18,j19,j20,j21,j22,j23,j24,j25,j26,j27,j28,j29,j30,j31,j32,j33,j34,j35,j36,j37,j38,j39,j40,j41,j42,j43,j44,j45,j46,j47,j48,j49,j50,j51,j52,j53,j54,j55,j56,j57,j58,j59,j60,j61,j62,j63,j64,j65,j66,j67,j68,j69,j70,j71,j72,j73,j74,j75,j76,j77,j78,j79,j80,j81,j82,j83,j84,j85,j86,j87,j88,j89,j90,j91,j92,j93,j94,j95,j96,j97,j98,j99,j100,j101,j102,j103],σ ++ [R0,.box 110 [.sl 1 (bytesV (Rb.numbers n ⟨b,c⟩).2.b),.b (Rb.numbers n ⟨b,c⟩).2.bad],.box 33 [.i .i64 t,.i .i64 f,.i .i64 m,.i .i64 k,.nil,.nil,.s [],.s [],.s [],.s [],.i .i64 0,.i .i64 0,.own (σ.length + 3) g],.row 3 1 8 g false ((l ++ (Rb.numbers n ⟨b,c⟩).1).map iRow)]⟩)) →
  Rnd n0 Tryz.prog p42_0 K (n + 1) ⟨[q0,.u,.ptr σ.length 0,q3,.ptr (σ.length + 1) 0,.ptr (σ.length + 2) 0,q6,.u,.u,.u,.u,.u,.u,.u,.u,.u,.u,.u,.u,.u,.u,.u,.u,.u,.u,.u,.i .i64 N,.i .i64 l.length,.u,.u,.u,.u,.u,.u,.u,.u,.u,.u,.u,.u,.u,.u,.u,.u,.u,.u,.u,.u,.u,.u,.u,.u,.u,.u,.u,.u,.u,.u,.u,.u,.u,.u,.u,.u,.u,.u,.u,.u,.u,.u,.u,.u,.u,.u,.u,.u,.u,.u,.u,.u,.u,.u,.u,.u,.u,.u,.u,.u,.u,.u,.u,.u,.u,.u,.u,.u,.u,.u,.u,.u,.u,.u,.u,.u],σ ++ [R0,.box 110 [.sl 1 (bytesV b),.b c],.box 33 [.i .i64 t,.i .i64 f,.i .i64 m,.i .i64 k,.nil,.nil,.s [],.s [],.s [],.s [],.i .i64 0,.i .i64 0,.own (σ.length + 3) g],.row 3 1 8 g false (l.map iRow)]⟩ := by
 intro n
 induction n with
 | zero =>
  intro b c l g he hb h1
  obtain rfl : N = l.length := by omega
  refine rnd_step fun R hR => ?_
  simp only [p42_0,VV,Int.reduceBEq,Int.reduceBNe,pexec,xexec,binV,Nat.reduceAdd,Nat.reduceSub,Nat.reduceLeDiff,Nat.reduceEqDiff,Int.reduceToNat,reduceIte,reduceCtorEq]
  simp only [Rb.numbers,List.append_nil] at h1
  exact ⟨fun h => by simp at h,fun _ => h1 ..⟩
 | succ n ih =>
  intro b c l g he hb h1
  obtain ⟨v,⟨b',c'⟩,e⟩ : ∃ v r,(Rb.mk b c).number 2 = (v,r) := ⟨_,_,rfl⟩
  have d := rb_drop ⟨b,c⟩ 2; rw [e] at d
  simp only at d
  have hw : IntKind.i64.wrap ((l.length : Int) + 1) = (((l ++ [v]).length : Nat) : Int) := by
   rw [wrap_succ (by omega)]; simp
  have hd : decide ((l.length : Int) < (N : Int)) = true := by simp; omega
  refine rnd_step fun R hR => ?_
  simp only [p42_0,hd,VV,Int.reduceBEq,Int.reduceBNe,pexec,xexec,binV,Nat.reduceAdd,Nat.reduceSub,Nat.reduceLeDiff,Nat.reduceEqDiff,Int.reduceToNat,reduceIte,reduceCtorEq]
  refine call_eq (rbNumber_at 2 e (by omega) (by decide)) rfl ?_
  simp only [hw,List.length_map,iRow_snoc,maxLen,VV,Int.reduceBEq,Int.reduceBNe,pexec,xexec,binV,Nat.reduceAdd,Nat.reduceSub,Nat.reduceLeDiff,Nat.reduceEqDiff,Int.reduceToNat,reduceIte,reduceCtorEq]
  refine ⟨⟨by omega,by omega⟩,hR _ (rnd_cvs (by repeat first | exact .nil | refine .cons (.refl _) ?_ | refine .cons (.forget _) ?_) (ih b' c' (l ++ [v]) (g + 1) (by simp; omega) (by omega) ?_))⟩
  simp only [Rb.numbers,e] at h1
  simpa only [List.append_assoc,List.cons_append,List.nil_append] using h1
theorem dec_nil {n : Nat} {xs : List V} {σ : Store} {b : List UInt8} {c : Bool} {t f m k : Int} : Wk Tryz.prog n xs (σ ++ [.box 33 [.i .i64 0,.i .i64 0,.i .i64 0,.i .i64 0,.nil,.nil,.s [],.s [],.s [],.s [],.i .i64 0,.i .i64 0,.nil],.box 110 [.sl 1 (bytesV b),.b c],.box 33 [.i .i64 t,.i .i64 f,.i .i64 m,.i .i64 k,.nil,.nil,.s [],.s [],.s [],.s [],.i .i64 0,.i .i64 0,.nil]]) xs (σ ++ [.box 33 [.i .i64 0,.i .i64 0,.i .i64 0,.i .i64 0,.nil,.nil,.s [],.s [],.s [],.s [],.i .i64 0,.i .i64 0,.nil],.box 110 [.sl 1 (bytesV b),.b c],.box 33 [.i .i64 t,.i .i64 f,.i .i64 m,.i .i64 k,.nil,.nil,.s [],.s [],.s [],.s [],.i .i64 0,.i .i64 0,.own (σ.length + 3) 0],.row 3 1 8 0 false (([] : List Int).map iRow)]) := by
 have := Wk.fieldnil (P := Tryz.prog) (n := n) (xs := xs) (id := σ.length + 2) (j := 12) (T := 33) (cs := [.i .i64 t,.i .i64 f,.i .i64 m,.i .i64 k,.nil,.nil,.s [],.s [],.s [],.s [],.i .i64 0,.i .i64 0,.nil])
  (σ := σ ++ [.box 33 [.i .i64 0,.i .i64 0,.i .i64 0,.i .i64 0,.nil,.nil,.s [],.s [],.s [],.s [],.i .i64 0,.i .i64 0,.nil],.box 110 [.sl 1 (bytesV b),.b c],.box 33 [.i .i64 t,.i .i64 f,.i .i64 m,.i .i64 k,.nil,.nil,.s [],.s [],.s [],.s [],.i .i64 0,.i .i64 0,.nil]]) ti_int (by simp) rfl
 simpa only [base_set,List.append_assoc,List.length_append,List.length_cons,List.length_nil,List.cons_append,List.nil_append,List.set_cons_zero,List.set_cons_succ,Nat.zero_add,Nat.reduceAdd,List.map_nil] using this
theorem dec_own {n g : Nat} {xs : List V} {σ : Store} {b : List UInt8} {c : Bool} {t f m k : Int} {l : List Int} (hcl : Closed σ) (hn : n ≤ σ.length) (hx : AllLt (σ.length + 3) xs) : Wk Tryz.prog n xs (σ ++ [.box 33 [.i .i64 0,.i .i64 0,.i .i64 0,.i .i64 0,.nil,.nil,.s [],.s [],.s [],.s [],.i .i64 0,.i .i64 0,.nil],.box 110 [.sl 1 (bytesV b),.b c],.box 33 [.i .i64 t,.i .i64 f,.i .i64 m,.i .i64 k,.nil,.nil,.s [],.s [],.s [],.s [],.i .i64 0,.i .i64 0,.own (σ.length + 3) g],.row 3 1 8 g false (l.map iRow)]) xs (σ ++ [.box 33 [.i .i64 0,.i .i64 0,.i .i64 0,.i .i64 0,.nil,.nil,.s [],.s [],.s [],.s [],.i .i64 0,.i .i64 0,.nil],.box 110 [.sl 1 (bytesV b),.b c],.box 33 [.i .i64 t,.i .i64 f,.i .i64 m,.i .i64 k,.nil,.nil,.s [],.s [],.s [],.s [],.i .i64 0,.i .i64 0,.sl 1 (l.map iRow)]]) := by
 have w1 := Wk.share (P := Tryz.prog) (n := n) (xs := xs) (σ := σ ++ [.box 33 [.i .i64 0,.i .i64 0,.i .i64 0,.i .i64 0,.nil,.nil,.s [],.s [],.s [],.s [],.i .i64 0,.i .i64 0,.nil],.box 110 [.sl 1 (bytesV b),.b c],.box 33 [.i .i64 t,.i .i64 f,.i .i64 m,.i .i64 k,.nil,.nil,.s [],.s [],.s [],.s [],.i .i64 0,.i .i64 0,.own (σ.length + 3) g],.row 3 1 8 g false (l.map iRow)]) (id := σ.length + 3) (E := 3) (sz := 1) (by' := 8) (g := g) (sh := false) (rows := l.map iRow) (by simp)
 have w2 := Wk.cellOwn (P := Tryz.prog) (n := n) (xs := xs) (σ := σ ++ [.box 33 [.i .i64 0,.i .i64 0,.i .i64 0,.i .i64 0,.nil,.nil,.s [],.s [],.s [],.s [],.i .i64 0,.i .i64 0,.nil],.box 110 [.sl 1 (bytesV b),.b c],.box 33 [.i .i64 t,.i .i64 f,.i .i64 m,.i .i64 k,.nil,.nil,.s [],.s [],.s [],.s [],.i .i64 0,.i .i64 0,.own (σ.length + 3) g],.row 3 1 8 g true (l.map iRow)]) (id := σ.length + 2) (idr := σ.length + 3) (T := 33) (j := 12) (g := g) (E := 3) (sz := 1) (by' := 8) (rows := l.map iRow)
  (cs := [.i .i64 t,.i .i64 f,.i .i64 m,.i .i64 k,.nil,.nil,.s [],.s [],.s [],.s [],.i .i64 0,.i .i64 0,.own (σ.length + 3) g]) (by simp) rfl (by simp)
 simp only [base_set,List.set_cons_zero,List.set_cons_succ] at w1 w2
 have hc : Closed (σ ++ [.box 33 [.i .i64 0,.i .i64 0,.i .i64 0,.i .i64 0,.nil,.nil,.s [],.s [],.s [],.s [],.i .i64 0,.i .i64 0,.nil],.box 110 [.sl 1 (bytesV b),.b c],.box 33 [.i .i64 t,.i .i64 f,.i .i64 m,.i .i64 k,.nil,.nil,.s [],.s [],.s [],.s [],.i .i64 0,.i .i64 0,.sl 1 (l.map iRow)]]) := closed_add hcl (by
  simp only [List.mem_cons,List.not_mem_nil,or_false,forall_eq_or_imp,forall_eq]
  refine ⟨?_,?_,?_⟩ <;> simp only [LW])
 have w3 := Wk.drop0 (P := Tryz.prog) (n := n) (xs := xs) (σ := σ ++ [.box 33 [.i .i64 0,.i .i64 0,.i .i64 0,.i .i64 0,.nil,.nil,.s [],.s [],.s [],.s [],.i .i64 0,.i .i64 0,.nil],.box 110 [.sl 1 (bytesV b),.b c],.box 33 [.i .i64 t,.i .i64 f,.i .i64 m,.i .i64 k,.nil,.nil,.s [],.s [],.s [],.s [],.i .i64 0,.i .i64 0,.sl 1 (l.map iRow)]]) (loc := [.row 3 1 8 g true (l.map iRow)]) (by simp; omega) hc (allLt_iff.1 (by simpa using hx))
 simp only [List.append_assoc,List.cons_append,List.nil_append] at w3
 exact (w1.trans w2).trans w3
set_option maxHeartbeats 2000000 in
theorem opDecode_pc (b : List UInt8) (hb : b.length < 2 ^ 30) (σ : Store) : PC Tryz.prog 42 [.sl 1 (bytesV b)] σ (fun r σ' => r = .tup [.agg (Bt.decode b).1.cells,.i .i64 (Bt.decode b).2] ∧ σ' = σ) := by
 refine PC.intro Tryz.func42 c42 fun hcl hwf => ?_
 simp only [p42,List.length_cons,List.length_nil,List.replicate,List.cons_append,List.nil_append,Nat.reduceAdd,Nat.reduceSub]
 obtain ⟨v,⟨b1,c1⟩,e1⟩ : ∃ v r,(Rb.mk b false).number 1 = (v,r) := ⟨_,_,rfl⟩
 obtain ⟨k,⟨b2,c2⟩,e2⟩ : ∃ v r,(Rb.mk b1 c1).number 1 = (v,r) := ⟨_,_,rfl⟩
 obtain ⟨t,⟨b3,c3⟩,e3⟩ : ∃ v r,(Rb.mk b2 c2).number 4 = (v,r) := ⟨_,_,rfl⟩
 obtain ⟨f,⟨b4,c4⟩,e4⟩ : ∃ v r,(Rb.mk b3 c3).number 1 = (v,r) := ⟨_,_,rfl⟩
 obtain ⟨m,⟨b5,c5⟩,e5⟩ : ∃ v r,(Rb.mk b4 c4).number 2 = (v,r) := ⟨_,_,rfl⟩
 obtain ⟨n,⟨b6,c6⟩,e6⟩ : ∃ v r,(Rb.mk b5 c5).number 1 = (v,r) := ⟨_,_,rfl⟩
 have d1 := rb_drop ⟨b,false⟩ 1; rw [e1] at d1
 have d2 := rb_drop ⟨b1,c1⟩ 1; rw [e2] at d2
 have d3 := rb_drop ⟨b2,c2⟩ 4; rw [e3] at d3
 have d4 := rb_drop ⟨b3,c3⟩ 1; rw [e4] at d4
 have d5 := rb_drop ⟨b4,c4⟩ 2; rw [e5] at d5
 have d6 := rb_drop ⟨b5,c5⟩ 1; rw [e6] at d6
 have n6 := number_bound ⟨b5,c5⟩ 1 (by decide); rw [e6] at n6
 simp only at d1 d2 d3 d4 d5 d6 n6
 obtain ⟨N,rfl⟩ : ∃ N : Nat,n = N := ⟨n.toNat,by omega⟩
 refine PWc.cut fun R hR => ?_
 simp only [VV,Int.reduceBEq,Int.reduceBNe,pexec,xexec,binV,Nat.reduceAdd,Nat.reduceSub,Nat.reduceLeDiff,Nat.reduceEqDiff,Int.reduceToNat,reduceIte,reduceCtorEq]
 refine hR _ (PWc.cvs (fr' := [.sl 1 (bytesV b),.u,.ptr σ.length 0,.i .i64 0,.u,.u,.u,.u,.u,.u,.u,.u,.u,.u,.u,.u,.u,.u,.u,.u,.u,.u,.u,.u,.u,.u,.u,.u,.u,.u,.u,.u,.u,.u,.u,.u,.u,.u,.u,.u,.u,.u,.u,.u,.u,.u,.u,.u,.u,.u,.u,.u,.u,.u,.u,.u,.u,.u,.u,.u,.u,.u,.u,.u,.u,.u,.u,.u,.u,.u,.u,.u,.u,.u,.u,.u,.u,.u,.u,.u,.u,.u,.u,.u,.u,.u,.u,.u,.u,.u,.u,.u,.u,.u,.u,.u,.u,.u,.u,.u,.u,.u,.u,.u]) ?_ (by repeat first | exact .nil | refine .cons (.refl _) ?_ | refine .cons (.forget _) ?_))
 clear hR R
 refine PWc.cut fun R hR => ?_
 simp only [VV,Int.reduceBEq,Int.reduceBNe,pexec,xexec,binV,Nat.reduceAdd,Nat.reduceSub,Nat.reduceLeDiff,Nat.reduceEqDiff,Int.reduceToNat,reduceIte,reduceCtorEq]
 refine hR _ (PWc.cvs (fr' := [.sl 1 (bytesV b),.u,.ptr σ.length 0,.i .i64 0,.ptr (σ.length + 1) 0,.u,.u,.u,.u,.u,.u,.u,.u,.u,.u,.u,.u,.u,.u,.u,.u,.u,.u,.u,.u,.u,.u,.u,.u,.u,.u,.u,.u,.u,.u,.u,.u,.u,.u,.u,.u,.u,.u,.u,.u,.u,.u,.u,.u,.u,.u,.u,.u,.u,.u,.u,.u,.u,.u,.u,.u,.u,.u,.u,.u,.u,.u,.u,.u,.u,.u,.u,.u,.u,.u,.u,.u,.u,.u,.u,.u,.u,.u,.u,.u,.u,.u,.u,.u,.u,.u,.u,.u,.u,.u,.u,.u,.u,.u,.u,.u,.u,.u,.u]) ?_ (by repeat first | exact .nil | refine .cons (.refl _) ?_ | refine .cons (.forget _) ?_))
 clear hR R
 refine PWc.cut fun R hR => ?_
 simp only [VV,Int.reduceBEq,Int.reduceBNe,pexec,xexec,binV,Nat.reduceAdd,Nat.reduceSub,Nat.reduceLeDiff,Nat.reduceEqDiff,Int.reduceToNat,reduceIte,reduceCtorEq]
 refine hR _ (PWc.cvs (fr' := [.sl 1 (bytesV b),.u,.ptr σ.length 0,.i .i64 0,.ptr (σ.length + 1) 0,.ptr (σ.length + 2) 0,.u,.u,.u,.u,.u,.u,.u,.u,.u,.u,.u,.u,.u,.u,.u,.u,.u,.u,.u,.u,.u,.u,.u,.u,.u,.u,.u,.u,.u,.u,.u,.u,.u,.u,.u,.u,.u,.u,.u,.u,.u,.u,.u,.u,.u,.u,.u,.u,.u,.u,.u,.u,.u,.u,.u,.u,.u,.u,.u,.u,.u,.u,.u,.u,.u,.u,.u,.u,.u,.u,.u,.u,.u,.u,.u,.u,.u,.u,.u,.u,.u,.u,.u,.u,.u,.u,.u,.u,.u,.u,.u,.u,.u,.u,.u,.u,.u,.u]) ?_ (by repeat first | exact .nil | refine .cons (.refl _) ?_ | refine .cons (.forget _) ?_))
 clear hR R
 refine PWc.cut fun R hR => ?_
 simp only [VV,Int.reduceBEq,Int.reduceBNe,pexec,xexec,binV,Nat.reduceAdd,Nat.reduceSub,Nat.reduceLeDiff,Nat.reduceEqDiff,Int.reduceToNat,reduceIte,reduceCtorEq]
 refine call_eq (rbNumber_at 1 e1 (by omega) (by decide)) rfl ?_
 simp only [VV,Int.reduceBEq,Int.reduceBNe,pexec,xexec,binV,Nat.reduceAdd,Nat.reduceSub,Nat.reduceLeDiff,Nat.reduceEqDiff,Int.reduceToNat,reduceIte,reduceCtorEq]
 refine hR _ (PWc.cvs (fr' := [.sl 1 (bytesV b),.u,.ptr σ.length 0,.i .i64 0,.ptr (σ.length + 1) 0,.ptr (σ.length + 2) 0,.i .i64 v,.u,.u,.u,.u,.u,.u,.u,.u,.u,.u,.u,.u,.u,.u,.u,.u,.u,.u,.u,.u,.u,.u,.u,.u,.u,.u,.u,.u,.u,.u,.u,.u,.u,.u,.u,.u,.u,.u,.u,.u,.u,.u,.u,.u,.u,.u,.u,.u,.u,.u,.u,.u,.u,.u,.u,.u,.u,.u,.u,.u,.u,.u,.u,.u,.u,.u,.u,.u,.u,.u,.u,.u,.u,.u,.u,.u,.u,.u,.u,.u,.u,.u,.u,.u,.u,.u,.u,.u,.u,.u,.u,.u,.u,.u,.u,.u,.u]) ?_ (by repeat first | exact .nil | refine .cons (.refl _) ?_ | refine .cons (.forget _) ?_))
 clear hR R
 refine PWc.cut fun R hR => ?_
 simp only [VV,Int.reduceBEq,Int.reduceBNe,pexec,xexec,binV,Nat.reduceAdd,Nat.reduceSub,Nat.reduceLeDiff,Nat.reduceEqDiff,Int.reduceToNat,reduceIte,reduceCtorEq]
 refine call_eq (rbNumber_at 1 e2 (by omega) (by decide)) rfl ?_
 simp only [VV,Int.reduceBEq,Int.reduceBNe,pexec,xexec,binV,Nat.reduceAdd,Nat.reduceSub,Nat.reduceLeDiff,Nat.reduceEqDiff,Int.reduceToNat,reduceIte,reduceCtorEq]
 refine hR _ (PWc.cvs (fr' := [.sl 1 (bytesV b),.u,.ptr σ.length 0,.i .i64 0,.ptr (σ.length + 1) 0,.ptr (σ.length + 2) 0,.i .i64 v,.u,.u,.u,.u,.u,.u,.u,.u,.u,.u,.u,.u,.u,.u,.u,.u,.u,.u,.u,.u,.u,.u,.u,.u,.u,.u,.u,.u,.u,.u,.u,.u,.u,.u,.u,.u,.u,.u,.u,.u,.u,.u,.u,.u,.u,.u,.u,.u,.u,.u,.u,.u,.u,.u,.u,.u,.u,.u,.u,.u,.u,.u,.u,.u,.u,.u,.u,.u,.u,.u,.u,.u,.u,.u,.u,.u,.u,.u,.u,.u,.u,.u,.u,.u,.u,.u,.u,.u,.u,.u,.u,.u,.u,.u,.u,.u,.u]) ?_ (by repeat first | exact .nil | refine .cons (.refl _) ?_ | refine .cons (.forget _) ?_))
 clear hR R
 refine PWc.cut fun R hR => ?_
 simp only [VV,Int.reduceBEq,Int.reduceBNe,pexec,xexec,binV,Nat.reduceAdd,Nat.reduceSub,Nat.reduceLeDiff,Nat.reduceEqDiff,Int.reduceToNat,reduceIte,reduceCtorEq]
 refine call_eq (rbNumber_at 4 e3 (by omega) (by decide)) rfl ?_
 simp only [VV,Int.reduceBEq,Int.reduceBNe,pexec,xexec,binV,Nat.reduceAdd,Nat.reduceSub,Nat.reduceLeDiff,Nat.reduceEqDiff,Int.reduceToNat,reduceIte,reduceCtorEq]
 refine call_eq (rbNumber_at 1 e4 (by omega) (by decide)) rfl ?_
 simp only [VV,Int.reduceBEq,Int.reduceBNe,pexec,xexec,binV,Nat.reduceAdd,Nat.reduceSub,Nat.reduceLeDiff,Nat.reduceEqDiff,Int.reduceToNat,reduceIte,reduceCtorEq]
 refine call_eq (rbNumber_at 2 e5 (by omega) (by decide)) rfl ?_
 simp only [VV,Int.reduceBEq,Int.reduceBNe,pexec,xexec,binV,Nat.reduceAdd,Nat.reduceSub,Nat.reduceLeDiff,Nat.reduceEqDiff,Int.reduceToNat,reduceIte,reduceCtorEq]
 refine hR _ (PWc.cvs (fr' := [.sl 1 (bytesV b),.u,.ptr σ.length 0,.i .i64 0,.ptr (σ.length + 1) 0,.ptr (σ.length + 2) 0,.i .i64 v,.u,.u,.u,.u,.u,.u,.u,.u,.u,.u,.u,.u,.u,.u,.u,.u,.u,.u,.u,.u,.u,.u,.u,.u,.u,.u,.u,.u,.u,.u,.u,.u,.u,.u,.u,.u,.u,.u,.u,.u,.u,.u,.u,.u,.u,.u,.u,.u,.u,.u,.u,.u,.u,.u,.u,.u,.u,.u,.u,.u,.u,.u,.u,.u,.u,.u,.u,.u,.u,.u,.u,.u,.u,.u,.u,.u,.u,.u,.u,.u,.u,.u,.u,.u,.u,.u,.u,.u,.u,.u,.u,.u,.u,.u,.u,.u,.u]) ?_ (by repeat first | exact .nil | refine .cons (.refl _) ?_ | refine .cons (.forget _) ?_))
 clear hR R
 refine PWc.cut fun R hR => ?_
 simp only [VV,Int.reduceBEq,Int.reduceBNe,pexec,xexec,binV,Nat.reduceAdd,Nat.reduceSub,Nat.reduceLeDiff,Nat.reduceEqDiff,Int.reduceToNat,reduceIte,reduceCtorEq]
 refine call_eq (rbNumber_at 1 e6 (by omega) (by decide)) rfl ?_
 simp only [VV,Int.reduceBEq,Int.reduceBNe,pexec,xexec,binV,Nat.reduceAdd,Nat.reduceSub,Nat.reduceLeDiff,Nat.reduceEqDiff,Int.reduceToNat,reduceIte,reduceCtorEq]
 obtain ⟨ns,⟨b7,c7⟩,e7⟩ : ∃ v r,Rb.numbers N ⟨b6,c6⟩ = (v,r) := ⟨_,_,rfl⟩
 have d7 := rbNumbers_drop N ⟨b6,c6⟩; rw [e7] at d7
 simp only at d7
 refine PWc.wk ((Wk.cvs (ys := [.sl 1 (bytesV b),.u,.ptr σ.length 0,.i .i64 0,.ptr (σ.length + 1) 0,.ptr (σ.length + 2) 0,.i .i64 v,.u,.u,.u,.u,.u,.u,.u,.u,.u,.u,.u,.u,.u,.u,.u,.u,.u,.u,.u,.i .i64 N,.i .i64 (([] : List Int).length : Nat),.u,.u,.u,.u,.u,.u,.u,.u,.u,.u,.u,.u,.u,.u,.u,.u,.u,.u,.u,.u,.u,.u,.u,.u,.u,.u,.u,.u,.u,.u,.u,.u,.u,.u,.u,.u,.u,.u,.u,.u,.u,.u,.u,.u,.u,.u,.u,.u,.u,.u,.u,.u,.u,.u,.u,.u,.u,.u,.u,.u,.u,.u,.u,.u,.u,.u,.u,.u,.u,.u,.u,.u,.u,.u,.u,.u]) (by repeat first | exact .nil | refine .cons (.refl _) ?_ | refine .cons (.forget _) ?_)).trans dec_nil)
  (PWc.rnd (N + 1) (loop42 (.box 33 [.i .i64 0,.i .i64 0,.i .i64 0,.i .i64 0,.nil,.nil,.s [],.s [],.s [],.s [],.i .i64 0,.i .i64 0,.nil]) (.sl 1 (bytesV b)) (.i .i64 0) (.i .i64 v) t f m k N (by omega) N b6 c6 [] 0 (by simp) (by omega) ?_))
 intro g
 intros
 rw [e7]
 simp only [List.nil_append,VV,Int.reduceBEq,Int.reduceBNe,pexec,xexec,binV,Nat.reduceAdd,Nat.reduceSub,Nat.reduceLeDiff,Nat.reduceEqDiff,Int.reduceToNat,reduceIte,reduceCtorEq]
 refine hR _ (PWc.wk ((Wk.cvs (ys := [.sl 1 (bytesV b),.u,.ptr σ.length 0,.i .i64 0,.ptr (σ.length + 1) 0,.ptr (σ.length + 2) 0,.i .i64 v,.u,.u,.u,.u,.u,.u,.u,.u,.u,.u,.u,.u,.u,.u,.u,.u,.u,.u,.u,.u,.u,.u,.u,.u,.u,.u,.u,.u,.u,.u,.u,.u,.u,.u,.u,.u,.u,.u,.u,.u,.u,.u,.u,.u,.u,.u,.u,.u,.u,.u,.u,.u,.u,.u,.u,.u,.u,.u,.u,.u,.u,.u,.u,.u,.u,.u,.u,.u,.u,.u,.u,.u,.u,.u,.u,.u,.u,.u,.u,.u,.u,.u,.u,.u,.u,.u,.u,.u,.u,.u,.u,.u,.u,.u,.u,.u,.u]) (by repeat first | exact .nil | refine .cons (.refl _) ?_ | refine .cons (.forget _) ?_)).trans (dec_own hcl (Nat.le_refl _) (by simp only [LW]; omega))) ?_)
 clear hR R
 refine PWc.cut fun R hR => ?_
 obtain ⟨src,⟨b8,c8⟩,e8⟩ : ∃ v r,(Rb.mk b7 c7).fragment = (v,r) := ⟨_,_,rfl⟩
 have d8 := rbFragment_drop ⟨b7,c7⟩; rw [e8] at d8
 simp only at d8
 simp only [VV,Int.reduceBEq,Int.reduceBNe,pexec,xexec,binV,Nat.reduceAdd,Nat.reduceSub,Nat.reduceLeDiff,Nat.reduceEqDiff,Int.reduceToNat,reduceIte,reduceCtorEq]
 refine call_eq (rbFragment_at e8 (by omega)) rfl ?_
 simp only [VV,Int.reduceBEq,Int.reduceBNe,pexec,xexec,binV,Nat.reduceAdd,Nat.reduceSub,Nat.reduceLeDiff,Nat.reduceEqDiff,Int.reduceToNat,reduceIte,reduceCtorEq]
 refine hR _ (PWc.cvs (fr' := [.sl 1 (bytesV b),.u,.ptr σ.length 0,.i .i64 0,.ptr (σ.length + 1) 0,.ptr (σ.length + 2) 0,.i .i64 v,.u,.u,.u,.u,.u,.u,.u,.u,.u,.u,.u,.u,.u,.u,.u,.u,.u,.u,.u,.u,.u,.u,.u,.u,.u,.u,.u,.u,.u,.u,.u,.u,.u,.u,.u,.u,.u,.u,.u,.u,.u,.u,.u,.u,.u,.u,.u,.u,.u,.u,.u,.u,.u,.u,.u,.u,.u,.u,.u,.u,.u,.u,.u,.u,.u,.u,.u,.u,.u,.u,.u,.u,.u,.u,.u,.u,.u,.u,.u,.u,.u,.u,.u,.u,.u,.u,.u,.u,.u,.u,.u,.u,.u,.u,.u,.u,.u]) ?_ (by repeat first | exact .nil | refine .cons (.refl _) ?_ | refine .cons (.forget _) ?_))
 clear hR R
 refine PWc.cut fun R hR => ?_
 obtain ⟨pv,⟨b9,c9⟩,e9⟩ : ∃ v r,(Rb.mk b8 c8).text = (v,r) := ⟨_,_,rfl⟩
 have d9 := rbText_drop ⟨b8,c8⟩; rw [e9] at d9
 simp only at d9
 simp only [VV,Int.reduceBEq,Int.reduceBNe,pexec,xexec,binV,Nat.reduceAdd,Nat.reduceSub,Nat.reduceLeDiff,Nat.reduceEqDiff,Int.reduceToNat,reduceIte,reduceCtorEq]
 refine call_eq (rbText_at e9 (by omega)) rfl ?_
 simp only [VV,Int.reduceBEq,Int.reduceBNe,pexec,xexec,binV,Nat.reduceAdd,Nat.reduceSub,Nat.reduceLeDiff,Nat.reduceEqDiff,Int.reduceToNat,reduceIte,reduceCtorEq]
 refine hR _ (PWc.cvs (fr' := [.sl 1 (bytesV b),.u,.ptr σ.length 0,.i .i64 0,.ptr (σ.length + 1) 0,.ptr (σ.length + 2) 0,.i .i64 v,.u,.u,.u,.u,.u,.u,.u,.u,.u,.u,.u,.u,.u,.u,.u,.u,.u,.u,.u,.u,.u,.u,.u,.u,.u,.u,.u,.u,.u,.u,.u,.u,.u,.u,.u,.u,.u,.u,.u,.u,.u,.u,.u,.u,.u,.u,.u,.u,.u,.u,.u,.u,.u,.u,.u,.u,.u,.u,.u,.u,.u,.u,.u,.u,.u,.u,.u,.u,.u,.u,.u,.u,.u,.u,.u,.u,.u,.u,.u,.u,.u,.u,.u,.u,.u,.u,.u,.u,.u,.u,.u,.u,.u,.u,.u,.u,.u]) ?_ (by repeat first | exact .nil | refine .cons (.refl _) ?_ | refine .cons (.forget _) ?_))
 clear hR R
 refine PWc.cut fun R hR => ?_
 obtain ⟨nx,⟨b10,c10⟩,e10⟩ : ∃ v r,(Rb.mk b9 c9).text = (v,r) := ⟨_,_,rfl⟩
 have d10 := rbText_drop ⟨b9,c9⟩; rw [e10] at d10
 simp only at d10
 simp only [VV,Int.reduceBEq,Int.reduceBNe,pexec,xexec,binV,Nat.reduceAdd,Nat.reduceSub,Nat.reduceLeDiff,Nat.reduceEqDiff,Int.reduceToNat,reduceIte,reduceCtorEq]
 refine call_eq (rbText_at e10 (by omega)) rfl ?_
 simp only [VV,Int.reduceBEq,Int.reduceBNe,pexec,xexec,binV,Nat.reduceAdd,Nat.reduceSub,Nat.reduceLeDiff,Nat.reduceEqDiff,Int.reduceToNat,reduceIte,reduceCtorEq]
 refine hR _ (PWc.cvs (fr' := [.sl 1 (bytesV b),.u,.ptr σ.length 0,.i .i64 0,.ptr (σ.length + 1) 0,.ptr (σ.length + 2) 0,.i .i64 v,.u,.u,.u,.u,.u,.u,.u,.u,.u,.u,.u,.u,.u,.u,.u,.u,.u,.u,.u,.u,.u,.u,.u,.u,.u,.u,.u,.u,.u,.u,.u,.u,.u,.u,.u,.u,.u,.u,.u,.u,.u,.u,.u,.u,.u,.u,.u,.u,.u,.u,.u,.u,.u,.u,.u,.u,.u,.u,.u,.u,.u,.u,.u,.u,.u,.u,.u,.u,.u,.u,.u,.u,.u,.u,.u,.u,.u,.u,.u,.u,.u,.u,.u,.u,.u,.u,.u,.u,.u,.u,.u,.u,.u,.u,.u,.u,.u]) ?_ (by repeat first | exact .nil | refine .cons (.refl _) ?_ | refine .cons (.forget _) ?_))
 clear hR R
 refine PWc.cut fun R hR => ?_
 have tail : ∀ (x : Opr) (b' : List UInt8) (c' : Bool) {fr : List V} {s0 : Store},x.small → b'.length < 2 ^ 30 → readOp b = (x,v,⟨b',c'⟩) → Wk Tryz.prog σ.length fr s0 ([.sl 1 (bytesV b),.u,.ptr σ.length 0,.i .i64 0,.ptr (σ.length + 1) 0,.ptr (σ.length + 2) 0,.i .i64 v,.u,.u,.u,.u,.u,.u,.u,.u,.u,.u,.u,.u,.u,.u,.u,.u,.u,.u,.u,.u,.u,.u,.u,.u,.u,.u,.u,.u,.u,.u,.u,.u,.u,.u,.u,.u,.u,.u,.u,.u,.u,.u,.u,.u,.u,.u,.u,.u,.u,.u,.u,.u,.u,.u,.u,.u,.u,.u,.u,.u,.u,.u,.u,.u,.u,.u,.u,.u,.u,.u,.u,.u,.u,.u,.u,.u,.u,.u,.u,.u,.u,.u,.u,.u,.u,.u,.u,.u,.u,.u,.u,.u,.u,.u,.u,.u,.u]) (σ ++ [.box 33 [.i .i64 0,.i .i64 0,.i .i64 0,.i .i64 0,.nil,.nil,.s [],.s [],.s [],.s [],.i .i64 0,.i .i64 0,.nil],.box 110 [.sl 1 (bytesV b'),.b c'],.box 33 x.cells]) → R ⟨fr,s0⟩ := by
  intro x b' c' fr s0 hx hb' hro hc
  have e : Bt.decode b = if c' = true ∨ 0 < b'.length ∨ v ≠ 1 then (noOp,12) else if (encode x).2 ≠ 0 ∨ (encode x).1 ≠ b then (noOp,12) else (x,0) := by
   simp only [Bt.decode,hro]
  refine hR _ (PWc.wk hc (wpc_sound ?_))
  clear hR R hc
  simp only [Opr.cells,Stamp.cells,En.cells,List.cons_append,List.nil_append,V.pure,bytesV_length,VV,Int.reduceBEq,Int.reduceBNe,pexec,xexec,binV,Nat.reduceAdd,Nat.reduceSub,Nat.reduceLeDiff,Nat.reduceEqDiff,Int.reduceToNat,reduceIte,reduceCtorEq]
  refine ⟨fun h => ?_,fun h => ?_⟩
  ·have h1 : c' = true ∨ 0 < b'.length ∨ v ≠ 1 := by
    cases c' <;> simp at h ⊢ <;> omega
   rw [if_pos h1] at e
   refine ret_cvs (ys := [.agg noOp.cells,.i .i64 12]) hcl (.inr rfl) (by simp only [resVs,resV,W]; rfl) ?_ (by simp only [noOp,noEn,Opr.cells,Stamp.cells,En.cells,List.map_nil,List.cons_append,List.nil_append,LW]) ⟨by rw [e]; rfl,rfl⟩
   refine .cons (Cv.aggs ?_) (.cons (.refl _) .nil)
   simp only [noOp,noEn,Opr.cells,Stamp.cells,En.cells,List.map_nil,List.cons_append,List.nil_append]
   repeat first | exact .nil | refine .cons (.refl _) ?_ | refine .cons (.nil _) ?_
  ·have h1 : ¬ (c' = true ∨ 0 < b'.length ∨ v ≠ 1) := by
    cases c' <;> simp at h ⊢ <;> omega
   rw [if_neg h1] at e
   refine call_eq (encode_pc x hx _) rfl ?_
   simp only [Opr.cells,Stamp.cells,En.cells,List.cons_append,List.nil_append,V.pure,VV,Int.reduceBEq,Int.reduceBNe,pexec,xexec,binV,Nat.reduceAdd,Nat.reduceSub,Nat.reduceLeDiff,Nat.reduceEqDiff,Int.reduceToNat,reduceIte,reduceCtorEq]
   refine callg_eq (by simp only [VV,Int.reduceBEq,Int.reduceBNe,pexec,xexec,binV,Nat.reduceAdd,Nat.reduceSub,Nat.reduceLeDiff,Nat.reduceEqDiff,Int.reduceToNat,reduceIte,reduceCtorEq] <;> rfl) (fun _ => bytesEqual_pc (encode x).1 b _) rfl ?_
   simp only [Opr.cells,Stamp.cells,En.cells,List.cons_append,List.nil_append,V.pure,VV,Int.reduceBEq,Int.reduceBNe,pexec,xexec,binV,Nat.reduceAdd,Nat.reduceSub,Nat.reduceLeDiff,Nat.reduceEqDiff,Int.reduceToNat,reduceIte,reduceCtorEq]
   refine ⟨fun h => ?_,fun h => ?_⟩
   ·have h2 : (encode x).2 ≠ 0 ∨ (encode x).1 ≠ b := by simpa using h
    rw [if_pos h2] at e
    refine ret_cvs (ys := [.agg noOp.cells,.i .i64 12]) hcl (.inr rfl) (by simp only [resVs,resV,W]; rfl) ?_ (by simp only [noOp,noEn,Opr.cells,Stamp.cells,En.cells,List.map_nil,List.cons_append,List.nil_append,LW]) ⟨by rw [e]; rfl,rfl⟩
    refine .cons (Cv.aggs ?_) (.cons (.refl _) .nil)
    simp only [noOp,noEn,Opr.cells,Stamp.cells,En.cells,List.map_nil,List.cons_append,List.nil_append]
    repeat first | exact .nil | refine .cons (.refl _) ?_ | refine .cons (.nil _) ?_
   ·have h2 : ¬ ((encode x).2 ≠ 0 ∨ (encode x).1 ≠ b) := by simpa using h
    rw [if_neg h2] at e
    refine ret_end hcl (.inr rfl) (by simp only [resVs,resV,W]; rfl) (by simp only [LW]) ⟨?_,rfl⟩
    rw [e]
    rfl
 have p8 := parse_small ((Rb.mk b7 c7).text.1)
 rw [show (parse ((Rb.mk b7 c7).text.1)).1 = src from congrArg Prod.fst e8] at p8
 simp only [VV,Int.reduceBEq,Int.reduceBNe,pexec,xexec,binV,Nat.reduceAdd,Nat.reduceSub,Nat.reduceLeDiff,Nat.reduceEqDiff,Int.reduceToNat,reduceIte,reduceCtorEq]
 refine ⟨fun h => ?_,fun h => ?_⟩
 ·have hk : k = 1 := by simpa using h
  obtain ⟨tg,⟨b11,c11⟩,e11⟩ : ∃ v r,(Rb.mk b10 c10).fragment = (v,r) := ⟨_,_,rfl⟩
  have d11 := rbFragment_drop ⟨b10,c10⟩; rw [e11] at d11
  have p11 := parse_small ((Rb.mk b10 c10).text.1)
  rw [show (parse ((Rb.mk b10 c10).text.1)).1 = tg from congrArg Prod.fst e11] at p11
  obtain ⟨au,⟨b12,c12⟩,e12⟩ : ∃ v r,(Rb.mk b11 c11).text = (v,r) := ⟨_,_,rfl⟩
  have d12 := rbText_drop ⟨b11,c11⟩; rw [e12] at d12
  obtain ⟨pr,⟨b13,c13⟩,e13⟩ : ∃ v r,(Rb.mk b12 c12).text = (v,r) := ⟨_,_,rfl⟩
  have d13 := rbText_drop ⟨b12,c12⟩; rw [e13] at d13
  obtain ⟨cr,⟨b14,c14⟩,e14⟩ : ∃ v r,(Rb.mk b13 c13).number 4 = (v,r) := ⟨_,_,rfl⟩
  have d14 := rb_drop ⟨b13,c13⟩ 4; rw [e14] at d14
  obtain ⟨og,⟨b15,c15⟩,e15⟩ : ∃ v r,(Rb.mk b14 c14).number 1 = (v,r) := ⟨_,_,rfl⟩
  have d15 := rb_drop ⟨b14,c14⟩ 1; rw [e15] at d15
  simp only at d11 d12 d13 d14 d15
  refine call_eq (rbFragment_at e11 (by omega)) rfl ?_
  simp only [VV,Int.reduceBEq,Int.reduceBNe,pexec,xexec,binV,Nat.reduceAdd,Nat.reduceSub,Nat.reduceLeDiff,Nat.reduceEqDiff,Int.reduceToNat,reduceIte,reduceCtorEq]
  refine call_eq (rbText_at e12 (by omega)) rfl ?_
  simp only [VV,Int.reduceBEq,Int.reduceBNe,pexec,xexec,binV,Nat.reduceAdd,Nat.reduceSub,Nat.reduceLeDiff,Nat.reduceEqDiff,Int.reduceToNat,reduceIte,reduceCtorEq]
  refine call_eq (rbText_at e13 (by omega)) rfl ?_
  simp only [VV,Int.reduceBEq,Int.reduceBNe,pexec,xexec,binV,Nat.reduceAdd,Nat.reduceSub,Nat.reduceLeDiff,Nat.reduceEqDiff,Int.reduceToNat,reduceIte,reduceCtorEq]
  refine call_eq (rbNumber_at 4 e14 (by omega) (by decide)) rfl ?_
  simp only [VV,Int.reduceBEq,Int.reduceBNe,pexec,xexec,binV,Nat.reduceAdd,Nat.reduceSub,Nat.reduceLeDiff,Nat.reduceEqDiff,Int.reduceToNat,reduceIte,reduceCtorEq]
  refine call_eq (rbNumber_at 1 e15 (by omega) (by decide)) rfl ?_
  simp only [VV,Int.reduceBEq,Int.reduceBNe,pexec,xexec,binV,Nat.reduceAdd,Nat.reduceSub,Nat.reduceLeDiff,Nat.reduceEqDiff,Int.reduceToNat,reduceIte,reduceCtorEq]
  refine tail ⟨⟨t,f,m⟩,k,⟨src,tg,pv,nx,au,pr,cr,og⟩,ns⟩ b15 c15 ⟨⟨p8.1,p8.2.1,p11.1,p11.2.1,by simp only; omega,by simp only; omega,fun y hy => ?_⟩,by simp only; omega,by simp only; omega,by simp only; omega⟩ (by omega) ?_ (Wk.cvs (by repeat first | exact .nil | refine .cons (.refl _) ?_ | refine .cons (.forget _) ?_))
  ·rcases List.mem_append.1 hy with hy | hy
   ·exact p8.2.2 y hy
   ·exact p11.2.2 y hy
  ·simp only [readOp,e1,e2,e3,e4,e5,e6,Int.toNat_natCast,e7,e8,e9,e10,e11,e12,e13,e14,e15,hk,if_true]
 ·have hk : ¬ k = 1 := by simpa using h
  have hw := Wk.cell (P := Tryz.prog) (n := σ.length) (xs := [.sl 1 (bytesV b),.u,.ptr σ.length 0,.i .i64 0,.ptr (σ.length + 1) 0,.ptr (σ.length + 2) 0,.i .i64 v,.u,.u,.u,.u,.u,.u,.u,.u,.u,.u,.u,.u,.u,.u,.u,.u,.u,.u,.u,.u,.u,.u,.u,.u,.u,.u,.u,.u,.u,.u,.u,.u,.u,.u,.u,.u,.u,.u,.u,.u,.u,.u,.u,.u,.u,.u,.u,.u,.u,.u,.u,.u,.u,.u,.u,.u,.u,.u,.u,.u,.u,.u,.u,.u,.u,.u,.u,.u,.u,.u,.u,.u,.u,.u,.u,.u,.u,.u,.u,.u,.u,.u,.u,.u,.u,.u,.u,.u,.u,.u,.u,.u,.u,.u,.u,.u,.u]) (σ := σ ++ [.box 33 [.i .i64 0,.i .i64 0,.i .i64 0,.i .i64 0,.nil,.nil,.s [],.s [],.s [],.s [],.i .i64 0,.i .i64 0,.nil],.box 110 [.sl 1 (bytesV b10),.b c10],.box 33 [.i .i64 t,.i .i64 f,.i .i64 m,.i .i64 k,.sl 3 (src.map It.cells),.nil,.s pv,.s nx,.s [],.s [],.i .i64 0,.i .i64 0,.sl 1 (ns.map iRow)]]) (id := σ.length + 2) (T := 33) (j := 5) (x := .nil) (y := .sl 3 []) (cs := [.i .i64 t,.i .i64 f,.i .i64 m,.i .i64 k,.sl 3 (src.map It.cells),.nil,.s pv,.s nx,.s [],.s [],.i .i64 0,.i .i64 0,.sl 1 (ns.map iRow)]) (by simp) rfl (fun w μ v _ h => by rw [h.inv_nil]; exact .sl0 _)
  simp only [base_set,List.set_cons_zero,List.set_cons_succ] at hw
  refine tail ⟨⟨t,f,m⟩,k,⟨src,[],pv,nx,[],[],0,0⟩,ns⟩ b10 c10 ⟨⟨p8.1,p8.2.1,by simp,by simp [textLen],by simp only; omega,by simp only; omega,fun y hy => ?_⟩,by simp,by simp,by simp only; omega⟩ (by omega) ?_ ((Wk.cvs (by repeat first | exact .nil | refine .cons (.refl _) ?_ | refine .cons (.forget _) ?_)).trans hw)
  ·simp only [List.append_nil] at hy
   exact p8.2.2 y hy
  ·simp only [readOp,e1,e2,e3,e4,e5,e6,Int.toNat_natCast,e7,e8,e9,e10,hk,if_false]
def rsr (S : Store) (a : Nat) (r : Rb) : Store := S.set a (.box 115 [.sl 1 (bytesV r.b),.b r.bad])
theorem rsr_get {S : Store} {a : Nat} {r : Rb} (h : a < S.length) : (rsr S a r)[a]? = some (.box 115 [.sl 1 (bytesV r.b),.b r.bad]) := by
 simp [rsr,h]
theorem rsr_set {S : Store} {a : Nat} {r : Rb} {b : List UInt8} {x : Bool} : (rsr S a r).set a (.box 115 [.sl 1 (bytesV b),.b x]) = rsr S a ⟨b,x⟩ := by
 simp [rsr]
theorem loop88 {m : Nat} {σ : Store} {K : Exit → St → Prop} (q0 q1 : V) (l : List UInt8) (hlen : l.length ≤ 4) : ∀ (rest pre : List UInt8) (n : Nat),l = pre ++ rest → n < 256 ^ pre.length →
  (∀ j2 j3 j4 j6 j7 j8 j9 j10 j11 j12 j13 j14 j15 j16 j17 j18 j19 j20 j21 j22 j23 j24 j25 j26 j27 j28 j29 j30 j31 j32 j33 j34 j35 j36 j37 j38 j39 j40 j41 j42 j43 j44,K (.exit 0) ⟨[q0,q1,j2,j3,j4,.i .i64 (rest.foldl (fun a x => a * 256 + x.toNat) (n : Int)),j6,j7,j8,j9,j10,j11,j12,j13,j14,j15,j16,j17,j18,j19,j20,j21,j22,j23,j24,j25,j26,j27,j28,j29,j30,j31,j32,j33,j34,j35,j36,j37,j38,j39,j40,j41,j42,j43,j44],σ⟩) →
  Rnd m Tryz.prog p88_0 K (rest.length + 1) ⟨[q0,q1,.u,.u,.u,.i .i64 (n : Int),.u,.u,.u,.u,.u,.u,.u,.u,.u,.u,.u,.u,.u,.u,.u,.u,.u,.sl 1 (bytesV l),.i .i64 l.length,.i .i64 pre.length,.u,.u,.u,.u,.u,.u,.u,.u,.u,.u,.u,.u,.u,.u,.u,.u,.u,.u,.u],σ⟩ := by
 intro rest
 induction rest with
 | nil =>
  intro pre n he hn h1
  have he : l = pre := by simpa using he
  subst he
  refine rnd_step fun R hR => ?_
  simp only [p88_0,VV,Int.reduceBEq,Int.reduceBNe,pexec,xexec,binV,Nat.reduceAdd,Nat.reduceSub,Nat.reduceLeDiff,Nat.reduceEqDiff,Int.reduceToNat,reduceIte,reduceCtorEq]
  exact ⟨fun h => by simp at h,fun _ => h1 ..⟩
 | cons c rest ih =>
  intro pre n he hn h1
  subst he
  have hw : IntKind.i64.wrap ((pre.length : Int) + 1) = (((pre ++ [c]).length : Nat) : Int) := by
   rw [wrap_succ (by simp at hlen; omega)]; simp
  have hat : at2 (bytesV (pre ++ c :: rest)) pre.length 0 = some (.i .u8 c.toNat) := by simp [at2,bytesV]
  have hp : n < 2 ^ 32 := by
   have h1 : pre.length ≤ 3 := by simp at hlen; omega
   have h2 : 256 ^ pre.length ≤ 256 ^ 3 := Nat.pow_le_pow_right (by decide) h1
   omega
  have hcc : c.toNat < 256 := c.toNat_lt
  have e := shl_or n c.toNat (by omega) hcc
  refine rnd_step fun R hR => ?_
  simp only [p88_0,Int.toNat_natCast,bytesV_length,hat,hw,e,VV,Int.reduceBEq,Int.reduceBNe,pexec,xexec,binV,Nat.reduceAdd,Nat.reduceSub,Nat.reduceLeDiff,Nat.reduceEqDiff,Int.reduceToNat,reduceIte,reduceCtorEq]
  refine ⟨fun _ => ⟨⟨by omega,by simp; omega⟩,by decide,?_⟩,fun h => by simp at h <;> omega⟩
  refine hR _ (rnd_cvs (by repeat first | exact .nil | refine .cons (.refl _) ?_ | refine .cons (.forget _) ?_) (ih (pre ++ [c]) (n * 256 + c.toNat) (by simp) (by simp only [List.length_append,List.length_cons,List.length_nil,Nat.pow_succ]; omega) ?_))
  have e2 : ((n * 256 + c.toNat : Nat) : Int) = (n : Int) * 256 + (c.toNat : Int) := by omega
  rw [e2]
  exact h1
theorem rrNumber_pc (S : Store) (a : Nat) (ha : a < S.length) (r : Rb) (hr : r.b.length < 2 ^ 60) (n : Nat) (hn : n ≤ 4) :
  PC Tryz.prog 88 [.ptr a 0,.i .i64 n] (rsr S a r) (fun v σ' => v = .i .i64 (r.rnumber n).1 ∧ σ' = rsr S a (r.rnumber n).2) := by
 refine PC.intro Tryz.func88 c88 fun hcl hwf => wpc_sound ?_
 simp only [p88,List.length_cons,List.length_nil,List.replicate,List.cons_append,List.nil_append,Nat.reduceAdd,Nat.reduceSub]
 by_cases h : r.b.length < n
 ·have hd : decide ((r.b.length : Int) < (n : Int)) = true := by simp; omega
  have e : r.rnumber n = (0,⟨r.b,true⟩) := by simp only [Rb.rnumber,if_pos h]
  rw [e]
  simp only [rsr_get ha,rsr_set,bytesV_length,hd,VV,Int.reduceBEq,Int.reduceBNe,pexec,xexec,binV,Nat.reduceAdd,Nat.reduceSub,Nat.reduceLeDiff,Nat.reduceEqDiff,Int.reduceToNat,reduceIte,reduceCtorEq]
  exact ret_wk (.inr rfl) rfl (Wk.refl _ _) rfl ⟨rfl,rfl⟩
 ·have hd : decide ((r.b.length : Int) < (n : Int)) = false := by simp; omega
  have e : r.rnumber n = (beNat (r.b.take n),⟨r.b.drop n,r.bad⟩) := by simp only [Rb.rnumber,if_neg h]
  have e2 : List.take (r.b.length - n) (List.drop n (bytesV r.b)) = bytesV (r.b.drop n) := by
   rw [bytesV_drop]; exact List.take_of_length_le (by simp [bytesV])
  have hl : (r.b.take n).length ≤ 4 := by simp; omega
  rw [e]
  simp only [rsr_get ha,bytesV_length,bytesV_take,hd,VV,Int.reduceBEq,Int.reduceBNe,pexec,xexec,binV,Nat.reduceAdd,Nat.reduceSub,Nat.reduceLeDiff,Nat.reduceEqDiff,Int.reduceToNat,reduceIte,reduceCtorEq]
  refine ⟨⟨by omega,by omega,by omega⟩,?_⟩
  refine PWc.rnd_cvs (fr' := [.ptr a 0,.i .i64 n,.u,.u,.u,.i .i64 ((0 : Nat) : Int),.u,.u,.u,.u,.u,.u,.u,.u,.u,.u,.u,.u,.u,.u,.u,.u,.u,.sl 1 (bytesV (r.b.take n)),.i .i64 (r.b.take n).length,.i .i64 (([] : List UInt8).length : Nat),.u,.u,.u,.u,.u,.u,.u,.u,.u,.u,.u,.u,.u,.u,.u,.u,.u,.u,.u]) (by repeat first | exact .nil | refine .cons (.refl _) ?_ | refine .cons (.forget _) ?_) ((r.b.take n).length + 1) (loop88 (.ptr a 0) (.i .i64 n) (r.b.take n) hl (r.b.take n) [] 0 rfl (by decide) ?_)
  intros
  simp only [rsr_get ha,bytesV_length,e2,rsr_set,VV,Int.reduceBEq,Int.reduceBNe,pexec,xexec,binV,Nat.reduceAdd,Nat.reduceSub,Nat.reduceLeDiff,Nat.reduceEqDiff,Int.reduceToNat,reduceIte,reduceCtorEq]
  exact ⟨⟨by omega,by omega,by omega⟩,ret_wk (.inr rfl) rfl (Wk.refl _ _) rfl ⟨rfl,rfl⟩⟩
theorem rnumber_bound (r : Rb) (n : Nat) (hn : n ≤ 4) : 0 ≤ (r.rnumber n).1 ∧ (r.rnumber n).1 < 2 ^ (8 * n) := by
 by_cases h : r.b.length < n
 ·simp only [Rb.rnumber,if_pos h]
  exact ⟨by decide,by have := Nat.two_pow_pos (8 * n); exact_mod_cast this⟩
 ·have := number_bound r n hn
  simp only [Rb.number,Rb.take,if_neg h] at this
  simpa only [Rb.rnumber,if_neg h] using this
theorem rr_drop (r : Rb) (n : Nat) : (r.rnumber n).2.b.length ≤ r.b.length := by
 simp only [Rb.rnumber]; split <;> simp
theorem rrText_pc (S : Store) (a : Nat) (ha : a < S.length) (r : Rb) (hr : r.b.length < 2 ^ 60) :
  PC Tryz.prog 90 [.ptr a 0] (rsr S a r) (fun v σ' => v = .s r.rtext.1 ∧ σ' = rsr S a r.rtext.2) := by
 refine PC.intro Tryz.func90 c90 fun hcl hwf => wpc_sound ?_
 simp only [p90,List.length_cons,List.length_nil,List.replicate,List.cons_append,List.nil_append,Nat.reduceAdd,Nat.reduceSub]
 simp only [VV,Int.reduceBEq,Int.reduceBNe,pexec,xexec,binV,Nat.reduceAdd,Nat.reduceSub,Nat.reduceLeDiff,Nat.reduceEqDiff,Int.reduceToNat,reduceIte,reduceCtorEq]
 refine call_eq (rrNumber_pc S a ha r hr 4 (by decide)) rfl ?_
 have hb := rnumber_bound r 4 (by decide)
 have hd := rr_drop r 4
 have e : r.rtext = if (r.rnumber 4).2.bad = true ∨ ((r.rnumber 4).2.b.length : Int) < (r.rnumber 4).1 then ([],⟨(r.rnumber 4).2.b,true⟩) else ((r.rnumber 4).2.b.take (r.rnumber 4).1.toNat,⟨(r.rnumber 4).2.b.drop (r.rnumber 4).1.toNat,(r.rnumber 4).2.bad⟩) := rfl
 rw [e]
 generalize r.rnumber 4 = p at hb hd
 obtain ⟨n,q⟩ := p
 simp only at hb hd
 obtain ⟨m,rfl⟩ : ∃ m : Nat,n = m := ⟨n.toNat,by omega⟩
 simp only [rsr_get ha,rsr_set,bytesV_length,VV,Int.reduceBEq,Int.reduceBNe,pexec,xexec,binV,Nat.reduceAdd,Nat.reduceSub,Nat.reduceLeDiff,Nat.reduceEqDiff,Int.reduceToNat,reduceIte,reduceCtorEq]
 refine ⟨fun h => ?_,fun h => ?_⟩
 ·have h1 : q.bad = true ∨ (q.b.length : Int) < (m : Int) := by simpa using h
  simp only [if_pos h1]
  exact ret_wk (.inr rfl) rfl (Wk.refl _ _) rfl ⟨rfl,rfl⟩
 ·have h1 : ¬ (q.bad = true ∨ (q.b.length : Int) < (m : Int)) := by simpa using h
  have e2 : List.take (q.b.length - m) (List.drop m (bytesV q.b)) = bytesV (q.b.drop m) := by
   rw [bytesV_drop]; exact List.take_of_length_le (by simp [bytesV])
  simp only [if_neg h1,Int.toNat_natCast]
  simp only [bytesV_take,bytesOf_bytesV,rsr_get ha,bytesV_length,e2,rsr_set,VV,Int.reduceBEq,Int.reduceBNe,pexec,xexec,binV,Nat.reduceAdd,Nat.reduceSub,Nat.reduceLeDiff,Nat.reduceEqDiff,Int.reduceToNat,reduceIte,reduceCtorEq]
  exact ⟨⟨by omega,by omega,by omega⟩,⟨by omega,by omega,by omega⟩,ret_wk (.inr rfl) rfl (Wk.refl _ _) rfl ⟨rfl,rfl⟩⟩
theorem rrText_drop (r : Rb) : r.rtext.2.b.length ≤ r.b.length ∧ r.rtext.1.length ≤ r.b.length := by
 have hd := rr_drop r 4
 have e : r.rtext = if (r.rnumber 4).2.bad = true ∨ ((r.rnumber 4).2.b.length : Int) < (r.rnumber 4).1 then ([],⟨(r.rnumber 4).2.b,true⟩) else ((r.rnumber 4).2.b.take (r.rnumber 4).1.toNat,⟨(r.rnumber 4).2.b.drop (r.rnumber 4).1.toNat,(r.rnumber 4).2.bad⟩) := rfl
 rw [e]
 split
 ·exact ⟨hd,by simp⟩
 ·simp only [List.length_take,List.length_drop]; omega
theorem rrFragment_drop (r : Rb) : r.rfragment.2.b.length ≤ r.b.length := (rrText_drop r).1
theorem rrNumbers_drop : ∀ (n : Nat) (r : Rb),(Rb.rnumbers n r).2.b.length ≤ r.b.length ∧ (Rb.rnumbers n r).1.length ≤ n
 | 0,r => ⟨Nat.le_refl _,Nat.le_refl _⟩
 | n + 1,r => by
  have h1 := rr_drop r 2
  have h2 := rrNumbers_drop n (r.rnumber 2).2
  simp only [Rb.rnumbers]
  split
  ·exact ⟨Nat.le_refl _,by simp⟩
  ·simp only [List.length_cons]
   exact ⟨by omega,by omega⟩
theorem rrFragment_pc (S : Store) (a : Nat) (ha : a < S.length) (r : Rb) (hr : r.b.length < 2 ^ 30) :
  PC Tryz.prog 89 [.ptr a 0] (rsr S a r) (fun v σ' => v = .sl 3 (r.rfragment.1.map It.cells) ∧ σ' = rsr S a r.rfragment.2) := by
 refine PC.intro Tryz.func89 c89 fun hcl hwf => wpc_sound ?_
 have hd := rrText_drop r
 simp only [p89,List.length_cons,List.length_nil,List.replicate,List.cons_append,List.nil_append,Nat.reduceAdd,Nat.reduceSub]
 simp only [VV,Int.reduceBEq,Int.reduceBNe,pexec,xexec,binV,Nat.reduceAdd,Nat.reduceSub,Nat.reduceLeDiff,Nat.reduceEqDiff,Int.reduceToNat,reduceIte,reduceCtorEq]
 refine call_eq (rrText_pc S a ha r (by omega)) rfl ?_
 simp only [VV,Int.reduceBEq,Int.reduceBNe,pexec,xexec,binV,Nat.reduceAdd,Nat.reduceSub,Nat.reduceLeDiff,Nat.reduceEqDiff,Int.reduceToNat,reduceIte,reduceCtorEq]
 refine call_eq (r3Parse_pc r.rtext.1 (by omega) _) rfl ?_
 simp only [rsr_get ha,rsr_set,VV,Int.reduceBEq,Int.reduceBNe,pexec,xexec,binV,Nat.reduceAdd,Nat.reduceSub,Nat.reduceLeDiff,Nat.reduceEqDiff,Int.reduceToNat,reduceIte,reduceCtorEq]
 exact ret_wk (.inr rfl) rfl (Wk.refl _ _) rfl ⟨rfl,rfl⟩
theorem rsr_at {σ : Store} {x y : Ob} {ext : Store} {r : Rb} : rsr (σ ++ (x :: y :: ext)) (σ.length + 1) r = σ ++ (x :: .box 115 [.sl 1 (bytesV r.b),.b r.bad] :: ext) := by simp [rsr]
theorem rrNumber_at {σ : Store} {x : Ob} {ext : Store} {b b' : List UInt8} {c c' : Bool} {v : Int} (n : Nat) (h : (Rb.mk b c).rnumber n = (v,⟨b',c'⟩)) (hr : b.length < 2 ^ 60) (hn : n ≤ 4) :
  PC Tryz.prog 88 [.ptr (σ.length + 1) 0,.i .i64 n] (σ ++ (x :: .box 115 [.sl 1 (bytesV b),.b c] :: ext)) (fun w σ' => w = .i .i64 v ∧ σ' = σ ++ (x :: .box 115 [.sl 1 (bytesV b'),.b c'] :: ext)) := by
 have := rrNumber_pc (σ ++ (x :: .dead :: ext)) (σ.length + 1) (by simp) ⟨b,c⟩ hr n hn
 rw [h] at this
 simpa only [rsr_at] using this
theorem rrText_at {σ : Store} {x : Ob} {ext : Store} {b b' : List UInt8} {c c' : Bool} {v : List UInt8} (h : (Rb.mk b c).rtext = (v,⟨b',c'⟩)) (hr : b.length < 2 ^ 60) :
  PC Tryz.prog 90 [.ptr (σ.length + 1) 0] (σ ++ (x :: .box 115 [.sl 1 (bytesV b),.b c] :: ext)) (fun w σ' => w = .s v ∧ σ' = σ ++ (x :: .box 115 [.sl 1 (bytesV b'),.b c'] :: ext)) := by
 have := rrText_pc (σ ++ (x :: .dead :: ext)) (σ.length + 1) (by simp) ⟨b,c⟩ hr
 rw [h] at this
 simpa only [rsr_at] using this
theorem rrFragment_at {σ : Store} {x : Ob} {ext : Store} {b b' : List UInt8} {c c' : Bool} {v : List It} (h : (Rb.mk b c).rfragment = (v,⟨b',c'⟩)) (hr : b.length < 2 ^ 30) :
  PC Tryz.prog 89 [.ptr (σ.length + 1) 0] (σ ++ (x :: .box 115 [.sl 1 (bytesV b),.b c] :: ext)) (fun w σ' => w = .sl 3 (v.map It.cells) ∧ σ' = σ ++ (x :: .box 115 [.sl 1 (bytesV b'),.b c'] :: ext)) := by
 have := rrFragment_pc (σ ++ (x :: .dead :: ext)) (σ.length + 1) (by simp) ⟨b,c⟩ hr
 rw [h] at this
 simpa only [rsr_at] using this
theorem loop43 {n0 : Nat} {σ : Store} {K : Exit → St → Prop} (R0 : Ob) (t f m k : Int) : ∀ (n : Nat) (b : List UInt8) (c : Bool) (l : List Int) (g : Nat),l.length + n < 256 → b.length < 2 ^ 40 →
  (∀ g,(∀ j0 j1 j3 j6 j7 j8 j9 j10 j11 j12 j13 j14 j15 j16 j17 j18 j19 j20 j21 j22 j23 j24 j25 j26 j27 j28 j29 j30 j31 j32 j33 j34 j35 j36 j37 j38 j39 j40 j41 j42 j43 j44 j45 j46 j47 j48 j49 j50 j51 j52 j53 j54 j55 j56 j57 j58 j59 j60 j61 j62 j63 j64 j65 j66 j67 j68 j69 j70 j71 j72 j73 j74 j75 j76 j77 j78 j79 j80 j81 j82 j83 j84 j85 j86 j87 j88 j89 j90 j91 j92 j93 j94 j95 j96 j97 j98 j99 j100 j101 j102 j103 j104,K (.exit 0) ⟨[j0,j1,.ptr σ.length 0,j3,.ptr (σ.length + 1) 0,.ptr (σ.length + 2) 0,j6,j7,j8,j9,j10,j11,j12,j13,j14,j15,j16,j17,j18,j19,j20,j21,j22,j23,j24,j25,j26,j27,j28,j29,j30,j31,j32,j33,j34,j35,j36,j37,j38,j39,j40,j41,j42,j43,j44,j45,j46,j47,j48,j49,j50,j51,j52,j53,j54,j55,j56,j57,j58,j59,j60,j61,j62,j63,j64,j65,j66,j67,j68,j69,j70,j71,j72,j73,j74,j75,j76,j77,j78,j79,j80,j81,j82,j83,j84,j85,j86,j87,j88,j89,j90,j91,j92,j93,j94,j95,j96,j97,j98,j99,j100,j101,j102,j103,j104],σ ++ [R0,.box 115 [.sl 1 (bytesV (Rb.rnumbers n ⟨b,c⟩).2.b),.b (Rb.rnumbers n ⟨b,c⟩).2.bad],.box 33 [.i .i64 t,.i .i64 f,.i .i64 m,.i .i64 k,.nil,.nil,.s [],.s [],.s [],.s [],.i .i64 0,.i .i64 0,.own (σ.length + 3) g],.row 3 1 8 g false ((l ++ (Rb.rnumbers n ⟨b,c⟩).1).map iRow)]⟩)) →
  Rnd n0 Tryz.prog p43_0 K (n + 1) ⟨[.u,.u,.ptr σ.length 0,.u,.ptr (σ.length + 1) 0,.ptr (σ.length + 2) 0,.i .i64 n,.u,.u,.u,.u,.u,.u,.u,.u,.u,.u,.u,.u,.u,.u,.u,.u,.u,.u,.u,.u,.u,.u,.u,.u,.u,.u,.u,.u,.u,.u,.u,.u,.u,.u,.u,.u,.u,.u,.u,.u,.u,.u,.u,.u,.u,.u,.u,.u,.u,.u,.u,.u,.u,.u,.u,.u,.u,.u,.u,.u,.u,.u,.u,.u,.u,.u,.u,.u,.u,.u,.u,.u,.u,.u,.u,.u,.u,.u,.u,.u,.u,.u,.u,.u,.u,.u,.u,.u,.u,.u,.u,.u,.u,.u,.u,.u,.u,.u],σ ++ [R0,.box 115 [.sl 1 (bytesV b),.b c],.box 33 [.i .i64 t,.i .i64 f,.i .i64 m,.i .i64 k,.nil,.nil,.s [],.s [],.s [],.s [],.i .i64 0,.i .i64 0,.own (σ.length + 3) g],.row 3 1 8 g false (l.map iRow)]⟩ := by
 intro n
 induction n with
 | zero =>
  intro b c l g he hb h1
  refine rnd_step fun R hR => ?_
  simp only [p43_0,VV,Int.reduceBEq,Int.reduceBNe,pexec,xexec,binV,Nat.reduceAdd,Nat.reduceSub,Nat.reduceLeDiff,Nat.reduceEqDiff,Int.reduceToNat,reduceIte,reduceCtorEq]
  simp only [Rb.rnumbers,List.append_nil] at h1
  exact ⟨fun h => by simp at h,fun _ => h1 ..⟩
 | succ n ih =>
  intro b c l g he hb h1
  obtain ⟨v,⟨b',c'⟩,e⟩ : ∃ v r,(Rb.mk b c).rnumber 2 = (v,r) := ⟨_,_,rfl⟩
  have d := rr_drop ⟨b,c⟩ 2; rw [e] at d
  simp only at d
  have hd : decide ((0 : Int) < ((n + 1 : Nat) : Int)) = true := by simp
  have hw : IntKind.i64.wrap (((n + 1 : Nat) : Int) - 1) = (n : Int) := by rw [IntWalk.i64_in _ (by omega)]; omega
  refine rnd_step fun R hR => ?_
  simp only [p43_0,hd,VV,Int.reduceBEq,Int.reduceBNe,pexec,xexec,binV,Nat.reduceAdd,Nat.reduceSub,Nat.reduceLeDiff,Nat.reduceEqDiff,Int.reduceToNat,reduceIte,reduceCtorEq]
  refine ⟨fun hc => ?_,fun hc => ?_⟩
  ·have hc0 : c = false := by simpa using hc
   subst hc0
   refine call_eq (rrNumber_at 2 e (by omega) (by decide)) rfl ?_
   simp only [hw,List.length_map,iRow_snoc,maxLen,VV,Int.reduceBEq,Int.reduceBNe,pexec,xexec,binV,Nat.reduceAdd,Nat.reduceSub,Nat.reduceLeDiff,Nat.reduceEqDiff,Int.reduceToNat,reduceIte,reduceCtorEq]
   have hll : l.length < 256 := by omega
   refine ⟨⟨by omega,by omega⟩,hR _ (rnd_cvs (by repeat first | exact .nil | refine .cons (.refl _) ?_ | refine .cons (.forget _) ?_) (ih b' c' (l ++ [v]) (g + 1) (by simp; omega) (by omega) ?_))⟩
   simp only [Rb.rnumbers,e,Bool.false_eq_true,if_false] at h1
   simpa only [List.append_assoc,List.cons_append,List.nil_append] using h1
  ·have hc0 : c = true := by simpa using hc
   subst hc0
   simp only [Rb.rnumbers,if_true,List.append_nil] at h1
   exact h1 ..
theorem rdec_nil {n : Nat} {xs : List V} {σ : Store} {b : List UInt8} {c : Bool} {t f m k : Int} : Wk Tryz.prog n xs (σ ++ [.box 33 [.i .i64 0,.i .i64 0,.i .i64 0,.i .i64 0,.nil,.nil,.s [],.s [],.s [],.s [],.i .i64 0,.i .i64 0,.nil],.box 115 [.sl 1 (bytesV b),.b c],.box 33 [.i .i64 t,.i .i64 f,.i .i64 m,.i .i64 k,.nil,.nil,.s [],.s [],.s [],.s [],.i .i64 0,.i .i64 0,.nil]]) xs (σ ++ [.box 33 [.i .i64 0,.i .i64 0,.i .i64 0,.i .i64 0,.nil,.nil,.s [],.s [],.s [],.s [],.i .i64 0,.i .i64 0,.nil],.box 115 [.sl 1 (bytesV b),.b c],.box 33 [.i .i64 t,.i .i64 f,.i .i64 m,.i .i64 k,.nil,.nil,.s [],.s [],.s [],.s [],.i .i64 0,.i .i64 0,.own (σ.length + 3) 0],.row 3 1 8 0 false (([] : List Int).map iRow)]) := by
 have := Wk.fieldnil (P := Tryz.prog) (n := n) (xs := xs) (id := σ.length + 2) (j := 12) (T := 33) (cs := [.i .i64 t,.i .i64 f,.i .i64 m,.i .i64 k,.nil,.nil,.s [],.s [],.s [],.s [],.i .i64 0,.i .i64 0,.nil])
  (σ := σ ++ [.box 33 [.i .i64 0,.i .i64 0,.i .i64 0,.i .i64 0,.nil,.nil,.s [],.s [],.s [],.s [],.i .i64 0,.i .i64 0,.nil],.box 115 [.sl 1 (bytesV b),.b c],.box 33 [.i .i64 t,.i .i64 f,.i .i64 m,.i .i64 k,.nil,.nil,.s [],.s [],.s [],.s [],.i .i64 0,.i .i64 0,.nil]]) ti_int (by simp) rfl
 simpa only [base_set,List.append_assoc,List.length_append,List.length_cons,List.length_nil,List.cons_append,List.nil_append,List.set_cons_zero,List.set_cons_succ,Nat.zero_add,Nat.reduceAdd,List.map_nil] using this
theorem rdec_own {n g : Nat} {xs : List V} {σ : Store} {b : List UInt8} {c : Bool} {t f m k : Int} {l : List Int} (hcl : Closed σ) (hn : n ≤ σ.length) (hx : AllLt (σ.length + 3) xs) : Wk Tryz.prog n xs (σ ++ [.box 33 [.i .i64 0,.i .i64 0,.i .i64 0,.i .i64 0,.nil,.nil,.s [],.s [],.s [],.s [],.i .i64 0,.i .i64 0,.nil],.box 115 [.sl 1 (bytesV b),.b c],.box 33 [.i .i64 t,.i .i64 f,.i .i64 m,.i .i64 k,.nil,.nil,.s [],.s [],.s [],.s [],.i .i64 0,.i .i64 0,.own (σ.length + 3) g],.row 3 1 8 g false (l.map iRow)]) xs (σ ++ [.box 33 [.i .i64 0,.i .i64 0,.i .i64 0,.i .i64 0,.nil,.nil,.s [],.s [],.s [],.s [],.i .i64 0,.i .i64 0,.nil],.box 115 [.sl 1 (bytesV b),.b c],.box 33 [.i .i64 t,.i .i64 f,.i .i64 m,.i .i64 k,.nil,.nil,.s [],.s [],.s [],.s [],.i .i64 0,.i .i64 0,.sl 1 (l.map iRow)]]) := by
 have w1 := Wk.share (P := Tryz.prog) (n := n) (xs := xs) (σ := σ ++ [.box 33 [.i .i64 0,.i .i64 0,.i .i64 0,.i .i64 0,.nil,.nil,.s [],.s [],.s [],.s [],.i .i64 0,.i .i64 0,.nil],.box 115 [.sl 1 (bytesV b),.b c],.box 33 [.i .i64 t,.i .i64 f,.i .i64 m,.i .i64 k,.nil,.nil,.s [],.s [],.s [],.s [],.i .i64 0,.i .i64 0,.own (σ.length + 3) g],.row 3 1 8 g false (l.map iRow)]) (id := σ.length + 3) (E := 3) (sz := 1) (by' := 8) (g := g) (sh := false) (rows := l.map iRow) (by simp)
 have w2 := Wk.cellOwn (P := Tryz.prog) (n := n) (xs := xs) (σ := σ ++ [.box 33 [.i .i64 0,.i .i64 0,.i .i64 0,.i .i64 0,.nil,.nil,.s [],.s [],.s [],.s [],.i .i64 0,.i .i64 0,.nil],.box 115 [.sl 1 (bytesV b),.b c],.box 33 [.i .i64 t,.i .i64 f,.i .i64 m,.i .i64 k,.nil,.nil,.s [],.s [],.s [],.s [],.i .i64 0,.i .i64 0,.own (σ.length + 3) g],.row 3 1 8 g true (l.map iRow)]) (id := σ.length + 2) (idr := σ.length + 3) (T := 33) (j := 12) (g := g) (E := 3) (sz := 1) (by' := 8) (rows := l.map iRow)
  (cs := [.i .i64 t,.i .i64 f,.i .i64 m,.i .i64 k,.nil,.nil,.s [],.s [],.s [],.s [],.i .i64 0,.i .i64 0,.own (σ.length + 3) g]) (by simp) rfl (by simp)
 simp only [base_set,List.set_cons_zero,List.set_cons_succ] at w1 w2
 have hc : Closed (σ ++ [.box 33 [.i .i64 0,.i .i64 0,.i .i64 0,.i .i64 0,.nil,.nil,.s [],.s [],.s [],.s [],.i .i64 0,.i .i64 0,.nil],.box 115 [.sl 1 (bytesV b),.b c],.box 33 [.i .i64 t,.i .i64 f,.i .i64 m,.i .i64 k,.nil,.nil,.s [],.s [],.s [],.s [],.i .i64 0,.i .i64 0,.sl 1 (l.map iRow)]]) := closed_add hcl (by
  simp only [List.mem_cons,List.not_mem_nil,or_false,forall_eq_or_imp,forall_eq]
  refine ⟨?_,?_,?_⟩ <;> simp only [LW])
 have w3 := Wk.drop0 (P := Tryz.prog) (n := n) (xs := xs) (σ := σ ++ [.box 33 [.i .i64 0,.i .i64 0,.i .i64 0,.i .i64 0,.nil,.nil,.s [],.s [],.s [],.s [],.i .i64 0,.i .i64 0,.nil],.box 115 [.sl 1 (bytesV b),.b c],.box 33 [.i .i64 t,.i .i64 f,.i .i64 m,.i .i64 k,.nil,.nil,.s [],.s [],.s [],.s [],.i .i64 0,.i .i64 0,.sl 1 (l.map iRow)]]) (loc := [.row 3 1 8 g true (l.map iRow)]) (by simp; omega) hc (allLt_iff.1 (by simpa using hx))
 simp only [List.append_assoc,List.cons_append,List.nil_append] at w3
 exact (w1.trans w2).trans w3
set_option maxHeartbeats 2000000 in
theorem r36Decode_pc (b : List UInt8) (hb : b.length < 2 ^ 30) (σ : Store) : PC Tryz.prog 43 [.sl 1 (bytesV b)] σ (fun r σ' => r = .tup [.agg (Bt.decode b).1.cells,.i .i64 (Bt.decode b).2] ∧ σ' = σ) := by
 refine PC.intro Tryz.func43 c43 fun hcl hwf => ?_
 simp only [p43,List.length_cons,List.length_nil,List.replicate,List.cons_append,List.nil_append,Nat.reduceAdd,Nat.reduceSub]
 obtain ⟨v,⟨b1,c1⟩,e1⟩ : ∃ v r,(Rb.mk b false).rnumber 1 = (v,r) := ⟨_,_,rfl⟩
 obtain ⟨k,⟨b2,c2⟩,e2⟩ : ∃ w r,(Rb.mk b1 (v != 1)).rnumber 1 = (w,r) := ⟨_,_,rfl⟩
 obtain ⟨t,⟨b3,c3⟩,e3⟩ : ∃ v r,(Rb.mk b2 c2).rnumber 4 = (v,r) := ⟨_,_,rfl⟩
 obtain ⟨f,⟨b4,c4⟩,e4⟩ : ∃ v r,(Rb.mk b3 c3).rnumber 1 = (v,r) := ⟨_,_,rfl⟩
 obtain ⟨m,⟨b5,c5⟩,e5⟩ : ∃ v r,(Rb.mk b4 c4).rnumber 2 = (v,r) := ⟨_,_,rfl⟩
 obtain ⟨n,⟨b6,c6⟩,e6⟩ : ∃ v r,(Rb.mk b5 c5).rnumber 1 = (v,r) := ⟨_,_,rfl⟩
 have d1 := rr_drop ⟨b,false⟩ 1; rw [e1] at d1
 have d2 := rr_drop ⟨b1,v != 1⟩ 1; rw [e2] at d2
 have d3 := rr_drop ⟨b2,c2⟩ 4; rw [e3] at d3
 have d4 := rr_drop ⟨b3,c3⟩ 1; rw [e4] at d4
 have d5 := rr_drop ⟨b4,c4⟩ 2; rw [e5] at d5
 have d6 := rr_drop ⟨b5,c5⟩ 1; rw [e6] at d6
 have n6 := rnumber_bound ⟨b5,c5⟩ 1 (by decide); rw [e6] at n6
 simp only at d1 d2 d3 d4 d5 d6 n6
 obtain ⟨N,rfl⟩ : ∃ N : Nat,n = N := ⟨n.toNat,by omega⟩
 refine PWc.cut fun R hR => ?_
 simp only [VV,Int.reduceBEq,Int.reduceBNe,pexec,xexec,binV,Nat.reduceAdd,Nat.reduceSub,Nat.reduceLeDiff,Nat.reduceEqDiff,Int.reduceToNat,reduceIte,reduceCtorEq]
 refine hR _ (PWc.cvs (fr' := [.sl 1 (bytesV b),.u,.ptr σ.length 0,.u,.u,.u,.u,.u,.u,.u,.u,.u,.u,.u,.u,.u,.u,.u,.u,.u,.u,.u,.u,.u,.u,.u,.u,.u,.u,.u,.u,.u,.u,.u,.u,.u,.u,.u,.u,.u,.u,.u,.u,.u,.u,.u,.u,.u,.u,.u,.u,.u,.u,.u,.u,.u,.u,.u,.u,.u,.u,.u,.u,.u,.u,.u,.u,.u,.u,.u,.u,.u,.u,.u,.u,.u,.u,.u,.u,.u,.u,.u,.u,.u,.u,.u,.u,.u,.u,.u,.u,.u,.u,.u,.u,.u,.u,.u,.u,.u,.u,.u,.u,.u,.u]) ?_ (by repeat first | exact .nil | refine .cons (.refl _) ?_ | refine .cons (.forget _) ?_))
 clear hR R
 refine PWc.cut fun R hR => ?_
 simp only [VV,Int.reduceBEq,Int.reduceBNe,pexec,xexec,binV,Nat.reduceAdd,Nat.reduceSub,Nat.reduceLeDiff,Nat.reduceEqDiff,Int.reduceToNat,reduceIte,reduceCtorEq]
 refine hR _ (PWc.cvs (fr' := [.u,.u,.ptr σ.length 0,.u,.ptr (σ.length + 1) 0,.u,.u,.u,.u,.u,.u,.u,.u,.u,.u,.u,.u,.u,.u,.u,.u,.u,.u,.u,.u,.u,.u,.u,.u,.u,.u,.u,.u,.u,.u,.u,.u,.u,.u,.u,.u,.u,.u,.u,.u,.u,.u,.u,.u,.u,.u,.u,.u,.u,.u,.u,.u,.u,.u,.u,.u,.u,.u,.u,.u,.u,.u,.u,.u,.u,.u,.u,.u,.u,.u,.u,.u,.u,.u,.u,.u,.u,.u,.u,.u,.u,.u,.u,.u,.u,.u,.u,.u,.u,.u,.u,.u,.u,.u,.u,.u,.u,.u,.u,.u]) ?_ (by repeat first | exact .nil | refine .cons (.refl _) ?_ | refine .cons (.forget _) ?_))
 clear hR R
 refine PWc.cut fun R hR => ?_
 simp only [VV,Int.reduceBEq,Int.reduceBNe,pexec,xexec,binV,Nat.reduceAdd,Nat.reduceSub,Nat.reduceLeDiff,Nat.reduceEqDiff,Int.reduceToNat,reduceIte,reduceCtorEq]
 refine call_eq (rrNumber_at 1 e1 (by omega) (by decide)) rfl ?_
 simp only [VV,Int.reduceBEq,Int.reduceBNe,pexec,xexec,binV,Nat.reduceAdd,Nat.reduceSub,Nat.reduceLeDiff,Nat.reduceEqDiff,Int.reduceToNat,reduceIte,reduceCtorEq]
 refine hR _ (PWc.cvs (fr' := [.u,.u,.ptr σ.length 0,.u,.ptr (σ.length + 1) 0,.u,.u,.u,.u,.u,.u,.u,.u,.u,.u,.u,.u,.u,.u,.u,.u,.u,.u,.u,.u,.u,.u,.u,.u,.u,.u,.u,.u,.u,.u,.u,.u,.u,.u,.u,.u,.u,.u,.u,.u,.u,.u,.u,.u,.u,.u,.u,.u,.u,.u,.u,.u,.u,.u,.u,.u,.u,.u,.u,.u,.u,.u,.u,.u,.u,.u,.u,.u,.u,.u,.u,.u,.u,.u,.u,.u,.u,.u,.u,.u,.u,.u,.u,.u,.u,.u,.u,.u,.u,.u,.u,.u,.u,.u,.u,.u,.u,.u,.u,.u]) ?_ (by repeat first | exact .nil | refine .cons (.refl _) ?_ | refine .cons (.forget _) ?_))
 clear hR R
 refine PWc.cut fun R hR => ?_
 simp only [VV,Int.reduceBEq,Int.reduceBNe,pexec,xexec,binV,Nat.reduceAdd,Nat.reduceSub,Nat.reduceLeDiff,Nat.reduceEqDiff,Int.reduceToNat,reduceIte,reduceCtorEq]
 refine call_eq (rrNumber_at 1 e2 (by omega) (by decide)) rfl ?_
 simp only [VV,Int.reduceBEq,Int.reduceBNe,pexec,xexec,binV,Nat.reduceAdd,Nat.reduceSub,Nat.reduceLeDiff,Nat.reduceEqDiff,Int.reduceToNat,reduceIte,reduceCtorEq]
 refine hR _ (PWc.cvs (fr' := [.u,.u,.ptr σ.length 0,.u,.ptr (σ.length + 1) 0,.ptr (σ.length + 2) 0,.u,.u,.u,.u,.u,.u,.u,.u,.u,.u,.u,.u,.u,.u,.u,.u,.u,.u,.u,.u,.u,.u,.u,.u,.u,.u,.u,.u,.u,.u,.u,.u,.u,.u,.u,.u,.u,.u,.u,.u,.u,.u,.u,.u,.u,.u,.u,.u,.u,.u,.u,.u,.u,.u,.u,.u,.u,.u,.u,.u,.u,.u,.u,.u,.u,.u,.u,.u,.u,.u,.u,.u,.u,.u,.u,.u,.u,.u,.u,.u,.u,.u,.u,.u,.u,.u,.u,.u,.u,.u,.u,.u,.u,.u,.u,.u,.u,.u,.u]) ?_ (by repeat first | exact .nil | refine .cons (.refl _) ?_ | refine .cons (.forget _) ?_))
 clear hR R
 refine PWc.cut fun R hR => ?_
 simp only [VV,Int.reduceBEq,Int.reduceBNe,pexec,xexec,binV,Nat.reduceAdd,Nat.reduceSub,Nat.reduceLeDiff,Nat.reduceEqDiff,Int.reduceToNat,reduceIte,reduceCtorEq]
 refine call_eq (rrNumber_at 4 e3 (by omega) (by decide)) rfl ?_
 simp only [VV,Int.reduceBEq,Int.reduceBNe,pexec,xexec,binV,Nat.reduceAdd,Nat.reduceSub,Nat.reduceLeDiff,Nat.reduceEqDiff,Int.reduceToNat,reduceIte,reduceCtorEq]
 refine hR _ (PWc.cvs (fr' := [.u,.u,.ptr σ.length 0,.u,.ptr (σ.length + 1) 0,.ptr (σ.length + 2) 0,.u,.u,.u,.u,.u,.u,.u,.u,.u,.u,.u,.u,.u,.u,.u,.u,.u,.u,.u,.u,.u,.u,.u,.u,.u,.u,.u,.u,.u,.u,.u,.u,.u,.u,.u,.u,.u,.u,.u,.u,.u,.u,.u,.u,.u,.u,.u,.u,.u,.u,.u,.u,.u,.u,.u,.u,.u,.u,.u,.u,.u,.u,.u,.u,.u,.u,.u,.u,.u,.u,.u,.u,.u,.u,.u,.u,.u,.u,.u,.u,.u,.u,.u,.u,.u,.u,.u,.u,.u,.u,.u,.u,.u,.u,.u,.u,.u,.u,.u]) ?_ (by repeat first | exact .nil | refine .cons (.refl _) ?_ | refine .cons (.forget _) ?_))
 clear hR R
 refine PWc.cut fun R hR => ?_
 simp only [VV,Int.reduceBEq,Int.reduceBNe,pexec,xexec,binV,Nat.reduceAdd,Nat.reduceSub,Nat.reduceLeDiff,Nat.reduceEqDiff,Int.reduceToNat,reduceIte,reduceCtorEq]
 refine call_eq (rrNumber_at 1 e4 (by omega) (by decide)) rfl ?_
 simp only [VV,Int.reduceBEq,Int.reduceBNe,pexec,xexec,binV,Nat.reduceAdd,Nat.reduceSub,Nat.reduceLeDiff,Nat.reduceEqDiff,Int.reduceToNat,reduceIte,reduceCtorEq]
 refine hR _ (PWc.cvs (fr' := [.u,.u,.ptr σ.length 0,.u,.ptr (σ.length + 1) 0,.ptr (σ.length + 2) 0,.u,.u,.u,.u,.u,.u,.u,.u,.u,.u,.u,.u,.u,.u,.u,.u,.u,.u,.u,.u,.u,.u,.u,.u,.u,.u,.u,.u,.u,.u,.u,.u,.u,.u,.u,.u,.u,.u,.u,.u,.u,.u,.u,.u,.u,.u,.u,.u,.u,.u,.u,.u,.u,.u,.u,.u,.u,.u,.u,.u,.u,.u,.u,.u,.u,.u,.u,.u,.u,.u,.u,.u,.u,.u,.u,.u,.u,.u,.u,.u,.u,.u,.u,.u,.u,.u,.u,.u,.u,.u,.u,.u,.u,.u,.u,.u,.u,.u,.u]) ?_ (by repeat first | exact .nil | refine .cons (.refl _) ?_ | refine .cons (.forget _) ?_))
 clear hR R
 refine PWc.cut fun R hR => ?_
 simp only [VV,Int.reduceBEq,Int.reduceBNe,pexec,xexec,binV,Nat.reduceAdd,Nat.reduceSub,Nat.reduceLeDiff,Nat.reduceEqDiff,Int.reduceToNat,reduceIte,reduceCtorEq]
 refine call_eq (rrNumber_at 2 e5 (by omega) (by decide)) rfl ?_
 simp only [VV,Int.reduceBEq,Int.reduceBNe,pexec,xexec,binV,Nat.reduceAdd,Nat.reduceSub,Nat.reduceLeDiff,Nat.reduceEqDiff,Int.reduceToNat,reduceIte,reduceCtorEq]
 refine hR _ (PWc.cvs (fr' := [.u,.u,.ptr σ.length 0,.u,.ptr (σ.length + 1) 0,.ptr (σ.length + 2) 0,.u,.u,.u,.u,.u,.u,.u,.u,.u,.u,.u,.u,.u,.u,.u,.u,.u,.u,.u,.u,.u,.u,.u,.u,.u,.u,.u,.u,.u,.u,.u,.u,.u,.u,.u,.u,.u,.u,.u,.u,.u,.u,.u,.u,.u,.u,.u,.u,.u,.u,.u,.u,.u,.u,.u,.u,.u,.u,.u,.u,.u,.u,.u,.u,.u,.u,.u,.u,.u,.u,.u,.u,.u,.u,.u,.u,.u,.u,.u,.u,.u,.u,.u,.u,.u,.u,.u,.u,.u,.u,.u,.u,.u,.u,.u,.u,.u,.u,.u]) ?_ (by repeat first | exact .nil | refine .cons (.refl _) ?_ | refine .cons (.forget _) ?_))
 clear hR R
 refine PWc.cut fun R hR => ?_
 simp only [VV,Int.reduceBEq,Int.reduceBNe,pexec,xexec,binV,Nat.reduceAdd,Nat.reduceSub,Nat.reduceLeDiff,Nat.reduceEqDiff,Int.reduceToNat,reduceIte,reduceCtorEq]
 refine call_eq (rrNumber_at 1 e6 (by omega) (by decide)) rfl ?_
 simp only [VV,Int.reduceBEq,Int.reduceBNe,pexec,xexec,binV,Nat.reduceAdd,Nat.reduceSub,Nat.reduceLeDiff,Nat.reduceEqDiff,Int.reduceToNat,reduceIte,reduceCtorEq]
 obtain ⟨ns,⟨b7,c7⟩,e7⟩ : ∃ v r,Rb.rnumbers N ⟨b6,c6⟩ = (v,r) := ⟨_,_,rfl⟩
 have d7 := rrNumbers_drop N ⟨b6,c6⟩; rw [e7] at d7
 simp only at d7
 refine PWc.wk ((Wk.cvs (ys := [.u,.u,.ptr σ.length 0,.u,.ptr (σ.length + 1) 0,.ptr (σ.length + 2) 0,.i .i64 N,.u,.u,.u,.u,.u,.u,.u,.u,.u,.u,.u,.u,.u,.u,.u,.u,.u,.u,.u,.u,.u,.u,.u,.u,.u,.u,.u,.u,.u,.u,.u,.u,.u,.u,.u,.u,.u,.u,.u,.u,.u,.u,.u,.u,.u,.u,.u,.u,.u,.u,.u,.u,.u,.u,.u,.u,.u,.u,.u,.u,.u,.u,.u,.u,.u,.u,.u,.u,.u,.u,.u,.u,.u,.u,.u,.u,.u,.u,.u,.u,.u,.u,.u,.u,.u,.u,.u,.u,.u,.u,.u,.u,.u,.u,.u,.u,.u,.u]) (by repeat first | exact .nil | refine .cons (.refl _) ?_ | refine .cons (.forget _) ?_)).trans rdec_nil)
  (PWc.rnd (N + 1) (loop43 (.box 33 [.i .i64 0,.i .i64 0,.i .i64 0,.i .i64 0,.nil,.nil,.s [],.s [],.s [],.s [],.i .i64 0,.i .i64 0,.nil]) t f m k N b6 c6 [] 0 (by simp; omega) (by omega) ?_))
 intro g
 intros
 rw [e7]
 simp only [List.nil_append,VV,Int.reduceBEq,Int.reduceBNe,pexec,xexec,binV,Nat.reduceAdd,Nat.reduceSub,Nat.reduceLeDiff,Nat.reduceEqDiff,Int.reduceToNat,reduceIte,reduceCtorEq]
 refine hR _ (PWc.wk ((Wk.cvs (ys := [.u,.u,.ptr σ.length 0,.u,.ptr (σ.length + 1) 0,.ptr (σ.length + 2) 0,.u,.u,.u,.u,.u,.u,.u,.u,.u,.u,.u,.u,.u,.u,.u,.u,.u,.u,.u,.u,.u,.u,.u,.u,.u,.u,.u,.u,.u,.u,.u,.u,.u,.u,.u,.u,.u,.u,.u,.u,.u,.u,.u,.u,.u,.u,.u,.u,.u,.u,.u,.u,.u,.u,.u,.u,.u,.u,.u,.u,.u,.u,.u,.u,.u,.u,.u,.u,.u,.u,.u,.u,.u,.u,.u,.u,.u,.u,.u,.u,.u,.u,.u,.u,.u,.u,.u,.u,.u,.u,.u,.u,.u,.u,.u,.u,.u,.u,.u]) (by repeat first | exact .nil | refine .cons (.refl _) ?_ | refine .cons (.forget _) ?_)).trans (rdec_own hcl (Nat.le_refl _) (by simp only [LW]; omega))) ?_)
 clear hR R
 refine PWc.cut fun R hR => ?_
 obtain ⟨src,⟨b8,c8⟩,e8⟩ : ∃ v r,(Rb.mk b7 c7).rfragment = (v,r) := ⟨_,_,rfl⟩
 have d8 := rrFragment_drop ⟨b7,c7⟩; rw [e8] at d8
 simp only at d8
 simp only [VV,Int.reduceBEq,Int.reduceBNe,pexec,xexec,binV,Nat.reduceAdd,Nat.reduceSub,Nat.reduceLeDiff,Nat.reduceEqDiff,Int.reduceToNat,reduceIte,reduceCtorEq]
 refine call_eq (rrFragment_at e8 (by omega)) rfl ?_
 simp only [VV,Int.reduceBEq,Int.reduceBNe,pexec,xexec,binV,Nat.reduceAdd,Nat.reduceSub,Nat.reduceLeDiff,Nat.reduceEqDiff,Int.reduceToNat,reduceIte,reduceCtorEq]
 refine hR _ (PWc.cvs (fr' := [.u,.u,.ptr σ.length 0,.u,.ptr (σ.length + 1) 0,.ptr (σ.length + 2) 0,.u,.u,.u,.u,.u,.u,.u,.u,.u,.u,.u,.u,.u,.u,.u,.u,.u,.u,.u,.u,.u,.u,.u,.u,.u,.u,.u,.u,.u,.u,.u,.u,.u,.u,.u,.u,.u,.u,.u,.u,.u,.u,.u,.u,.u,.u,.u,.u,.u,.u,.u,.u,.u,.u,.u,.u,.u,.u,.u,.u,.u,.u,.u,.u,.u,.u,.u,.u,.u,.u,.u,.u,.u,.u,.u,.u,.u,.u,.u,.u,.u,.u,.u,.u,.u,.u,.u,.u,.u,.u,.u,.u,.u,.u,.u,.u,.u,.u,.u]) ?_ (by repeat first | exact .nil | refine .cons (.refl _) ?_ | refine .cons (.forget _) ?_))
 clear hR R
 refine PWc.cut fun R hR => ?_
 obtain ⟨pv,⟨b9,c9⟩,e9⟩ : ∃ v r,(Rb.mk b8 c8).rtext = (v,r) := ⟨_,_,rfl⟩
 have d9 := rrText_drop ⟨b8,c8⟩; rw [e9] at d9
 simp only at d9
 simp only [VV,Int.reduceBEq,Int.reduceBNe,pexec,xexec,binV,Nat.reduceAdd,Nat.reduceSub,Nat.reduceLeDiff,Nat.reduceEqDiff,Int.reduceToNat,reduceIte,reduceCtorEq]
 refine call_eq (rrText_at e9 (by omega)) rfl ?_
 simp only [VV,Int.reduceBEq,Int.reduceBNe,pexec,xexec,binV,Nat.reduceAdd,Nat.reduceSub,Nat.reduceLeDiff,Nat.reduceEqDiff,Int.reduceToNat,reduceIte,reduceCtorEq]
 refine hR _ (PWc.cvs (fr' := [.u,.u,.ptr σ.length 0,.u,.ptr (σ.length + 1) 0,.ptr (σ.length + 2) 0,.u,.u,.u,.u,.u,.u,.u,.u,.u,.u,.u,.u,.u,.u,.u,.u,.u,.u,.u,.u,.u,.u,.u,.u,.u,.u,.u,.u,.u,.u,.u,.u,.u,.u,.u,.u,.u,.u,.u,.u,.u,.u,.u,.u,.u,.u,.u,.u,.u,.u,.u,.u,.u,.u,.u,.u,.u,.u,.u,.u,.u,.u,.u,.u,.u,.u,.u,.u,.u,.u,.u,.u,.u,.u,.u,.u,.u,.u,.u,.u,.u,.u,.u,.u,.u,.u,.u,.u,.u,.u,.u,.u,.u,.u,.u,.u,.u,.u,.u]) ?_ (by repeat first | exact .nil | refine .cons (.refl _) ?_ | refine .cons (.forget _) ?_))
 clear hR R
 refine PWc.cut fun R hR => ?_
 obtain ⟨nx,⟨b10,c10⟩,e10⟩ : ∃ v r,(Rb.mk b9 c9).rtext = (v,r) := ⟨_,_,rfl⟩
 have d10 := rrText_drop ⟨b9,c9⟩; rw [e10] at d10
 simp only at d10
 simp only [VV,Int.reduceBEq,Int.reduceBNe,pexec,xexec,binV,Nat.reduceAdd,Nat.reduceSub,Nat.reduceLeDiff,Nat.reduceEqDiff,Int.reduceToNat,reduceIte,reduceCtorEq]
 refine call_eq (rrText_at e10 (by omega)) rfl ?_
 simp only [VV,Int.reduceBEq,Int.reduceBNe,pexec,xexec,binV,Nat.reduceAdd,Nat.reduceSub,Nat.reduceLeDiff,Nat.reduceEqDiff,Int.reduceToNat,reduceIte,reduceCtorEq]
 refine hR _ (PWc.cvs (fr' := [.u,.u,.ptr σ.length 0,.u,.ptr (σ.length + 1) 0,.ptr (σ.length + 2) 0,.u,.u,.u,.u,.u,.u,.u,.u,.u,.u,.u,.u,.u,.u,.u,.u,.u,.u,.u,.u,.u,.u,.u,.u,.u,.u,.u,.u,.u,.u,.u,.u,.u,.u,.u,.u,.u,.u,.u,.u,.u,.u,.u,.u,.u,.u,.u,.u,.u,.u,.u,.u,.u,.u,.u,.u,.u,.u,.u,.u,.u,.u,.u,.u,.u,.u,.u,.u,.u,.u,.u,.u,.u,.u,.u,.u,.u,.u,.u,.u,.u,.u,.u,.u,.u,.u,.u,.u,.u,.u,.u,.u,.u,.u,.u,.u,.u,.u,.u]) ?_ (by repeat first | exact .nil | refine .cons (.refl _) ?_ | refine .cons (.forget _) ?_))
 clear hR R
 refine PWc.cut fun R hR => ?_
 have tail : ∀ (x : Opr) (b' : List UInt8) (c' : Bool) {fr : List V} {s0 : Store},x.small → b'.length < 2 ^ 30 → rreadOp b = (x,⟨b',c'⟩) → Wk Tryz.prog σ.length fr s0 ([.u,.u,.ptr σ.length 0,.u,.ptr (σ.length + 1) 0,.ptr (σ.length + 2) 0,.u,.u,.u,.u,.u,.u,.u,.u,.u,.u,.u,.u,.u,.u,.u,.u,.u,.u,.u,.u,.u,.u,.u,.u,.u,.u,.u,.u,.u,.u,.u,.u,.u,.u,.u,.u,.u,.u,.u,.u,.u,.u,.u,.u,.u,.u,.u,.u,.u,.u,.u,.u,.u,.u,.u,.u,.u,.u,.u,.u,.u,.u,.u,.u,.u,.u,.u,.u,.u,.u,.u,.u,.u,.u,.u,.u,.u,.u,.u,.u,.u,.u,.u,.u,.u,.u,.u,.u,.u,.u,.u,.u,.u,.u,.u,.u,.u,.u,.u]) (σ ++ [.box 33 [.i .i64 0,.i .i64 0,.i .i64 0,.i .i64 0,.nil,.nil,.s [],.s [],.s [],.s [],.i .i64 0,.i .i64 0,.nil],.box 115 [.sl 1 (bytesV b'),.b c'],.box 33 x.cells]) → R ⟨fr,s0⟩ := by
  intro x b' c' fr s0 hx hb' hro hc
  have e : Bt.decode b = if c' = true ∨ 0 < b'.length ∨ opErr x ≠ 0 then (noOp,12) else (x,0) := by
   rw [← rdecode_eq]; simp only [rdecode,hro]
  refine hR _ (PWc.wk hc (wpc_sound ?_))
  clear hR R hc
  simp only [Opr.cells,Stamp.cells,En.cells,List.cons_append,List.nil_append,V.pure,bytesV_length,VV,Int.reduceBEq,Int.reduceBNe,pexec,xexec,binV,Nat.reduceAdd,Nat.reduceSub,Nat.reduceLeDiff,Nat.reduceEqDiff,Int.reduceToNat,reduceIte,reduceCtorEq]
  refine callg_eq (by simp only [VV,Int.reduceBEq,Int.reduceBNe,pexec,xexec,binV,Nat.reduceAdd,Nat.reduceSub,Nat.reduceLeDiff,Nat.reduceEqDiff,Int.reduceToNat,reduceIte,reduceCtorEq] <;> rfl) (fun _ => r36ValidateOp_pc x hx _) rfl ?_
  simp only [Opr.cells,Stamp.cells,En.cells,List.cons_append,List.nil_append,V.pure,VV,Int.reduceBEq,Int.reduceBNe,pexec,xexec,binV,Nat.reduceAdd,Nat.reduceSub,Nat.reduceLeDiff,Nat.reduceEqDiff,Int.reduceToNat,reduceIte,reduceCtorEq]
  refine ⟨fun h => ?_,fun h => ?_⟩
  ·have h1 : c' = true ∨ 0 < b'.length ∨ opErr x ≠ 0 := by
    cases c' <;> simp at h ⊢ <;> omega
   rw [if_pos h1] at e
   refine ret_cvs (ys := [.agg noOp.cells,.i .i64 12]) hcl (.inr rfl) (by simp only [resVs,resV,W]; rfl) ?_ (by simp only [noOp,noEn,Opr.cells,Stamp.cells,En.cells,List.map_nil,List.cons_append,List.nil_append,LW]) ⟨by rw [e]; rfl,rfl⟩
   refine .cons (Cv.aggs ?_) (.cons (.refl _) .nil)
   simp only [noOp,noEn,Opr.cells,Stamp.cells,En.cells,List.map_nil,List.cons_append,List.nil_append]
   repeat first | exact .nil | refine .cons (.refl _) ?_ | refine .cons (.nil _) ?_
  ·have h1 : ¬ (c' = true ∨ 0 < b'.length ∨ opErr x ≠ 0) := by
    cases c' <;> simp at h ⊢ <;> omega
   rw [if_neg h1] at e
   refine ret_end hcl (.inr rfl) (by simp only [resVs,resV,W]; rfl) (by simp only [LW]) ⟨?_,rfl⟩
   rw [e]
   rfl
 have p8 := parse_small ((Rb.mk b7 c7).rtext.1)
 rw [show (parse ((Rb.mk b7 c7).rtext.1)).1 = src from congrArg Prod.fst e8] at p8
 simp only [VV,Int.reduceBEq,Int.reduceBNe,pexec,xexec,binV,Nat.reduceAdd,Nat.reduceSub,Nat.reduceLeDiff,Nat.reduceEqDiff,Int.reduceToNat,reduceIte,reduceCtorEq]
 refine ⟨fun h => ?_,fun h => ?_⟩
 ·have hk : k = 1 := by simpa using h
  obtain ⟨tg,⟨b11,c11⟩,e11⟩ : ∃ v r,(Rb.mk b10 c10).rfragment = (v,r) := ⟨_,_,rfl⟩
  have d11 := rrFragment_drop ⟨b10,c10⟩; rw [e11] at d11
  have p11 := parse_small ((Rb.mk b10 c10).rtext.1)
  rw [show (parse ((Rb.mk b10 c10).rtext.1)).1 = tg from congrArg Prod.fst e11] at p11
  obtain ⟨au,⟨b12,c12⟩,e12⟩ : ∃ v r,(Rb.mk b11 c11).rtext = (v,r) := ⟨_,_,rfl⟩
  have d12 := rrText_drop ⟨b11,c11⟩; rw [e12] at d12
  obtain ⟨pr,⟨b13,c13⟩,e13⟩ : ∃ v r,(Rb.mk b12 c12).rtext = (v,r) := ⟨_,_,rfl⟩
  have d13 := rrText_drop ⟨b12,c12⟩; rw [e13] at d13
  obtain ⟨cr,⟨b14,c14⟩,e14⟩ : ∃ v r,(Rb.mk b13 c13).rnumber 4 = (v,r) := ⟨_,_,rfl⟩
  have d14 := rr_drop ⟨b13,c13⟩ 4; rw [e14] at d14
  obtain ⟨og,⟨b15,c15⟩,e15⟩ : ∃ v r,(Rb.mk b14 c14).rnumber 1 = (v,r) := ⟨_,_,rfl⟩
  have d15 := rr_drop ⟨b14,c14⟩ 1; rw [e15] at d15
  simp only at d11 d12 d13 d14 d15
  refine call_eq (rrFragment_at e11 (by omega)) rfl ?_
  simp only [VV,Int.reduceBEq,Int.reduceBNe,pexec,xexec,binV,Nat.reduceAdd,Nat.reduceSub,Nat.reduceLeDiff,Nat.reduceEqDiff,Int.reduceToNat,reduceIte,reduceCtorEq]
  refine call_eq (rrText_at e12 (by omega)) rfl ?_
  simp only [VV,Int.reduceBEq,Int.reduceBNe,pexec,xexec,binV,Nat.reduceAdd,Nat.reduceSub,Nat.reduceLeDiff,Nat.reduceEqDiff,Int.reduceToNat,reduceIte,reduceCtorEq]
  refine call_eq (rrText_at e13 (by omega)) rfl ?_
  simp only [VV,Int.reduceBEq,Int.reduceBNe,pexec,xexec,binV,Nat.reduceAdd,Nat.reduceSub,Nat.reduceLeDiff,Nat.reduceEqDiff,Int.reduceToNat,reduceIte,reduceCtorEq]
  refine call_eq (rrNumber_at 4 e14 (by omega) (by decide)) rfl ?_
  simp only [VV,Int.reduceBEq,Int.reduceBNe,pexec,xexec,binV,Nat.reduceAdd,Nat.reduceSub,Nat.reduceLeDiff,Nat.reduceEqDiff,Int.reduceToNat,reduceIte,reduceCtorEq]
  refine call_eq (rrNumber_at 1 e15 (by omega) (by decide)) rfl ?_
  simp only [VV,Int.reduceBEq,Int.reduceBNe,pexec,xexec,binV,Nat.reduceAdd,Nat.reduceSub,Nat.reduceLeDiff,Nat.reduceEqDiff,Int.reduceToNat,reduceIte,reduceCtorEq]
  refine tail ⟨⟨t,f,m⟩,k,⟨src,tg,pv,nx,au,pr,cr,og⟩,ns⟩ b15 c15 ⟨⟨p8.1,p8.2.1,p11.1,p11.2.1,by simp only; omega,by simp only; omega,fun y hy => ?_⟩,by simp only; omega,by simp only; omega,by simp only; omega⟩ (by omega) ?_ (Wk.cvs (by repeat first | exact .nil | refine .cons (.refl _) ?_ | refine .cons (.forget _) ?_))
  ·rcases List.mem_append.1 hy with hy | hy
   ·exact p8.2.2 y hy
   ·exact p11.2.2 y hy
  ·simp only [rreadOp,e1,e2,e3,e4,e5,e6,Int.toNat_natCast,e7,e8,e9,e10,e11,e12,e13,e14,e15,hk,if_true]
 ·have hk : ¬ k = 1 := by simpa using h
  have hw := Wk.cell (P := Tryz.prog) (n := σ.length) (xs := [.u,.u,.ptr σ.length 0,.u,.ptr (σ.length + 1) 0,.ptr (σ.length + 2) 0,.u,.u,.u,.u,.u,.u,.u,.u,.u,.u,.u,.u,.u,.u,.u,.u,.u,.u,.u,.u,.u,.u,.u,.u,.u,.u,.u,.u,.u,.u,.u,.u,.u,.u,.u,.u,.u,.u,.u,.u,.u,.u,.u,.u,.u,.u,.u,.u,.u,.u,.u,.u,.u,.u,.u,.u,.u,.u,.u,.u,.u,.u,.u,.u,.u,.u,.u,.u,.u,.u,.u,.u,.u,.u,.u,.u,.u,.u,.u,.u,.u,.u,.u,.u,.u,.u,.u,.u,.u,.u,.u,.u,.u,.u,.u,.u,.u,.u,.u]) (σ := σ ++ [.box 33 [.i .i64 0,.i .i64 0,.i .i64 0,.i .i64 0,.nil,.nil,.s [],.s [],.s [],.s [],.i .i64 0,.i .i64 0,.nil],.box 115 [.sl 1 (bytesV b10),.b c10],.box 33 [.i .i64 t,.i .i64 f,.i .i64 m,.i .i64 k,.sl 3 (src.map It.cells),.nil,.s pv,.s nx,.s [],.s [],.i .i64 0,.i .i64 0,.sl 1 (ns.map iRow)]]) (id := σ.length + 2) (T := 33) (j := 5) (x := .nil) (y := .sl 3 []) (cs := [.i .i64 t,.i .i64 f,.i .i64 m,.i .i64 k,.sl 3 (src.map It.cells),.nil,.s pv,.s nx,.s [],.s [],.i .i64 0,.i .i64 0,.sl 1 (ns.map iRow)]) (by simp) rfl (fun w μ v _ h => by rw [h.inv_nil]; exact .sl0 _)
  simp only [base_set,List.set_cons_zero,List.set_cons_succ] at hw
  refine tail ⟨⟨t,f,m⟩,k,⟨src,[],pv,nx,[],[],0,0⟩,ns⟩ b10 c10 ⟨⟨p8.1,p8.2.1,by simp,by simp [textLen],by simp only; omega,by simp only; omega,fun y hy => ?_⟩,by simp,by simp,by simp only; omega⟩ (by omega) ?_ ((Wk.cvs (by repeat first | exact .nil | refine .cons (.refl _) ?_ | refine .cons (.forget _) ?_)).trans hw)
  ·simp only [List.append_nil] at hy
   exact p8.2.2 y hy
  ·simp only [rreadOp,e1,e2,e3,e4,e5,e6,Int.toNat_natCast,e7,e8,e9,e10,hk,if_false]
end Go.Proofs.Tryz
