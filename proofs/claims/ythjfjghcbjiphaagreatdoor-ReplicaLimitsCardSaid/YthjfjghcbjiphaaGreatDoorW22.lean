/- A part of the proof of the statement of the last text of this claim: for every two integers ReplicaLimits returns true and leaves the memory as it was. -/
import Derived.Test.YthjfjghcbjiphaaGreatDoorW21
set_option linter.all false

namespace Go.Proofs.Tryz
open Go Go.Pm Go.Bt
theorem closed_rd {σ : Store} (hcl : Closed σ) (g1 g2 : Nat) (r : Rd) : Closed (σ ++ rdOb σ.length g1 g2 r) := closed_add hcl (by
 simp only [rdOb,List.forall_mem_cons,List.length_cons,List.length_nil,List.not_mem_nil,false_imp_iff,implies_true,and_true,true_and]
 simp only [LW]; omega)
theorem loop28 {σ : Store} {K : Exit → St → Prop} (s : List UInt8) (hcl : Closed σ) (hlen : s.length < 2 ^ 39) :
  ∀ (n : Nat) (rest pre : List UInt8) (r : Rd) (g1 g2 : Nat),s = pre ++ rest → rest.length < n → r.ok →
  (∀ r',parseN n r rest pre.length = ((rdFlush r').f,0,0) → r'.ok → ∀ g1 g2,(∀ j0 j1 j2 j3 j4 j6 j7 j8 j9 j10 j11 j12 j13 j14 j15 j16 j17 j18 j19 j20 j21 j22 j23 j24 j25 j26 j27 j28 j29 j30 j31 j32 j33 j34 j35 j36 j37 j38,K (.exit 0) ⟨[j0,j1,j2,j3,j4,.ptr (σ.length + 1) 0,j6,j7,j8,j9,j10,j11,j12,j13,j14,j15,j16,j17,j18,j19,j20,j21,j22,j23,j24,j25,j26,j27,j28,j29,j30,j31,j32,j33,j34,j35,j36,j37,j38],σ ++ rdOb σ.length g1 g2 r'⟩)) →
  (∀ at' e,parseN n r rest pre.length = ([],at',e) → ∀ loc,(∀ j0 j1 j5 j6 j7 j8 j9 j10 j11 j12 j13 j14 j15 j16 j17 j18 j19 j20 j21 j22 j23 j24 j25 j26 j27 j28 j29 j30 j31 j32 j33 j34 j35 j36 j37 j38,K .ret ⟨[j0,j1,.nil,.i .i64 at',.i .i64 e,j5,j6,j7,j8,j9,j10,j11,j12,j13,j14,j15,j16,j17,j18,j19,j20,j21,j22,j23,j24,j25,j26,j27,j28,j29,j30,j31,j32,j33,j34,j35,j36,j37,j38],σ ++ loc⟩)) →
  Rnd σ.length Tryz.prog p28_0 K n ⟨[.s s,.u,.u,.i .i64 pre.length,.u,.ptr (σ.length + 1) 0,.u,.u,.u,.u,.u,.u,.u,.u,.u,.u,.u,.u,.u,.u,.u,.u,.u,.u,.u,.u,.u,.u,.u,.u,.u,.u,.u,.u,.u,.u,.u,.u,.u],σ ++ rdOb σ.length g1 g2 r⟩
 | 0,rest,pre,r,g1,g2,he,hn,hr,h1,h2 => by omega
 | n + 1,[],pre,r,g1,g2,he,hn,hr,h1,h2 => by
  have he : s = pre := by simpa using he
  subst he
  refine rnd_step fun R hR => ?_
  simp only [p28_0,W,pexec,xexec,binV,Nat.reduceAdd,Nat.reduceSub,Nat.reduceLeDiff,Nat.reduceEqDiff,Int.reduceToNat,reduceIte,reduceCtorEq]
  exact ⟨fun h => by simp at h,fun _ => h1 r rfl hr g1 g2 ..⟩
 | n + 1,c :: rest,pre,r,g1,g2,he,hn,hr,h1,h2 => by
  subst he
  have hd : (pre ++ c :: rest).drop pre.length = c :: rest := by simp
  have htk : ((pre ++ c :: rest).drop pre.length).take ((pre ++ c :: rest).length - pre.length) = c :: rest := by rw [hd,List.take_of_length_le]; simp
  have hel := elementOf_ok (s := c :: rest) (by simp)
  have hpl : pre.length + (c :: rest).length < 2 ^ 39 := by rw [← List.length_append]; exact hlen
  refine rnd_step fun R hR => ?_
  simp only [p28_0,W,pexec,xexec,binV,Nat.reduceAdd,Nat.reduceSub,Nat.reduceLeDiff,Nat.reduceEqDiff,Int.reduceToNat,reduceIte,reduceCtorEq]
  refine ⟨fun _ => ⟨by simp; omega,?_⟩,fun h => by simp at h <;> omega⟩
  refine call_eq (element_pc (c :: rest) (by simp) _) (by simp only [List.map_cons,List.map_nil,Int.toNat_natCast,VV,Int.reduceBEq,Int.reduceBNe,pexec,xexec,binV,Nat.reduceAdd,Nat.reduceSub,Nat.reduceLeDiff,Nat.reduceEqDiff,Int.reduceToNat,reduceIte,reduceCtorEq]; rw [htk]) ?_
  simp only [It.cells,VV,Int.reduceBEq,Int.reduceBNe,pexec,xexec,binV,Nat.reduceAdd,Nat.reduceSub,Nat.reduceLeDiff,Nat.reduceEqDiff,Int.reduceToNat,reduceIte,reduceCtorEq]
  refine ⟨fun h => ?_,fun h => ?_⟩
  ·have h : (elementOf (c :: rest)).2.2 = false := by simpa using h
   exact h2 pre.length 2 (by simp only [parseN,h,if_true]) ..
  ·have h : (elementOf (c :: rest)).2.2 = true := by simpa using h
   have hn1 := hel.2.2 h
   have hx1 := hel.1
   have ok := hr
   obtain ⟨hf,ht,hl⟩ := hr
   have hff : r.f.length ≤ r.len := by split at hf <;> omega
   refine call_ex (add_pc r (elementOf (c :: rest)).1 g1 g2 (by omega) (by omega) (by omega) σ _) rfl ?_
   ·rintro v σ' ⟨rfl,g3,g4,rfl⟩
    simp only [VV,Int.reduceBEq,Int.reduceBNe,pexec,xexec,binV,Nat.reduceAdd,Nat.reduceSub,Nat.reduceLeDiff,Nat.reduceEqDiff,Int.reduceToNat,reduceIte,reduceCtorEq]
    refine ⟨fun h3 => ?_,fun h3 => ?_⟩
    ·have h3 : (rdAdd r (elementOf (c :: rest)).1).1 ≠ 0 := by simpa using h3
     exact h2 pre.length _ (by simp only [parseN,h]; rw [if_neg (by simp),if_pos h3]) ..
    ·have h3 : (rdAdd r (elementOf (c :: rest)).1).1 = 0 := by simpa using h3
     have h4 := rdAdd_ok ok hel.2.1 h3
     obtain ⟨k,hk⟩ : ∃ k : Nat,(elementOf (c :: rest)).2.1 = k := ⟨(elementOf (c :: rest)).2.1.toNat,by omega⟩
     have e : parseN (n + 1) r (c :: rest) pre.length = parseN n (rdAdd r (elementOf (c :: rest)).1).2 ((c :: rest).drop k) ((pre ++ (c :: rest).take k).length : Nat) := by
      simp only [parseN,h]
      rw [if_neg (by simp),if_neg (by simp [h3]),hk]
      simp only [Int.toNat_natCast,List.length_append,List.length_take]
      congr 1
      omega
     rw [e] at h1 h2
     refine hR _ (rnd_drop _ _ (closed_rd hcl _ _ _) ?_ ?_ (loop28 _ hcl hlen n ((c :: rest).drop k) (pre ++ (c :: rest).take k) (rdAdd r (elementOf (c :: rest)).1).2 g3 g4 (by rw [List.append_assoc,List.take_append_drop]) (by simp only [List.length_drop]; simp at hn ⊢; omega) h4 h1 h2))
     ·have e3 : (((pre ++ (c :: rest).take k).length : Nat) : Int) = (pre.length : Int) + k := by
       rw [List.length_append,List.length_take,show min k (c :: rest).length = k by omega]; omega
      rw [hk,IntWalk.i64_in _ (by omega),e3]
      repeat first | exact .nil | refine .cons (.refl _) ?_ | refine .cons (.forget _) ?_
     ·simp only [LW]
      simp [rdOb]
theorem rd_start {n : Nat} {xs : List V} {σ : Store} : Wk Tryz.prog n xs (σ ++ [.map 3 49 [],.box 108 [.nil,.nil,.i .i64 0,.mp σ.length]]) xs (σ ++ rdOb σ.length 0 0 rdNew) := by
 have h1 := Wk.fieldnil (P := Tryz.prog) (n := n) (xs := xs) (id := σ.length + 1) (j := 0) (σ := σ ++ [.map 3 49 [],.box 108 [.nil,.nil,.i .i64 0,.mp σ.length]]) ti_item (by simp only [W,pexec,xexec,binV,Nat.reduceAdd,Nat.reduceSub,Nat.reduceLeDiff,Nat.reduceEqDiff,Int.reduceToNat,reduceIte,reduceCtorEq]; rfl) rfl
 simp only [W,pexec,xexec,binV,Nat.reduceAdd,Nat.reduceSub,Nat.reduceLeDiff,Nat.reduceEqDiff,Int.reduceToNat,reduceIte,reduceCtorEq] at h1
 have h2 := Wk.fieldnil (P := Tryz.prog) (n := n) (xs := xs) (id := σ.length + 1) (j := 1) (σ := σ ++ [.map 3 49 [],.box 108 [.own (σ.length + 2) 0,.nil,.i .i64 0,.mp σ.length],.row 49 3 32 0 false []]) ti_u8 (by simp only [W,pexec,xexec,binV,Nat.reduceAdd,Nat.reduceSub,Nat.reduceLeDiff,Nat.reduceEqDiff,Int.reduceToNat,reduceIte,reduceCtorEq]; rfl) rfl
 simp only [W,pexec,xexec,binV,Nat.reduceAdd,Nat.reduceSub,Nat.reduceLeDiff,Nat.reduceEqDiff,Int.reduceToNat,reduceIte,reduceCtorEq] at h2
 exact h1.trans h2
theorem notationParse_pc (s : List UInt8) (hlen : s.length < 2 ^ 39) (σ : Store) : PC Tryz.prog 28 [.s s] σ (fun r σ' => r = .tup [.sl 3 ((parse s).1.map It.cells),.i .i64 (parse s).2.1,.i .i64 (parse s).2.2] ∧ σ' = σ) := by
 refine PC.intro Tryz.func28 c28 fun hcl hwf => wpc_sound ?_
 simp only [p28,List.length_cons,List.length_nil,List.replicate,List.cons_append,List.nil_append,Nat.reduceAdd,Nat.reduceSub]
 simp only [VV,Int.reduceBEq,Int.reduceBNe,pexec,xexec,binV,Nat.reduceAdd,Nat.reduceSub,Nat.reduceLeDiff,Nat.reduceEqDiff,Int.reduceToNat,reduceIte,reduceCtorEq]
 have e0 : parse s = parseN (s.length + 1) rdNew s (([] : List UInt8).length : Nat) := rfl
 refine PWc.wk (rd_start.trans (Wk.cvs (ys := [.s s,.u,.u,.i .i64 (([] : List UInt8).length : Nat),.u,.ptr (σ.length + 1) 0,.u,.u,.u,.u,.u,.u,.u,.u,.u,.u,.u,.u,.u,.u,.u,.u,.u,.u,.u,.u,.u,.u,.u,.u,.u,.u,.u,.u,.u,.u,.u,.u,.u]) (by repeat first | exact .nil | refine .cons (.refl _) ?_ | refine .cons (.forget _) ?_))) (PWc.rnd (s.length + 1) (loop28 s hcl hlen (s.length + 1) s [] rdNew 0 0 rfl (by omega) ⟨by simp [rdNew],by simp [rdNew],by simp [rdNew]⟩ ?_ ?_))
 ·intro r' hp hok g1 g2
  intros
  simp only [W,pexec,xexec,binV,Nat.reduceAdd,Nat.reduceSub,Nat.reduceLeDiff,Nat.reduceEqDiff,Int.reduceToNat,reduceIte,reduceCtorEq]
  refine call_ex (flush_pc r' g1 g2 (by have := hok.f; have := hok.len; split at * <;> omega) σ []) (by simp [ev]) ?_
  rintro r σ' ⟨rfl,g3,g4,rfl⟩
  simp only [rdOb,List.append_nil,W,pexec,xexec,binV,Nat.reduceAdd,Nat.reduceSub,Nat.reduceLeDiff,Nat.reduceEqDiff,Int.reduceToNat,reduceIte,reduceCtorEq]
  refine ret_fz 2 hcl (.inr rfl) rfl rfl ?_ ?_
  ·simp [fz,fz1,AllLt,lt_sl,lt_i]
  ·rw [e0,hp]
   simp [fz,fz1,one]
 ·intro at' e hp loc
  intros
  simp only [W,pexec,xexec,binV,Nat.reduceAdd,Nat.reduceSub,Nat.reduceLeDiff,Nat.reduceEqDiff,Int.reduceToNat,reduceIte,reduceCtorEq]
  refine ret_cvs hcl (.inr rfl) rfl (ys := [.sl 3 [],.i .i64 at',.i .i64 e]) (.cons (.nil _) (.cons (.refl _) (.cons (.refl _) .nil))) (by simp only [LW]) ⟨?_,rfl⟩
  rw [e0,hp]
  rfl
end Go.Proofs.Tryz
