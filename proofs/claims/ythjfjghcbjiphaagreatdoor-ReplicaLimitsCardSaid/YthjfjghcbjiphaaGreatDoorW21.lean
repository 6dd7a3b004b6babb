/- A part of the proof of the statement of the last text of this claim: for every two integers ReplicaLimits returns true and leaves the memory as it was. -/
import Derived.Test.YthjfjghcbjiphaaGreatDoorW13
import Derived.Test.YthjfjghcbjiphaaGreatDoorW14
import Derived.Test.YthjfjghcbjiphaaGreatDoorW20
set_option linter.all false

namespace Go.Proofs.Tryz
open Go Go.Pm Go.Bt
theorem loop58 {σ : Store} {K : Exit → St → Prop} (its : List It) (hcl : Closed σ) (hlen : its.length < 2 ^ 40) : ∀ (rest pre : List It) (acc : List Int),its = pre ++ rest → acc.length ≤ pre.length →
  (∀ es,(∀ j0 j1 j2 j4 j5 j6 j7 j8 j9 j10 j11 j12 j13 j14 j15 j16 j17 j18 j19 j20 j21 j22 j23 j24 j25 j26 j27 j28 j29 j30 j31 j32,K (.exit 0) ⟨[j0,j1,j2,.own (σ.length + 1) (numbersFrom acc rest).length,j4,j5,j6,j7,j8,j9,j10,j11,j12,j13,j14,j15,j16,j17,j18,j19,j20,j21,j22,j23,j24,j25,j26,j27,j28,j29,j30,j31,j32],σ ++ [es,.row 3 1 8 (numbersFrom acc rest).length false ((numbersFrom acc rest).map iRow)]⟩)) →
  Rnd σ.length Tryz.prog p58_0 K (rest.length + 1) ⟨[.u,.u,.u,.own (σ.length + 1) acc.length,.mp σ.length,.u,.u,.u,.sl 3 (its.map It.cells),.i .i64 its.length,.i .i64 pre.length,.u,.u,.u,.u,.u,.u,.u,.u,.u,.u,.u,.u,.u,.u,.u,.u,.u,.u,.u,.u,.u,.u],σ ++ [.map 3 4 (setMap acc),.row 3 1 8 acc.length false (acc.map iRow)]⟩ := by
 intro rest
 induction rest with
 | nil =>
  intro pre acc he hac h1
  have he : its = pre := by simpa using he
  subst he
  refine rnd_step fun R hR => ?_
  simp only [p58_0,W,pexec,xexec,binV,Nat.reduceAdd,Nat.reduceSub,Nat.reduceLeDiff,Nat.reduceEqDiff,Int.reduceToNat,reduceIte,reduceCtorEq]
  exact ⟨fun h => by simp at h,fun _ => h1 _ ..⟩
 | cons y rest ih =>
  intro pre acc he hac h1
  subst he
  refine rnd_step fun R hR => ?_
  by_cases hm : y.id ∈ acc
  ·have hf : mapFind (σ ++ [.map 3 4 (setMap acc),.row 3 1 8 acc.length false (acc.map iRow),.box 49 y.cells]) 0 (.mp σ.length) (.i .i64 y.id) = some (some (0 + acc.idxOf y.id,.b true)) := by
    simp only [mapFind,base_get0,List.getElem?_cons_zero,findV_set,hm,if_true]
   simp only [It.cells] at hf
   simp only [p58_0,It.cells,W,pexec,xexec,binV,Nat.reduceAdd,Nat.reduceSub,Nat.reduceLeDiff,Nat.reduceEqDiff,Int.reduceToNat,reduceIte,reduceCtorEq]
   refine ⟨fun _ => ⟨by simp; omega,?_⟩,fun h => by simp at h; omega⟩
   refine call_eq (isTag_pc y _) rfl ?_
   simp only [hf,W,pexec,xexec,binV,Nat.reduceAdd,Nat.reduceSub,Nat.reduceLeDiff,Nat.reduceEqDiff,Int.reduceToNat,reduceIte,reduceCtorEq]
   have e : numbersFrom acc (y :: rest) = numbersFrom acc rest := by
    simp [numbersFrom,hm]
   rw [e] at h1
   have hcl2 : Closed (σ ++ [.map 3 4 (setMap acc),.row 3 1 8 acc.length false (acc.map iRow)]) := closed_add hcl (by simp)
   refine ⟨fun _ => by simp [V.mkey],fun h => by simp at h,fun _ => ?_⟩
   refine hR _ (rnd_drop [_,_] [_] hcl2 ?_ ?_ (ih (pre ++ [y]) acc (by simp) (by simp; omega) h1))
   ·rw [wrap_succ (by simp at hlen; omega)]
    simp only [List.length_append,List.length_cons,List.length_nil]
    repeat first | exact .nil | refine .cons (.refl _) ?_ | refine .cons (.forget _) ?_
   ·simp only [LW,List.length_cons,List.length_nil,Nat.zero_add]
    omega
  ·have hf : mapFind (σ ++ [.map 3 4 (setMap acc),.row 3 1 8 acc.length false (acc.map iRow),.box 49 y.cells]) 0 (.mp σ.length) (.i .i64 y.id) = some none := by
    simp only [mapFind,base_get0,List.getElem?_cons_zero,findV_set,hm,if_false]
   have hf2 : findV 0 (.i .i64 y.id) (setMap acc) 0 = some none := by simp only [findV_set,hm,if_false]
   simp only [It.cells] at hf
   simp only [p58_0,It.cells,W,pexec,xexec,binV,Nat.reduceAdd,Nat.reduceSub,Nat.reduceLeDiff,Nat.reduceEqDiff,Int.reduceToNat,reduceIte,reduceCtorEq]
   refine ⟨fun _ => ⟨by simp; omega,?_⟩,fun h => by simp at h; omega⟩
   refine call_eq (isTag_pc y _) rfl ?_
   simp only [hf,hf2,W,pexec,xexec,binV,Nat.reduceAdd,Nat.reduceSub,Nat.reduceLeDiff,Nat.reduceEqDiff,Int.reduceToNat,reduceIte,reduceCtorEq]
   have hc : acc.contains y.id = false := by simpa using hm
   refine ⟨fun _ => by simp [V.mkey],fun h => ?_,fun h => ?_⟩
   ·have e : numbersFrom acc (y :: rest) = numbersFrom (acc ++ [y.id]) rest := by simp [numbersFrom,hm,h]
    rw [e] at h1
    have hr : acc.map iRow ++ [[V.i .i64 y.id]] = (acc ++ [y.id]).map iRow := by simp [iRow]
    have hs : setMap acc ++ [(V.i .i64 y.id,purifyV [none] (V.b true))] = setMap (acc ++ [y.id]) := by simp [setMap,purifyV]
    have hl : acc.length + 1 = (acc ++ [y.id]).length := by simp
    rw [hr,hs,hl]
    have hcl2 : Closed (σ ++ [.map 3 4 (setMap (acc ++ [y.id])),.row 3 1 8 (acc ++ [y.id]).length false ((acc ++ [y.id]).map iRow)]) := closed_add hcl (by simp)
    refine ⟨by simp [V.mkey,purifyV,V.mval,V.pure],?_,?_⟩
    ·simp at hlen
     simp [maxLen]; omega
    ·refine hR _ (rnd_drop [_,_] [_] hcl2 ?_ ?_ (ih (pre ++ [y]) (acc ++ [y.id]) (by simp) (by simp; omega) h1))
     ·rw [wrap_succ (by simp at hlen; omega)]
      simp only [List.length_append,List.length_cons,List.length_nil]
      repeat first | exact .nil | refine .cons (.refl _) ?_ | refine .cons (.forget _) ?_
     ·simp only [LW,List.length_cons,List.length_nil,Nat.zero_add]
      omega
   ·have e : numbersFrom acc (y :: rest) = numbersFrom acc rest := by simp [numbersFrom,h]
    rw [e] at h1
    have hcl2 : Closed (σ ++ [.map 3 4 (setMap acc),.row 3 1 8 acc.length false (acc.map iRow)]) := closed_add hcl (by simp)
    refine hR _ (rnd_drop [_,_] [_] hcl2 ?_ ?_ (ih (pre ++ [y]) acc (by simp) (by simp; omega) h1))
    ·rw [wrap_succ (by simp at hlen; omega)]
     simp only [List.length_append,List.length_cons,List.length_nil]
     repeat first | exact .nil | refine .cons (.refl _) ?_ | refine .cons (.forget _) ?_
    ·simp only [LW,List.length_cons,List.length_nil,Nat.zero_add]
     omega
theorem numbers_own (its : List It) (hlen : its.length < 2 ^ 40) (σ : Store) : PC Tryz.prog 58 [.sl 3 (its.map It.cells)] σ (fun r σ' => r = .own σ.length 0 ∧ σ' = σ ++ [.row 3 1 8 0 false ((numbers its).map iRow)]) := by
 refine PC.intro Tryz.func58 c58 fun hcl hwf => wpc_sound ?_
 simp only [p58,List.length_cons,List.length_nil,List.replicate,List.cons_append,List.nil_append,Nat.reduceAdd,Nat.reduceSub]
 simp only [List.length_map,W,pexec,xexec,binV,Nat.reduceAdd,Nat.reduceSub,Nat.reduceLeDiff,Nat.reduceEqDiff,Int.reduceToNat,reduceIte,reduceCtorEq]
 refine PWc.wk ((Wk.promote_at (σ := σ) [_] (k := 3) ti_int rfl).trans (Wk.cvs ?_)) (PWc.rnd (its.length + 1) (loop58 its hcl hlen its [] [] rfl (Nat.le_refl _) ?_))
 ·simp only [W,pexec,xexec,binV,Nat.reduceAdd,Nat.reduceSub,Nat.reduceLeDiff,Nat.reduceEqDiff,Int.reduceToNat,reduceIte,reduceCtorEq]
  repeat first | exact .nil | refine .cons (.refl _) ?_ | refine .cons (.forget _) ?_
 ·intros
  simp only [W,pexec,xexec,binV,Nat.reduceAdd,Nat.reduceSub,Nat.reduceLeDiff,Nat.reduceEqDiff,Int.reduceToNat,reduceIte,reduceCtorEq]
  exact ret_own 1 hcl (.inr rfl) rfl rfl rfl (by simp [mvOK,Ob.gen]) (by simp [one,numbers,mv1,Ob.fresh])
theorem numbers_pc (its : List It) (hlen : its.length < 2 ^ 40) (σ : Store) : PC Tryz.prog 58 [.sl 3 (its.map It.cells)] σ (fun r σ' => r = .sl 1 ((numbers its).map iRow) ∧ σ' = σ) :=
 PC.closed fun hcl => PC.fz hcl (numbers_own its hlen σ)
theorem loop61 {σ : Store} {K : Exit → St → Prop} (hcl : Closed σ) (N : Nat) (hN : N < 2 ^ 40) : ∀ (k i : Nat),i + k = N →
  (∀ j0 j1 j2 j4 j5 j6 j7 j8 j9 j10 j11 j12 j13 j14 j15 j16 j17 j18,K (.exit 0) ⟨[j0,j1,j2,.own σ.length 0,j4,j5,j6,j7,j8,j9,j10,j11,j12,j13,j14,j15,j16,j17,j18],σ ++ [.row 3 1 8 0 false (countRows N N)]⟩) →
  Rnd σ.length Tryz.prog p61_0 K (k + 1) ⟨[.u,.u,.u,.own σ.length 0,.u,.u,.u,.u,.i .i64 N,.i .i64 i,.u,.u,.u,.u,.u,.u,.u,.u,.u],σ ++ [.row 3 1 8 0 false (countRows N i)]⟩
 | 0,i,he,h1 => by
  have he : i = N := by omega
  subst he
  refine rnd_step fun R hR => ?_
  simp only [p61_0,W,pexec,xexec,binV,Nat.reduceAdd,Nat.reduceSub,Nat.reduceLeDiff,Nat.reduceEqDiff,Int.reduceToNat,reduceIte,reduceCtorEq]
  exact ⟨fun h => by simp at h,fun _ => h1 ..⟩
 | k + 1,i,he,h1 => by
  have hi : i < N := by omega
  refine rnd_step fun R hR => ?_
  simp only [p61_0,countRows_len (Nat.le_of_lt hi),countRows_get hi,W,pexec,xexec,binV,Nat.reduceAdd,Nat.reduceSub,Nat.reduceLeDiff,Nat.reduceEqDiff,Int.reduceToNat,reduceIte,reduceCtorEq]
  refine ⟨fun _ => ?_,fun h => by simp at h; omega⟩
  have hw := wrap_succ (n := i) (by omega)
  rw [hw]
  have hset : (countRows N i).set i [V.i .i64 (((i + 1 : Nat)) : Int)] = countRows N (i + 1) := by rw [← countRows_set hi]; rfl
  rw [hset]
  refine ⟨by omega,hi,hR _ (rnd_cvs ?_ (loop61 hcl N hN k (i + 1) (by omega) h1))⟩
  repeat first | exact .nil | refine .cons (.refl _) ?_ | refine .cons (.forget _) ?_
theorem counting_pc (n : Nat) (hn : n < 2 ^ 40) (σ : Store) : PC Tryz.prog 61 [.i .i64 n] σ (fun r σ' => r = .sl 1 ((counting n).map iRow) ∧ σ' = σ) := by
 refine PC.intro Tryz.func61 c61 fun hcl hwf => wpc_sound ?_
 simp only [p61,List.length_cons,List.length_nil,List.replicate,List.cons_append,List.nil_append,Nat.reduceAdd,Nat.reduceSub]
 simp only [W,pexec,xexec,binV,Nat.reduceAdd,Nat.reduceSub,Nat.reduceLeDiff,Nat.reduceEqDiff,Int.reduceToNat,reduceIte,reduceCtorEq]
 refine ⟨⟨by omega,.inl trivial,by omega,by omega,by simp [maxLen]; omega⟩,?_⟩
 have e : List.replicate n [V.i .i64 0] = countRows n 0 := by simp [countRows,counting]
 rw [e]
 refine PWc.rnd_cvs (fr' := [.u,.u,.u,.own σ.length 0,.u,.u,.u,.u,.i .i64 n,.i .i64 (0 : Nat),.u,.u,.u,.u,.u,.u,.u,.u,.u]) ?_ (n + 1) (loop61 hcl n hn n 0 (by omega) ?_)
 ·rw [countRows_len (Nat.zero_le _)]
  repeat first | exact .nil | refine .cons (.refl _) ?_ | refine .cons (.forget _) ?_
 ·intros
  simp only [W,pexec,xexec,binV,Nat.reduceAdd,Nat.reduceSub,Nat.reduceLeDiff,Nat.reduceEqDiff,Int.reduceToNat,reduceIte,reduceCtorEq]
  refine ret_fz 0 hcl (.inr rfl) rfl rfl ?_ ?_
  ·simp [fz,fz1,AllLt,lt_sl]
  ·simp [fz,fz1,one,countRows]
def idxI (l : List Int) (x : Int) : Int := if x ∈ l then l.idxOf x else -1
theorem loop91 {σ : Store} {K : Exit → St → Prop} (x : Int) (l : List Int) (hlen : l.length < 2 ^ 63) : ∀ (rest pre : List Int),l = pre ++ rest → x ∉ pre →
  (x ∉ l → (∀ j0 j1 j2 j3 j4 j5 j6 j7 j8 j9 j10 j11 j12 j13 j14 j15 j16 j17 j18,K (.exit 0) ⟨[j0,j1,j2,j3,j4,j5,j6,j7,j8,j9,j10,j11,j12,j13,j14,j15,j16,j17,j18],σ⟩)) → (x ∈ l → (∀ j0 j1 j2 j3 j5 j6 j7 j8 j9 j10 j11 j12 j13 j14 j15 j16 j17 j18,K .ret ⟨[j0,j1,j2,j3,.i .i64 (idxI l x),j5,j6,j7,j8,j9,j10,j11,j12,j13,j14,j15,j16,j17,j18],σ⟩)) →
  Rnd σ.length Tryz.prog p91_0 K (rest.length + 1) ⟨[.sl 1 (l.map iRow),.i .i64 x,.u,.u,.u,.u,.u,.i .i64 l.length,.i .i64 pre.length,.u,.u,.u,.u,.u,.u,.u,.u,.u,.u],σ⟩ := by
 intro rest
 induction rest with
 | nil =>
  intro pre he hn h1 h2
  have he : l = pre := by simpa using he
  subst he
  refine rnd_step fun R hR => ?_
  simp only [p91_0,W,pexec,xexec,binV,Nat.reduceAdd,Nat.reduceSub,Nat.reduceLeDiff,Nat.reduceEqDiff,Int.reduceToNat,reduceIte,reduceCtorEq]
  exact ⟨fun h => by simp at h,fun _ => h1 hn ..⟩
 | cons c rest ih =>
  intro pre he hn h1 h2
  subst he
  refine rnd_step fun R hR => ?_
  simp only [p91_0,iRow,W,pexec,xexec,binV,Nat.reduceAdd,Nat.reduceSub,Nat.reduceLeDiff,Nat.reduceEqDiff,Int.reduceToNat,reduceIte,reduceCtorEq]
  refine ⟨fun _ => ⟨by simp; omega,fun h => ?_,fun h => ?_⟩,fun h => by simp at h; omega⟩
  ·simp at h
   subst h
   have e : idxI (pre ++ x :: rest) x = pre.length := by
    simp [idxI,List.idxOf_append,hn]
   rw [e] at h2
   exact h2 (by simp) ..
  ·simp at h
   refine hR _ (rnd_cvs ?_ (ih (pre ++ [c]) (by simp) (by simp [hn,h]) h1 h2))
   rw [wrap_succ (by simp at hlen; omega)]
   simp only [List.length_append,List.length_cons,List.length_nil]
   repeat first | exact .nil | refine .cons (.refl _) ?_ | refine .cons (.forget _) ?_
theorem indexInt_pc (l : List Int) (x : Int) (σ : Store) : PC Tryz.prog 91 [.sl 1 (l.map iRow),.i .i64 x] σ (fun r σ' => r = .i .i64 (idxI l x) ∧ σ' = σ) := by
 refine PC.intro Tryz.func91 c91 fun hcl hwf => wpc_sound ?_
 have hlen := wf_sl (hwf 0 _ rfl).1
 rw [List.length_map] at hlen
 simp only [p91,List.length_cons,List.length_nil,List.replicate,List.cons_append,List.nil_append,Nat.reduceAdd,Nat.reduceSub]
 simp only [List.length_map,W,pexec,xexec,binV,Nat.reduceAdd,Nat.reduceSub,Nat.reduceLeDiff,Nat.reduceEqDiff,Int.reduceToNat,reduceIte,reduceCtorEq]
 refine PWc.rnd_cvs ?_ (l.length + 1) (loop91 x l hlen l [] rfl (by simp) (fun h => ?_) (fun h => ?_))
 ·repeat first | exact .nil | refine .cons (.refl _) ?_ | refine .cons (.forget _) ?_
 ·intros
  simp only [W,pexec,xexec,binV,Nat.reduceAdd,Nat.reduceSub,Nat.reduceLeDiff,Nat.reduceEqDiff,Int.reduceToNat,reduceIte,reduceCtorEq]
  exact ret_end0 (.inr rfl) rfl ⟨by simp [one,idxI,h],rfl⟩
 ·intros
  simp only [W,pexec,xexec,binV,Nat.reduceAdd,Nat.reduceSub,Nat.reduceLeDiff,Nat.reduceEqDiff,Int.reduceToNat,reduceIte,reduceCtorEq]
  exact ret_end0 (.inr rfl) rfl ⟨rfl,rfl⟩
theorem containsInt_pc (l : List Int) (x : Int) (σ : Store) : PC Tryz.prog 59 [.sl 1 (l.map iRow),.i .i64 x] σ (fun r σ' => r = .b (l.contains x) ∧ σ' = σ) := by
 refine PC.intro Tryz.func59 c59 fun hcl hwf => wpc_sound ?_
 simp only [p59,List.length_cons,List.length_nil,List.replicate,List.cons_append,List.nil_append,Nat.reduceAdd,Nat.reduceSub]
 simp only [W,pexec,xexec,binV,Nat.reduceAdd,Nat.reduceSub,Nat.reduceLeDiff,Nat.reduceEqDiff,Int.reduceToNat,reduceIte,reduceCtorEq]
 refine call_eq (indexInt_pc l x _) rfl ?_
 simp only [W,pexec,xexec,binV,Nat.reduceAdd,Nat.reduceSub,Nat.reduceLeDiff,Nat.reduceEqDiff,Int.reduceToNat,reduceIte,reduceCtorEq]
 refine ret_end0 (.inr rfl) rfl ⟨?_,rfl⟩
 by_cases h : x ∈ l
 ·simp [one,idxI,h]
 ·simp [one,idxI,h]
theorem loop62 {σ : Store} {K : Exit → St → Prop} (a b : List It) (hlen : a.length < 2 ^ 63) (hab : a.length = b.length) : ∀ (ra rb pa pb : List It),a = pa ++ ra → b = pb ++ rb → pa.length = pb.length →
  (itsEq ra rb = true → (∀ j0 j1 j2 j3 j4 j5 j6 j7 j8 j9 j10 j11 j12 j13 j14 j15 j16 j17 j18 j19 j20 j21 j22 j23 j24 j25,K (.exit 0) ⟨[j0,j1,j2,j3,j4,j5,j6,j7,j8,j9,j10,j11,j12,j13,j14,j15,j16,j17,j18,j19,j20,j21,j22,j23,j24,j25],σ⟩)) → (itsEq ra rb = false → (∀ j0 j1 j2 j3 j5 j6 j7 j8 j9 j10 j11 j12 j13 j14 j15 j16 j17 j18 j19 j20 j21 j22 j23 j24 j25,K .ret ⟨[j0,j1,j2,j3,.b false,j5,j6,j7,j8,j9,j10,j11,j12,j13,j14,j15,j16,j17,j18,j19,j20,j21,j22,j23,j24,j25],σ⟩)) →
  Rnd σ.length Tryz.prog p62_0 K (ra.length + 1) ⟨[.sl 3 (a.map It.cells),.sl 3 (b.map It.cells),.u,.u,.u,.u,.u,.u,.u,.u,.u,.u,.i .i64 a.length,.i .i64 pa.length,.u,.u,.u,.u,.u,.u,.u,.u,.u,.u,.u,.u],σ⟩
 | [],rb,pa,pb,ha,hb,hp,h1,h2 => by
  have : rb = [] := by
   subst ha; subst hb
   simp at hab
   have : rb.length = 0 := by omega
   exact List.length_eq_zero_iff.1 this
  subst this
  subst ha
  refine rnd_step fun R hR => ?_
  simp only [p62_0,W,pexec,xexec,binV,Nat.reduceAdd,Nat.reduceSub,Nat.reduceLeDiff,Nat.reduceEqDiff,Int.reduceToNat,reduceIte,reduceCtorEq]
  exact ⟨fun h => by simp at h,fun _ => h1 rfl ..⟩
 | x :: ra,[],pa,pb,ha,hb,hp,h1,h2 => by
  subst ha; subst hb; simp at hab; omega
 | x :: ra,y :: rb,pa,pb,ha,hb,hp,h1,h2 => by
  subst ha; subst hb
  refine rnd_step fun R hR => ?_
  have hat : (List.map It.cells (pb ++ y :: rb)).getD pa.length [] = y.cells := by rw [hp]; exact row_at
  simp only [p62_0,hat,It.cells,cellsEq,scalEq,W,pexec,xexec,binV,Nat.reduceAdd,Nat.reduceSub,Nat.reduceLeDiff,Nat.reduceEqDiff,Int.reduceToNat,reduceIte,reduceCtorEq]
  refine ⟨fun _ => ⟨by simp; omega,by simp; omega,fun h => ?_,fun h => ?_⟩,fun h => by simp at h; omega⟩
  ·refine h2 ?_ ..
   have : itEq x y = false := by simpa only [itEq,Bool.not_eq_true'] using h
   simp [itsEq,this]
  ·have he : itEq x y = true := by simpa only [itEq,Bool.not_eq_false'] using h
   have e : itsEq (x :: ra) (y :: rb) = itsEq ra rb := by simp [itsEq,he]
   rw [e] at h1 h2
   refine hR _ (rnd_cvs ?_ (loop62 _ _ hlen hab ra rb (pa ++ [x]) (pb ++ [y]) (by simp) (by simp) (by simp [hp]) h1 h2))
   rw [wrap_succ (by simp at hlen; omega)]
   simp only [List.length_append,List.length_cons,List.length_nil]
   repeat first | exact .nil | refine .cons (.refl _) ?_ | refine .cons (.forget _) ?_
theorem equalItems_pc (a b : List It) (σ : Store) : PC Tryz.prog 62 [.sl 3 (a.map It.cells),.sl 3 (b.map It.cells)] σ (fun r σ' => r = .b (itsEq a b) ∧ σ' = σ) := by
 refine PC.intro Tryz.func62 c62 fun hcl hwf => wpc_sound ?_
 have hlen := wf_sl (hwf 0 _ rfl).1
 rw [List.length_map] at hlen
 simp only [p62,List.length_cons,List.length_nil,List.replicate,List.cons_append,List.nil_append,Nat.reduceAdd,Nat.reduceSub]
 simp only [List.length_map,W,pexec,xexec,binV,Nat.reduceAdd,Nat.reduceSub,Nat.reduceLeDiff,Nat.reduceEqDiff,Int.reduceToNat,reduceIte,reduceCtorEq]
 refine ⟨fun h => ?_,fun h => ?_⟩
 ·refine ret_end0 (.inr rfl) rfl ⟨?_,rfl⟩
  simp at h
  simp only [one,List.getD_cons_zero,List.getD_cons_succ,V.b.injEq]
  cases e : itsEq a b
  ·rfl
  ·exact absurd (itsEq_len e) (by omega)
 ·simp at h
  refine PWc.rnd_cvs ?_ (a.length + 1) (loop62 a b hlen (by omega) a b [] [] rfl rfl rfl (fun h1 => ?_) (fun h1 => ?_))
  ·simp only [W,pexec,xexec,binV,Nat.reduceAdd,Nat.reduceSub,Nat.reduceLeDiff,Nat.reduceEqDiff,Int.reduceToNat,reduceIte,reduceCtorEq]
   repeat first | exact .nil | refine .cons (.refl _) ?_ | refine .cons (.forget _) ?_
  ·simp only [W,pexec,xexec,binV,Nat.reduceAdd,Nat.reduceSub,Nat.reduceLeDiff,Nat.reduceEqDiff,Int.reduceToNat,reduceIte,reduceCtorEq]
   intros
   exact ret_end0 (.inr rfl) rfl ⟨by simp [one,h1],rfl⟩
  ·simp only [W,pexec,xexec,binV,Nat.reduceAdd,Nat.reduceSub,Nat.reduceLeDiff,Nat.reduceEqDiff,Int.reduceToNat,reduceIte,reduceCtorEq]
   intros
   exact ret_end0 (.inr rfl) rfl ⟨by simp [one,h1],rfl⟩
theorem itemSame_pc (a b : List It) (σ : Store) : PC Tryz.prog 27 [.sl 3 (a.map It.cells),.sl 3 (b.map It.cells)] σ (fun r σ' => r = .b (itsEq a b) ∧ σ' = σ) := by
 refine PC.intro Tryz.func27 c27 fun hcl hwf => wpc_sound ?_
 simp only [p27,List.length_cons,List.length_nil,List.replicate,List.cons_append,List.nil_append,Nat.reduceAdd,Nat.reduceSub]
 simp only [W,pexec,xexec,binV,Nat.reduceAdd,Nat.reduceSub,Nat.reduceLeDiff,Nat.reduceEqDiff,Int.reduceToNat,reduceIte,reduceCtorEq]
 refine call_eq (equalItems_pc a b _) rfl ?_
 simp only [W,pexec,xexec,binV,Nat.reduceAdd,Nat.reduceSub,Nat.reduceLeDiff,Nat.reduceEqDiff,Int.reduceToNat,reduceIte,reduceCtorEq]
 exact ret_end0 (.inr rfl) rfl ⟨rfl,rfl⟩
theorem loop_run {σ : Store} {K : Exit → St → Prop} (its : List It) (go : Nat) (rows : List (List V)) (hcl : Closed σ) (hlen : its.length < 2 ^ 40) :
  ∀ (rest pre : List It) (b : List UInt8) (g : Nat),its = pre ++ rest → b.length + (runText rest).1.length < 2 ^ 40 →
  (∀ g',(∀ j1 j2 j6 j7 j8 j9 j10 j11 j12 j13 j14 j15 j16 j17 j18 j19 j20 j21 j22 j23 j24 j25 j26 j27 j28 j29 j30 j31 j32 j33 j34 j35 j36 j37 j38 j39 j40 j41 j42 j43 j44 j45 j46 j47 j48 j49 j50 j51 j52 j53 j54 j55,K (.exit 2) ⟨[.sl 3 (its.map It.cells),j1,j2,.own σ.length go,.i .i64 (its.length - (runText rest).2.length : Nat),.own (σ.length + 1) g',j6,j7,j8,j9,j10,j11,j12,j13,j14,j15,j16,j17,j18,j19,j20,j21,j22,j23,j24,j25,j26,j27,j28,j29,j30,j31,j32,j33,j34,j35,j36,j37,j38,j39,j40,j41,j42,j43,j44,j45,j46,j47,j48,j49,j50,j51,j52,j53,j54,j55],σ ++ [.row 49 3 32 go false rows,.row 5 1 1 g' false (bytesV (b ++ (runText rest).1))]⟩)) →
  Rnd σ.length Tryz.prog p92_0 K (rest.length + 1) ⟨[.sl 3 (its.map It.cells),.u,.u,.own σ.length go,.i .i64 pre.length,.own (σ.length + 1) g,.u,.u,.u,.u,.u,.u,.u,.u,.u,.u,.u,.u,.u,.u,.u,.u,.u,.u,.u,.u,.u,.u,.u,.u,.u,.u,.u,.u,.u,.u,.u,.u,.u,.u,.u,.u,.u,.u,.u,.u,.u,.u,.u,.u,.u,.u,.u,.u,.u,.u],σ ++ [.row 49 3 32 go false rows,.row 5 1 1 g false (bytesV b)]⟩ := by
 intro rest
 induction rest with
 | nil =>
  intro pre b g he hb h1
  have he : its = pre := by simpa using he
  subst he
  refine rnd_step fun R hR => ?_
  simp only [p92_0,W,pexec,xexec,binV,Nat.reduceAdd,Nat.reduceSub,Nat.reduceLeDiff,Nat.reduceEqDiff,Int.reduceToNat,reduceIte,reduceCtorEq]
  refine ⟨fun h => by simp at h,.i .i64 0,fun h => by simp at h,?_⟩
  simp only [W,pexec,xexec,binV,Nat.reduceAdd,Nat.reduceSub,Nat.reduceLeDiff,Nat.reduceEqDiff,Int.reduceToNat,reduceIte,reduceCtorEq]
  refine ⟨fun h => by simp at h,fun _ => ?_⟩
  have e : b ++ (runText []).1 = b := by simp [runText]
  rw [e] at h1
  exact h1 _ ..
 | cons x rest ih =>
  intro pre b g he hb h1
  subst he
  refine rnd_step fun R hR => ?_
  simp only [p92_0,It.cells,W,pexec,xexec,binV,Nat.reduceAdd,Nat.reduceSub,Nat.reduceLeDiff,Nat.reduceEqDiff,Int.reduceToNat,reduceIte,reduceCtorEq]
  refine ⟨fun _ => by simp; omega,.i .i64 x.kind,fun _ => rfl,?_⟩
  simp only [W,pexec,xexec,binV,Nat.reduceAdd,Nat.reduceSub,Nat.reduceLeDiff,Nat.reduceEqDiff,Int.reduceToNat,reduceIte,reduceCtorEq]
  have hlt : decide ((pre.length : Int) < ((List.map It.cells (pre ++ x :: rest)).length : Int)) = true := by simp; omega
  simp only [hlt,It.cells,W,pexec,xexec,binV,Nat.reduceAdd,Nat.reduceSub,Nat.reduceLeDiff,Nat.reduceEqDiff,Int.reduceToNat,reduceIte,reduceCtorEq]
  refine ⟨fun h => ?_,fun h => ?_⟩
  ·simp at h
   have e1 : (runText (x :: rest)).1 = x.text ++ (runText rest).1 := by simp [runText,h]
   have e2 : (runText (x :: rest)).2 = (runText rest).2 := by simp [runText,h]
   rw [e1] at h1 hb
   rw [e2] at h1
   simp only [← List.append_assoc b] at h1
   rw [List.length_append] at hb
   refine ⟨by simp; omega,⟨?_,?_⟩,?_⟩
   ·simp only [bytesV_length]; omega
   ·simp only [bytesV_length,maxLen]; omega
   ·rw [bytesV_append]
    refine hR _ (rnd_cvs ?_ (ih (pre ++ [x]) (b ++ x.text) (g + 1) (by simp) (by rw [List.length_append]; omega) h1))
    rw [wrap_succ (by simp at hlen; omega)]
    simp only [List.length_append,List.length_cons,List.length_nil]
    repeat first | exact .nil | refine .cons (.refl _) ?_ | refine .cons (.forget _) ?_
  ·simp at h
   have e1 : (runText (x :: rest)) = ([],x :: rest) := by simp [runText,h]
   rw [e1] at h1
   have e2 : (pre ++ x :: rest).length - (x :: rest).length = pre.length := by simp
   have h2 := h1 g
   simp only [e2,List.append_nil] at h2
   exact h2 ..
theorem ti_item : Ti Tryz.prog 49 3 32 := tiB_ok (by kernel_rfl)
theorem ti_u8 : Ti Tryz.prog 5 1 1 := tiB_ok (by kernel_rfl)
theorem loop_norm {σ : Store} {K : Exit → St → Prop} (its : List It) (hcl : Closed σ) (hlen : its.length < 2 ^ 40) :
  ∀ (n : Nat) (rest pre out : List It),its = pre ++ rest → rest.length ≤ n → textLen rest < 2 ^ 40 → out.length ≤ pre.length →
  (∀ j0 j1 j2 j4 j5 j6 j7 j8 j9 j10 j11 j12 j13 j14 j15 j16 j17 j18 j19 j20 j21 j22 j23 j24 j25 j26 j27 j28 j29 j30 j31 j32 j33 j34 j35 j36 j37 j38 j39 j40 j41 j42 j43 j44 j45 j46 j47 j48 j49 j50 j51 j52 j53 j54 j55,K (.exit 0) ⟨[j0,j1,j2,.own σ.length (out ++ normN n rest).length,j4,j5,j6,j7,j8,j9,j10,j11,j12,j13,j14,j15,j16,j17,j18,j19,j20,j21,j22,j23,j24,j25,j26,j27,j28,j29,j30,j31,j32,j33,j34,j35,j36,j37,j38,j39,j40,j41,j42,j43,j44,j45,j46,j47,j48,j49,j50,j51,j52,j53,j54,j55],σ ++ [.row 49 3 32 (out ++ normN n rest).length false ((out ++ normN n rest).map It.cells)]⟩) →
  Rnd σ.length Tryz.prog p92_1 K (n + 1) ⟨[.sl 3 (its.map It.cells),.u,.u,.own σ.length out.length,.i .i64 pre.length,.u,.u,.u,.u,.u,.u,.u,.u,.u,.u,.u,.u,.u,.u,.u,.u,.u,.u,.u,.u,.u,.u,.u,.u,.u,.u,.u,.u,.u,.u,.u,.u,.u,.u,.u,.u,.u,.u,.u,.u,.u,.u,.u,.u,.u,.u,.u,.u,.u,.u,.u],σ ++ [.row 49 3 32 out.length false (out.map It.cells)]⟩
 | n,[],pre,out,he,hn,ht,ho,h1 => by
  have he : its = pre := by simpa using he
  subst he
  have e : out ++ normN n [] = out := by cases n <;> simp [normN]
  rw [e] at h1
  refine rnd_step fun R hR => ?_
  simp only [p92_1,W,pexec,xexec,binV,Nat.reduceAdd,Nat.reduceSub,Nat.reduceLeDiff,Nat.reduceEqDiff,Int.reduceToNat,reduceIte,reduceCtorEq]
  exact ⟨fun h => by simp at h,fun _ => h1 ..⟩
 | 0,x :: rest,pre,out,he,hn,ht,ho,h1 => by simp at hn
 | n + 1,x :: rest,pre,out,he,hn,ht,ho,h1 => by
  subst he
  refine rnd_step fun R hR => ?_
  simp only [p92_1,It.cells,W,pexec,xexec,binV,Nat.reduceAdd,Nat.reduceSub,Nat.reduceLeDiff,Nat.reduceEqDiff,Int.reduceToNat,reduceIte,reduceCtorEq]
  refine ⟨fun _ => ⟨by simp; omega,fun hk => ?_,fun hk => ?_⟩,fun h => by simp at h; omega⟩
  ·simp at hk
   have e : out ++ normN (n + 1) (x :: rest) = (out ++ [x]) ++ normN n rest := by simp [normN,hk]
   rw [e] at h1
   have hr : out.map It.cells ++ [[.i .i64 x.kind,.s x.text,.i .i64 x.id]] = (out ++ [x]).map It.cells := by simp [It.cells]
   have hl : out.length + 1 = (out ++ [x]).length := by simp
   rw [hr,hl]
   simp only [textLen] at ht
   refine ⟨by simp; omega,?_,?_⟩
   ·simp at hlen
    simp [maxLen]; omega
   ·refine hR _ (rnd_cvs ?_ (loop_norm _ hcl hlen n rest (pre ++ [x]) (out ++ [x]) (by simp) (by simp at hn; omega) (by omega) (by simp; omega) h1))
    rw [wrap_succ (by simp at hlen; omega)]
    simp only [List.length_append,List.length_cons,List.length_nil]
    repeat first | exact .nil | refine .cons (.refl _) ?_ | refine .cons (.forget _) ?_
  ·simp at hk
   obtain ⟨run,hrun⟩ := runText_split (x :: rest)
   have hlr := runText_short (r := rest) hk
   have htt := runText_text (x :: rest)
   have hpl : (pre ++ x :: rest).length - (runText (x :: rest)).2.length = (pre ++ run).length := by
    have := congrArg List.length hrun
    simp only [List.length_append] at this ⊢
    omega
   refine PWc.wk ((Wk.promote_at (σ := σ) [_] (k := 5) ti_u8 rfl).trans (Wk.cvs ?_)) (PWc.rnd ((x :: rest).length + 1) (loop_run _ out.length (out.map It.cells) hcl hlen (x :: rest) pre [] 0 rfl (by simp; omega) ?_))
   ·simp only [W,pexec,xexec,binV,Nat.reduceAdd,Nat.reduceSub,Nat.reduceLeDiff,Nat.reduceEqDiff,Int.reduceToNat,reduceIte,reduceCtorEq]
    repeat first | exact .nil | refine .cons (.refl _) ?_ | refine .cons (.forget _) ?_
   ·intros
    rw [hpl,List.nil_append]
    simp only [bytesV_length,bytesOf_bytesV,W,pexec,xexec,binV,Nat.reduceAdd,Nat.reduceSub,Nat.reduceLeDiff,Nat.reduceEqDiff,Int.reduceToNat,reduceIte,reduceCtorEq]
    have hits : pre ++ x :: rest = (pre ++ run) ++ (runText (x :: rest)).2 := by rw [List.append_assoc,← hrun]
    have hrl : 1 ≤ run.length := by
     have := congrArg List.length hrun
     simp only [List.length_append,List.length_cons] at this
     omega
    refine ⟨fun h => ⟨?_,?_⟩,fun h => ?_⟩
    ·simp at hlen
     simp [maxLen]; omega
    ·simp at h
     have e : out ++ normN (n + 1) (x :: rest) = (out ++ [⟨1,(runText (x :: rest)).1,0⟩]) ++ normN n (runText (x :: rest)).2 := by
      have : ¬ (runText (x :: rest)).1.length = 0 := by omega
      simp [normN,hk,this]
     rw [e] at h1
     have hr : out.map It.cells ++ [[.i .i64 1,.s (runText (x :: rest)).1,.i .i64 0]] = (out ++ [(⟨1,(runText (x :: rest)).1,0⟩ : It)]).map It.cells := by simp [It.cells]
     have hl : out.length + 1 = (out ++ [(⟨1,(runText (x :: rest)).1,0⟩ : It)]).length := by simp
     rw [hr,hl]
     have hcl2 : Closed (σ ++ [.row 49 3 32 (out ++ [(⟨1,(runText (x :: rest)).1,0⟩ : It)]).length false ((out ++ [(⟨1,(runText (x :: rest)).1,0⟩ : It)]).map It.cells)]) := closed_add hcl (by simp)
     refine hR _ (rnd_drop [_] [_] hcl2 ?_ ?_ (loop_norm _ hcl hlen n (runText (x :: rest)).2 (pre ++ run) (out ++ [⟨1,(runText (x :: rest)).1,0⟩]) hits (by simp at hn; omega) (by omega) (by simp; omega) h1))
     ·repeat first | exact .nil | refine .cons (.refl _) ?_ | refine .cons (.forget _) ?_
     ·simp only [LW,List.length_cons,List.length_nil,Nat.zero_add]
      omega
    ·simp at h
     have e : out ++ normN (n + 1) (x :: rest) = out ++ normN n (runText (x :: rest)).2 := by
      simp [normN,hk,h]
     rw [e] at h1
     have hcl2 : Closed (σ ++ [.row 49 3 32 out.length false (out.map It.cells)]) := closed_add hcl (by simp)
     refine hR _ (rnd_drop [_] [_] hcl2 ?_ ?_ (loop_norm _ hcl hlen n (runText (x :: rest)).2 (pre ++ run) out hits (by simp at hn; omega) (by omega) (by simp; omega) h1))
     ·repeat first | exact .nil | refine .cons (.refl _) ?_ | refine .cons (.forget _) ?_
     ·simp only [LW,List.length_cons,List.length_nil,Nat.zero_add]
      omega
theorem normalize_pc (its : List It) (hlen : its.length < 2 ^ 40) (ht : textLen its < 2 ^ 40) (σ : Store) : PC Tryz.prog 92 [.sl 3 (its.map It.cells)] σ (fun r σ' => r = .sl 3 ((normalize its).map It.cells) ∧ σ' = σ) := by
 refine PC.intro Tryz.func92 c92 fun hcl hwf => wpc_sound ?_
 simp only [p92,List.length_cons,List.length_nil,List.replicate,List.cons_append,List.nil_append,Nat.reduceAdd,Nat.reduceSub]
 simp only [W,pexec,xexec,binV,Nat.reduceAdd,Nat.reduceSub,Nat.reduceLeDiff,Nat.reduceEqDiff,Int.reduceToNat,reduceIte,reduceCtorEq]
 refine PWc.wk ((Wk.promote (k := 3) ti_item rfl).trans (Wk.cvs ?_)) (PWc.rnd (its.length + 1) (loop_norm its hcl hlen its.length its [] [] rfl (Nat.le_refl _) ht (Nat.le_refl _) ?_))
 ·simp only [W,pexec,xexec,binV,Nat.reduceAdd,Nat.reduceSub,Nat.reduceLeDiff,Nat.reduceEqDiff,Int.reduceToNat,reduceIte,reduceCtorEq]
  repeat first | exact .nil | refine .cons (.refl _) ?_ | refine .cons (.forget _) ?_
 ·intros
  simp only [W,pexec,xexec,binV,Nat.reduceAdd,Nat.reduceSub,Nat.reduceLeDiff,Nat.reduceEqDiff,Int.reduceToNat,reduceIte,reduceCtorEq]
  refine ret_fz 0 hcl (.inr rfl) rfl rfl ?_ ?_
  ·simp [fz,fz1,AllLt,lt_sl]
  ·simp [fz,fz1,one,normalize]
theorem loop60_0 {σ : Store} {K : Exit → St → Prop} (F : V) (fr to : List Int) (hfr : fr.length < 2 ^ 63) :
  ∀ (i : Nat) (l : List (Int × Int)),i ≤ min fr.length to.length → (∀ x,getA x l = toF (fr.drop i) (to.drop i) x) →
  (∀ l,(∀ x,getA x l = toF fr to x) → (∀ j1 j2 j3 j4 j5 j6 j8 j9 j10 j11 j12 j13 j14 j15 j16 j17 j18 j19 j20 j21 j22 j23 j24 j25 j26 j27 j28 j29 j30 j31 j32 j33 j34 j35 j36 j37 j38 j39 j40 j41 j42 j43 j44 j45 j46 j47 j48 j49 j50 j51 j52 j53 j54 j55 j56 j57 j58 j59,K (.exit 0) ⟨[F,j1,j2,j3,j4,j5,j6,.mp σ.length,j8,j9,j10,j11,j12,j13,j14,j15,j16,j17,j18,j19,j20,j21,j22,j23,j24,j25,j26,j27,j28,j29,j30,j31,j32,j33,j34,j35,j36,j37,j38,j39,j40,j41,j42,j43,j44,j45,j46,j47,j48,j49,j50,j51,j52,j53,j54,j55,j56,j57,j58,j59],σ ++ [.map 3 3 (mapII l)]⟩)) →
  Rnd σ.length Tryz.prog p60_0 K (i + 1) ⟨[F,.sl 1 (fr.map iRow),.sl 1 (to.map iRow),.u,.u,.u,.u,.mp σ.length,.i .i64 ((i : Int) - 1),.u,.u,.u,.u,.u,.u,.u,.u,.u,.u,.u,.u,.u,.u,.u,.u,.u,.u,.u,.u,.u,.u,.u,.u,.u,.u,.u,.u,.u,.u,.u,.u,.u,.u,.u,.u,.u,.u,.u,.u,.u,.u,.u,.u,.u,.u,.u,.u,.u,.u,.u],σ ++ [.map 3 3 (mapII l)]⟩
 | 0,l,hi,hl,h1 => by
  refine rnd_step fun R hR => ?_
  simp only [p60_0,W,pexec,xexec,binV,Nat.reduceAdd,Nat.reduceSub,Nat.reduceLeDiff,Nat.reduceEqDiff,Int.reduceToNat,reduceIte,reduceCtorEq]
  exact ⟨fun h => by simp at h,fun _ => h1 l (by simpa using hl) ..⟩
 | i + 1,l,hi,hl,h1 => by
  have hi1 : i < fr.length := by omega
  have hi2 : i < to.length := by omega
  have e0 : ((i + 1 : Nat) : Int) - 1 = (i : Nat) := by omega
  have hw : IntKind.i64.wrap ((i : Int) - 1) = (i : Int) - 1 := IntWalk.i64_in _ (by omega)
  have hnext : ∀ x,getA x (updA l (fr.getD i 0) (to.getD i 0)) = toF (fr.drop i) (to.drop i) x := fun x => by rw [getA_upd,toF_drop hi1 hi2,hl x]
  rw [e0]
  refine rnd_step fun R hR => ?_
  simp only [p60_0,Int.toNat_natCast,at2_iRow hi1,at2_iRow hi2,W,pexec,xexec,binV,Nat.reduceAdd,Nat.reduceSub,Nat.reduceLeDiff,Nat.reduceEqDiff,Int.reduceToNat,reduceIte,reduceCtorEq]
  rcases mapII_cases l (fr.getD i 0) with ⟨_,h3,h4⟩ | ⟨k,b,_,h3,h4⟩
  all_goals
   simp only [h3,hw,purifyV,h4,W,pexec,xexec,binV,Nat.reduceAdd,Nat.reduceSub,Nat.reduceLeDiff,Nat.reduceEqDiff,Int.reduceToNat,reduceIte,reduceCtorEq]
   refine ⟨fun _ => ⟨by simp; omega,by simp; omega,by simp [V.mkey,V.mval,V.pure],?_⟩,fun h => by simp at h <;> omega⟩
   refine hR _ (rnd_cvs ?_ (loop60_0 F fr to hfr i _ (by omega) hnext h1))
   repeat first | exact .nil | refine .cons (.refl _) ?_ | refine .cons (.forget _) ?_
theorem loop60_1 {σ : Store} {K : Exit → St → Prop} (its : List It) (fr to : List Int) (l : List (Int × Int)) (hcl : Closed σ) (hlen : its.length < 2 ^ 40) (hl : ∀ x,getA x l = toF fr to x) : ∀ (rest pre : List It) (out : List It),its = pre ++ rest → out.length ≤ pre.length →
  (∀ j0 j1 j2 j3 j4 j5 j6 j7 j8 j10 j11 j12 j13 j14 j15 j16 j17 j18 j19 j20 j21 j22 j23 j24 j25 j26 j27 j28 j29 j30 j31 j32 j33 j34 j35 j36 j37 j38 j39 j40 j41 j42 j43 j44 j45 j46 j47 j48 j49 j50 j51 j52 j53 j54 j55 j56 j57 j58 j59,K (.exit 2) ⟨[j0,j1,j2,j3,j4,j5,j6,j7,j8,.own (σ.length + 1) (out ++ renamed rest fr to).length,j10,j11,j12,j13,j14,j15,j16,j17,j18,j19,j20,j21,j22,j23,j24,j25,j26,j27,j28,j29,j30,j31,j32,j33,j34,j35,j36,j37,j38,j39,j40,j41,j42,j43,j44,j45,j46,j47,j48,j49,j50,j51,j52,j53,j54,j55,j56,j57,j58,j59],σ ++ [.map 3 3 (mapII l),.row 49 3 32 (out ++ renamed rest fr to).length false ((out ++ renamed rest fr to).map It.cells)]⟩) →
  Rnd σ.length Tryz.prog p60_1 K (rest.length + 1) ⟨[.u,.u,.u,.u,.u,.u,.u,.mp σ.length,.u,.own (σ.length + 1) out.length,.u,.u,.u,.u,.u,.u,.u,.u,.u,.u,.u,.u,.u,.u,.u,.u,.u,.u,.u,.u,.u,.u,.u,.u,.sl 3 (its.map It.cells),.i .i64 its.length,.i .i64 pre.length,.u,.u,.u,.u,.u,.u,.u,.u,.u,.u,.u,.u,.u,.u,.u,.u,.u,.u,.u,.u,.u,.u,.u],σ ++ [.map 3 3 (mapII l),.row 49 3 32 out.length false (out.map It.cells)]⟩ := by
 intro rest
 induction rest with
 | nil =>
  intro pre out he ho h1
  have he : its = pre := by simpa using he
  subst he
  have e : out ++ renamed [] fr to = out := by simp [renamed]
  rw [e] at h1
  refine rnd_step fun R hR => ?_
  simp only [p60_1,W,pexec,xexec,binV,Nat.reduceAdd,Nat.reduceSub,Nat.reduceLeDiff,Nat.reduceEqDiff,Int.reduceToNat,reduceIte,reduceCtorEq]
  exact ⟨fun h => by simp at h,fun _ => h1 ..⟩
 | cons x rest ih =>
  intro pre out he ho h1
  subst he
  have hw : IntKind.i64.wrap ((pre.length : Int) + 1) = (((pre ++ [x]).length : Nat) : Int) := by
   rw [wrap_succ (by simp at hlen; omega)]; simp
  have hit : pre ++ x :: rest = (pre ++ [x]) ++ rest := by simp
  have put : ∀ (y : It),ren fr to x = some y → ∀ {R : St → Prop} {f0 : List V} ,(∀ st',Rnd σ.length Tryz.prog p60_1 K (rest.length + 1) st' → R st') → Cvs f0 [.u,.u,.u,.u,.u,.u,.u,.mp σ.length,.u,.own (σ.length + 1) (out ++ [y]).length,.u,.u,.u,.u,.u,.u,.u,.u,.u,.u,.u,.u,.u,.u,.u,.u,.u,.u,.u,.u,.u,.u,.u,.u,.sl 3 ((pre ++ x :: rest).map It.cells),.i .i64 (pre ++ x :: rest).length,.i .i64 (pre ++ [x]).length,.u,.u,.u,.u,.u,.u,.u,.u,.u,.u,.u,.u,.u,.u,.u,.u,.u,.u,.u,.u,.u,.u,.u] →
    R ⟨f0,σ ++ [.map 3 3 (mapII l),.row 49 3 32 (out ++ [y]).length false ((out ++ [y]).map It.cells),.box 49 y.cells]⟩ := fun y hy R f0 hR hc => by
   have e : out ++ renamed (x :: rest) fr to = (out ++ [y]) ++ renamed rest fr to := by simp [renamed,hy]
   rw [e] at h1
   have hcl2 : Closed (σ ++ [.map 3 3 (mapII l),.row 49 3 32 (out ++ [y]).length false ((out ++ [y]).map It.cells)]) := closed_add hcl (by simp)
   refine hR _ (rnd_drop [_,_] [_] hcl2 hc ?_ (ih (pre ++ [x]) (out ++ [y]) hit (by simp; omega) h1))
   simp only [LW,List.length_cons,List.length_nil,Nat.zero_add]
   omega
  have okA : ∀ (m : Nat),m ≤ pre.length → ((m + 1) * 32 ≤ 2 ^ 47 ∧ m + 1 ≤ maxLen) := fun m hm => by simp at hlen; simp [maxLen]; omega
  have hrow : ∀ (y : It),out.map It.cells ++ [[.i .i64 y.kind,.s y.text,.i .i64 y.id]] = (out ++ [y]).map It.cells := fun y => by simp [It.cells]
  have hlo : ∀ (y : It),out.length + 1 = (out ++ [y]).length := fun y => by simp
  refine rnd_step fun R hR => ?_
  simp only [p60_1,It.cells,W,pexec,xexec,binV,Nat.reduceAdd,Nat.reduceSub,Nat.reduceLeDiff,Nat.reduceEqDiff,Int.reduceToNat,reduceIte,reduceCtorEq]
  refine ⟨fun _ => ⟨by simp; omega,?_⟩,fun h => by simp at h; omega⟩
  refine call_eq (isTag_pc x _) rfl ?_
  simp only [W,pexec,xexec,binV,Nat.reduceAdd,Nat.reduceSub,Nat.reduceLeDiff,Nat.reduceEqDiff,Int.reduceToNat,reduceIte,reduceCtorEq]
  refine ⟨fun ht => ?_,fun ht => ?_⟩
  ·have hf : ∀ s,mapFind (σ ++ (.map 3 3 (mapII l)) :: s) 0 (.mp σ.length) (.i .i64 x.id) = findV 0 (.i .i64 x.id) (mapII l) 0 := fun s => by simp only [mapFind,base_get0,List.getElem?_cons_zero]
   rcases mapII_cases l x.id with ⟨h2,h3,h4⟩ | ⟨k,b,h2,h3,h4⟩
   ·have hren : ren fr to x = none := by simp only [ren,ht,if_true,← hl x.id,h2,Option.map_none]
    have e : out ++ renamed (x :: rest) fr to = out ++ renamed rest fr to := by simp [renamed,hren]
    rw [e] at h1
    simp only [hf,h3,W,pexec,xexec,binV,Nat.reduceAdd,Nat.reduceSub,Nat.reduceLeDiff,Nat.reduceEqDiff,Int.reduceToNat,reduceIte,reduceCtorEq]
    refine ⟨by simp [V.mkey],?_⟩
    have hcl2 : Closed (σ ++ [.map 3 3 (mapII l),.row 49 3 32 out.length false (out.map It.cells)]) := closed_add hcl (by simp)
    refine hR _ (rnd_drop [_,_] [_] hcl2 ?_ ?_ (ih (pre ++ [x]) out hit (by simp; omega) h1))
    ·rw [hw]; repeat first | exact .nil | refine .cons (.refl _) ?_ | refine .cons (.forget _) ?_
    ·simp only [LW,List.length_cons,List.length_nil,Nat.zero_add]
     omega
   ·have hren : ren fr to x = some ⟨x.kind,x.text,b⟩ := by simp only [ren,ht,if_true,← hl x.id,h2,Option.map_some]
    simp only [hf,h3,W,pexec,xexec,binV,Nat.reduceAdd,Nat.reduceSub,Nat.reduceLeDiff,Nat.reduceEqDiff,Int.reduceToNat,reduceIte,reduceCtorEq]
    refine ⟨by simp [V.mkey],⟨okA _ (by rw [List.length_map]; exact ho),?_⟩⟩
    rw [hlo ⟨x.kind,x.text,b⟩,hrow ⟨x.kind,x.text,b⟩]
    refine put _ hren hR ?_
    rw [hw]; repeat first | exact .nil | refine .cons (.refl _) ?_ | refine .cons (.forget _) ?_
  ·have hren : ren fr to x = some x := by simp only [ren,ht]; rfl
   refine ⟨okA _ (by rw [List.length_map]; exact ho),?_⟩
   rw [hlo x,hrow x]
   refine put _ hren hR ?_
   rw [hw]; repeat first | exact .nil | refine .cons (.refl _) ?_ | refine .cons (.forget _) ?_
theorem rename_pc (its : List It) (fr to : List Int) (hlen : its.length < 2 ^ 40) (ht : textLen its < 2 ^ 40) (σ : Store) : PC Tryz.prog 60 [.sl 3 (its.map It.cells),.sl 1 (fr.map iRow),.sl 1 (to.map iRow)] σ (fun r σ' => r = .sl 3 ((rename its fr to).map It.cells) ∧ σ' = σ) := by
 refine PC.intro Tryz.func60 c60 fun hcl hwf => wpc_sound ?_
 have hfr := wf_sl (hwf 1 _ rfl).1
 have hto := wf_sl (hwf 2 _ rfl).1
 rw [List.length_map] at hfr hto
 simp only [p60,List.length_cons,List.length_nil,List.replicate,List.cons_append,List.nil_append,Nat.reduceAdd,Nat.reduceSub]
 simp only [List.length_map,W,pexec,xexec,binV,Nat.reduceAdd,Nat.reduceSub,Nat.reduceLeDiff,Nat.reduceEqDiff,Int.reduceToNat,reduceIte,reduceCtorEq]
 have hmin : IntKind.i64.wrap ((if ((to.length : Int) < (fr.length : Int)) then (to.length : Int) else (fr.length : Int)) - 1) = ((min fr.length to.length : Nat) : Int) - 1 := by
  rw [IntWalk.i64_in _ (by split <;> omega)]
  split <;> omega
 rw [hmin]
 refine PWc.rnd_cvs (fr' := [.sl 3 (its.map It.cells),.sl 1 (fr.map iRow),.sl 1 (to.map iRow),.u,.u,.u,.u,.mp σ.length,.i .i64 (((min fr.length to.length : Nat) : Int) - 1),.u,.u,.u,.u,.u,.u,.u,.u,.u,.u,.u,.u,.u,.u,.u,.u,.u,.u,.u,.u,.u,.u,.u,.u,.u,.u,.u,.u,.u,.u,.u,.u,.u,.u,.u,.u,.u,.u,.u,.u,.u,.u,.u,.u,.u,.u,.u,.u,.u,.u,.u]) ?_ _ (loop60_0 _ fr to hfr (min fr.length to.length) [] (Nat.le_refl _) (fun x => by rw [toF_end (Nat.le_refl _)]; rfl) ?_)
 ·repeat first | exact .nil | refine .cons (.refl _) ?_ | refine .cons (.forget _) ?_
 ·intro l hl
  intros
  simp only [List.length_map,W,pexec,xexec,binV,Nat.reduceAdd,Nat.reduceSub,Nat.reduceLeDiff,Nat.reduceEqDiff,Int.reduceToNat,reduceIte,reduceCtorEq]
  refine PWc.wk ((Wk.promote_at (σ := σ) [_] (k := 9) ti_item rfl).trans (Wk.cvs ?_)) (PWc.rnd (its.length + 1) (loop60_1 its fr to l hcl hlen hl its [] [] rfl (Nat.le_refl _) ?_))
  ·simp only [W,pexec,xexec,binV,Nat.reduceAdd,Nat.reduceSub,Nat.reduceLeDiff,Nat.reduceEqDiff,Int.reduceToNat,reduceIte,reduceCtorEq]
   repeat first | exact .nil | refine .cons (.refl _) ?_ | refine .cons (.forget _) ?_
  ·intros
   simp only [List.nil_append,W,pexec,xexec,binV,Nat.reduceAdd,Nat.reduceSub,Nat.reduceLeDiff,Nat.reduceEqDiff,Int.reduceToNat,reduceIte,reduceCtorEq]
   refine call_fz (σ.length + 1) (by simp only [base_get]; rfl) (normalize_pc (renamed its fr to) (Nat.lt_of_le_of_lt (renamed_len _ _ _) hlen) (Nat.lt_of_le_of_lt (renamed_text _ _ _) ht) _) (by simp [fz,fz1,ev]) ?_
   simp only [W,pexec,xexec,binV,Nat.reduceAdd,Nat.reduceSub,Nat.reduceLeDiff,Nat.reduceEqDiff,Int.reduceToNat,reduceIte,reduceCtorEq]
   exact ret_end hcl (.inr rfl) rfl (by simp only [LW]) ⟨rfl,rfl⟩
theorem loop26 {σ : Store} {K : Exit → St → Prop} (A B : V) (m : List Int) (hlen : m.length < 2 ^ 40) : ∀ (rest pre l : List Int) (g : Nat) (sh : Bool),m = pre ++ rest → l.length + rest.length < 2 ^ 40 →
  (∀ g sh,(∀ j2 j3 j4 j5 j7 j8 j9 j10 j11 j12 j13 j14 j15 j16 j17 j18 j19 j20 j21 j22 j23 j24 j25 j26 j27 j28 j29 j30 j31 j32 j33 j34 j35 j36 j37 j38,K (.exit 0) ⟨[A,B,j2,j3,j4,j5,.own σ.length g,j7,j8,j9,j10,j11,j12,j13,j14,j15,j16,j17,j18,j19,j20,j21,j22,j23,j24,j25,j26,j27,j28,j29,j30,j31,j32,j33,j34,j35,j36,j37,j38],σ ++ [.row 3 1 8 g sh ((moreNumbers l rest).map iRow)]⟩)) →
  Rnd σ.length Tryz.prog p26_0 K (rest.length + 1) ⟨[A,B,.u,.u,.u,.u,.own σ.length g,.u,.u,.u,.u,.u,.sl 1 (m.map iRow),.i .i64 m.length,.i .i64 pre.length,.u,.u,.u,.u,.u,.u,.u,.u,.u,.u,.u,.u,.u,.u,.u,.u,.u,.u,.u,.u,.u,.u,.u,.u],σ ++ [.row 3 1 8 g sh (l.map iRow)]⟩ := by
 intro rest
 induction rest with
 | nil =>
  intro pre l g sh he hl h1
  have he : m = pre := by simpa using he
  subst he
  refine rnd_step fun R hR => ?_
  simp only [p26_0,W,pexec,xexec,binV,Nat.reduceAdd,Nat.reduceSub,Nat.reduceLeDiff,Nat.reduceEqDiff,Int.reduceToNat,reduceIte,reduceCtorEq]
  exact ⟨fun h => by simp at h,fun _ => h1 _ _ ..⟩
 | cons x rest ih =>
  intro pre l g sh he hl h1
  subst he
  have hw : IntKind.i64.wrap ((pre.length : Int) + 1) = (((pre ++ [x]).length : Nat) : Int) := by
   rw [wrap_succ (by simp at hlen; omega)]; simp
  have hit : pre ++ x :: rest = (pre ++ [x]) ++ rest := by simp
  refine rnd_step fun R hR => ?_
  simp only [p26_0,iRow,W,pexec,xexec,binV,Nat.reduceAdd,Nat.reduceSub,Nat.reduceLeDiff,Nat.reduceEqDiff,Int.reduceToNat,reduceIte,reduceCtorEq]
  refine ⟨fun _ => ⟨by simp; omega,?_⟩,fun h => by simp at h <;> omega⟩
  refine call_fz σ.length (by simp only [base_get0]; rfl) (containsInt_pc l x _) (by simp [fz,fz1,ev,iRow]) ?_
  simp only [W,pexec,xexec,binV,Nat.reduceAdd,Nat.reduceSub,Nat.reduceLeDiff,Nat.reduceEqDiff,Int.reduceToNat,reduceIte,reduceCtorEq]
  simp only [List.length_cons] at hl
  refine ⟨fun h => ⟨?_,?_⟩,fun h => ?_⟩
  ·simp [maxLen]; omega
  ·have e : moreNumbers l (x :: rest) = moreNumbers (l ++ [x]) rest := by
    simp at h
    simp [moreNumbers,h]
   rw [e] at h1
   have hr : List.map (fun n => [V.i .i64 n]) l ++ [[.i .i64 x]] = (l ++ [x]).map iRow := by simp [iRow]
   refine hR _ ?_
   have hr2 : l.map iRow ++ [[.i .i64 x]] = (l ++ [x]).map iRow := by simp [iRow]
   rw [hr2]
   refine rnd_cvs ?_ (ih (pre ++ [x]) (l ++ [x]) (g + 1) _ hit (by simp; omega) h1)
   rw [hw]; repeat first | exact .nil | refine .cons (.refl _) ?_ | refine .cons (.forget _) ?_
  ·have e : moreNumbers l (x :: rest) = moreNumbers l rest := by
    simp at h
    simp [moreNumbers,h]
   rw [e] at h1
   refine hR _ (rnd_cvs ?_ (ih (pre ++ [x]) l g _ hit (by omega) h1))
   rw [hw]; repeat first | exact .nil | refine .cons (.refl _) ?_ | refine .cons (.forget _) ?_
theorem canonical_pc (s t : List It) (hs : s.length < 2 ^ 39) (ht : t.length < 2 ^ 39) (hs2 : textLen s < 2 ^ 40) (ht2 : textLen t < 2 ^ 40) (σ : Store) : PC Tryz.prog 26 [.sl 3 (s.map It.cells),.sl 3 (t.map It.cells)] σ (fun r σ' => r = .tup [.sl 3 ((canonS s t).map It.cells),.sl 3 ((canonT s t).map It.cells)] ∧ σ' = σ) := by
 refine PC.intro Tryz.func26 c26 fun hcl hwf => wpc_sound ?_
 have h1 := numbers_len s
 have h2 := numbers_len t
 have h3 := moreNumbers_len (numbers t) (numbers s)
 simp only [p26,List.length_cons,List.length_nil,List.replicate,List.cons_append,List.nil_append,Nat.reduceAdd,Nat.reduceSub]
 simp only [W,pexec,xexec,binV,Nat.reduceAdd,Nat.reduceSub,Nat.reduceLeDiff,Nat.reduceEqDiff,Int.reduceToNat,reduceIte,reduceCtorEq]
 refine call_eq (numbers_own s (by omega) _) rfl ?_
 simp only [W,pexec,xexec,binV,Nat.reduceAdd,Nat.reduceSub,Nat.reduceLeDiff,Nat.reduceEqDiff,Int.reduceToNat,reduceIte,reduceCtorEq]
 refine call_eq (numbers_pc t (by omega) _) rfl ?_
 simp only [List.length_map,W,pexec,xexec,binV,Nat.reduceAdd,Nat.reduceSub,Nat.reduceLeDiff,Nat.reduceEqDiff,Int.reduceToNat,reduceIte,reduceCtorEq]
 refine PWc.rnd_cvs ?_ ((numbers t).length + 1) (loop26 (.sl 3 (s.map It.cells)) (.sl 3 (t.map It.cells)) (numbers t) (by omega) (numbers t) [] (numbers s) 0 false rfl (by omega) ?_)
 ·repeat first | exact .nil | refine .cons (.refl _) ?_ | refine .cons (.forget _) ?_
 ·intro g sh
  intros
  simp only [W,pexec,xexec,binV,Nat.reduceAdd,Nat.reduceSub,Nat.reduceLeDiff,Nat.reduceEqDiff,Int.reduceToNat,reduceIte,reduceCtorEq]
  have hc : (moreNumbers (numbers s) (numbers t)).length < 2 ^ 40 := by omega
  refine call_eq (counting_pc (moreNumbers (numbers s) (numbers t)).length hc _) (by simp [ev]) ?_
  simp only [W,pexec,xexec,binV,Nat.reduceAdd,Nat.reduceSub,Nat.reduceLeDiff,Nat.reduceEqDiff,Int.reduceToNat,reduceIte,reduceCtorEq]
  refine call_fz σ.length (by simp only [base_get0]; rfl) (rename_pc s (canonNumbers s t) (counting (canonNumbers s t).length) (by omega) hs2 _) (by simp [fz,fz1,ev,canonNumbers]) ?_
  simp only [W,pexec,xexec,binV,Nat.reduceAdd,Nat.reduceSub,Nat.reduceLeDiff,Nat.reduceEqDiff,Int.reduceToNat,reduceIte,reduceCtorEq]
  refine call_eq (counting_pc (moreNumbers (numbers s) (numbers t)).length hc _) (by simp [ev]) ?_
  simp only [W,pexec,xexec,binV,Nat.reduceAdd,Nat.reduceSub,Nat.reduceLeDiff,Nat.reduceEqDiff,Int.reduceToNat,reduceIte,reduceCtorEq]
  refine call_fz σ.length (by simp only [base_get0]; rfl) (rename_pc t (canonNumbers s t) (counting (canonNumbers s t).length) (by omega) ht2 _) (by simp [fz,fz1,ev,canonNumbers]) ?_
  simp only [W,pexec,xexec,binV,Nat.reduceAdd,Nat.reduceSub,Nat.reduceLeDiff,Nat.reduceEqDiff,Int.reduceToNat,reduceIte,reduceCtorEq]
  exact ret_end hcl (.inr rfl) rfl (by simp only [LW]) ⟨rfl,rfl⟩
theorem hex_pc (c : UInt8) (σ : Store) : PC Tryz.prog 119 [.i .u8 c.toNat] σ (fun r σ' => r = .tup [.i .u8 (hexOf c).1.toNat,.b (hexOf c).2] ∧ σ' = σ) := by
 refine PC.intro Tryz.func119 c119 fun hcl hwf => wpc_sound ?_
 simp only [p119,List.length_cons,List.length_nil,List.replicate,List.cons_append,List.nil_append,Nat.reduceAdd,Nat.reduceSub]
 simp only [W,pexec,xexec,binV,Nat.reduceAdd,Nat.reduceSub,Nat.reduceLeDiff,Nat.reduceEqDiff,Int.reduceToNat,reduceIte,reduceCtorEq]
 refine ⟨fun h => ?_,fun h => ⟨fun h2 => ?_,fun h2 => ?_⟩⟩ <;> refine ret_end0 (.inr rfl) rfl ?_
 ·simp at h
  have := hex_dig c (by omega)
  simp [one,this]
 ·simp at h2
  have := hex_let c (by omega)
  simp [one,this]
 ·simp at h h2
  have := hex_no c (by omega) (by omega)
  simp [one,this]
theorem plain_pc (c : UInt8) (σ : Store) : PC Tryz.prog 96 [.i .u8 c.toNat] σ (fun r σ' => r = .b (plainB c) ∧ σ' = σ) := by
 refine PC.intro Tryz.func96 c96 fun hcl hwf => wpc_sound ?_
 simp only [p96,List.length_cons,List.length_nil,List.replicate,List.cons_append,List.nil_append,Nat.reduceAdd,Nat.reduceSub]
 simp only [W,pexec,xexec,binV,Nat.reduceAdd,Nat.reduceSub,Nat.reduceLeDiff,Nat.reduceEqDiff,Int.reduceToNat,reduceIte,reduceCtorEq]
 refine callg_eq (by simp only [W,pexec,xexec,binV,Nat.reduceAdd,Nat.reduceSub,Nat.reduceLeDiff,Nat.reduceEqDiff,Int.reduceToNat,reduceIte,reduceCtorEq]; rfl) (fun _ => classOf_pc c _) rfl ?_
 simp only [W,pexec,xexec,binV,Nat.reduceAdd,Nat.reduceSub,Nat.reduceLeDiff,Nat.reduceEqDiff,Int.reduceToNat,reduceIte,reduceCtorEq]
 refine ret_end0 (.inr rfl) rfl ⟨?_,rfl⟩
 simp only [one,plainB,List.getD_cons_zero,List.getD_cons_succ,V.b.injEq]
 simp only [← u8_bne]
 rfl
theorem escape_pc (s : List UInt8) (σ : Store) : PC Tryz.prog 93 [.s s] σ (fun r σ' => r = .tup [.i .u8 (escapeOf s).1.toNat,.i .i64 (escapeOf s).2.1,.b (escapeOf s).2.2] ∧ σ' = σ) := by
 refine PC.intro Tryz.func93 c93 fun hcl hwf => wpc_sound ?_
 simp only [p93,List.length_cons,List.length_nil,List.replicate,List.cons_append,List.nil_append,Nat.reduceAdd,Nat.reduceSub]
 by_cases h2 : s.length < 2
 ·have d2 : decide ((s.length : Int) < 2) = true := by simp; omega
  simp only [d2,W,pexec,xexec,binV,Nat.reduceAdd,Nat.reduceSub,Nat.reduceLeDiff,Nat.reduceEqDiff,Int.reduceToNat,reduceIte,reduceCtorEq]
  refine ret_end0 (.inr rfl) rfl ⟨?_,rfl⟩
  simp [one,escapeOf,h2]
 have d2 : decide ((s.length : Int) < 2) = false := by simp; omega
 have bnd : (0 : Int) ≤ 1 ∧ (1 : Int) < s.length := by omega
 by_cases c92 : s.getD 1 0 = 92
 ·simp only [d2,u8y (k := 92) c92 rfl,W,pexec,xexec,binV,Nat.reduceAdd,Nat.reduceSub,Nat.reduceLeDiff,Nat.reduceEqDiff,Int.reduceToNat,reduceIte,reduceCtorEq]
  repeat refine And.intro bnd ?_
  refine ret_end0 (.inr rfl) rfl ⟨?_,rfl⟩
  have e : escapeOf s = (s.getD 1 0,2,true) := by simp [escapeOf,h2,← List.getD_eq_getElem?_getD,c92]
  rw [e]; rfl
 by_cases c60 : s.getD 1 0 = 60
 ·simp only [d2,u8n (k := 92) c92 rfl,u8y (k := 60) c60 rfl,W,pexec,xexec,binV,Nat.reduceAdd,Nat.reduceSub,Nat.reduceLeDiff,Nat.reduceEqDiff,Int.reduceToNat,reduceIte,reduceCtorEq]
  repeat refine And.intro bnd ?_
  refine ret_end0 (.inr rfl) rfl ⟨?_,rfl⟩
  have e : escapeOf s = (s.getD 1 0,2,true) := by simp [escapeOf,h2,← List.getD_eq_getElem?_getD,c92,c60]
  rw [e]; rfl
 by_cases c123 : s.getD 1 0 = 123
 ·simp only [d2,u8n (k := 92) c92 rfl,u8n (k := 60) c60 rfl,u8y (k := 123) c123 rfl,W,pexec,xexec,binV,Nat.reduceAdd,Nat.reduceSub,Nat.reduceLeDiff,Nat.reduceEqDiff,Int.reduceToNat,reduceIte,reduceCtorEq]
  repeat refine And.intro bnd ?_
  refine ret_end0 (.inr rfl) rfl ⟨?_,rfl⟩
  have e : escapeOf s = (s.getD 1 0,2,true) := by simp [escapeOf,h2,← List.getD_eq_getElem?_getD,c92,c60,c123]
  rw [e]; rfl
 by_cases c110 : s.getD 1 0 = 110
 ·simp only [d2,u8n (k := 92) c92 rfl,u8n (k := 60) c60 rfl,u8n (k := 123) c123 rfl,u8y (k := 110) c110 rfl,W,pexec,xexec,binV,Nat.reduceAdd,Nat.reduceSub,Nat.reduceLeDiff,Nat.reduceEqDiff,Int.reduceToNat,reduceIte,reduceCtorEq]
  repeat refine And.intro bnd ?_
  refine ret_end0 (.inr rfl) rfl ⟨?_,rfl⟩
  have e : escapeOf s = (10,2,true) := by simp [escapeOf,h2,← List.getD_eq_getElem?_getD,c92,c60,c123,c110]
  rw [e]; rfl
 by_cases c116 : s.getD 1 0 = 116
 ·simp only [d2,u8n (k := 92) c92 rfl,u8n (k := 60) c60 rfl,u8n (k := 123) c123 rfl,u8n (k := 110) c110 rfl,u8y (k := 116) c116 rfl,W,pexec,xexec,binV,Nat.reduceAdd,Nat.reduceSub,Nat.reduceLeDiff,Nat.reduceEqDiff,Int.reduceToNat,reduceIte,reduceCtorEq]
  repeat refine And.intro bnd ?_
  refine ret_end0 (.inr rfl) rfl ⟨?_,rfl⟩
  have e : escapeOf s = (9,2,true) := by simp [escapeOf,h2,← List.getD_eq_getElem?_getD,c92,c60,c123,c110,c116]
  rw [e]; rfl
 have all : ∀ {c : UInt8},s.getD 1 0 = c → c = 120 → escapeOf s = if s.length < 4 then (0,0,false) else (hexByte (s.getD 2 0) (s.getD 3 0),4,(hexOf (s.getD 2 0)).2 && (hexOf (s.getD 3 0)).2 && (hexByte (s.getD 2 0) (s.getD 3 0) == 13 || classOf (hexByte (s.getD 2 0) (s.getD 3 0)) == 1)) := by
  rintro c h rfl
  simp only [escapeOf,h2,h,if_false]
  rfl
 by_cases c120 : s.getD 1 0 = 120
 ·have e := all c120 rfl
  by_cases h4 : s.length < 4
  ·have d4 : decide ((s.length : Int) < 4) = true := by simp; omega
   simp only [d2,d4,u8n (k := 92) c92 rfl,u8n (k := 60) c60 rfl,u8n (k := 123) c123 rfl,u8n (k := 110) c110 rfl,u8n (k := 116) c116 rfl,u8y (k := 120) c120 rfl,W,pexec,xexec,binV,Nat.reduceAdd,Nat.reduceSub,Nat.reduceLeDiff,Nat.reduceEqDiff,Int.reduceToNat,reduceIte,reduceCtorEq]
   repeat refine And.intro bnd ?_
   refine ret_end0 (.inr rfl) rfl ⟨?_,rfl⟩
   rw [e,if_pos h4]; rfl
  have d4 : decide ((s.length : Int) < 4) = false := by simp; omega
  rw [if_neg h4] at e
  simp only [d2,d4,u8n (k := 92) c92 rfl,u8n (k := 60) c60 rfl,u8n (k := 123) c123 rfl,u8n (k := 110) c110 rfl,u8n (k := 116) c116 rfl,u8y (k := 120) c120 rfl,W,pexec,xexec,binV,Nat.reduceAdd,Nat.reduceSub,Nat.reduceLeDiff,Nat.reduceEqDiff,Int.reduceToNat,reduceIte,reduceCtorEq]
  repeat refine And.intro bnd ?_
  refine ⟨by omega,?_⟩
  refine call_eq (hex_pc (s.getD 2 0) _) rfl ?_
  simp only [Int.reduceToNat,W,pexec,xexec,binV,Nat.reduceAdd,Nat.reduceSub,Nat.reduceLeDiff,Nat.reduceEqDiff,Int.reduceToNat,reduceIte,reduceCtorEq]
  refine ⟨by omega,?_⟩
  refine call_eq (hex_pc (s.getD 3 0) _) rfl ?_
  simp only [hexByte_or,W,pexec,xexec,binV,Nat.reduceAdd,Nat.reduceSub,Nat.reduceLeDiff,Nat.reduceEqDiff,Int.reduceToNat,reduceIte,reduceCtorEq]
  refine ⟨by omega,?_⟩
  refine callg_eq (by simp only [W,pexec,xexec,binV,Nat.reduceAdd,Nat.reduceSub,Nat.reduceLeDiff,Nat.reduceEqDiff,Int.reduceToNat,reduceIte,reduceCtorEq]; rfl) (fun _ => classOf_pc (hexByte (s.getD 2 0) (s.getD 3 0)) _) rfl ?_
  simp only [W,pexec,xexec,binV,Nat.reduceAdd,Nat.reduceSub,Nat.reduceLeDiff,Nat.reduceEqDiff,Int.reduceToNat,reduceIte,reduceCtorEq]
  refine ret_end0 (.inr rfl) rfl ⟨?_,rfl⟩
  rw [e]
  simp only [one,List.getD_cons_zero,List.getD_cons_succ]
  rw [← u8_beq]; rfl
 ·simp only [d2,u8n (k := 92) c92 rfl,u8n (k := 60) c60 rfl,u8n (k := 123) c123 rfl,u8n (k := 110) c110 rfl,u8n (k := 116) c116 rfl,u8n (k := 120) c120 rfl,W,pexec,xexec,binV,Nat.reduceAdd,Nat.reduceSub,Nat.reduceLeDiff,Nat.reduceEqDiff,Int.reduceToNat,reduceIte,reduceCtorEq]
  repeat refine And.intro bnd ?_
  refine ret_end0 (.inr rfl) rfl ⟨?_,rfl⟩
  have e : escapeOf s = (0,0,false) := by simp [escapeOf,h2,← List.getD_eq_getElem?_getD,c92,c60,c123,c110,c116,c120]
  rw [e]; rfl
theorem loop124 {σ : Store} {K : Exit → St → Prop} (s : List UInt8) (hlen : s.length < 4) : ∀ (rest pre : List UInt8) (n : Int),s = pre ++ rest → 0 ≤ n → n < 10 ^ pre.length →
  (rest.all digitB = true → (∀ j0 j1 j2 j3 j5 j6 j7 j8 j9 j10 j11 j12 j13 j14 j15 j16 j17 j18 j19 j20 j21 j22 j23 j24 j25 j26 j27 j28 j29 j30 j31 j32 j33 j34 j35 j36 j37 j38 j39 j40 j41 j42 j43 j44 j45,K (.exit 0) ⟨[j0,j1,j2,j3,.i .i64 (decFrom n rest),j5,j6,j7,j8,j9,j10,j11,j12,j13,j14,j15,j16,j17,j18,j19,j20,j21,j22,j23,j24,j25,j26,j27,j28,j29,j30,j31,j32,j33,j34,j35,j36,j37,j38,j39,j40,j41,j42,j43,j44,j45],σ⟩)) →
  (rest.all digitB = false → (∀ j0 j1 j4 j5 j6 j7 j8 j9 j10 j11 j12 j13 j14 j15 j16 j17 j18 j19 j20 j21 j22 j23 j24 j25 j26 j27 j28 j29 j30 j31 j32 j33 j34 j35 j36 j37 j38 j39 j40 j41 j42 j43 j44 j45,K .ret ⟨[j0,j1,.i .i64 0,.b false,j4,j5,j6,j7,j8,j9,j10,j11,j12,j13,j14,j15,j16,j17,j18,j19,j20,j21,j22,j23,j24,j25,j26,j27,j28,j29,j30,j31,j32,j33,j34,j35,j36,j37,j38,j39,j40,j41,j42,j43,j44,j45],σ⟩)) →
  Rnd σ.length Tryz.prog p124_0 K (rest.length + 1) ⟨[.s s,.u,.u,.u,.i .i64 n,.i .i64 pre.length,.u,.u,.u,.u,.u,.u,.u,.u,.u,.u,.u,.u,.u,.u,.u,.u,.u,.u,.u,.u,.u,.u,.u,.u,.u,.u,.u,.u,.u,.u,.u,.u,.u,.u,.u,.u,.u,.u,.u,.u],σ⟩ := by
 intro rest
 induction rest with
 | nil =>
  intro pre n he hn hn2 h1 h2
  have he : s = pre := by simpa using he
  subst he
  refine rnd_step fun R hR => ?_
  simp only [p124_0,W,pexec,xexec,binV,Nat.reduceAdd,Nat.reduceSub,Nat.reduceLeDiff,Nat.reduceEqDiff,Int.reduceToNat,reduceIte,reduceCtorEq]
  exact ⟨fun h => by simp at h,fun _ => h1 rfl ..⟩
 | cons c rest ih =>
  intro pre n he hn hn2 h1 h2
  subst he
  refine rnd_step fun R hR => ?_
  simp only [p124_0,W,pexec,xexec,binV,Nat.reduceAdd,Nat.reduceSub,Nat.reduceLeDiff,Nat.reduceEqDiff,Int.reduceToNat,reduceIte,reduceCtorEq]
  have hd : digitB c = !(decide ((c.toNat : Int) < 48) || decide (57 < (c.toNat : Int))) := by
   rw [Bool.eq_iff_iff]; simp [digitB]; omega
  refine ⟨fun _ => ⟨by simp; omega,fun _ => by simp; omega,fun h => ?_,fun h => ⟨by simp; omega,?_⟩⟩,fun h => by simp at h <;> omega⟩
  ·rw [h] at hd
   exact h2 (by simp [hd]) ..
  ·rw [h] at hd
   have hd : digitB c = true := hd
   have hpl : pre.length < 3 := by simp at hlen; omega
   have hp : (10 : Int) ^ pre.length ≤ 10 ^ 2 := by
    have : pre.length = 0 ∨ pre.length = 1 ∨ pre.length = 2 := by omega
    rcases this with h | h | h <;> rw [h] <;> decide
   have hb := hd
   simp only [digitB,Bool.and_eq_true,decide_eq_true_eq] at hb
   have hn100 : n < 100 := Int.lt_of_lt_of_le hn2 (by simpa using hp)
   have e0 : IntKind.i64.wrap (IntKind.i64.wrap (10 * n) + IntKind.i64.wrap (IntKind.u8.wrap ((c.toNat : Int) - 48))) = 10 * n + (c.toNat - 48 : Int) := by
    rw [u8_sub48 c hd,IntWalk.i64_in (10 * n) (by omega),IntWalk.i64_in ((c.toNat : Int) - 48) (by omega),IntWalk.i64_in _ (by omega)]
   have e1 : decFrom n (c :: rest) = decFrom (10 * n + (c.toNat - 48 : Int)) rest := rfl
   have e2 : (c :: rest).all digitB = rest.all digitB := by simp [hd]
   rw [e1,e2] at h1
   rw [e2] at h2
   refine hR _ (rnd_cvs ?_ (ih (pre ++ [c]) (10 * n + (c.toNat - 48 : Int)) (by simp) (by omega) ?_ h1 h2))
   ·rw [e0,wrap_succ (by simp at hlen; omega)]
    simp only [List.length_append,List.length_cons,List.length_nil]
    repeat first | exact .nil | refine .cons (.refl _) ?_ | refine .cons (.forget _) ?_
   ·simp only [List.length_append,List.length_cons,List.length_nil,Int.pow_succ]
    omega
theorem number_pc (s : List UInt8) (σ : Store) : PC Tryz.prog 124 [.s s] σ (fun r σ' => r = .tup [.i .i64 (numberOf s).1,.b (numberOf s).2] ∧ σ' = σ) := by
 refine PC.intro Tryz.func124 c124 fun hcl hwf => wpc_sound ?_
 simp only [p124,List.length_cons,List.length_nil,List.replicate,List.cons_append,List.nil_append,Nat.reduceAdd,Nat.reduceSub]
 by_cases h1 : s.length < 1 ∨ 3 < s.length ∨ s.getD 0 0 = 48
 ·have e : numberOf s = (0,false) := by simp only [numberOf,h1,if_true]
  have e2 : ((decide ((s.length : Int) < 1) || decide (3 < (s.length : Int))) || (((s.getD 0 0).toNat : Int) == 48)) = true := by
   rcases h1 with h | h | h
   ·simp; omega
   ·simp; omega
   ·rw [u8y (k := 48) h rfl]; simp
  simp only [Int.reduceToNat,e2,W,pexec,xexec,binV,Nat.reduceAdd,Nat.reduceSub,Nat.reduceLeDiff,Nat.reduceEqDiff,Int.reduceToNat,reduceIte,reduceCtorEq]
  refine ⟨fun h => ?_,ret_end0 (.inr rfl) rfl ⟨by rw [e]; rfl,rfl⟩⟩
  simp at h; omega
 ·have hl : ¬ s.length < 1 ∧ ¬ 3 < s.length ∧ ¬ s.getD 0 0 = 48 := by
   refine ⟨fun h => h1 (.inl h),fun h => h1 (.inr (.inl h)),fun h => h1 (.inr (.inr h))⟩
  have e2 : ((decide ((s.length : Int) < 1) || decide (3 < (s.length : Int))) || (((s.getD 0 0).toNat : Int) == 48)) = false := by
   rw [u8n (k := 48) hl.2.2 rfl]; simp; omega
  simp only [e2,W,pexec,xexec,binV,Nat.reduceAdd,Nat.reduceSub,Nat.reduceLeDiff,Nat.reduceEqDiff,Int.reduceToNat,reduceIte,reduceCtorEq]
  refine ⟨fun _ => by omega,?_⟩
  refine PWc.rnd_cvs ?_ (s.length + 1) (loop124 s (by omega) s [] 0 rfl (Int.le_refl _) (by decide) (fun ha => ?_) (fun ha => ?_))
  ·repeat first | exact .nil | refine .cons (.refl _) ?_ | refine .cons (.forget _) ?_
  ·intros
   simp only [W,pexec,xexec,binV,Nat.reduceAdd,Nat.reduceSub,Nat.reduceLeDiff,Nat.reduceEqDiff,Int.reduceToNat,reduceIte,reduceCtorEq]
   refine ret_end0 (.inr rfl) rfl ⟨?_,rfl⟩
   have h3 := decFrom_le s 0 s.length rfl ha (Int.le_refl _)
   have hp : (10 : Int) ^ s.length ≤ 10 ^ 3 := by
    have : s.length = 1 ∨ s.length = 2 ∨ s.length = 3 := by omega
    rcases this with h | h | h <;> rw [h] <;> decide
   have h4 : decFrom 0 s ≤ 999 := by omega
   have e : numberOf s = (decFrom 0 s,true) := by simp only [numberOf,if_neg h1,ha,if_true]
   rw [e]; simp [one,h4]
  ·intros
   refine ret_end0 (.inr rfl) rfl ⟨?_,rfl⟩
   have e : numberOf s = (0,false) := by simp only [numberOf,if_neg h1,ha]; rfl
   rw [e]; rfl
theorem tag_pc (s : List UInt8) (σ : Store) : PC Tryz.prog 95 [.s s] σ (fun r σ' => r = .tup [.agg (tagOf s).1.cells,.b (tagOf s).2] ∧ σ' = σ) := by
 refine PC.intro Tryz.func95 c95 fun hcl hwf => wpc_sound ?_
 have hlen := wf_s (hwf 0 _ rfl).1
 simp only [p95,List.length_cons,List.length_nil,List.replicate,List.cons_append,List.nil_append,Nat.reduceAdd,Nat.reduceSub]
 simp only [VV,Int.reduceBEq,Int.reduceBNe,pexec,xexec,binV,Nat.reduceAdd,Nat.reduceSub,Nat.reduceLeDiff,Nat.reduceEqDiff,Int.reduceToNat,reduceIte,reduceCtorEq]
 refine call_eq (hasPrefix_pc s [47] _) rfl ?_
 simp only [VV,Int.reduceBEq,Int.reduceBNe,pexec,xexec,binV,Nat.reduceAdd,Nat.reduceSub,Nat.reduceLeDiff,Nat.reduceEqDiff,Int.reduceToNat,reduceIte,reduceCtorEq]
 refine ⟨fun hp => ?_,fun hp => ?_⟩
 ·have hl : 1 ≤ s.length := by
   simp only [hasPrefix,Bool.and_eq_true,decide_eq_true_eq] at hp
   simpa using hp.1
  have e0 : (s.drop 1).take (s.length - 1) = s.drop 1 := by
   rw [List.take_of_length_le]; simp
  refine ⟨by omega,?_⟩
  refine call_eq (cut_pc (s.drop 1) 58 _) (by simp only [List.map_cons,List.map_nil,VV,Int.reduceBEq,Int.reduceBNe,pexec,xexec,binV,Nat.reduceAdd,Nat.reduceSub,Nat.reduceLeDiff,Nat.reduceEqDiff,Int.reduceToNat,reduceIte,reduceCtorEq]; rw [e0]) ?_
  simp only [VV,Int.reduceBEq,Int.reduceBNe,pexec,xexec,binV,Nat.reduceAdd,Nat.reduceSub,Nat.reduceLeDiff,Nat.reduceEqDiff,Int.reduceToNat,reduceIte,reduceCtorEq]
  generalize hq : cutAt (s.drop 1) 58 = q
  obtain ⟨a,b,f⟩ := q
  refine callg_eq (c := false) (v := .b false) (by simp only [VV,Int.reduceBEq,Int.reduceBNe,pexec,xexec,binV,Nat.reduceAdd,Nat.reduceSub,Nat.reduceLeDiff,Nat.reduceEqDiff,Int.reduceToNat,reduceIte,reduceCtorEq] <;> rfl) (fun h => by simp at h) rfl ?_
  simp only [VV,Int.reduceBEq,Int.reduceBNe,pexec,xexec,binV,Nat.reduceAdd,Nat.reduceSub,Nat.reduceLeDiff,Nat.reduceEqDiff,Int.reduceToNat,reduceIte,reduceCtorEq]
  refine call_eq (number_pc a _) rfl ?_
  simp only [VV,Int.reduceBEq,Int.reduceBNe,pexec,xexec,binV,Nat.reduceAdd,Nat.reduceSub,Nat.reduceLeDiff,Nat.reduceEqDiff,Int.reduceToNat,reduceIte,reduceCtorEq]
  cases f with
  | false =>
   have e : tagOf s = (⟨0,[],0⟩,false) := by unfold tagOf; simp only [hp,if_true,hq]; simp
   simp only [VV,Int.reduceBEq,Int.reduceBNe,pexec,xexec,binV,Nat.reduceAdd,Nat.reduceSub,Nat.reduceLeDiff,Nat.reduceEqDiff,Int.reduceToNat,reduceIte,reduceCtorEq]
   rw [e]
   exact ret_end hcl (.inr rfl) (by simp only [resVs,resV,W]; rfl) (by simp only [LW]) ⟨rfl,rfl⟩
  | true =>
   simp only [VV,Int.reduceBEq,Int.reduceBNe,pexec,xexec,binV,Nat.reduceAdd,Nat.reduceSub,Nat.reduceLeDiff,Nat.reduceEqDiff,Int.reduceToNat,reduceIte,reduceCtorEq]
   refine ⟨fun h => ?_,fun h => ?_⟩
   ·have h : (numberOf a).2 = false := by simpa using h
    have e : tagOf s = (⟨0,[],0⟩,false) := by unfold tagOf; simp only [hp,if_true,hq]; simp [h]
    rw [e]
    exact ret_end hcl (.inr rfl) (by simp only [resVs,resV,W]; rfl) (by simp only [LW]) ⟨rfl,rfl⟩
   ·have h : (numberOf a).2 = true := by simpa using h
    have e : tagOf s = (⟨3,b,(numberOf a).1⟩,isName b) := by unfold tagOf; simp only [hp,if_true,hq]; simp [h]
    rw [e]
    refine call_eq (isName_pc b _) rfl ?_
    simp only [VV,Int.reduceBEq,Int.reduceBNe,pexec,xexec,binV,Nat.reduceAdd,Nat.reduceSub,Nat.reduceLeDiff,Nat.reduceEqDiff,Int.reduceToNat,reduceIte,reduceCtorEq]
    exact ret_end hcl (.inr rfl) (by simp only [resVs,resV,W]; rfl) (by simp only [LW]) ⟨rfl,rfl⟩
 ·refine call_eq (cut_pc s 58 _) rfl ?_
  simp only [VV,Int.reduceBEq,Int.reduceBNe,pexec,xexec,binV,Nat.reduceAdd,Nat.reduceSub,Nat.reduceLeDiff,Nat.reduceEqDiff,Int.reduceToNat,reduceIte,reduceCtorEq]
  generalize hq : cutAt s 58 = q
  obtain ⟨a,b,f⟩ := q
  refine callg_eq (c := true) (by simp only [VV,Int.reduceBEq,Int.reduceBNe,pexec,xexec,binV,Nat.reduceAdd,Nat.reduceSub,Nat.reduceLeDiff,Nat.reduceEqDiff,Int.reduceToNat,reduceIte,reduceCtorEq] <;> rfl) (fun h => hasSuffix_pc b [47] _) rfl ?_
  simp only [VV,Int.reduceBEq,Int.reduceBNe,pexec,xexec,binV,Nat.reduceAdd,Nat.reduceSub,Nat.reduceLeDiff,Nat.reduceEqDiff,Int.reduceToNat,reduceIte,reduceCtorEq]
  have tail : ∀ (kind : Int) (content : List UInt8),kind ≠ 3 → tagOf s = (if f && (numberOf a).2 then (⟨kind,content,(numberOf a).1⟩,if kind = 3 then isName content else isContent content) else (⟨0,[],0⟩,false)) →
    (((f = false) ∨ (numberOf a).2 = false) → tagOf s = (⟨0,[],0⟩,false)) ∧ (f = true → (numberOf a).2 = true → tagOf s = (⟨kind,content,(numberOf a).1⟩,isContent content)) := by
   intro kind content hk e
   rw [e]
   refine ⟨?_,?_⟩
   ·rintro (h | h) <;> rw [h] <;> simp
   ·intro h1 h2; simp [h1,h2,hk]
  refine ⟨fun hs => ?_,fun hs => ?_⟩
  ·have hb : 1 ≤ b.length := by
    simp only [hasSuffix,Bool.and_eq_true,decide_eq_true_eq] at hs
    simpa using hs.1
   have hbl : b.length < 2 ^ 63 := by
    have : b = (cutAt s 58).2.1 := by rw [hq]
    have h2 : b.length ≤ s.length := by
     rw [this]; simp only [cutAt]; split <;> simp
    omega
   have e1 : IntKind.i64.wrap ((b.length : Int) - 1) = ((b.length - 1 : Nat) : Int) := by rw [IntWalk.i64_in _ (by omega)]; omega
   have t := tail 4 (b.take (b.length - 1)) (by decide) (by unfold tagOf; simp [hp,hq,hs])
   simp only [e1,Int.toNat_natCast,VV,Int.reduceBEq,Int.reduceBNe,pexec,xexec,binV,Nat.reduceAdd,Nat.reduceSub,Nat.reduceLeDiff,Nat.reduceEqDiff,Int.reduceToNat,reduceIte,reduceCtorEq]
   refine ⟨by omega,?_⟩
   refine call_eq (number_pc a _) rfl ?_
   simp only [VV,Int.reduceBEq,Int.reduceBNe,pexec,xexec,binV,Nat.reduceAdd,Nat.reduceSub,Nat.reduceLeDiff,Nat.reduceEqDiff,Int.reduceToNat,reduceIte,reduceCtorEq]
   cases f with
   | false =>
    simp only [VV,Int.reduceBEq,Int.reduceBNe,pexec,xexec,binV,Nat.reduceAdd,Nat.reduceSub,Nat.reduceLeDiff,Nat.reduceEqDiff,Int.reduceToNat,reduceIte,reduceCtorEq]
    rw [t.1 (.inl rfl)]
    exact ret_end hcl (.inr rfl) (by simp only [resVs,resV,W]; rfl) (by simp only [LW]) ⟨rfl,rfl⟩
   | true =>
    simp only [VV,Int.reduceBEq,Int.reduceBNe,pexec,xexec,binV,Nat.reduceAdd,Nat.reduceSub,Nat.reduceLeDiff,Nat.reduceEqDiff,Int.reduceToNat,reduceIte,reduceCtorEq]
    refine ⟨fun h => ?_,fun h => ?_⟩
    ·have h : (numberOf a).2 = false := by simpa using h
     rw [t.1 (.inr h)]
     exact ret_end hcl (.inr rfl) (by simp only [resVs,resV,W]; rfl) (by simp only [LW]) ⟨rfl,rfl⟩
    ·have h : (numberOf a).2 = true := by simpa using h
     rw [t.2 rfl h]
     refine call_eq (isContent_pc _ _) rfl ?_
     simp only [VV,Int.reduceBEq,Int.reduceBNe,pexec,xexec,binV,Nat.reduceAdd,Nat.reduceSub,Nat.reduceLeDiff,Nat.reduceEqDiff,Int.reduceToNat,reduceIte,reduceCtorEq]
     refine ret_end hcl (.inr rfl) (by simp only [resVs,resV,W]; rfl) (by simp only [LW]) ⟨rfl,rfl⟩
  ·have t := tail 2 b (by decide) (by unfold tagOf; simp [hp,hq,hs])
   refine call_eq (number_pc a _) rfl ?_
   simp only [VV,Int.reduceBEq,Int.reduceBNe,pexec,xexec,binV,Nat.reduceAdd,Nat.reduceSub,Nat.reduceLeDiff,Nat.reduceEqDiff,Int.reduceToNat,reduceIte,reduceCtorEq]
   cases f with
   | false =>
    simp only [VV,Int.reduceBEq,Int.reduceBNe,pexec,xexec,binV,Nat.reduceAdd,Nat.reduceSub,Nat.reduceLeDiff,Nat.reduceEqDiff,Int.reduceToNat,reduceIte,reduceCtorEq]
    rw [t.1 (.inl rfl)]
    exact ret_end hcl (.inr rfl) (by simp only [resVs,resV,W]; rfl) (by simp only [LW]) ⟨rfl,rfl⟩
   | true =>
    simp only [VV,Int.reduceBEq,Int.reduceBNe,pexec,xexec,binV,Nat.reduceAdd,Nat.reduceSub,Nat.reduceLeDiff,Nat.reduceEqDiff,Int.reduceToNat,reduceIte,reduceCtorEq]
    refine ⟨fun h => ?_,fun h => ?_⟩
    ·have h : (numberOf a).2 = false := by simpa using h
     rw [t.1 (.inr h)]
     exact ret_end hcl (.inr rfl) (by simp only [resVs,resV,W]; rfl) (by simp only [LW]) ⟨rfl,rfl⟩
    ·have h : (numberOf a).2 = true := by simpa using h
     rw [t.2 rfl h]
     refine call_eq (isContent_pc _ _) rfl ?_
     simp only [VV,Int.reduceBEq,Int.reduceBNe,pexec,xexec,binV,Nat.reduceAdd,Nat.reduceSub,Nat.reduceLeDiff,Nat.reduceEqDiff,Int.reduceToNat,reduceIte,reduceCtorEq]
     refine ret_end hcl (.inr rfl) (by simp only [resVs,resV,W]; rfl) (by simp only [LW]) ⟨rfl,rfl⟩
theorem element_pc (s : List UInt8) (hs : s ≠ []) (σ : Store) : PC Tryz.prog 63 [.s s] σ (fun r σ' => r = .tup [.agg (elementOf s).1.cells,.i .i64 (elementOf s).2.1,.b (elementOf s).2.2] ∧ σ' = σ) := by
 refine PC.intro Tryz.func63 c63 fun hcl hwf => wpc_sound ?_
 have hlen := wf_s (hwf 0 _ rfl).1
 have hl : 0 < s.length := List.length_pos_iff.2 hs
 have bnd : (0 : Int) ≤ 0 ∧ (0 : Int) < s.length := by omega
 simp only [p63,List.length_cons,List.length_nil,List.replicate,List.cons_append,List.nil_append,Nat.reduceAdd,Nat.reduceSub]
 by_cases c92 : s.getD 0 0 = 92
 ·have e : elementOf s = (⟨1,[(escapeOf s).1],0⟩,(escapeOf s).2.1,(escapeOf s).2.2) := by simp only [elementOf,c92,if_true]
  rw [e]
  simp only [u8y (k := 92) c92 rfl,VV,Int.reduceBEq,Int.reduceBNe,pexec,xexec,binV,Nat.reduceAdd,Nat.reduceSub,Nat.reduceLeDiff,Nat.reduceEqDiff,Int.reduceToNat,reduceIte,reduceCtorEq]
  refine ⟨bnd,?_⟩
  refine call_eq (escape_pc s _) rfl ?_
  simp only [VV,Int.reduceBEq,Int.reduceBNe,pexec,xexec,binV,Nat.reduceAdd,Nat.reduceSub,Nat.reduceLeDiff,Nat.reduceEqDiff,Int.reduceToNat,reduceIte,reduceCtorEq]
  exact ret_end hcl (.inr rfl) (by simp only [resVs,resV,W]; rfl) (by simp only [LW]) ⟨rfl,rfl⟩
 have n92 := c92
 by_cases c60 : s.getD 0 0 = 60
 ·simp only [u8n (k := 92) c92 rfl,u8y (k := 60) c60 rfl,VV,Int.reduceBEq,Int.reduceBNe,pexec,xexec,binV,Nat.reduceAdd,Nat.reduceSub,Nat.reduceLeDiff,Nat.reduceEqDiff,Int.reduceToNat,reduceIte,reduceCtorEq]
  refine ⟨bnd,bnd,?_⟩
  refine call_eq (indexByte_pc s 62 _) rfl ?_
  have hb := indexByte_lt s 62
  simp only [VV,Int.reduceBEq,Int.reduceBNe,pexec,xexec,binV,Nat.reduceAdd,Nat.reduceSub,Nat.reduceLeDiff,Nat.reduceEqDiff,Int.reduceToNat,reduceIte,reduceCtorEq]
  refine ⟨fun h => ?_,fun h => ?_⟩
  ·have h : Lib.indexByte s 62 < 0 := by simpa using h
   have e : elementOf s = (noIt,0,false) := by simp only [elementOf]; rw [if_neg c92,if_pos c60]; simp only [h,if_true,if_false]
   rw [e]
   exact ret_end hcl (.inr rfl) (by simp only [resVs,resV,W]; rfl) (by simp only [LW]) ⟨rfl,rfl⟩
  ·have h : ¬ Lib.indexByte s 62 < 0 := by simpa using h
   have h1 := indexByte_pos s 62 (by rw [c60]; decide) h
   have e : elementOf s = ((tagOf ((s.take (Lib.indexByte s 62).toNat).drop 1)).1,Lib.indexByte s 62 + 1,(tagOf ((s.take (Lib.indexByte s 62).toNat).drop 1)).2) := by simp only [elementOf]; rw [if_neg c92,if_pos c60]; simp only [h,if_true,if_false]
   rw [e]
   refine ⟨by omega,?_⟩
   have e2 : (s.drop 1).take ((Lib.indexByte s 62).toNat - 1) = (s.take (Lib.indexByte s 62).toNat).drop 1 := by rw [List.drop_take]
   refine call_eq (tag_pc _ _) (by simp only [List.map_cons,List.map_nil,VV,Int.reduceBEq,Int.reduceBNe,pexec,xexec,binV,Nat.reduceAdd,Nat.reduceSub,Nat.reduceLeDiff,Nat.reduceEqDiff,Int.reduceToNat,reduceIte,reduceCtorEq]; rw [e2]) ?_
   simp only [It.cells,VV,Int.reduceBEq,Int.reduceBNe,pexec,xexec,binV,Nat.reduceAdd,Nat.reduceSub,Nat.reduceLeDiff,Nat.reduceEqDiff,Int.reduceToNat,reduceIte,reduceCtorEq]
   refine ret_end hcl (.inr rfl) (by simp only [resVs,resV,W]; rfl) (by simp only [LW]) ⟨?_,rfl⟩
   simp only [one,List.getD_cons_zero,List.getD_cons_succ]
   rw [IntWalk.i64_in _ (by omega)]
 by_cases c123 : s.getD 0 0 = 123
 ·simp only [u8n (k := 92) c92 rfl,u8n (k := 60) c60 rfl,u8y (k := 123) c123 rfl,VV,Int.reduceBEq,Int.reduceBNe,pexec,xexec,binV,Nat.reduceAdd,Nat.reduceSub,Nat.reduceLeDiff,Nat.reduceEqDiff,Int.reduceToNat,reduceIte,reduceCtorEq]
  refine ⟨bnd,bnd,bnd,?_⟩
  refine call_eq (indexByte_pc s 125 _) rfl ?_
  have hb := indexByte_lt s 125
  simp only [VV,Int.reduceBEq,Int.reduceBNe,pexec,xexec,binV,Nat.reduceAdd,Nat.reduceSub,Nat.reduceLeDiff,Nat.reduceEqDiff,Int.reduceToNat,reduceIte,reduceCtorEq]
  by_cases h : Lib.indexByte s 125 < 0
  ·have e : elementOf s = (noIt,0,false) := by simp only [elementOf]; rw [if_neg c92,if_neg c60,if_pos c123]; simp only [h,true_or,if_true]
   have hd : decide (Lib.indexByte s 125 < 0) = true := by simpa using h
   rw [e]
   simp only [hd,VV,Int.reduceBEq,Int.reduceBNe,pexec,xexec,binV,Nat.reduceAdd,Nat.reduceSub,Nat.reduceLeDiff,Nat.reduceEqDiff,Int.reduceToNat,reduceIte,reduceCtorEq]
   refine ⟨fun h => by simp at h,?_⟩
   refine callg_eq (c := false) (v := .b false) (by simp only [VV,Int.reduceBEq,Int.reduceBNe,pexec,xexec,binV,Nat.reduceAdd,Nat.reduceSub,Nat.reduceLeDiff,Nat.reduceEqDiff,Int.reduceToNat,reduceIte,reduceCtorEq] <;> rfl) (fun h => by simp at h) rfl ?_
   simp only [VV,Int.reduceBEq,Int.reduceBNe,pexec,xexec,binV,Nat.reduceAdd,Nat.reduceSub,Nat.reduceLeDiff,Nat.reduceEqDiff,Int.reduceToNat,reduceIte,reduceCtorEq]
   exact ret_end hcl (.inr rfl) (by simp only [resVs,resV,W]; rfl) (by simp only [LW]) ⟨rfl,rfl⟩
  ·have hd : decide (Lib.indexByte s 125 < 0) = false := by simpa using h
   have h1 := indexByte_pos s 125 (by rw [c123]; decide) h
   have e : elementOf s = if isName ((s.take (Lib.indexByte s 125).toNat).drop 1) = false then (noIt,0,false) else (⟨5,(s.take (Lib.indexByte s 125).toNat).drop 1,0⟩,Lib.indexByte s 125 + 1,true) := by simp only [elementOf]; rw [if_neg c92,if_neg c60,if_pos c123]; simp only [h,false_or]
   have e2 : (s.drop 1).take ((Lib.indexByte s 125).toNat - 1) = (s.take (Lib.indexByte s 125).toNat).drop 1 := by rw [List.drop_take]
   rw [e]
   simp only [hd,e2,VV,Int.reduceBEq,Int.reduceBNe,pexec,xexec,binV,Nat.reduceAdd,Nat.reduceSub,Nat.reduceLeDiff,Nat.reduceEqDiff,Int.reduceToNat,reduceIte,reduceCtorEq]
   refine ⟨by omega,?_⟩
   refine callg_eq (c := true) (by simp only [VV,Int.reduceBEq,Int.reduceBNe,pexec,xexec,binV,Nat.reduceAdd,Nat.reduceSub,Nat.reduceLeDiff,Nat.reduceEqDiff,Int.reduceToNat,reduceIte,reduceCtorEq] <;> rfl) (fun _ => isName_pc ((s.take (Lib.indexByte s 125).toNat).drop 1) _) rfl ?_
   simp only [VV,Int.reduceBEq,Int.reduceBNe,pexec,xexec,binV,Nat.reduceAdd,Nat.reduceSub,Nat.reduceLeDiff,Nat.reduceEqDiff,Int.reduceToNat,reduceIte,reduceCtorEq]
   refine ⟨fun h => ?_,fun h => ?_⟩
   ·have h : isName ((s.take (Lib.indexByte s 125).toNat).drop 1) = false := by simpa using h
    rw [if_pos h]
    exact ret_end hcl (.inr rfl) (by simp only [resVs,resV,W]; rfl) (by simp only [LW]) ⟨rfl,rfl⟩
   ·have h : ¬ isName ((s.take (Lib.indexByte s 125).toNat).drop 1) = false := by simpa using h
    rw [if_neg h]
    simp only [e2,VV,Int.reduceBEq,Int.reduceBNe,pexec,xexec,binV,Nat.reduceAdd,Nat.reduceSub,Nat.reduceLeDiff,Nat.reduceEqDiff,Int.reduceToNat,reduceIte,reduceCtorEq]
    refine ⟨by omega,?_⟩
    refine ret_end hcl (.inr rfl) (by simp only [resVs,resV,W]; rfl) (by simp only [LW]) ⟨?_,rfl⟩
    simp only [one,List.getD_cons_zero,List.getD_cons_succ]
    rw [IntWalk.i64_in _ (by omega)]
    rfl
 ·have e : elementOf s = (⟨1,s.take 1,0⟩,1,plainB (s.getD 0 0)) := by simp only [elementOf,c92,c60,c123,if_false]
  rw [e]
  simp only [u8n (k := 92) c92 rfl,u8n (k := 60) c60 rfl,u8n (k := 123) c123 rfl,VV,Int.reduceBEq,Int.reduceBNe,pexec,xexec,binV,Nat.reduceAdd,Nat.reduceSub,Nat.reduceLeDiff,Nat.reduceEqDiff,Int.reduceToNat,reduceIte,reduceCtorEq]
  refine ⟨bnd,bnd,bnd,by omega,bnd,?_⟩
  refine call_eq (plain_pc (s.getD 0 0) _) rfl ?_
  simp only [VV,Int.reduceBEq,Int.reduceBNe,pexec,xexec,binV,Nat.reduceAdd,Nat.reduceSub,Nat.reduceLeDiff,Nat.reduceEqDiff,Int.reduceToNat,reduceIte,reduceCtorEq]
  exact ret_end hcl (.inr rfl) (by simp only [resVs,resV,W]; rfl) (by simp only [LW]) ⟨rfl,rfl⟩
def rdOb (n g1 g2 : Nat) (s : Rd) : Store :=
 [.map 3 49 (mapIt s.tags),.box 108 [.own (n + 2) g1,.own (n + 3) g2,.i .i64 s.len,.mp n],.row 49 3 32 g1 false (s.f.map It.cells),.row 5 1 1 g2 false (bytesV s.text)]
def rdX (n g1 g2 : Nat) (s : Rd) (o : Ob) (x : It) : Store :=
 [.map 3 49 (mapIt s.tags),.box 108 [.own (n + 2) g1,.own (n + 3) g2,.i .i64 s.len,.mp n],.row 49 3 32 g1 false (s.f.map It.cells),.row 5 1 1 g2 false (bytesV s.text),o,.box 49 [.i .i64 x.kind,.s x.text,.i .i64 x.id]]
theorem flush_pc (s : Rd) (g1 g2 : Nat) (hf : s.f.length < 2 ^ 40) (σ ext : Store) : PC Tryz.prog 65 [.ptr (σ.length + 1) 0] (σ ++ (rdOb σ.length g1 g2 s ++ ext)) (fun r σ' => r = .tup [] ∧ ∃ g1' g2',σ' = σ ++ (rdOb σ.length g1' g2' (rdFlush s) ++ ext)) := by
 refine PC.intro Tryz.func65 c65 fun hcl hwf => wpc_sound ?_
 simp only [p65,List.length_cons,List.length_nil,List.replicate,List.cons_append,List.nil_append,Nat.reduceAdd,Nat.reduceSub]
 simp only [rdOb,W,pexec,xexec,binV,Nat.reduceAdd,Nat.reduceSub,Nat.reduceLeDiff,Nat.reduceEqDiff,Int.reduceToNat,reduceIte,reduceCtorEq]
 simp only [bytesV_length,bytesOf_bytesV,W,pexec,xexec,binV,Nat.reduceAdd,Nat.reduceSub,Nat.reduceLeDiff,Nat.reduceEqDiff,Int.reduceToNat,reduceIte,reduceCtorEq]
 refine ⟨fun h => ⟨?_,?_⟩,fun h => ?_⟩
 ·simp [maxLen]; omega
 ·have h : 0 < s.text.length := by simpa using h
  have e : rdFlush s = ⟨s.f ++ [⟨1,s.text,0⟩],[],s.len,s.tags⟩ := by simp [rdFlush,h]
  have hr : s.f.map It.cells ++ [[.i .i64 1,.s s.text,.i .i64 0]] = (s.f ++ [(⟨1,s.text,0⟩ : It)]).map It.cells := by simp [It.cells]
  rw [hr]
  refine ret_wk (xs := []) (xs' := []) (.inl rfl) rfl (Wk.renil (id := σ.length + 1) (j := 1) (idr := σ.length + 3) (by simp only [W,pexec,xexec,binV,Nat.reduceAdd,Nat.reduceSub,Nat.reduceLeDiff,Nat.reduceEqDiff,Int.reduceToNat,reduceIte,reduceCtorEq]; rfl) rfl (by simp only [W,pexec,xexec,binV,Nat.reduceAdd,Nat.reduceSub,Nat.reduceLeDiff,Nat.reduceEqDiff,Int.reduceToNat,reduceIte,reduceCtorEq]; rfl)) rfl ⟨rfl,g1 + 1,g2 + 1,?_⟩
  simp only [rdOb,e,W,pexec,xexec,binV,Nat.reduceAdd,Nat.reduceSub,Nat.reduceLeDiff,Nat.reduceEqDiff,Int.reduceToNat,reduceIte,reduceCtorEq]
  rfl
 ·have h : ¬ 0 < s.text.length := by simpa using h
  have e : rdFlush s = s := by simp [rdFlush,h]
  rw [e]
  exact ret_wk (xs := []) (.inl rfl) rfl (Wk.refl _ _) rfl ⟨rfl,g1,g2,rfl⟩
set_option maxHeartbeats 2000000 in
theorem add_pc (s : Rd) (x : It) (g1 g2 : Nat) (hf : s.f.length < 2 ^ 40) (ht : s.text.length + x.text.length < 2 ^ 40) (hl : s.len < 2 ^ 40) (σ : Store) (o : Ob) : PC Tryz.prog 64 [.ptr (σ.length + 1) 0,.agg x.cells] (σ ++ (rdOb σ.length g1 g2 s ++ [o]))
  (fun r σ' => r = .i .i64 (rdAdd s x).1 ∧ ∃ g1' g2',σ' = σ ++ (rdOb σ.length g1' g2' (rdAdd s x).2 ++ [o])) := by
 refine PC.intro Tryz.func64 c64 fun hcl hwf => ?_
 simp only [p64,List.length_cons,List.length_nil,List.replicate,List.cons_append,List.nil_append,Nat.reduceAdd,Nat.reduceSub]
 have hm : ∀ t,mapFind (σ ++ (.map 3 49 (mapIt s.tags)) :: t) 0 (.mp σ.length) (.i .i64 x.id) = findV 0 (.i .i64 x.id) (mapIt s.tags) 0 := fun t => by simp only [mapFind,base_get0,List.getElem?_cons_zero]
 refine PWc.cut fun R hR => ?_
 simp only [rdOb,It.cells,List.cons_append,List.nil_append,W,pexec,xexec,binV,Nat.reduceAdd,Nat.reduceSub,Nat.reduceLeDiff,Nat.reduceEqDiff,Int.reduceToNat,reduceIte,reduceCtorEq]
 refine hR _ ?_
 clear hR R
 refine PWc.cut fun R hR => ?_
 simp only [W,pexec,xexec,binV,Nat.reduceAdd,Nat.reduceSub,Nat.reduceLeDiff,Nat.reduceEqDiff,Int.reduceToNat,reduceIte,reduceCtorEq]
 refine hR _ (PWc.cvs (fr' := [.ptr (σ.length + 1) 0,.u,.u,.ptr (σ.length + 5) 0,.i .i64 0,.b (tagged x),.u,.u,.u,.u,.u,.u,.u,.u,.u,.u,.u,.u,.u,.u,.u,.u,.u,.u,.u,.u,.u,.u,.u,.u,.u,.u,.u,.u,.u,.u,.u,.u,.u,.u,.u,.u,.u,.u,.u,.u,.u,.u,.u,.u,.u,.u,.u,.u,.u,.u,.u,.u,.u,.u,.u,.u,.u,.u,.u,.u,.u,.u,.u,.u,.u,.u,.u,.u,.u,.u,.u,.u,.u,.u,.u,.u,.u,.u,.u,.u,.u,.u,.u,.u,.u,.u,.u,.u,.u,.u,.u,.u,.u,.u,.u,.u,.u,.u,.u,.u,.u,.u,.u,.u,.u,.u,.u,.u,.u,.u,.u,.u,.u,.u,.u,.u,.u]) ?_ ?_)
 rotate_left
 ·simp only [tagged]
  repeat first | exact .nil | refine .cons (.refl _) ?_ | refine .cons (.forget _) ?_
 clear hR R
 have hbo : match o with | .box _ cs => AllLt (σ.length + 5) cs | _ => True := by
  cases o <;> first | trivial | skip
  rename_i T cs
  refine allLt_iff.2 fun j y hj => ?_
  have := hcl (σ.length + 4) T cs (by rw [List.getElem?_append_right (by omega),Nat.add_sub_cancel_left]; rfl) j y hj
  simpa [rdOb] using this
 have hcl4 : ∀ (g1 g2 : Nat) (s : Rd),Closed (σ ++ (rdOb σ.length g1 g2 s ++ [o])) := fun g1 g2 s =>
  closed_swap hcl (Nat.le_refl _) (by
   simp only [rdOb,List.forall_mem_cons,List.length_cons,List.length_nil,List.not_mem_nil,false_imp_iff,implies_true,and_true,true_and,List.cons_append,List.nil_append]
   refine ⟨by simp only [LW]; omega,?_⟩
   cases o <;> first | trivial | exact hbo)
 have hcl5 : ∀ (g1 g2 : Nat) (s : Rd),Closed (σ ++ rdX σ.length g1 g2 s o x) := fun g1 g2 s =>
  closed_swap hcl (by simp [rdOb,rdX]) (by
   simp only [rdX,List.forall_mem_cons,List.length_cons,List.length_nil,List.not_mem_nil,false_imp_iff,implies_true,and_true,true_and]
   refine ⟨by simp only [LW]; omega,?_,by simp only [LW]⟩
   cases o <;> first | trivial | exact allLt_iff.2 fun j y hj => (allLt_iff.1 hbo j y hj).mono (by omega))
 have fin : ∀ {fr : List V} {n : Nat} (e : Int) (s' : Rd) (g1' g2' : Nat) {loc : Store},n ≤ σ.length + 5 → rdAdd s x = (e,s') → fr.getD 4 .u = .i .i64 e → retK Tryz.prog n [.t 4] (fun r σ' => r = .i .i64 (rdAdd s x).1 ∧ ∃ g1' g2',σ' = σ ++ (rdOb σ.length g1' g2' (rdAdd s x).2 ++ [o])) .ret ⟨fr,σ ++ ((rdOb σ.length g1' g2' s' ++ [o]) ++ loc)⟩ := by
  intro fr n e s' g1' g2' loc hn he hf
  rw [← List.append_assoc]
  refine ret_wk (xs := [.i .i64 e]) (.inr rfl) (by simp only [resVs,resV,hf]) (Wk.drop0 (by simpa [rdOb] using hn) (hcl4 _ _ _) (allLt_iff.1 (by simp only [LW]))) rfl ⟨by rw [he]; rfl,g1',g2',by rw [he]⟩
 refine PWc.cut fun R hR => ?_
 have hre : ∀ {fr : List V} {loc : Store},Cvs fr [.ptr (σ.length + 1) 0,.u,.u,.ptr (σ.length + 5) 0,.i .i64 0,.b (tagged x),.u,.u,.u,.u,.u,.u,.u,.u,.u,.u,.u,.u,.u,.u,.u,.u,.u,.u,.u,.u,.u,.u,.u,.u,.u,.u,.u,.u,.u,.u,.u,.u,.u,.u,.u,.u,.u,.u,.u,.u,.u,.u,.u,.u,.u,.u,.u,.u,.u,.u,.u,.u,.u,.u,.u,.u,.u,.u,.u,.u,.u,.u,.u,.u,.u,.u,.u,.u,.u,.u,.u,.u,.u,.u,.u,.u,.u,.u,.u,.u,.u,.u,.u,.u,.u,.u,.u,.u,.u,.u,.u,.u,.u,.u,.u,.u,.u,.u,.u,.u,.u,.u,.u,.u,.u,.u,.u,.u,.u,.u,.u,.u,.u,.u,.u,.u,.u] → ¬ (tagged x && clash s x) = true → R ⟨fr,σ ++ (rdX σ.length g1 g2 s o x ++ loc)⟩ := by
  intro fr loc hc hno
  refine hR _ (PWc.drop _ _ (by simp [rdOb,rdX]) (hcl5 g1 g2 s) hc (by simp [AllLt,lt_ptr,lt_i,lt_b,lt_u,rdX]) ?_)
  clear hR R
  refine PWc.cut fun R hR => ?_
  simp only [rdX,W,pexec,xexec,binV,Nat.reduceAdd,Nat.reduceSub,Nat.reduceLeDiff,Nat.reduceEqDiff,Int.reduceToNat,reduceIte,reduceCtorEq]
  refine hR _ ?_
  clear hR R
  refine PWc.cut fun R hR => ?_
  simp only [rdX,List.length_map,bytesV_length,VV,Int.reduceBEq,Int.reduceBNe,pexec,xexec,binV,Nat.reduceAdd,Nat.reduceSub,Nat.reduceLeDiff,Nat.reduceEqDiff,Int.reduceToNat,reduceIte,reduceCtorEq]
  have hi1 : ∀ {fr : List V},Cvs fr [.ptr (σ.length + 1) 0,.u,.u,.ptr (σ.length + 5) 0,.i .i64 0,.b (tagged x),.u,.u,.i .i64 ((s.f.length + (if 0 < s.text.length then 1 else 0) : Nat) : Int),.u,.u,.u,.u,.u,.u,.u,.u,.u,.u,.u,.u,.u,.u,.u,.u,.u,.u,.u,.u,.u,.u,.u,.u,.u,.u,.u,.u,.u,.u,.u,.u,.u,.u,.u,.u,.u,.u,.u,.u,.u,.u,.u,.u,.u,.u,.u,.u,.u,.u,.u,.u,.u,.u,.u,.u,.u,.u,.u,.u,.u,.u,.u,.u,.u,.u,.u,.u,.u,.u,.u,.u,.u,.u,.u,.u,.u,.u,.u,.u,.u,.u,.u,.u,.u,.u,.u,.u,.u,.u,.u,.u,.u,.u,.u,.u,.u,.u,.u,.u,.u,.u,.u,.u,.u,.u,.u,.u,.u,.u,.u,.u,.u,.u] → R ⟨fr,σ ++ rdX σ.length g1 g2 s o x⟩ := by
   intro fr hc
   refine hR _ (PWc.cvs ?_ hc)
   clear hR R
   refine PWc.cut fun R hR => ?_
   simp only [rdX,List.length_map,bytesV_length,VV,Int.reduceBEq,Int.reduceBNe,pexec,xexec,binV,Nat.reduceAdd,Nat.reduceSub,Nat.reduceLeDiff,Nat.reduceEqDiff,Int.reduceToNat,reduceIte,reduceCtorEq]
   have hi2 : ∀ {fr : List V},Cvs fr [.ptr (σ.length + 1) 0,.u,.u,.ptr (σ.length + 5) 0,.i .i64 0,.b (tagged x),.u,.u,.i .i64 ((addItems s x : Nat) : Int),.u,.u,.u,.u,.u,.u,.u,.u,.u,.u,.u,.u,.u,.u,.u,.u,.u,.u,.u,.u,.u,.u,.u,.u,.u,.u,.u,.u,.u,.u,.u,.u,.u,.u,.u,.u,.u,.u,.u,.u,.u,.u,.u,.u,.u,.u,.u,.u,.u,.u,.u,.u,.u,.u,.u,.u,.u,.u,.u,.u,.u,.u,.u,.u,.u,.u,.u,.u,.u,.u,.u,.u,.u,.u,.u,.u,.u,.u,.u,.u,.u,.u,.u,.u,.u,.u,.u,.u,.u,.u,.u,.u,.u,.u,.u,.u,.u,.u,.u,.u,.u,.u,.u,.u,.u,.u,.u,.u,.u,.u,.u,.u,.u,.u] → R ⟨fr,σ ++ rdX σ.length g1 g2 s o x⟩ := by
    intro fr hc
    refine hR _ (PWc.cvs ?_ hc)
    clear hR R
    have hlw : IntKind.i64.wrap ((s.len : Int) + 1) = ((s.len + 1 : Nat) : Int) := wrap_succ (by omega)
    refine PWc.cut fun R hR => ?_
    simp only [rdX,hlw,VV,Int.reduceBEq,Int.reduceBNe,pexec,xexec,binV,Nat.reduceAdd,Nat.reduceSub,Nat.reduceLeDiff,Nat.reduceEqDiff,Int.reduceToNat,reduceIte,reduceCtorEq]
    refine ⟨fun h => ?_,fun h => ?_⟩
    ·have h1 : 512 < addItems s x ∨ 1024 < s.len + 1 := by
      simp at h
      omega
     have e : rdAdd s x = (3,s) := by simp only [rdAdd,hno,h1,if_true]; rfl
     exact fin 3 s g1 g2 (loc := [_]) (by simp [rdOb]) e (by rfl)
    ·have h1 : ¬ (512 < addItems s x ∨ 1024 < s.len + 1) := by
      simp at h
      omega
     refine hR _ ?_
     clear hR R
     refine PWc.cut fun R hR => ?_
     simp only [hlw,VV,Int.reduceBEq,Int.reduceBNe,pexec,xexec,binV,Nat.reduceAdd,Nat.reduceSub,Nat.reduceLeDiff,Nat.reduceEqDiff,Int.reduceToNat,reduceIte,reduceCtorEq]
     refine hR _ ?_
     clear hR R
     refine PWc.cut fun R hR => ?_
     simp only [VV,Int.reduceBEq,Int.reduceBNe,pexec,xexec,binV,Nat.reduceAdd,Nat.reduceSub,Nat.reduceLeDiff,Nat.reduceEqDiff,Int.reduceToNat,reduceIte,reduceCtorEq]
     refine ⟨fun hk => ⟨⟨by simp only [bytesV_length]; omega,by simp only [bytesV_length,maxLen]; omega⟩,?_⟩,fun hk => ?_⟩
     ·have hk : x.kind = 1 := by simpa using hk
      have e : rdAdd s x = (0,⟨s.f,s.text ++ x.text,s.len + 1,s.tags⟩) := by simp only [rdAdd,hno,h1,hk,if_true,if_false]; rfl
      rw [bytesV_append]
      exact fin 0 ⟨s.f,s.text ++ x.text,s.len + 1,s.tags⟩ g1 (g2 + 1) (loc := [_]) (by simp [rdOb]) e (by rfl)
     ·have hk : ¬ x.kind = 1 := by simpa using hk
      have e : rdAdd s x = (0,rdPut (rdFlush (rdTag s x)) x) := by simp only [rdAdd,hno,h1,hk,if_true,if_false]; rfl
      refine hR _ (PWc.cvs (fr' := [.ptr (σ.length + 1) 0,.u,.u,.ptr (σ.length + 5) 0,.i .i64 0,.b (tagged x),.u,.u,.u,.u,.u,.u,.u,.u,.u,.u,.u,.u,.u,.u,.u,.u,.u,.u,.u,.u,.u,.u,.u,.u,.u,.u,.u,.u,.u,.u,.u,.u,.u,.u,.u,.u,.u,.u,.u,.u,.u,.u,.u,.u,.u,.u,.u,.u,.u,.u,.u,.u,.u,.u,.u,.u,.u,.u,.u,.u,.u,.u,.u,.u,.u,.u,.u,.u,.u,.u,.u,.u,.u,.u,.u,.u,.u,.u,.u,.u,.u,.u,.u,.u,.u,.u,.u,.u,.u,.u,.u,.u,.u,.u,.u,.u,.u,.u,.u,.u,.u,.u,.u,.u,.u,.u,.u,.u,.u,.u,.u,.u,.u,.u,.u,.u,.u]) ?_ (by repeat first | exact .nil | refine .cons (.refl _) ?_ | refine .cons (.forget _) ?_))
      clear hR R
      refine PWc.cut fun R hR => ?_
      have hfl : ∀ {fr : List V},Cvs fr [.ptr (σ.length + 1) 0,.u,.u,.ptr (σ.length + 5) 0,.i .i64 0,.u,.u,.u,.u,.u,.u,.u,.u,.u,.u,.u,.u,.u,.u,.u,.u,.u,.u,.u,.u,.u,.u,.u,.u,.u,.u,.u,.u,.u,.u,.u,.u,.u,.u,.u,.u,.u,.u,.u,.u,.u,.u,.u,.u,.u,.u,.u,.u,.u,.u,.u,.u,.u,.u,.u,.u,.u,.u,.u,.u,.u,.u,.u,.u,.u,.u,.u,.u,.u,.u,.u,.u,.u,.u,.u,.u,.u,.u,.u,.u,.u,.u,.u,.u,.u,.u,.u,.u,.u,.u,.u,.u,.u,.u,.u,.u,.u,.u,.u,.u,.u,.u,.u,.u,.u,.u,.u,.u,.u,.u,.u,.u,.u,.u,.u,.u,.u,.u] → R ⟨fr,σ ++ rdX σ.length g1 g2 (rdTag s x) o x⟩ := by
       intro fr hc
       refine hR _ (PWc.cvs ?_ hc)
       clear hR R
       refine PWc.cut fun R hR => ?_
       simp only [W,pexec,xexec,binV,Nat.reduceAdd,Nat.reduceSub,Nat.reduceLeDiff,Nat.reduceEqDiff,Int.reduceToNat,reduceIte,reduceCtorEq]
       refine call_ex (flush_pc (rdTag s x) g1 g2 hf σ [o,.box 49 [.i .i64 x.kind,.s x.text,.i .i64 x.id]]) rfl ?_
       rintro r σ' ⟨rfl,g3,g4,rfl⟩
       simp only [W,pexec,xexec,binV,Nat.reduceAdd,Nat.reduceSub,Nat.reduceLeDiff,Nat.reduceEqDiff,Int.reduceToNat,reduceIte,reduceCtorEq]
       refine hR _ (PWc.cvs (fr' := [.ptr (σ.length + 1) 0,.u,.u,.ptr (σ.length + 5) 0,.i .i64 0,.u,.u,.u,.u,.u,.u,.u,.u,.u,.u,.u,.u,.u,.u,.u,.u,.u,.u,.u,.u,.u,.u,.u,.u,.u,.u,.u,.u,.u,.u,.u,.u,.u,.u,.u,.u,.u,.u,.u,.u,.u,.u,.u,.u,.u,.u,.u,.u,.u,.u,.u,.u,.u,.u,.u,.u,.u,.u,.u,.u,.u,.u,.u,.u,.u,.u,.u,.u,.u,.u,.u,.u,.u,.u,.u,.u,.u,.u,.u,.u,.u,.u,.u,.u,.u,.u,.u,.u,.u,.u,.u,.u,.u,.u,.u,.u,.u,.u,.u,.u,.u,.u,.u,.u,.u,.u,.u,.u,.u,.u,.u,.u,.u,.u,.u,.u,.u,.u]) ?_ (by repeat first | exact .nil | refine .cons (.refl _) ?_ | refine .cons (.forget _) ?_))
       clear hR R
       refine wpc_sound ?_
       have hff : (rdFlush (rdTag s x)).f.length ≤ s.f.length + 1 := by
        simp only [rdFlush]
        split <;> simp [rdTag]
       simp only [rdOb,VV,Int.reduceBEq,Int.reduceBNe,pexec,xexec,binV,Nat.reduceAdd,Nat.reduceSub,Nat.reduceLeDiff,Nat.reduceEqDiff,Int.reduceToNat,reduceIte,reduceCtorEq]
       refine ⟨?_,?_⟩
       ·simp [maxLen]; omega
       ·have hr : (rdFlush (rdTag s x)).f.map It.cells ++ [[.i .i64 x.kind,.s x.text,.i .i64 x.id]] = (rdPut (rdFlush (rdTag s x)) x).f.map It.cells := by simp [It.cells,rdPut]
        rw [hr]
        exact fin 0 (rdPut (rdFlush (rdTag s x)) x) (g3 + 1) g4 (loc := [_]) (by simp [rdOb]) e (by rfl)
      cases htag : tagged x with
      | true =>
       rcases mapIt_cases s.tags x.id with ⟨h2,h3,h4⟩ | ⟨k,b,h2,h3,h4⟩
       all_goals
        have h5 : mapIt (rdTag s x).tags = mapIt (updA s.tags x.id x) := by simp only [rdTag,htag,if_true]
        simp only [htag,h3,purifyV,VV,Int.reduceBEq,Int.reduceBNe,pexec,xexec,binV,Nat.reduceAdd,Nat.reduceSub,Nat.reduceLeDiff,Nat.reduceEqDiff,Int.reduceToNat,reduceIte,reduceCtorEq]
        have h6 := h4 x
        simp only [itV,It.cells] at h6
        rw [h6,← h5]
        refine ⟨by simp [V.mkey,V.mval,V.pure],?_⟩
        refine hfl (by repeat first | exact .nil | refine .cons (.refl _) ?_ | refine .cons (.forget _) ?_)
      | false =>
       simp only [htag,VV,Int.reduceBEq,Int.reduceBNe,pexec,xexec,binV,Nat.reduceAdd,Nat.reduceSub,Nat.reduceLeDiff,Nat.reduceEqDiff,Int.reduceToNat,reduceIte,reduceCtorEq]
       have := hfl (fr := [.ptr (σ.length + 1) 0,.u,.u,.ptr (σ.length + 5) 0,.i .i64 0,.b false,.u,.u,.u,.u,.u,.u,.u,.u,.u,.u,.u,.u,.u,.u,.u,.u,.u,.u,.u,.u,.u,.u,.u,.u,.u,.u,.u,.u,.u,.u,.u,.u,.u,.u,.u,.u,.u,.u,.u,.u,.u,.u,.u,.u,.u,.u,.u,.u,.u,.u,.u,.u,.u,.u,.u,.u,.u,.u,.u,.u,.u,.u,.u,.u,.u,.u,.u,.u,.u,.u,.u,.u,.u,.u,.u,.u,.u,.u,.u,.u,.u,.u,.u,.u,.u,.u,.u,.u,.u,.u,.u,.u,.u,.u,.u,.u,.u,.b false,.u,.u,.u,.u,.u,.u,.u,.u,.u,.u,.u,.u,.u,.u,.u,.u,.u,.u,.u]) (by repeat first | exact .nil | refine .cons (.refl _) ?_ | refine .cons (.forget _) ?_)
       simp only [rdTag,htag] at this
       exact this
   have hw1 : IntKind.i64.wrap (((s.f.length + (if 0 < s.text.length then 1 else 0) : Nat) : Int) + 1) = ((s.f.length + (if 0 < s.text.length then 1 else 0) + 1 : Nat) : Int) := wrap_succ (by split <;> omega)
   refine ⟨fun h => ?_,fun h => ?_⟩
   ·have h1 : x.kind ≠ 1 ∨ s.text.length = 0 := by simpa using h
    have e : addItems s x = s.f.length + (if 0 < s.text.length then 1 else 0) + 1 := by simp only [addItems,h1,if_true]
    refine hi2 ?_
    rw [hw1,e]; repeat first | exact .nil | refine .cons (.refl _) ?_ | refine .cons (.forget _) ?_
   ·have h1 : ¬ (x.kind ≠ 1 ∨ s.text.length = 0) := by simpa using h
    have e : addItems s x = s.f.length + (if 0 < s.text.length then 1 else 0) := by simp only [addItems,h1,if_false]; rfl
    refine hi2 ?_
    rw [e]; repeat first | exact .nil | refine .cons (.refl _) ?_ | refine .cons (.forget _) ?_
  refine ⟨fun h => ?_,fun h => ?_⟩
  ·have h1 : 0 < s.text.length := by simpa using h
   refine hi1 ?_
   rw [wrap_succ (by omega),if_pos h1]; repeat first | exact .nil | refine .cons (.refl _) ?_ | refine .cons (.forget _) ?_
  ·have h1 : ¬ 0 < s.text.length := by simpa using h
   refine hi1 ?_
   rw [if_neg h1]; repeat first | exact .nil | refine .cons (.refl _) ?_ | refine .cons (.forget _) ?_
 have hret : (tagged x && clash s x) = true → rdAdd s x = (7,s) := fun h => by simp [rdAdd,h]
 cases htag : tagged x with
 | false =>
  simp only [htag,VV,Int.reduceBEq,Int.reduceBNe,pexec,xexec,binV,Nat.reduceAdd,Nat.reduceSub,Nat.reduceLeDiff,Nat.reduceEqDiff,Int.reduceToNat,reduceIte,reduceCtorEq]
  exact hre (loc := []) (by rw [htag]; repeat first | exact .nil | refine .cons (.refl _) ?_ | refine .cons (.forget _) ?_) (by simp [htag])
 | true =>
  rcases mapIt_cases s.tags x.id with ⟨h2,h3,h4⟩ | ⟨k,b,h2,h3,h4⟩
  ·simp only [htag,hm,h3,itV,VV,Int.reduceBEq,Int.reduceBNe,pexec,xexec,binV,Nat.reduceAdd,Nat.reduceSub,Nat.reduceLeDiff,Nat.reduceEqDiff,Int.reduceToNat,reduceIte,reduceCtorEq]
   refine ⟨by simp [V.mkey],by simp [V.mkey],callg_eq (c := false) (v := .s []) (by simp only [VV,Int.reduceBEq,Int.reduceBNe,pexec,xexec,binV,Nat.reduceAdd,Nat.reduceSub,Nat.reduceLeDiff,Nat.reduceEqDiff,Int.reduceToNat,reduceIte,reduceCtorEq] <;> rfl) (fun h => by simp at h) rfl ?_⟩
   simp only [VV,Int.reduceBEq,Int.reduceBNe,pexec,xexec,binV,Nat.reduceAdd,Nat.reduceSub,Nat.reduceLeDiff,Nat.reduceEqDiff,Int.reduceToNat,reduceIte,reduceCtorEq]
   refine hre (loc := [_]) (by rw [htag]; repeat first | exact .nil | refine .cons (.refl _) ?_ | refine .cons (.forget _) ?_) (by simp [clash,h2])
  ·simp only [htag,hm,h3,itV,It.cells,VV,Int.reduceBEq,Int.reduceBNe,pexec,xexec,binV,Nat.reduceAdd,Nat.reduceSub,Nat.reduceLeDiff,Nat.reduceEqDiff,Int.reduceToNat,reduceIte,reduceCtorEq]
   refine ⟨by simp [V.mkey],by simp [V.mkey],callg_eq (by simp only [VV,Int.reduceBEq,Int.reduceBNe,pexec,xexec,binV,Nat.reduceAdd,Nat.reduceSub,Nat.reduceLeDiff,Nat.reduceEqDiff,Int.reduceToNat,reduceIte,reduceCtorEq] <;> rfl) (fun _ => notationName_pc b.text _) rfl ?_⟩
   simp only [VV,Int.reduceBEq,Int.reduceBNe,pexec,xexec,binV,Nat.reduceAdd,Nat.reduceSub,Nat.reduceLeDiff,Nat.reduceEqDiff,Int.reduceToNat,reduceIte,reduceCtorEq]
   have hcl : clash s x = (x.kind != 3 || b.kind != 2 || tagName b.text != x.text) := by simp only [clash,h2]
   have hb : (!tagName b.text == x.text) = (tagName b.text != x.text) := rfl
   rw [hb,← hcl]
   refine ⟨fun h => ?_,fun h => ?_⟩
   ·exact fin 7 s g1 g2 (loc := [_,_]) (by simp [rdOb]) (hret (by simp [htag,h])) (by rfl)
   ·exact hre (loc := [_]) (by rw [htag]; repeat first | exact .nil | refine .cons (.refl _) ?_ | refine .cons (.forget _) ?_) (by simp [htag,h])
end Go.Proofs.Tryz
