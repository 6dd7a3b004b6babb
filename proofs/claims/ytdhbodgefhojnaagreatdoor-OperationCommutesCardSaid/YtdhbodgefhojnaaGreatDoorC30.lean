/- A part of the proof that OperationCommutes returns true and leaves its arguments as they were, for every input. -/
import Derived.Test.YtdhbodgefhojnaaGreatDoorC9
import Derived.Test.YtdhbodgefhojnaaGreatDoorC11
import Derived.Test.YtdhbodgefhojnaaGreatDoorC14
import Derived.Test.YtdhbodgefhojnaaGreatDoorC15
import Derived.Test.YtdhbodgefhojnaaGreatDoorC17
import Derived.Test.YtdhbodgefhojnaaGreatDoorC19
import Derived.Test.YtdhbodgefhojnaaGreatDoorC28
import Derived.Test.YtdhbodgefhojnaaGreatDoorC29
set_option linter.all false

namespace Go.Proofs.Tryz
open Go Go.Pm Go.Bt
def opV (o : Opr) : V := .agg o.cells
def mapOp (l : List (List UInt8 × Opr)) : List (V × V) := emap keS opV l
theorem mapOp_cases (l : List (List UInt8 × Opr)) (a : List UInt8) :
  (getA a l = none ∧ findV 1 (.s a) (mapOp l) 0 = some none ∧ ∀ b : Opr,mapOp l ++ [(V.s a,opV b)] = mapOp (updA l a b)) ∨
  (∃ i b0,getA a l = some b0 ∧ findV 1 (.s a) (mapOp l) 0 = some (some (i,opV b0)) ∧ ∀ b : Opr,(mapOp l).set i (V.s a,opV b) = mapOp (updA l a b)) := emap_cases keS_eq l a
theorem getA_mem {α β : Type} [DecidableEq α] {a : α} {b : β} : ∀ {l : List (α × β)},getA a l = some b → (a,b) ∈ l := by
 intro l
 induction l with
 | nil => intro h; simp [getA_nil] at h
 | cons p l ih =>
  intro h
  rw [getA_cons] at h
  split at h
  ·rename_i e
   simp only [Option.some.injEq] at h
   subst e; subst h
   exact List.mem_cons_self ..
  ·exact List.mem_cons_of_mem _ (ih h)
theorem updA_mem {α β : Type} [DecidableEq α] {a : α} {b : β} {p : α × β} : ∀ {l : List (α × β)},p ∈ updA l a b → p = (a,b) ∨ p ∈ l := by
 intro l
 induction l with
 | nil => intro h; simp [updA] at h; exact .inl h
 | cons q l ih =>
  intro h
  simp only [updA] at h
  split at h
  ·rcases List.mem_cons.1 h with h | h
   ·exact .inl h
   ·exact .inr (List.mem_cons_of_mem _ h)
  ·rcases List.mem_cons.1 h with h | h
   ·exact .inr (h ▸ List.mem_cons_self ..)
   ·rcases ih h with h | h
    ·exact .inl h
    ·exact .inr (List.mem_cons_of_mem _ h)
theorem winStep_mem {m : List (List UInt8 × Opr)} {o : Opr} {p : List UInt8 × Opr} (h : p ∈ winStep m o) : p = (opKey o,o) ∨ p ∈ m := by
 simp only [winStep] at h
 split at h
 ·exact .inr h
 ·split at h
  ·exact updA_mem h
  ·split at h
   ·exact updA_mem h
   ·exact .inr h
theorem loop44 {σ : Store} {K : Exit → St → Prop} (l : List Opr) (hcl : Closed σ) (hlen : l.length < 2 ^ 63) (hsm : ∀ o ∈ l,o.small) : ∀ (rest pre : List Opr) (m : List (List UInt8 × Opr)),l = pre ++ rest → (∀ p ∈ m,p.2.small) →
  (∀ j0 j1 j2 j4 j5 j6 j7 j8 j9 j10 j11 j12 j13 j14 j15 j16 j17 j18 j19 j20 j21 j22 j23 j24 j25 j26 j27 j28 j29 j30 j31 j32 j33 j34 j35 j36 j37 j38 j39 j40 j41,K (.exit 0) ⟨[j0,j1,j2,.mp σ.length,j4,j5,j6,j7,j8,j9,j10,j11,j12,j13,j14,j15,j16,j17,j18,j19,j20,j21,j22,j23,j24,j25,j26,j27,j28,j29,j30,j31,j32,j33,j34,j35,j36,j37,j38,j39,j40,j41],σ ++ [.map 9 33 (mapOp (rest.foldl winStep m))]⟩) →
  Rnd σ.length Tryz.prog p44_0 K (rest.length + 1) ⟨[.u,.u,.u,.mp σ.length,.u,.u,.u,.u,.u,.u,.u,.u,.u,.u,.sl 13 (l.map Opr.cells),.i .i64 l.length,.i .i64 pre.length,.u,.u,.u,.u,.u,.u,.u,.u,.u,.u,.u,.u,.u,.u,.u,.u,.u,.u,.u,.u,.u,.u,.u,.u,.u],σ ++ [.map 9 33 (mapOp m)]⟩ := by
 intro rest
 induction rest with
 | nil =>
  intro pre m he hm h1
  have he : l = pre := by simpa using he
  subst he
  refine rnd_step fun R hR => ?_
  simp only [p44_0,VV,Int.reduceBEq,Int.reduceBNe,pexec,xexec,binV,Nat.reduceAdd,Nat.reduceSub,Nat.reduceLeDiff,Nat.reduceEqDiff,Int.reduceToNat,reduceIte,reduceCtorEq]
  exact ⟨fun h => by simp at h,fun _ => h1 ..⟩
 | cons x rest ih =>
  intro pre m he hm h1
  subst he
  have hx := hsm x (by simp)
  have next : ∀ (m' : List (List UInt8 × Opr)) {loc : Store},winStep m x = m' → ∀ {R : St → Prop} {fr : List V},(∀ st',Rnd σ.length Tryz.prog p44_0 K (rest.length + 1) st' → R st') →
    Cvs fr [.u,.u,.u,.mp σ.length,.u,.u,.u,.u,.u,.u,.u,.u,.u,.u,.sl 13 ((pre ++ x :: rest).map Opr.cells),.i .i64 (pre ++ x :: rest).length,.i .i64 (IntKind.i64.wrap ((pre.length : Int) + 1)),.u,.u,.u,.u,.u,.u,.u,.u,.u,.u,.u,.u,.u,.u,.u,.u,.u,.u,.u,.u,.u,.u,.u,.u,.u] → R ⟨fr,σ ++ (.map 9 33 (mapOp m') :: loc)⟩ := by
   intro m' loc hw R fr hR hc
   have e1 : IntKind.i64.wrap ((pre.length : Int) + 1) = (((pre ++ [x]).length : Nat) : Int) := by
    rw [wrap_succ (by simp at hlen; omega)]; simp
   rw [e1] at hc
   refine hR _ (rnd_drop [_] loc (closed_add hcl (by simp)) hc ?_ (ih (pre ++ [x]) m' (by simp) ?_ ?_))
   ·simp only [LW,List.length_cons,List.length_nil,Nat.zero_add]
    omega
   ·intro p hp
    rw [← hw] at hp
    rcases winStep_mem hp with rfl | hp
    ·exact hx
    ·exact hm p hp
   ·rw [← hw]; exact h1
  refine rnd_step fun R hR => ?_
  simp only [p44_0,Opr.cells,Stamp.cells,En.cells,VV,Int.reduceBEq,Int.reduceBNe,pexec,xexec,binV,Nat.reduceAdd,Nat.reduceSub,Nat.reduceLeDiff,Nat.reduceEqDiff,Int.reduceToNat,reduceIte,reduceCtorEq]
  refine ⟨fun _ => ⟨by simp; omega,?_⟩,fun h => by simp at h <;> omega⟩
  refine call_eq (opKey_pc x hx _) rfl ?_
  simp only [VV,Int.reduceBEq,Int.reduceBNe,pexec,xexec,binV,Nat.reduceAdd,Nat.reduceSub,Nat.reduceLeDiff,Nat.reduceEqDiff,Int.reduceToNat,reduceIte,reduceCtorEq]
  refine ⟨fun h => ?_,fun h => ?_⟩
  ·have h : opKey x = [] := by simpa using h
   refine next m (by simp only [winStep,h,if_true]) hR ?_
   simp only [Opr.cells,Stamp.cells,En.cells]
   repeat first | exact .nil | refine .cons (.refl _) ?_ | refine .cons (.forget _) ?_
  have h : ¬ opKey x = [] := by simpa using h
  have hf : ∀ t,mapFind (σ ++ (.map 9 33 (mapOp m)) :: t) 1 (.mp σ.length) (.s (opKey x)) = findV 1 (.s (opKey x)) (mapOp m) 0 := fun t => by simp only [mapFind,base_get0,List.getElem?_cons_zero]
  rcases mapOp_cases m (opKey x) with ⟨h2,h3,h4⟩ | ⟨k,was,h2,h3,h4⟩
  ·simp only [hf,h3,V.mkey,VV,Int.reduceBEq,Int.reduceBNe,pexec,xexec,binV,Nat.reduceAdd,Nat.reduceSub,Nat.reduceLeDiff,Nat.reduceEqDiff,Int.reduceToNat,reduceIte,reduceCtorEq]
   refine callg_eq (c := false) (v := .b false) (by simp only [VV,Int.reduceBEq,Int.reduceBNe,pexec,xexec,binV,Nat.reduceAdd,Nat.reduceSub,Nat.reduceLeDiff,Nat.reduceEqDiff,Int.reduceToNat,reduceIte,reduceCtorEq] <;> rfl) (fun h => by simp at h) rfl ?_
   have h4' := h4 x
   simp only [opV,Opr.cells,Stamp.cells,En.cells,List.cons_append,List.nil_append] at h4'
   simp only [h3,h4',purifyV,V.mkey,V.mval,VV,Int.reduceBEq,Int.reduceBNe,pexec,xexec,binV,Nat.reduceAdd,Nat.reduceSub,Nat.reduceLeDiff,Nat.reduceEqDiff,Int.reduceToNat,reduceIte,reduceCtorEq]
   refine next (updA m (opKey x) x) (by simp only [winStep,if_neg h,h2]) hR ?_
   simp only [Opr.cells,Stamp.cells,En.cells]
   repeat first | exact .nil | refine .cons (.refl _) ?_ | refine .cons (.forget _) ?_
  ·simp only [hf,h3,V.mkey,opV,Opr.cells,Stamp.cells,En.cells,VV,Int.reduceBEq,Int.reduceBNe,pexec,xexec,binV,Nat.reduceAdd,Nat.reduceSub,Nat.reduceLeDiff,Nat.reduceEqDiff,Int.reduceToNat,reduceIte,reduceCtorEq]
   refine callg_eq (by simp only [VV,Int.reduceBEq,Int.reduceBNe,pexec,xexec,binV,Nat.reduceAdd,Nat.reduceSub,Nat.reduceLeDiff,Nat.reduceEqDiff,Int.reduceToNat,reduceIte,reduceCtorEq] <;> rfl) (fun _ => opWins_pc x was hx (hm _ (getA_mem h2)) _) rfl ?_
   simp only [VV,Int.reduceBEq,Int.reduceBNe,pexec,xexec,binV,Nat.reduceAdd,Nat.reduceSub,Nat.reduceLeDiff,Nat.reduceEqDiff,Int.reduceToNat,reduceIte,reduceCtorEq]
   refine ⟨fun hw => ?_,fun hw => ?_⟩
   ·have h4' := h4 x
    simp only [opV,Opr.cells,Stamp.cells,En.cells,List.cons_append,List.nil_append] at h3 h4'
    simp only [h3,h4',purifyV,V.mkey,V.mval,VV,Int.reduceBEq,Int.reduceBNe,pexec,xexec,binV,Nat.reduceAdd,Nat.reduceSub,Nat.reduceLeDiff,Nat.reduceEqDiff,Int.reduceToNat,reduceIte,reduceCtorEq]
    refine next (updA m (opKey x) x) (by simp only [winStep,if_neg h,h2,if_pos hw]) hR ?_
    simp only [Opr.cells,Stamp.cells,En.cells]
    repeat first | exact .nil | refine .cons (.refl _) ?_ | refine .cons (.forget _) ?_
   ·refine next m (by simp only [winStep,if_neg h,h2,hw]; rfl) hR ?_
    simp only [Opr.cells,Stamp.cells,En.cells]
    repeat first | exact .nil | refine .cons (.refl _) ?_ | refine .cons (.forget _) ?_
theorem opCurrentMap_pc (l : List Opr) (hsm : ∀ o ∈ l,o.small) (σ : Store) : PC Tryz.prog 44 [.sl 13 (l.map Opr.cells)] σ (fun r σ' => r = .mp σ.length ∧ σ' = σ ++ [.map 9 33 (mapOp (winners l))]) := by
 refine PC.intro Tryz.func44 c44 fun hcl hwf => wpc_sound ?_
 have hlen := wf_sl (hwf 0 _ rfl).1
 rw [List.length_map] at hlen
 simp only [p44,List.length_cons,List.length_nil,List.replicate,List.cons_append,List.nil_append,Nat.reduceAdd,Nat.reduceSub]
 simp only [List.length_map,VV,Int.reduceBEq,Int.reduceBNe,pexec,xexec,binV,Nat.reduceAdd,Nat.reduceSub,Nat.reduceLeDiff,Nat.reduceEqDiff,Int.reduceToNat,reduceIte,reduceCtorEq]
 refine ⟨fun h => ?_,fun h => ?_⟩
 ·have h : 1024 < l.length := by simp at h; omega
  refine ret_wk (.inr rfl) rfl (Wk.refl _ _) rfl ⟨rfl,?_⟩
  simp only [winners,if_pos h]; rfl
 ·have h : ¬ 1024 < l.length := by simp at h; omega
  refine PWc.rnd_cvs ?_ (l.length + 1) (loop44 l hcl hlen hsm l [] [] rfl (by simp) ?_)
  ·repeat first | exact .nil | refine .cons (.refl _) ?_ | refine .cons (.forget _) ?_
  ·intros
   simp only [VV,Int.reduceBEq,Int.reduceBNe,pexec,xexec,binV,Nat.reduceAdd,Nat.reduceSub,Nat.reduceLeDiff,Nat.reduceEqDiff,Int.reduceToNat,reduceIte,reduceCtorEq]
   refine ret_wk (.inr rfl) rfl (Wk.refl _ _) rfl ⟨rfl,?_⟩
   simp only [winners,if_neg h]
theorem ti_Op : Ti Tryz.prog 33 13 184 := tiB_ok (by kernel_rfl)
theorem ti_Entry : Ti Tryz.prog 26 8 128 := tiB_ok (by kernel_rfl)
theorem mapOp_find {m : List (List UInt8 × Opr)} {k : List UInt8} {o : Opr} (h : getA k m = some o) : ∃ i,findV 1 (.s k) (mapOp m) 0 = some (some (i,opV o)) := by
 rcases mapOp_cases m k with ⟨h2,_,_⟩ | ⟨i,b,h2,h3,_⟩
 ·rw [h] at h2; simp at h2
 ·rw [h] at h2
  simp only [Option.some.injEq] at h2
  subst h2
  exact ⟨i,h3⟩
theorem loop13 {n : Nat} {σ : Store} {o2 : Ob} {K : Exit → St → Prop} (ks : List (List UInt8)) (m : List (List UInt8 × Opr)) (hlen : ks.length < 2 ^ 39) (hm : ∀ p ∈ m,p.2.small) (hks : ∀ k ∈ ks,∃ o,getA k m = some o) :
  ∀ (rest pre : List (List UInt8)) (out : List Opr) (g : Nat),ks = pre ++ rest → out.length + rest.length ≤ ks.length →
  (∀ g,(∀ j0 j1 j2 j5 j6 j7 j8 j9 j10 j12 j13 j14 j15 j16 j17 j18 j19 j20 j21 j22 j23 j24 j25,K (.exit 0) ⟨[j0,j1,j2,.mp σ.length,.own (σ.length + 3) g,j5,j6,j7,j8,j9,j10,.own (σ.length + 2) 0,j12,j13,j14,j15,j16,j17,j18,j19,j20,j21,j22,j23,j24,j25],σ ++ [.map 9 33 (mapOp m),o2,.row 9 1 16 0 false (ks.map sRow),.row 33 13 184 g false ((out ++ rest.filterMap fun k => getA k m).map Opr.cells)]⟩)) →
  Rnd n Tryz.prog p13_0 K (rest.length + 1) ⟨[.u,.u,.u,.mp σ.length,.own (σ.length + 3) g,.u,.u,.u,.u,.u,.u,.own (σ.length + 2) 0,.i .i64 ks.length,.i .i64 pre.length,.u,.u,.u,.u,.u,.u,.u,.u,.u,.u,.u,.u],
   σ ++ [.map 9 33 (mapOp m),o2,.row 9 1 16 0 false (ks.map sRow),.row 33 13 184 g false (out.map Opr.cells)]⟩ := by
 intro rest
 induction rest with
 | nil =>
  intro pre out g he ho h1
  have he : ks = pre := by simpa using he
  subst he
  refine rnd_step fun R hR => ?_
  simp only [p13_0,VV,Int.reduceBEq,Int.reduceBNe,pexec,xexec,binV,Nat.reduceAdd,Nat.reduceSub,Nat.reduceLeDiff,Nat.reduceEqDiff,Int.reduceToNat,reduceIte,reduceCtorEq]
  simp only [List.filterMap_nil,List.append_nil] at h1
  exact ⟨fun h => by simp at h,fun _ => h1 g ..⟩
 | cons x rest ih =>
  intro pre out g he ho h1
  subst he
  obtain ⟨o,hx⟩ := hks x (by simp)
  have hos := hm _ (getA_mem hx)
  obtain ⟨i,hf0⟩ := mapOp_find hx
  have hf : ∀ t,mapFind (σ ++ (.map 9 33 (mapOp m)) :: t) 1 (.mp σ.length) (.s x) = some (some (i,opV o)) := fun t => by simp only [mapFind,base_get0,List.getElem?_cons_zero,hf0]
  refine rnd_step fun R hR => ?_
  simp only [p13_0,sRow,hf,opV,V.mkey,List.length_map,VV,Int.reduceBEq,Int.reduceBNe,pexec,xexec,binV,Nat.reduceAdd,Nat.reduceSub,Nat.reduceLeDiff,Nat.reduceEqDiff,Int.reduceToNat,reduceIte,reduceCtorEq]
  refine ⟨fun _ => ⟨by simp; omega,?_⟩,fun h => by simp at h <;> omega⟩
  refine call_eq (viewOp_pc o hos _) rfl ?_
  simp only [List.length_cons] at ho
  simp only [List.length_map,Opr.cells,Stamp.cells,En.cells,maxLen,V.pure,VV,Int.reduceBEq,Int.reduceBNe,pexec,xexec,binV,Nat.reduceAdd,Nat.reduceSub,Nat.reduceLeDiff,Nat.reduceEqDiff,Int.reduceToNat,reduceIte,reduceCtorEq]
  refine ⟨by simp at ho hlen; omega,?_⟩
  have e0 : (out.map Opr.cells ++ [[.i .i64 o.stamp.time,.i .i64 o.stamp.office,.i .i64 o.stamp.number,.i .i64 o.kind,.sl 3 (o.entry.source.map It.cells),.sl 3 (o.entry.target.map It.cells),.s o.entry.previous,.s o.entry.next,.s o.entry.author,.s o.entry.project,.i .i64 o.entry.created,.i .i64 o.entry.origin,.sl 1 (o.seen.map iRow)]]) = (out ++ [o]).map Opr.cells := by
   simp [Opr.cells,Stamp.cells,En.cells]
  rw [e0]
  refine hR _ (rnd_cvs ?_ (ih (pre ++ [x]) (out ++ [o]) (g + 1) (by simp) (by simp at ho ⊢; omega) ?_))
  ·rw [wrap_succ (by simp at hlen; omega)]
   simp only [List.length_append,List.length_cons,List.length_nil]
   repeat first | exact .nil | refine .cons (.refl _) ?_ | refine .cons (.forget _) ?_
  ·simp only [List.filterMap_cons,hx] at h1
   simpa using h1
theorem opCurrent_pc (l : List Opr) (hsm : ∀ o ∈ l,o.small) (σ : Store) : PC Tryz.prog 13 [.sl 13 (l.map Opr.cells)] σ (fun r σ' => r = .sl 13 ((current l).map Opr.cells) ∧ σ' = σ) := by
 refine PC.intro Tryz.func13 c13 fun hcl hwf => wpc_sound ?_
 simp only [p13,List.length_cons,List.length_nil,List.replicate,List.cons_append,List.nil_append,Nat.reduceAdd,Nat.reduceSub]
 simp only [VV,Int.reduceBEq,Int.reduceBNe,pexec,xexec,binV,Nat.reduceAdd,Nat.reduceSub,Nat.reduceLeDiff,Nat.reduceEqDiff,Int.reduceToNat,reduceIte,reduceCtorEq]
 refine call_eq (opCurrentMap_pc l hsm _) rfl ?_
 simp only [VV,Int.reduceBEq,Int.reduceBNe,pexec,xexec,binV,Nat.reduceAdd,Nat.reduceSub,Nat.reduceLeDiff,Nat.reduceEqDiff,Int.reduceToNat,reduceIte,reduceCtorEq]
 have hk := mapsKeys_pc σ.length (σ ++ [.map 9 33 (mapOp (winners l))])
 simp only [List.length_append,List.length_cons,List.length_nil,Nat.zero_add,List.append_assoc,List.cons_append,List.nil_append] at hk
 refine call_eq hk rfl ?_
 simp only [VV,Int.reduceBEq,Int.reduceBNe,pexec,xexec,binV,Nat.reduceAdd,Nat.reduceSub,Nat.reduceLeDiff,Nat.reduceEqDiff,Int.reduceToNat,reduceIte,reduceCtorEq]
 have hlen := sortedKeys_len l
 have hwl := winners_len l
 have hs := sortedKeys_own (β := Opr) (ve := opV) (id := σ.length) (k := σ.length + 1) (E := 33) (l := winners l) (σ := σ ++ [.map 9 33 (mapOp (winners l)),.box 70 [.mp σ.length]])
  (by simp only [base_get,List.getElem?_cons_succ,List.getElem?_cons_zero]) (by simp only [base_get0,List.getElem?_cons_zero]; rfl) (winners_nodup l) (by omega)
 simp only [List.length_append,List.length_cons,List.length_nil,Nat.zero_add,Nat.reduceAdd,List.append_assoc,List.cons_append,List.nil_append] at hs
 refine call_eq hs rfl ?_
 simp only [List.length_map,VV,Int.reduceBEq,Int.reduceBNe,pexec,xexec,binV,Nat.reduceAdd,Nat.reduceSub,Nat.reduceLeDiff,Nat.reduceEqDiff,Int.reduceToNat,reduceIte,reduceCtorEq]
 refine PWc.wk ((Wk.promote_at (σ := σ) [_,_,_] (k := 4) ti_Op rfl).trans (Wk.cvs ?_)) (PWc.rnd ((sortedKeys l).length + 1) (loop13 (sortedKeys l) (winners l) (by omega)
  (fun p hp => hsm _ (winners_mem hp).2) (fun k hk => sortedKeys_some hk) (sortedKeys l) [] [] 0 rfl (by simp) ?_))
 ·simp only [W,pexec,xexec,binV,Nat.reduceAdd,Nat.reduceSub,Nat.reduceLeDiff,Nat.reduceEqDiff,Int.reduceToNat,reduceIte,reduceCtorEq]
  repeat first | exact .nil | refine .cons (.refl _) ?_ | refine .cons (.forget _) ?_
 ·intro g
  intros
  simp only [VV,Int.reduceBEq,Int.reduceBNe,pexec,xexec,binV,Nat.reduceAdd,Nat.reduceSub,Nat.reduceLeDiff,Nat.reduceEqDiff,Int.reduceToNat,reduceIte,reduceCtorEq]
  refine ret_fz 3 hcl (.inr rfl) rfl rfl ?_ ?_
  ·simp only [List.getD_cons_zero,List.getD_cons_succ,List.map_cons,List.map_nil,fz,fz1,and_self,if_true,LW]
  ·simp only [List.getD_cons_zero,List.getD_cons_succ,List.map_cons,List.map_nil,fz,fz1,and_self,if_true]
   exact ⟨rfl,trivial⟩
theorem loop14 {σ : Store} {K : Exit → St → Prop} (l : List Opr) (hcl : Closed σ) (hlen : l.length < 2 ^ 39) : ∀ (rest pre : List Opr) (out : List En) (g : Nat),l = pre ++ rest → out.length + rest.length ≤ l.length →
  (∀ g,(∀ j0 j1 j2 j4 j5 j6 j7 j8 j9 j10 j11 j12 j13 j14 j15 j16 j17 j18 j19 j20 j21 j22,K (.exit 0) ⟨[j0,j1,j2,.own σ.length g,j4,j5,j6,j7,j8,j9,j10,j11,j12,j13,j14,j15,j16,j17,j18,j19,j20,j21,j22],σ ++ [.row 26 8 128 g false ((out ++ (rest.filter fun o => o.kind == 1).map (·.entry)).map En.cells)]⟩)) →
  Rnd σ.length Tryz.prog p14_0 K (rest.length + 1) ⟨[.u,.u,.u,.own σ.length g,.u,.u,.u,.sl 13 (l.map Opr.cells),.i .i64 l.length,.i .i64 pre.length,.u,.u,.u,.u,.u,.u,.u,.u,.u,.u,.u,.u,.u],σ ++ [.row 26 8 128 g false (out.map En.cells)]⟩ := by
 intro rest
 induction rest with
 | nil =>
  intro pre out g he ho h1
  have he : l = pre := by simpa using he
  subst he
  refine rnd_step fun R hR => ?_
  simp only [p14_0,VV,Int.reduceBEq,Int.reduceBNe,pexec,xexec,binV,Nat.reduceAdd,Nat.reduceSub,Nat.reduceLeDiff,Nat.reduceEqDiff,Int.reduceToNat,reduceIte,reduceCtorEq]
  simp only [List.filter_nil,List.map_nil,List.append_nil] at h1
  exact ⟨fun h => by simp at h,fun _ => h1 g ..⟩
 | cons x rest ih =>
  intro pre out g he ho h1
  subst he
  simp only [List.length_cons] at ho
  have next : ∀ (out' : List En) (g' : Nat) {loc : Store},out'.length ≤ out.length + 1 → out ++ ((x :: rest).filter fun o => o.kind == 1).map (·.entry) = out' ++ (rest.filter fun o => o.kind == 1).map (·.entry) → ∀ {R : St → Prop} {fr : List V},(∀ st',Rnd σ.length Tryz.prog p14_0 K (rest.length + 1) st' → R st') →
    Cvs fr [.u,.u,.u,.own σ.length g',.u,.u,.u,.sl 13 ((pre ++ x :: rest).map Opr.cells),.i .i64 (pre ++ x :: rest).length,.i .i64 (IntKind.i64.wrap ((pre.length : Int) + 1)),.u,.u,.u,.u,.u,.u,.u,.u,.u,.u,.u,.u,.u] → R ⟨fr,σ ++ (.row 26 8 128 g' false (out'.map En.cells) :: loc)⟩ := by
   intro out' g' loc hl hw R fr hR hc
   have e1 : IntKind.i64.wrap ((pre.length : Int) + 1) = (((pre ++ [x]).length : Nat) : Int) := by
    rw [wrap_succ (by simp at hlen; omega)]; simp
   rw [e1] at hc
   rw [hw] at h1
   refine hR _ (rnd_drop [_] loc (closed_add hcl (by simp)) hc ?_ (ih (pre ++ [x]) out' g' (by simp) (by omega) h1))
   simp only [LW,List.length_cons,List.length_nil,Nat.zero_add]
   omega
  refine rnd_step fun R hR => ?_
  simp only [p14_0,Opr.cells,Stamp.cells,En.cells,VV,Int.reduceBEq,Int.reduceBNe,pexec,xexec,binV,Nat.reduceAdd,Nat.reduceSub,Nat.reduceLeDiff,Nat.reduceEqDiff,Int.reduceToNat,reduceIte,reduceCtorEq]
  refine ⟨fun _ => ⟨by simp; omega,?_⟩,fun h => by simp at h <;> omega⟩
  refine ⟨fun h => ?_,fun h => ?_⟩
  ·simp only [List.length_map,maxLen,V.pure,VV,Int.reduceBEq,Int.reduceBNe,pexec,xexec,binV,Nat.reduceAdd,Nat.reduceSub,Nat.reduceLeDiff,Nat.reduceEqDiff,Int.reduceToNat,reduceIte,reduceCtorEq]
   refine ⟨by simp at ho hlen; omega,?_⟩
   have e0 : (out.map En.cells ++ [[.sl 3 (x.entry.source.map It.cells),.sl 3 (x.entry.target.map It.cells),.s x.entry.previous,.s x.entry.next,.s x.entry.author,.s x.entry.project,.i .i64 x.entry.created,.i .i64 x.entry.origin]]) = (out ++ [x.entry]).map En.cells := by
    simp [En.cells]
   rw [e0]
   refine next (out ++ [x.entry]) (g + 1) (by simp) (by simp [h]) hR ?_
   repeat first | exact .nil | refine .cons (.refl _) ?_ | refine .cons (.forget _) ?_
  ·refine next out g (by omega) (by simp [h]) hR ?_
   repeat first | exact .nil | refine .cons (.refl _) ?_ | refine .cons (.forget _) ?_
theorem opMemory_pc (l : List Opr) (hsm : ∀ o ∈ l,o.small) (σ : Store) : PC Tryz.prog 14 [.sl 13 (l.map Opr.cells)] σ (fun r σ' => r = .sl 8 ((memoryOf l).map En.cells) ∧ σ' = σ) := by
 refine PC.intro Tryz.func14 c14 fun hcl hwf => wpc_sound ?_
 simp only [p14,List.length_cons,List.length_nil,List.replicate,List.cons_append,List.nil_append,Nat.reduceAdd,Nat.reduceSub]
 simp only [VV,Int.reduceBEq,Int.reduceBNe,pexec,xexec,binV,Nat.reduceAdd,Nat.reduceSub,Nat.reduceLeDiff,Nat.reduceEqDiff,Int.reduceToNat,reduceIte,reduceCtorEq]
 refine call_eq (opCurrent_pc l hsm _) rfl ?_
 simp only [List.length_map,VV,Int.reduceBEq,Int.reduceBNe,pexec,xexec,binV,Nat.reduceAdd,Nat.reduceSub,Nat.reduceLeDiff,Nat.reduceEqDiff,Int.reduceToNat,reduceIte,reduceCtorEq]
 have hlen := current_len l
 refine PWc.wk ((Wk.promote (σ := σ) (k := 3) ti_Entry rfl).trans (Wk.cvs ?_)) (PWc.rnd ((current l).length + 1) (loop14 (current l) hcl (by omega) (current l) [] [] 0 rfl (by simp) ?_))
 ·simp only [W,pexec,xexec,binV,Nat.reduceAdd,Nat.reduceSub,Nat.reduceLeDiff,Nat.reduceEqDiff,Int.reduceToNat,reduceIte,reduceCtorEq]
  repeat first | exact .nil | refine .cons (.refl _) ?_ | refine .cons (.forget _) ?_
 ·intro g
  intros
  simp only [VV,Int.reduceBEq,Int.reduceBNe,pexec,xexec,binV,Nat.reduceAdd,Nat.reduceSub,Nat.reduceLeDiff,Nat.reduceEqDiff,Int.reduceToNat,reduceIte,reduceCtorEq]
  refine ret_fz 0 hcl (.inr rfl) rfl rfl ?_ ?_
  ·simp only [List.getD_cons_zero,List.getD_cons_succ,List.map_cons,List.map_nil,Nat.add_zero,fz,fz1,and_self,if_true,LW]
  ·simp only [List.getD_cons_zero,List.getD_cons_succ,List.map_cons,List.map_nil,Nat.add_zero,fz,fz1,and_self,if_true]
   exact ⟨rfl,trivial⟩
set_option maxRecDepth 20000 in
theorem r16SameEntry_pc (a b : En) (σ : Store) : PC Tryz.prog 38 [.agg a.cells,.agg b.cells] σ (fun r σ' => r = .b (enEq a b) ∧ σ' = σ) := by
 refine PC.intro Tryz.func38 c38 fun hcl hwf => wpc_sound ?_
 simp only [p38,List.length_cons,List.length_nil,List.replicate,List.cons_append,List.nil_append,Nat.reduceAdd,Nat.reduceSub]
 simp only [En.cells,VV,Int.reduceBEq,Int.reduceBNe,pexec,xexec,binV,Nat.reduceAdd,Nat.reduceSub,Nat.reduceLeDiff,Nat.reduceEqDiff,Int.reduceToNat,reduceIte,reduceCtorEq]
 refine call_eq (r3Same_pc a.source b.source _) rfl ?_
 simp only [VV,Int.reduceBEq,Int.reduceBNe,pexec,xexec,binV,Nat.reduceAdd,Nat.reduceSub,Nat.reduceLeDiff,Nat.reduceEqDiff,Int.reduceToNat,reduceIte,reduceCtorEq]
 have e1 : enEq a b = (itsEq a.source b.source && (itsEq a.target b.target && (a.previous == b.previous && (a.next == b.next && (a.author == b.author && (a.project == b.project && (a.created == b.created && a.origin == b.origin))))))) := rfl
 rw [e1]
 refine callg_eq (by simp only [VV,Int.reduceBEq,Int.reduceBNe,pexec,xexec,binV,Nat.reduceAdd,Nat.reduceSub,Nat.reduceLeDiff,Nat.reduceEqDiff,Int.reduceToNat,reduceIte,reduceCtorEq] <;> rfl) (fun _ => r3Same_pc a.target b.target _) rfl ?_
 simp only [VV,Int.reduceBEq,Int.reduceBNe,pexec,xexec,binV,Nat.reduceAdd,Nat.reduceSub,Nat.reduceLeDiff,Nat.reduceEqDiff,Int.reduceToNat,reduceIte,reduceCtorEq]
 cases itsEq a.source b.source <;> simp only [VV,Int.reduceBEq,Int.reduceBNe,pexec,xexec,binV,Nat.reduceAdd,Nat.reduceSub,Nat.reduceLeDiff,Nat.reduceEqDiff,Int.reduceToNat,reduceIte,reduceCtorEq]
 ·exact ret_end hcl (.inr rfl) (by simp only [resVs,resV,W]; rfl) (by simp only [LW]) ⟨rfl,rfl⟩
 cases itsEq a.target b.target <;> simp only [VV,Int.reduceBEq,Int.reduceBNe,pexec,xexec,binV,Nat.reduceAdd,Nat.reduceSub,Nat.reduceLeDiff,Nat.reduceEqDiff,Int.reduceToNat,reduceIte,reduceCtorEq]
 ·exact ret_end hcl (.inr rfl) (by simp only [resVs,resV,W]; rfl) (by simp only [LW]) ⟨rfl,rfl⟩
 cases a.previous == b.previous <;> simp only [VV,Int.reduceBEq,Int.reduceBNe,pexec,xexec,binV,Nat.reduceAdd,Nat.reduceSub,Nat.reduceLeDiff,Nat.reduceEqDiff,Int.reduceToNat,reduceIte,reduceCtorEq]
 ·exact ret_end hcl (.inr rfl) (by simp only [resVs,resV,W]; rfl) (by simp only [LW]) ⟨rfl,rfl⟩
 cases a.next == b.next <;> simp only [VV,Int.reduceBEq,Int.reduceBNe,pexec,xexec,binV,Nat.reduceAdd,Nat.reduceSub,Nat.reduceLeDiff,Nat.reduceEqDiff,Int.reduceToNat,reduceIte,reduceCtorEq]
 ·exact ret_end hcl (.inr rfl) (by simp only [resVs,resV,W]; rfl) (by simp only [LW]) ⟨rfl,rfl⟩
 cases a.author == b.author <;> simp only [VV,Int.reduceBEq,Int.reduceBNe,pexec,xexec,binV,Nat.reduceAdd,Nat.reduceSub,Nat.reduceLeDiff,Nat.reduceEqDiff,Int.reduceToNat,reduceIte,reduceCtorEq]
 ·exact ret_end hcl (.inr rfl) (by simp only [resVs,resV,W]; rfl) (by simp only [LW]) ⟨rfl,rfl⟩
 cases a.project == b.project <;> simp only [VV,Int.reduceBEq,Int.reduceBNe,pexec,xexec,binV,Nat.reduceAdd,Nat.reduceSub,Nat.reduceLeDiff,Nat.reduceEqDiff,Int.reduceToNat,reduceIte,reduceCtorEq]
 ·exact ret_end hcl (.inr rfl) (by simp only [resVs,resV,W]; rfl) (by simp only [LW]) ⟨rfl,rfl⟩
 cases a.created == b.created <;> simp only [VV,Int.reduceBEq,Int.reduceBNe,pexec,xexec,binV,Nat.reduceAdd,Nat.reduceSub,Nat.reduceLeDiff,Nat.reduceEqDiff,Int.reduceToNat,reduceIte,reduceCtorEq]
 ·exact ret_end hcl (.inr rfl) (by simp only [resVs,resV,W]; rfl) (by simp only [LW]) ⟨rfl,rfl⟩
 exact ret_end hcl (.inr rfl) (by simp only [resVs,resV,W]; rfl) (by simp only [LW]) ⟨rfl,rfl⟩
theorem loop16 {n : Nat} {σ : Store} {K : Exit → St → Prop} (a b : List En) (hlen : a.length < 2 ^ 63) (hab : a.length = b.length) : ∀ (ra rb pa pb : List En),a = pa ++ ra → b = pb ++ rb → pa.length = pb.length →
  (ensEq ra rb = true → (∀ j0 j1 j2 j3 j4 j5 j6 j7 j8 j9 j10 j11 j12 j13 j14 j15 j16 j17 j18 j19 j20 j21 j22 j23 j24 j25 j26,K (.exit 0) ⟨[j0,j1,j2,j3,j4,j5,j6,j7,j8,j9,j10,j11,j12,j13,j14,j15,j16,j17,j18,j19,j20,j21,j22,j23,j24,j25,j26],σ⟩)) → (ensEq ra rb = false → (∀ j0 j1 j2 j3 j5 j6 j7 j8 j9 j10 j11 j12 j13 j14 j15 j16 j17 j18 j19 j20 j21 j22 j23 j24 j25 j26,K .ret ⟨[j0,j1,j2,j3,.b false,j5,j6,j7,j8,j9,j10,j11,j12,j13,j14,j15,j16,j17,j18,j19,j20,j21,j22,j23,j24,j25,j26],σ⟩)) →
  Rnd n Tryz.prog p16_0 K (ra.length + 1) ⟨[.sl 8 (a.map En.cells),.sl 8 (b.map En.cells),.u,.u,.u,.u,.u,.u,.u,.u,.u,.u,.i .i64 a.length,.i .i64 pa.length,.u,.u,.u,.u,.u,.u,.u,.u,.u,.u,.u,.u,.u],σ⟩ := by
 intro ra
 induction ra with
 | nil =>
  intro rb pa pb ha hb hp h1 h2
  have : rb = [] := by
   subst ha; subst hb
   simp at hab
   exact List.eq_nil_of_length_eq_zero (by omega)
  subst this
  have ha : a = pa := by simpa using ha
  subst ha
  refine rnd_step fun R hR => ?_
  simp only [p16_0,VV,Int.reduceBEq,Int.reduceBNe,pexec,xexec,binV,Nat.reduceAdd,Nat.reduceSub,Nat.reduceLeDiff,Nat.reduceEqDiff,Int.reduceToNat,reduceIte,reduceCtorEq]
  exact ⟨fun h => by simp at h,fun _ => h1 rfl ..⟩
 | cons x ra ih =>
  intro rb pa pb ha hb hp h1 h2
  cases rb with
  | nil => subst ha; subst hb; simp at hab; omega
  | cons y rb =>
   subst ha; subst hb
   have e2 : (List.map En.cells (pb ++ y :: rb)).getD pa.length [] = y.cells := by rw [hp]; exact row_at
   have hw : IntKind.i64.wrap ((pa.length : Int) + 1) = (((pa ++ [x]).length : Nat) : Int) := by
    rw [wrap_succ (by simp at hlen; omega)]; simp
   refine rnd_step fun R hR => ?_
   simp only [p16_0,Int.toNat_natCast,e2,En.cells,VV,Int.reduceBEq,Int.reduceBNe,pexec,xexec,binV,Nat.reduceAdd,Nat.reduceSub,Nat.reduceLeDiff,Nat.reduceEqDiff,Int.reduceToNat,reduceIte,reduceCtorEq]
   have hla : (0 : Int) ≤ pa.length ∧ (pa.length : Int) < (List.map En.cells (pa ++ x :: ra)).length := by simp; omega
   have hlb : (0 : Int) ≤ pa.length ∧ (pa.length : Int) < (List.map En.cells (pb ++ y :: rb)).length := by simp at hab ⊢; omega
   refine ⟨fun _ => ⟨hla,hlb,?_⟩,fun h => by simp at h <;> omega⟩
   refine call_eq (r16SameEntry_pc x y _) rfl ?_
   simp only [VV,Int.reduceBEq,Int.reduceBNe,pexec,xexec,binV,Nat.reduceAdd,Nat.reduceSub,Nat.reduceLeDiff,Nat.reduceEqDiff,Int.reduceToNat,reduceIte,reduceCtorEq]
   refine ⟨fun h => ?_,fun h => ?_⟩
   ·have h : enEq x y = false := by rw [Bool.not_eq_true'] at h; exact h
    exact h2 (by simp [ensEq,h]) ..
   ·have h : enEq x y = true := by rw [Bool.not_eq_false'] at h; exact h
    have e : ensEq (x :: ra) (y :: rb) = ensEq ra rb := by simp [ensEq,h]
    rw [e] at h1 h2
    refine hR _ (rnd_cvs ?_ (ih rb (pa ++ [x]) (pb ++ [y]) (by simp) (by simp) (by simp [hp]) h1 h2))
    rw [hw]; repeat first | exact .nil | refine .cons (.refl _) ?_ | refine .cons (.forget _) ?_
theorem r16SameEntries_pc (a b : List En) (σ : Store) : PC Tryz.prog 16 [.sl 8 (a.map En.cells),.sl 8 (b.map En.cells)] σ (fun r σ' => r = .b (ensEq a b) ∧ σ' = σ) := by
 refine PC.intro Tryz.func16 c16 fun hcl hwf => wpc_sound ?_
 have hlen := wf_sl (hwf 0 _ rfl).1
 rw [List.length_map] at hlen
 simp only [p16,List.length_cons,List.length_nil,List.replicate,List.cons_append,List.nil_append,Nat.reduceAdd,Nat.reduceSub]
 simp only [List.length_map,VV,Int.reduceBEq,Int.reduceBNe,pexec,xexec,binV,Nat.reduceAdd,Nat.reduceSub,Nat.reduceLeDiff,Nat.reduceEqDiff,Int.reduceToNat,reduceIte,reduceCtorEq]
 refine ⟨fun h => ?_,fun h => ?_⟩
 ·have h : a.length ≠ b.length := by simp at h; omega
  have e : ensEq a b = false := by
   cases he : ensEq a b with
   | false => rfl
   | true => exact absurd (ensEq_len he) h
  exact ret_end0 (.inr rfl) rfl ⟨by rw [e]; rfl,rfl⟩
 ·have h : a.length = b.length := by simp at h; omega
  refine PWc.rnd_cvs ?_ (a.length + 1) (loop16 a b hlen h a b [] [] rfl rfl rfl (fun ha => ?_) (fun ha => ?_))
  ·repeat first | exact .nil | refine .cons (.refl _) ?_ | refine .cons (.forget _) ?_
  ·intros
   simp only [VV,Int.reduceBEq,Int.reduceBNe,pexec,xexec,binV,Nat.reduceAdd,Nat.reduceSub,Nat.reduceLeDiff,Nat.reduceEqDiff,Int.reduceToNat,reduceIte,reduceCtorEq]
   exact ret_end0 (.inr rfl) rfl ⟨by rw [ha]; rfl,rfl⟩
  ·intros
   exact ret_end0 (.inr rfl) rfl ⟨by rw [ha]; rfl,rfl⟩
theorem Cv.aggs {xs ys : List V} (h : Cvs xs ys) : Cv (.agg xs) (.agg ys) := .agg _ _ h.at.1 (fun i x y hx hy => h.at.2 i x y hx hy)
theorem known_pc (σ : Store) : PC Tryz.prog 15 [] σ (fun r σ' => r = .b true ∧ σ' = σ) := by
 refine PC.intro Tryz.func15 c15 fun hcl hwf => wpc_sound ?_
 simp only [p15,List.length_cons,List.length_nil,List.replicate,List.cons_append,List.nil_append,Nat.reduceAdd,Nat.reduceSub]
 simp only [V.pure,VV,Int.reduceBEq,Int.reduceBNe,pexec,xexec,binV,Nat.reduceAdd,Nat.reduceSub,Nat.reduceLeDiff,Nat.reduceEqDiff,Int.reduceToNat,reduceIte,reduceCtorEq]
 refine call_cv (zs := [.agg knY.cells]) (.cons (Cv.aggs ?_) .nil) (encode_pc knY knY_small _) ?_
 ·repeat first | exact .nil | refine .cons (.refl _) ?_ | refine .cons (.lit _ _) ?_ | refine .cons (.nil _) ?_
 simp only [knY_code.2,VV,Int.reduceBEq,Int.reduceBNe,pexec,xexec,binV,Nat.reduceAdd,Nat.reduceSub,Nat.reduceLeDiff,Nat.reduceEqDiff,Int.reduceToNat,reduceIte,reduceCtorEq]
 refine call_cv (zs := [.agg knX.cells]) (.cons (Cv.aggs ?_) .nil) (opValidate_pc knX knX_small _) ?_
 ·repeat first | exact .nil | refine .cons (.refl _) ?_ | refine .cons (.lit _ _) ?_ | refine .cons (.nil _) ?_
 simp only [knX_ok,VV,Int.reduceBEq,Int.reduceBNe,pexec,xexec,binV,Nat.reduceAdd,Nat.reduceSub,Nat.reduceLeDiff,Nat.reduceEqDiff,Int.reduceToNat,reduceIte,reduceCtorEq]
 refine callg_eq (by simp only [VV,Int.reduceBEq,Int.reduceBNe,pexec,xexec,binV,Nat.reduceAdd,Nat.reduceSub,Nat.reduceLeDiff,Nat.reduceEqDiff,Int.reduceToNat,reduceIte,reduceCtorEq] <;> rfl) (fun _ => PC.wk (args' := [.agg knY.cells]) (Wk.cvs (.cons (Cv.aggs ?_) .nil)) (opValidate_pc knY knY_small _)) rfl ?_
 ·repeat first | exact .nil | refine .cons (.refl _) ?_ | refine .cons (.lit _ _) ?_ | refine .cons (.nil _) ?_
 simp only [knY_ok,VV,Int.reduceBEq,Int.reduceBNe,pexec,xexec,binV,Nat.reduceAdd,Nat.reduceSub,Nat.reduceLeDiff,Nat.reduceEqDiff,Int.reduceToNat,reduceIte,reduceCtorEq]
 refine callg_eq (by simp only [VV,Int.reduceBEq,Int.reduceBNe,pexec,xexec,binV,Nat.reduceAdd,Nat.reduceSub,Nat.reduceLeDiff,Nat.reduceEqDiff,Int.reduceToNat,reduceIte,reduceCtorEq] <;> rfl) (fun _ => PC.wk (args' := [.agg knY.cells,.agg knX.cells]) (Wk.cvs (.cons (Cv.aggs ?_) (.cons (Cv.aggs ?_) .nil))) (opWins_pc knY knX knY_small knX_small _)) rfl ?_
 ·repeat first | exact .nil | refine .cons (.refl _) ?_ | refine .cons (.lit _ _) ?_ | refine .cons (.nil _) ?_
 ·repeat first | exact .nil | refine .cons (.refl _) ?_ | refine .cons (.lit _ _) ?_ | refine .cons (.nil _) ?_
 simp only [kn_wins.1,VV,Int.reduceBEq,Int.reduceBNe,pexec,xexec,binV,Nat.reduceAdd,Nat.reduceSub,Nat.reduceLeDiff,Nat.reduceEqDiff,Int.reduceToNat,reduceIte,reduceCtorEq]
 refine callg_eq (by simp only [VV,Int.reduceBEq,Int.reduceBNe,pexec,xexec,binV,Nat.reduceAdd,Nat.reduceSub,Nat.reduceLeDiff,Nat.reduceEqDiff,Int.reduceToNat,reduceIte,reduceCtorEq] <;> rfl) (fun _ => PC.wk (args' := [.agg knX.cells,.agg knY.cells]) (Wk.cvs (.cons (Cv.aggs ?_) (.cons (Cv.aggs ?_) .nil))) (opWins_pc knX knY knX_small knY_small _)) rfl ?_
 ·repeat first | exact .nil | refine .cons (.refl _) ?_ | refine .cons (.lit _ _) ?_ | refine .cons (.nil _) ?_
 ·repeat first | exact .nil | refine .cons (.refl _) ?_ | refine .cons (.lit _ _) ?_ | refine .cons (.nil _) ?_
 simp only [kn_wins.2.1,VV,Int.reduceBEq,Int.reduceBNe,pexec,xexec,binV,Nat.reduceAdd,Nat.reduceSub,Nat.reduceLeDiff,Nat.reduceEqDiff,Int.reduceToNat,reduceIte,reduceCtorEq]
 refine callg_eq (by simp only [VV,Int.reduceBEq,Int.reduceBNe,pexec,xexec,binV,Nat.reduceAdd,Nat.reduceSub,Nat.reduceLeDiff,Nat.reduceEqDiff,Int.reduceToNat,reduceIte,reduceCtorEq] <;> rfl) (fun _ => PC.wk (args' := [.agg knX.cells,.agg knY.cells]) (Wk.cvs (.cons (Cv.aggs ?_) (.cons (Cv.aggs ?_) .nil))) (opConcurrent_pc knX knY _)) rfl ?_
 ·repeat first | exact .nil | refine .cons (.refl _) ?_ | refine .cons (.lit _ _) ?_ | refine .cons (.nil _) ?_
 ·repeat first | exact .nil | refine .cons (.refl _) ?_ | refine .cons (.lit _ _) ?_ | refine .cons (.nil _) ?_
 simp only [kn_wins.2.2,V.pure,VV,Int.reduceBEq,Int.reduceBNe,pexec,xexec,binV,Nat.reduceAdd,Nat.reduceSub,Nat.reduceLeDiff,Nat.reduceEqDiff,Int.reduceToNat,reduceIte,reduceCtorEq]
 refine callg_eq (by simp only [VV,Int.reduceBEq,Int.reduceBNe,pexec,xexec,binV,Nat.reduceAdd,Nat.reduceSub,Nat.reduceLeDiff,Nat.reduceEqDiff,Int.reduceToNat,reduceIte,reduceCtorEq] <;> rfl) (fun _ => PC.wk (args' := [.sl 13 ([knX].map Opr.cells)]) (Wk.cvs (.cons (.lit _ _) .nil)) (opMemory_pc [knX] (by simp [knX_small]) _)) rfl ?_
 simp only [kn_mem1,VV,Int.reduceBEq,Int.reduceBNe,pexec,xexec,binV,Nat.reduceAdd,Nat.reduceSub,Nat.reduceLeDiff,Nat.reduceEqDiff,Int.reduceToNat,reduceIte,reduceCtorEq]
 refine callg_eq (by simp only [VV,Int.reduceBEq,Int.reduceBNe,pexec,xexec,binV,Nat.reduceAdd,Nat.reduceSub,Nat.reduceLeDiff,Nat.reduceEqDiff,Int.reduceToNat,reduceIte,reduceCtorEq] <;> rfl) (fun _ => PC.wk (args' := [.sl 8 ([knEntry].map En.cells),.sl 8 ([knEntry].map En.cells)]) (Wk.cvs (.cons (.refl _) (.cons (.lit _ _) .nil))) (r16SameEntries_pc [knEntry] [knEntry] _)) rfl ?_
 have hee : ensEq [knEntry] [knEntry] = true := ensEq_iff.2 rfl
 simp only [hee,V.pure,VV,Int.reduceBEq,Int.reduceBNe,pexec,xexec,binV,Nat.reduceAdd,Nat.reduceSub,Nat.reduceLeDiff,Nat.reduceEqDiff,Int.reduceToNat,reduceIte,reduceCtorEq]
 refine callg_eq (by simp only [VV,Int.reduceBEq,Int.reduceBNe,pexec,xexec,binV,Nat.reduceAdd,Nat.reduceSub,Nat.reduceLeDiff,Nat.reduceEqDiff,Int.reduceToNat,reduceIte,reduceCtorEq] <;> rfl) (fun _ => PC.wk (args' := [.sl 13 ([knY,knX].map Opr.cells)]) (Wk.cvs (.cons (.lit _ _) .nil)) (opMemory_pc [knY,knX] (by simp [knX_small,knY_small]) _)) rfl ?_
 simp only [kn_mem2,bytesV_length,knY_code.1,VV,Int.reduceBEq,Int.reduceBNe,pexec,xexec,binV,Nat.reduceAdd,Nat.reduceSub,Nat.reduceLeDiff,Nat.reduceEqDiff,Int.reduceToNat,reduceIte,reduceCtorEq]
 refine ret_end hcl (.inr rfl) (by simp only [resVs,resV,W]; rfl) (by simp only [LW]) ⟨?_,rfl⟩
 rfl
theorem from_pc (l : List Int) (σ : Store) : PC Tryz.prog 20 [.sl 1 (l.map iRow)] σ (fun r σ' => r = .ptr σ.length 0 ∧ σ' = σ ++ [.box 83 [.sl 1 (l.map iRow),.i .i64 ((0 : Nat) : Int)]]) := by
 refine PC.intro Tryz.func20 c20 fun hcl hwf => wpc_sound ?_
 simp only [p20,List.length_cons,List.length_nil,List.replicate,List.cons_append,List.nil_append,Nat.reduceAdd,Nat.reduceSub]
 simp only [V.pure,VV,Int.reduceBEq,Int.reduceBNe,pexec,xexec,binV,Nat.reduceAdd,Nat.reduceSub,Nat.reduceLeDiff,Nat.reduceEqDiff,Int.reduceToNat,reduceIte,reduceCtorEq]
 exact ret_wk (.inr rfl) rfl (Wk.refl _ _) rfl ⟨rfl,rfl⟩
theorem nst_new {σ : Store} {l : List Int} {k : Nat} : σ ++ [.box 83 [.sl 1 (l.map iRow),.i .i64 (k : Int)]] = nst (σ ++ [.dead]) σ.length l k := by
 simp [nst]
theorem opsOf_pc (l : List Int) (N : Nat) (hN : N ≤ 20) (σ : Store) : PC Tryz.prog 25 [.sl 1 (l.map iRow),.i .i64 N] σ (fun r σ' => ∃ out : List Opr,r = .sl 13 (out.map Opr.cells) ∧ (∀ o ∈ out,GenOp o) ∧ out.length ≤ N ∧ σ' = σ) := by
 refine PC.intro Tryz.func25 c25 fun hcl hwf => wpc_sound ?_
 simp only [p25,List.length_cons,List.length_nil,List.replicate,List.cons_append,List.nil_append,Nat.reduceAdd,Nat.reduceSub]
 simp only [VV,Int.reduceBEq,Int.reduceBNe,pexec,xexec,binV,Nat.reduceAdd,Nat.reduceSub,Nat.reduceLeDiff,Nat.reduceEqDiff,Int.reduceToNat,reduceIte,reduceCtorEq]
 refine call_eq (from_pc l σ) rfl ?_
 simp only [VV,Int.reduceBEq,Int.reduceBNe,pexec,xexec,binV,Nat.reduceAdd,Nat.reduceSub,Nat.reduceLeDiff,Nat.reduceEqDiff,Int.reduceToNat,reduceIte,reduceCtorEq]
 rw [nst_new]
 refine call_ex (ops_pc (σ ++ [.dead]) σ.length (by simp) l 0 (by decide) N hN) rfl ?_
 rintro _ _ ⟨out,k',rfl,h1,h2,rfl⟩
 rw [← nst_new]
 simp only [VV,Int.reduceBEq,Int.reduceBNe,pexec,xexec,binV,Nat.reduceAdd,Nat.reduceSub,Nat.reduceLeDiff,Nat.reduceEqDiff,Int.reduceToNat,reduceIte,reduceCtorEq]
 exact ret_end hcl (.inr rfl) (by simp only [resVs,resV,W]; rfl) (by simp only [LW]) ⟨out,rfl,h1,h2,rfl⟩
def longI (ls : List (List Int)) : Int := ls.foldl (fun a l => IntKind.i64.wrap (a + l.length)) 0
def liRow (l : List Int) : List V := [.sl 1 (l.map iRow)]
theorem loop17 {n : Nat} {σ : Store} {K : Exit → St → Prop} (ls : List (List Int)) (hlen : ls.length < 2 ^ 63) : ∀ (rest pre : List (List Int)) (a : Int),ls = pre ++ rest →
  (∀ j0 j1 j2 j4 j5 j6 j7 j8 j9 j10 j11 j12 j13 j14 j15 j16 j17 j18,K (.exit 0) ⟨[j0,j1,j2,.i .i64 (rest.foldl (fun a l => IntKind.i64.wrap (a + l.length)) a),j4,j5,j6,j7,j8,j9,j10,j11,j12,j13,j14,j15,j16,j17,j18],σ⟩) →
  Rnd n Tryz.prog p17_0 K (rest.length + 1) ⟨[.u,.u,.u,.i .i64 a,.u,.u,.sl 1 (ls.map liRow),.i .i64 ls.length,.i .i64 pre.length,.u,.u,.u,.u,.u,.u,.u,.u,.u,.u],σ⟩ := by
 intro rest
 induction rest with
 | nil =>
  intro pre a he h1
  have he : ls = pre := by simpa using he
  subst he
  refine rnd_step fun R hR => ?_
  simp only [p17_0,VV,Int.reduceBEq,Int.reduceBNe,pexec,xexec,binV,Nat.reduceAdd,Nat.reduceSub,Nat.reduceLeDiff,Nat.reduceEqDiff,Int.reduceToNat,reduceIte,reduceCtorEq]
  exact ⟨fun h => by simp at h,fun _ => h1 ..⟩
 | cons x rest ih =>
  intro pre a he h1
  subst he
  have hw : IntKind.i64.wrap ((pre.length : Int) + 1) = (((pre ++ [x]).length : Nat) : Int) := by
   rw [wrap_succ (by simp at hlen; omega)]; simp
  have hat : at2 (List.map liRow (pre ++ x :: rest)) pre.length 0 = some (.sl 1 (x.map iRow)) := at2_at
  refine rnd_step fun R hR => ?_
  simp only [p17_0,Int.toNat_natCast,hat,hw,List.length_map,VV,Int.reduceBEq,Int.reduceBNe,pexec,xexec,binV,Nat.reduceAdd,Nat.reduceSub,Nat.reduceLeDiff,Nat.reduceEqDiff,Int.reduceToNat,reduceIte,reduceCtorEq]
  refine ⟨fun _ => ⟨by simp; omega,?_⟩,fun h => by simp at h <;> omega⟩
  refine hR _ (rnd_cvs ?_ (ih (pre ++ [x]) (IntKind.i64.wrap (a + x.length)) (by simp) h1))
  repeat first | exact .nil | refine .cons (.refl _) ?_ | refine .cons (.forget _) ?_
theorem long_pc (ls : List (List Int)) (σ : Store) : PC Tryz.prog 17 [.sl 1 (ls.map liRow)] σ (fun r σ' => r = .b (decide (160 < longI ls)) ∧ σ' = σ) := by
 refine PC.intro Tryz.func17 c17 fun hcl hwf => wpc_sound ?_
 have hlen := wf_sl (hwf 0 _ rfl).1
 rw [List.length_map] at hlen
 simp only [p17,List.length_cons,List.length_nil,List.replicate,List.cons_append,List.nil_append,Nat.reduceAdd,Nat.reduceSub]
 simp only [List.length_map,VV,Int.reduceBEq,Int.reduceBNe,pexec,xexec,binV,Nat.reduceAdd,Nat.reduceSub,Nat.reduceLeDiff,Nat.reduceEqDiff,Int.reduceToNat,reduceIte,reduceCtorEq]
 refine PWc.rnd_cvs ?_ (ls.length + 1) (loop17 ls hlen ls [] 0 rfl ?_)
 ·repeat first | exact .nil | refine .cons (.refl _) ?_ | refine .cons (.forget _) ?_
 ·intros
  simp only [VV,Int.reduceBEq,Int.reduceBNe,pexec,xexec,binV,Nat.reduceAdd,Nat.reduceSub,Nat.reduceLeDiff,Nat.reduceEqDiff,Int.reduceToNat,reduceIte,reduceCtorEq]
  exact ret_end0 (.inr rfl) rfl ⟨rfl,rfl⟩
theorem r36SameOp_pc (a b : Opr) (σ : Store) : PC Tryz.prog 32 [.agg a.cells,.agg b.cells] σ (fun r σ' => r = .b (opEq a b) ∧ σ' = σ) := by
 refine PC.intro Tryz.func32 c32 fun hcl hwf => wpc_sound ?_
 simp only [p32,List.length_cons,List.length_nil,List.replicate,List.cons_append,List.nil_append,Nat.reduceAdd,Nat.reduceSub]
 simp only [Opr.cells,Stamp.cells,En.cells,cellsEq,scalEq,VV,Int.reduceBEq,Int.reduceBNe,pexec,xexec,binV,Nat.reduceAdd,Nat.reduceSub,Nat.reduceLeDiff,Nat.reduceEqDiff,Int.reduceToNat,reduceIte,reduceCtorEq]
 refine callg_eq (by simp only [VV,Int.reduceBEq,Int.reduceBNe,pexec,xexec,binV,Nat.reduceAdd,Nat.reduceSub,Nat.reduceLeDiff,Nat.reduceEqDiff,Int.reduceToNat,reduceIte,reduceCtorEq] <;> rfl) (fun _ => r16SameEntry_pc a.entry b.entry _) rfl ?_
 simp only [VV,Int.reduceBEq,Int.reduceBNe,pexec,xexec,binV,Nat.reduceAdd,Nat.reduceSub,Nat.reduceLeDiff,Nat.reduceEqDiff,Int.reduceToNat,reduceIte,reduceCtorEq]
 refine callg_eq (by simp only [VV,Int.reduceBEq,Int.reduceBNe,pexec,xexec,binV,Nat.reduceAdd,Nat.reduceSub,Nat.reduceLeDiff,Nat.reduceEqDiff,Int.reduceToNat,reduceIte,reduceCtorEq] <;> rfl) (fun _ => r3SameInts_pc a.seen b.seen _) rfl ?_
 simp only [VV,Int.reduceBEq,Int.reduceBNe,pexec,xexec,binV,Nat.reduceAdd,Nat.reduceSub,Nat.reduceLeDiff,Nat.reduceEqDiff,Int.reduceToNat,reduceIte,reduceCtorEq]
 refine ret_end hcl (.inr rfl) (by simp only [resVs,resV,W]; rfl) (by simp only [LW]) ⟨?_,rfl⟩
 simp only [Pm.one,opEq,stEq,Bool.and_true,List.getD_cons_zero]
theorem loop33 {n : Nat} {σ : Store} {K : Exit → St → Prop} (a b : List Opr) (hlen : a.length < 2 ^ 63) (hab : a.length = b.length) : ∀ (ra rb pa pb : List Opr),a = pa ++ ra → b = pb ++ rb → pa.length = pb.length →
  (opsEq ra rb = true → (∀ j0 j1 j2 j3 j4 j5 j6 j7 j8 j9 j10 j11 j12 j13 j14 j15 j16 j17 j18 j19 j20 j21 j22 j23 j24 j25 j26,K (.exit 0) ⟨[j0,j1,j2,j3,j4,j5,j6,j7,j8,j9,j10,j11,j12,j13,j14,j15,j16,j17,j18,j19,j20,j21,j22,j23,j24,j25,j26],σ⟩)) → (opsEq ra rb = false → (∀ j0 j1 j2 j3 j5 j6 j7 j8 j9 j10 j11 j12 j13 j14 j15 j16 j17 j18 j19 j20 j21 j22 j23 j24 j25 j26,K .ret ⟨[j0,j1,j2,j3,.b false,j5,j6,j7,j8,j9,j10,j11,j12,j13,j14,j15,j16,j17,j18,j19,j20,j21,j22,j23,j24,j25,j26],σ⟩)) →
  Rnd n Tryz.prog p33_0 K (ra.length + 1) ⟨[.sl 13 (a.map Opr.cells),.sl 13 (b.map Opr.cells),.u,.u,.u,.u,.u,.u,.u,.u,.u,.u,.i .i64 a.length,.i .i64 pa.length,.u,.u,.u,.u,.u,.u,.u,.u,.u,.u,.u,.u,.u],σ⟩ := by
 intro ra
 induction ra with
 | nil =>
  intro rb pa pb ha hb hp h1 h2
  have : rb = [] := by
   subst ha; subst hb
   simp at hab
   exact List.eq_nil_of_length_eq_zero (by omega)
  subst this
  have ha : a = pa := by simpa using ha
  subst ha
  refine rnd_step fun R hR => ?_
  simp only [p33_0,VV,Int.reduceBEq,Int.reduceBNe,pexec,xexec,binV,Nat.reduceAdd,Nat.reduceSub,Nat.reduceLeDiff,Nat.reduceEqDiff,Int.reduceToNat,reduceIte,reduceCtorEq]
  exact ⟨fun h => by simp at h,fun _ => h1 rfl ..⟩
 | cons x ra ih =>
  intro rb pa pb ha hb hp h1 h2
  cases rb with
  | nil => subst ha; subst hb; simp at hab; omega
  | cons y rb =>
   subst ha; subst hb
   have e2 : (List.map Opr.cells (pb ++ y :: rb)).getD pa.length [] = y.cells := by rw [hp]; exact row_at
   have hw : IntKind.i64.wrap ((pa.length : Int) + 1) = (((pa ++ [x]).length : Nat) : Int) := by
    rw [wrap_succ (by simp at hlen; omega)]; simp
   refine rnd_step fun R hR => ?_
   simp only [p33_0,Int.toNat_natCast,e2,Opr.cells,Stamp.cells,En.cells,VV,Int.reduceBEq,Int.reduceBNe,pexec,xexec,binV,Nat.reduceAdd,Nat.reduceSub,Nat.reduceLeDiff,Nat.reduceEqDiff,Int.reduceToNat,reduceIte,reduceCtorEq]
   have hla : (0 : Int) ≤ pa.length ∧ (pa.length : Int) < (List.map Opr.cells (pa ++ x :: ra)).length := by simp; omega
   have hlb : (0 : Int) ≤ pa.length ∧ (pa.length : Int) < (List.map Opr.cells (pb ++ y :: rb)).length := by simp at hab ⊢; omega
   refine ⟨fun _ => ⟨hla,hlb,?_⟩,fun h => by simp at h <;> omega⟩
   refine call_eq (r36SameOp_pc x y _) rfl ?_
   simp only [VV,Int.reduceBEq,Int.reduceBNe,pexec,xexec,binV,Nat.reduceAdd,Nat.reduceSub,Nat.reduceLeDiff,Nat.reduceEqDiff,Int.reduceToNat,reduceIte,reduceCtorEq]
   refine ⟨fun h => ?_,fun h => ?_⟩
   ·have h : opEq x y = false := by rw [Bool.not_eq_true'] at h; exact h
    exact h2 (by simp [opsEq,h]) ..
   ·have h : opEq x y = true := by rw [Bool.not_eq_false'] at h; exact h
    have e : opsEq (x :: ra) (y :: rb) = opsEq ra rb := by simp [opsEq,h]
    rw [e] at h1 h2
    refine hR _ (rnd_cvs ?_ (ih rb (pa ++ [x]) (pb ++ [y]) (by simp) (by simp) (by simp [hp]) h1 h2))
    rw [hw]; repeat first | exact .nil | refine .cons (.refl _) ?_ | refine .cons (.forget _) ?_
theorem r36SameOps_pc (a b : List Opr) (σ : Store) : PC Tryz.prog 33 [.sl 13 (a.map Opr.cells),.sl 13 (b.map Opr.cells)] σ (fun r σ' => r = .b (opsEq a b) ∧ σ' = σ) := by
 refine PC.intro Tryz.func33 c33 fun hcl hwf => wpc_sound ?_
 have hlen := wf_sl (hwf 0 _ rfl).1
 rw [List.length_map] at hlen
 simp only [p33,List.length_cons,List.length_nil,List.replicate,List.cons_append,List.nil_append,Nat.reduceAdd,Nat.reduceSub]
 simp only [List.length_map,VV,Int.reduceBEq,Int.reduceBNe,pexec,xexec,binV,Nat.reduceAdd,Nat.reduceSub,Nat.reduceLeDiff,Nat.reduceEqDiff,Int.reduceToNat,reduceIte,reduceCtorEq]
 refine ⟨fun h => ?_,fun h => ?_⟩
 ·have h : a.length ≠ b.length := by simp at h; omega
  have e : opsEq a b = false := by
   cases he : opsEq a b with
   | false => rfl
   | true => exact absurd (opsEq_len he) h
  exact ret_end0 (.inr rfl) rfl ⟨by rw [e]; rfl,rfl⟩
 ·have h : a.length = b.length := by simp at h; omega
  refine PWc.rnd_cvs ?_ (a.length + 1) (loop33 a b hlen h a b [] [] rfl rfl rfl (fun ha => ?_) (fun ha => ?_))
  ·repeat first | exact .nil | refine .cons (.refl _) ?_ | refine .cons (.forget _) ?_
  ·intros
   simp only [VV,Int.reduceBEq,Int.reduceBNe,pexec,xexec,binV,Nat.reduceAdd,Nat.reduceSub,Nat.reduceLeDiff,Nat.reduceEqDiff,Int.reduceToNat,reduceIte,reduceCtorEq]
   exact ret_end0 (.inr rfl) rfl ⟨by rw [ha]; rfl,rfl⟩
  ·intros
   exact ret_end0 (.inr rfl) rfl ⟨by rw [ha]; rfl,rfl⟩
theorem ops_getD {m : List Opr} {n : Nat} (h : n < m.length) : (m.map Opr.cells).getD n [] = (m.getD n liOp).cells := by
 simp [List.getD_eq_getElem?_getD,h]
theorem op_snoc (n : List Opr) (o : Opr) : n.map Opr.cells ++ [[.i .i64 o.stamp.time,.i .i64 o.stamp.office,.i .i64 o.stamp.number,.i .i64 o.kind,.sl 3 (o.entry.source.map It.cells),.sl 3 (o.entry.target.map It.cells),.s o.entry.previous,.s o.entry.next,.s o.entry.author,.s o.entry.project,.i .i64 o.entry.created,.i .i64 o.entry.origin,.sl 1 (o.seen.map iRow)]] = (n ++ [o]).map Opr.cells := by
 simp [Opr.cells,Stamp.cells,En.cells]
theorem loop7_0 {σ : Store} {K : Exit → St → Prop} (hcl : Closed σ) (m : List Opr) (hml : m.length ≤ 8) (order : List Int) (hlen : order.length < 2 ^ 63) (cut : Int) : ∀ (rest pre : List Int) (n : List Opr) (g : Nat),order = pre ++ rest → n.length ≤ 30 →
  (∀ g,(∀ j0 j1 j3 j4 j5 j6 j9 j10 j11 j12 j13 j14 j15 j16 j17 j18 j19 j20 j21 j22 j23 j24 j25 j26 j27 j28 j29 j30 j31 j32 j33 j34 j35 j36 j37 j38 j39 j40 j41 j42 j43 j44 j45 j46 j47 j48 j49 j50 j51 j52 j53 j54 j55 j56 j57 j58 j59 j60 j61 j62 j63 j64 j65 j66 j67 j68 j69 j70 j71 j72 j73 j74 j75 j76 j77 j78 j79 j80 j81 j82 j83 j84 j85 j86 j87 j88 j89 j90 j91 j92 j93 j94 j95 j96 j97 j98 j99 j100 j101 j102 j103,K (.exit 0) ⟨[j0,j1,.i .i64 cut,j3,j4,j5,j6,.sl 13 (m.map Opr.cells),.own σ.length g,j9,j10,j11,j12,j13,j14,j15,j16,j17,j18,j19,j20,j21,j22,j23,j24,j25,j26,j27,j28,j29,j30,j31,j32,j33,j34,j35,j36,j37,j38,j39,j40,j41,j42,j43,j44,j45,j46,j47,j48,j49,j50,j51,j52,j53,j54,j55,j56,j57,j58,j59,j60,j61,j62,j63,j64,j65,j66,j67,j68,j69,j70,j71,j72,j73,j74,j75,j76,j77,j78,j79,j80,j81,j82,j83,j84,j85,j86,j87,j88,j89,j90,j91,j92,j93,j94,j95,j96,j97,j98,j99,j100,j101,j102,j103],σ ++ [opRow g false (pickOps m rest n)]⟩)) →
  Rnd σ.length Tryz.prog p7_0 K (rest.length + 1) ⟨[.u,.u,.i .i64 cut,.u,.u,.u,.u,.sl 13 (m.map Opr.cells),.own σ.length g,.u,.u,.u,.u,.u,.u,.u,.u,.u,.u,.u,.u,.u,.sl 1 (order.map iRow),.i .i64 order.length,.i .i64 pre.length,.u,.u,.u,.u,.u,.u,.u,.u,.u,.u,.u,.u,.u,.u,.u,.u,.u,.u,.u,.u,.u,.u,.u,.u,.u,.u,.u,.u,.u,.u,.u,.u,.u,.u,.u,.u,.u,.u,.u,.u,.u,.u,.u,.u,.u,.u,.u,.u,.u,.u,.u,.u,.u,.u,.u,.u,.u,.u,.u,.u,.u,.u,.u,.u,.u,.u,.u,.u,.u,.u,.u,.u,.u,.u,.u,.u,.u,.u,.u],σ ++ [opRow g false n]⟩ := by
 intro rest
 induction rest with
 | nil =>
  intro pre n g he hn h1
  have he : order = pre := by simpa using he
  subst he
  refine rnd_step fun R hR => ?_
  simp only [p7_0,VV,Int.reduceBEq,Int.reduceBNe,pexec,xexec,binV,Nat.reduceAdd,Nat.reduceSub,Nat.reduceLeDiff,Nat.reduceEqDiff,Int.reduceToNat,reduceIte,reduceCtorEq]
  exact ⟨fun h => by simp at h,fun _ => h1 g ..⟩
 | cons i rest ih =>
  intro pre n g he hn h1
  have hol : order.length = pre.length + (rest.length + 1) := by rw [he]; simp
  have hw : IntKind.i64.wrap ((pre.length : Int) + 1) = (((pre ++ [i]).length : Nat) : Int) := by
   rw [wrap_succ (by omega)]; simp
  have hat : at2 (List.map iRow order) pre.length 0 = some (.i .i64 i) := by rw [he]; exact at2_at
  have hd : decide ((pre.length : Int) < (order.length : Int)) = true := by simp; omega
  refine rnd_step fun R hR => ?_
  simp only [p7_0,opRow,Int.toNat_natCast,hat,hd,hw,List.length_map,V.pure,VV,Int.reduceBEq,Int.reduceBNe,pexec,xexec,binV,Nat.reduceAdd,Nat.reduceSub,Nat.reduceLeDiff,Nat.reduceEqDiff,Int.reduceToNat,reduceIte,reduceCtorEq]
  refine ⟨⟨by omega,by omega⟩,fun h => ?_,fun h => ?_⟩
  ·have hc : 0 < m.length ∧ n.length < 30 := by simp at h; omega
   have hr := place_range (x := i) (n := (m.length : Int)) (by omega)
   refine call_eq (place_pc i m.length (by omega) (by omega) _) rfl ?_
   have hrow := ops_getD (m := m) (n := (place i m.length).toNat) (by omega)
   simp only [hrow,Opr.cells,Stamp.cells,En.cells,hw,List.length_map,maxLen,V.pure,VV,Int.reduceBEq,Int.reduceBNe,pexec,xexec,binV,Nat.reduceAdd,Nat.reduceSub,Nat.reduceLeDiff,Nat.reduceEqDiff,Int.reduceToNat,reduceIte,reduceCtorEq]
   refine ⟨by omega,⟨by omega,by omega⟩,?_⟩
   simp only [pickOps,if_pos hc] at h1
   rw [op_snoc]
   refine hR _ (rnd_cvs ?_ (ih (pre ++ [i]) (n ++ [m.getD (place i m.length).toNat liOp]) (g + 1) (by rw [he]; simp) (by simp; omega) h1))
   repeat first | exact .nil | refine .cons (.refl _) ?_ | refine .cons (.forget _) ?_
  ·have hc : ¬ (0 < m.length ∧ n.length < 30) := by simp at h; omega
   simp only [pickOps,if_neg hc] at h1
   refine hR _ (rnd_cvs ?_ (ih (pre ++ [i]) n g (by rw [he]; simp) hn h1))
   repeat first | exact .nil | refine .cons (.refl _) ?_ | refine .cons (.forget _) ?_
theorem loop7_1 {σ : Store} {K : Exit → St → Prop} (m : List Opr) (hml : m.length ≤ 8) (cut : Int) : ∀ (j : Nat) (n : List Opr) (g : Nat),j ≤ m.length → n.length + j ≤ 40 →
  (∀ g,(∀ j0 j1 j3 j4 j5 j6 j9 j10 j11 j12 j13 j14 j15 j16 j17 j18 j19 j20 j21 j22 j23 j24 j25 j26 j27 j28 j29 j30 j31 j32 j33 j34 j35 j36 j37 j38 j39 j40 j41 j42 j43 j44 j45 j46 j47 j48 j49 j50 j51 j52 j53 j54 j55 j56 j57 j58 j59 j60 j61 j62 j63 j64 j65 j66 j67 j68 j69 j70 j71 j72 j73 j74 j75 j76 j77 j78 j79 j80 j81 j82 j83 j84 j85 j86 j87 j88 j89 j90 j91 j92 j93 j94 j95 j96 j97 j98 j99 j100 j101 j102 j103,K (.exit 2) ⟨[j0,j1,.i .i64 cut,j3,j4,j5,j6,.sl 13 (m.map Opr.cells),.own σ.length g,j9,j10,j11,j12,j13,j14,j15,j16,j17,j18,j19,j20,j21,j22,j23,j24,j25,j26,j27,j28,j29,j30,j31,j32,j33,j34,j35,j36,j37,j38,j39,j40,j41,j42,j43,j44,j45,j46,j47,j48,j49,j50,j51,j52,j53,j54,j55,j56,j57,j58,j59,j60,j61,j62,j63,j64,j65,j66,j67,j68,j69,j70,j71,j72,j73,j74,j75,j76,j77,j78,j79,j80,j81,j82,j83,j84,j85,j86,j87,j88,j89,j90,j91,j92,j93,j94,j95,j96,j97,j98,j99,j100,j101,j102,j103],σ ++ [opRow g false (n ++ (m.take j).reverse)]⟩)) →
  Rnd σ.length Tryz.prog p7_1 K (j + 1) ⟨[.u,.u,.i .i64 cut,.u,.u,.u,.u,.sl 13 (m.map Opr.cells),.own σ.length g,.u,.u,.i .i64 ((j : Int) - 1),.u,.u,.u,.u,.u,.u,.u,.u,.u,.u,.u,.u,.u,.u,.u,.u,.u,.u,.u,.u,.u,.u,.u,.u,.u,.u,.u,.u,.u,.u,.u,.u,.u,.u,.u,.u,.u,.u,.u,.u,.u,.u,.u,.u,.u,.u,.u,.u,.u,.u,.u,.u,.u,.u,.u,.u,.u,.u,.u,.u,.u,.u,.u,.u,.u,.u,.u,.u,.u,.u,.u,.u,.u,.u,.u,.u,.u,.u,.u,.u,.u,.u,.u,.u,.u,.u,.u,.u,.u,.u,.u,.u],σ ++ [opRow g false n]⟩ := by
 intro j
 induction j with
 | zero =>
  intro n g hj hn h1
  have e1 : decide ((0 : Int) ≤ ((0 : Nat) : Int) - 1) = false := rfl
  simp only [List.take_zero,List.reverse_nil,List.append_nil] at h1
  refine rnd_step fun R hR => ?_
  simp only [p7_1,e1,VV,Int.reduceBEq,Int.reduceBNe,pexec,xexec,binV,Nat.reduceAdd,Nat.reduceSub,Nat.reduceLeDiff,Nat.reduceEqDiff,Int.reduceToNat,reduceIte,reduceCtorEq]
  exact h1 g ..
 | succ j ih =>
  intro n g hj hn h1
  have e0 : ((j + 1 : Nat) : Int) - 1 = (j : Int) := by omega
  have hw : IntKind.i64.wrap ((j : Int) - 1) = (j : Int) - 1 := IntWalk.i64_in _ (by omega)
  have hd : decide ((0 : Int) ≤ (j : Int)) = true := by simp
  have hrow := ops_getD (m := m) (n := j) (by omega)
  have ht : n ++ (m.take (j + 1)).reverse = (n ++ [m.getD j liOp]) ++ (m.take j).reverse := by
   have hjl : j < m.length := by omega
   rw [List.take_succ_eq_append_getElem hjl,List.reverse_append,List.append_assoc]
   simp [List.getD_eq_getElem?_getD,hjl]
  rw [ht] at h1
  rw [e0]
  refine rnd_step fun R hR => ?_
  simp only [p7_1,opRow,Int.toNat_natCast,hd,hw,hrow,Opr.cells,Stamp.cells,En.cells,List.length_map,maxLen,V.pure,VV,Int.reduceBEq,Int.reduceBNe,pexec,xexec,binV,Nat.reduceAdd,Nat.reduceSub,Nat.reduceLeDiff,Nat.reduceEqDiff,Int.reduceToNat,reduceIte,reduceCtorEq]
  refine ⟨by omega,⟨by omega,by omega⟩,?_⟩
  rw [op_snoc]
  refine hR _ (rnd_cvs ?_ (ih (n ++ [m.getD j liOp]) (g + 1) (by omega) (by simp; omega) h1))
  repeat first | exact .nil | refine .cons (.refl _) ?_ | refine .cons (.forget _) ?_
set_option maxHeartbeats 2000000 in
set_option maxRecDepth 20000 in
theorem operationCommutes_pc (l order : List Int) (cut : Int) (σ : Store) : PC Tryz.prog 7 [.sl 1 (l.map iRow),.sl 1 (order.map iRow),.i .i64 cut] σ (fun r σ' => r = .b true ∧ σ' = σ) := by
 refine PC.intro Tryz.func7 c7 fun hcl hwf => ?_
 have hlen := wf_sl (hwf 1 _ rfl).1
 rw [List.length_map] at hlen
 simp only [p7,List.length_cons,List.length_nil,List.replicate,List.cons_append,List.nil_append,Nat.reduceAdd,Nat.reduceSub]
 refine PWc.cut fun R hR => ?_
 simp only [VV,Int.reduceBEq,Int.reduceBNe,pexec,xexec,binV,Nat.reduceAdd,Nat.reduceSub,Nat.reduceLeDiff,Nat.reduceEqDiff,Int.reduceToNat,reduceIte,reduceCtorEq]
 refine hR _ ?_
 clear hR R
 refine PWc.cut fun R hR => ?_
 simp only [V.pure,VV,Int.reduceBEq,Int.reduceBNe,pexec,xexec,binV,Nat.reduceAdd,Nat.reduceSub,Nat.reduceLeDiff,Nat.reduceEqDiff,Int.reduceToNat,reduceIte,reduceCtorEq]
 refine call_cv (zs := [.sl 1 ([l,order].map liRow)]) (.cons (.lit _ _) .nil) (long_pc [l,order] _) ?_
 simp only [VV,Int.reduceBEq,Int.reduceBNe,pexec,xexec,binV,Nat.reduceAdd,Nat.reduceSub,Nat.reduceLeDiff,Nat.reduceEqDiff,Int.reduceToNat,reduceIte,reduceCtorEq]
 refine ⟨fun _ => ?_,fun _ => ?_⟩
 ·refine call_eq (known_pc _) rfl ?_
  simp only [VV,Int.reduceBEq,Int.reduceBNe,pexec,xexec,binV,Nat.reduceAdd,Nat.reduceSub,Nat.reduceLeDiff,Nat.reduceEqDiff,Int.reduceToNat,reduceIte,reduceCtorEq]
  exact ret_end0 (.inr rfl) (by simp only [resVs,resV,W]; rfl) ⟨rfl,rfl⟩
 refine hR _ (PWc.cvs (fr' := [.sl 1 (l.map iRow),.sl 1 (order.map iRow),.i .i64 cut,.u,.u,.u,.u,.u,.u,.u,.u,.u,.u,.u,.u,.u,.u,.u,.u,.u,.u,.u,.u,.u,.u,.u,.u,.u,.u,.u,.u,.u,.u,.u,.u,.u,.u,.u,.u,.u,.u,.u,.u,.u,.u,.u,.u,.u,.u,.u,.u,.u,.u,.u,.u,.u,.u,.u,.u,.u,.u,.u,.u,.u,.u,.u,.u,.u,.u,.u,.u,.u,.u,.u,.u,.u,.u,.u,.u,.u,.u,.u,.u,.u,.u,.u,.u,.u,.u,.u,.u,.u,.u,.u,.u,.u,.u,.u,.u,.u,.u,.u,.u,.u]) ?_ (by repeat first | exact .nil | refine .cons (.refl _) ?_ | refine .cons (.forget _) ?_))
 clear hR R
 refine PWc.cut fun R hR => ?_
 simp only [VV,Int.reduceBEq,Int.reduceBNe,pexec,xexec,binV,Nat.reduceAdd,Nat.reduceSub,Nat.reduceLeDiff,Nat.reduceEqDiff,Int.reduceToNat,reduceIte,reduceCtorEq]
 refine call_ex (opsOf_pc l 8 (by decide) _) rfl ?_
 rintro _ σ1 ⟨m,rfl,hm,hml,hσ⟩
 have hσ := hσ.symm
 subst hσ
 simp only [VV,Int.reduceBEq,Int.reduceBNe,pexec,xexec,binV,Nat.reduceAdd,Nat.reduceSub,Nat.reduceLeDiff,Nat.reduceEqDiff,Int.reduceToNat,reduceIte,reduceCtorEq]
 refine hR _ (PWc.cvs (fr' := [.u,.sl 1 (order.map iRow),.i .i64 cut,.u,.u,.u,.u,.sl 13 (m.map Opr.cells),.u,.u,.u,.u,.u,.u,.u,.u,.u,.u,.u,.u,.u,.u,.u,.u,.u,.u,.u,.u,.u,.u,.u,.u,.u,.u,.u,.u,.u,.u,.u,.u,.u,.u,.u,.u,.u,.u,.u,.u,.u,.u,.u,.u,.u,.u,.u,.u,.u,.u,.u,.u,.u,.u,.u,.u,.u,.u,.u,.u,.u,.u,.u,.u,.u,.u,.u,.u,.u,.u,.u,.u,.u,.u,.u,.u,.u,.u,.u,.u,.u,.u,.u,.u,.u,.u,.u,.u,.u,.u,.u,.u,.u,.u,.u,.u]) ?_ (by repeat first | exact .nil | refine .cons (.refl _) ?_ | refine .cons (.forget _) ?_))
 clear hR R
 refine PWc.cut fun R hR => ?_
 simp only [VV,Int.reduceBEq,Int.reduceBNe,pexec,xexec,binV,Nat.reduceAdd,Nat.reduceSub,Nat.reduceLeDiff,Nat.reduceEqDiff,Int.reduceToNat,reduceIte,reduceCtorEq]
 refine hR _ ?_
 clear hR R
 refine PWc.cut fun R hR => ?_
 simp only [List.length_map,VV,Int.reduceBEq,Int.reduceBNe,pexec,xexec,binV,Nat.reduceAdd,Nat.reduceSub,Nat.reduceLeDiff,Nat.reduceEqDiff,Int.reduceToNat,reduceIte,reduceCtorEq]
 obtain ⟨p1,p2⟩ := pickOps_mem (m := m) order [] (by simp) (by simp)
 refine PWc.wk (((Wk.cvs (ys := [.u,.u,.i .i64 cut,.u,.u,.u,.u,.sl 13 (m.map Opr.cells),.nil,.u,.u,.u,.u,.u,.u,.u,.u,.u,.u,.u,.u,.u,.sl 1 (order.map iRow),.i .i64 order.length,.i .i64 (([] : List Int).length : Nat),.u,.u,.u,.u,.u,.u,.u,.u,.u,.u,.u,.u,.u,.u,.u,.u,.u,.u,.u,.u,.u,.u,.u,.u,.u,.u,.u,.u,.u,.u,.u,.u,.u,.u,.u,.u,.u,.u,.u,.u,.u,.u,.u,.u,.u,.u,.u,.u,.u,.u,.u,.u,.u,.u,.u,.u,.u,.u,.u,.u,.u,.u,.u,.u,.u,.u,.u,.u,.u,.u,.u,.u,.u,.u,.u,.u,.u,.u,.u]) (by repeat first | exact .nil | refine .cons (.refl _) ?_ | refine .cons (.forget _) ?_)).trans (Wk.promote (P := Tryz.prog) (k := 8) ti_opR rfl)).trans (Wk.cvs (ys := [.u,.u,.i .i64 cut,.u,.u,.u,.u,.sl 13 (m.map Opr.cells),.own σ.length 0,.u,.u,.u,.u,.u,.u,.u,.u,.u,.u,.u,.u,.u,.sl 1 (order.map iRow),.i .i64 order.length,.i .i64 (([] : List Int).length : Nat),.u,.u,.u,.u,.u,.u,.u,.u,.u,.u,.u,.u,.u,.u,.u,.u,.u,.u,.u,.u,.u,.u,.u,.u,.u,.u,.u,.u,.u,.u,.u,.u,.u,.u,.u,.u,.u,.u,.u,.u,.u,.u,.u,.u,.u,.u,.u,.u,.u,.u,.u,.u,.u,.u,.u,.u,.u,.u,.u,.u,.u,.u,.u,.u,.u,.u,.u,.u,.u,.u,.u,.u,.u,.u,.u,.u,.u,.u,.u]) ?_))
  (PWc.rnd (order.length + 1) (loop7_0 hcl m hml order hlen cut order [] [] 0 rfl (by simp) ?_))
 ·simp only [VV,Int.reduceBEq,Int.reduceBNe,pexec,xexec,binV,Nat.reduceAdd,Nat.reduceSub,Nat.reduceLeDiff,Nat.reduceEqDiff,Int.reduceToNat,reduceIte,reduceCtorEq]
  repeat first | exact .nil | refine .cons (.refl _) ?_ | refine .cons (.forget _) ?_
 intro g
 intros
 simp only [VV,Int.reduceBEq,Int.reduceBNe,pexec,xexec,binV,Nat.reduceAdd,Nat.reduceSub,Nat.reduceLeDiff,Nat.reduceEqDiff,Int.reduceToNat,reduceIte,reduceCtorEq]
 refine hR _ (PWc.cvs (fr' := [.u,.u,.i .i64 cut,.u,.u,.u,.u,.sl 13 (m.map Opr.cells),.own σ.length g,.u,.u,.u,.u,.u,.u,.u,.u,.u,.u,.u,.u,.u,.u,.u,.u,.u,.u,.u,.u,.u,.u,.u,.u,.u,.u,.u,.u,.u,.u,.u,.u,.u,.u,.u,.u,.u,.u,.u,.u,.u,.u,.u,.u,.u,.u,.u,.u,.u,.u,.u,.u,.u,.u,.u,.u,.u,.u,.u,.u,.u,.u,.u,.u,.u,.u,.u,.u,.u,.u,.u,.u,.u,.u,.u,.u,.u,.u,.u,.u,.u,.u,.u,.u,.u,.u,.u,.u,.u,.u,.u,.u,.u,.u,.u]) ?_ (by repeat first | exact .nil | refine .cons (.refl _) ?_ | refine .cons (.forget _) ?_))
 clear hR R
 have hwm : IntKind.i64.wrap ((m.length : Int) - 1) = (m.length : Int) - 1 := IntWalk.i64_in _ (by omega)
 refine PWc.cut fun R hR => ?_
 simp only [hwm,List.length_map,VV,Int.reduceBEq,Int.reduceBNe,pexec,xexec,binV,Nat.reduceAdd,Nat.reduceSub,Nat.reduceLeDiff,Nat.reduceEqDiff,Int.reduceToNat,reduceIte,reduceCtorEq]
 refine PWc.rnd_cvs (fr' := [.u,.u,.i .i64 cut,.u,.u,.u,.u,.sl 13 (m.map Opr.cells),.own σ.length g,.u,.u,.i .i64 ((m.length : Int) - 1),.u,.u,.u,.u,.u,.u,.u,.u,.u,.u,.u,.u,.u,.u,.u,.u,.u,.u,.u,.u,.u,.u,.u,.u,.u,.u,.u,.u,.u,.u,.u,.u,.u,.u,.u,.u,.u,.u,.u,.u,.u,.u,.u,.u,.u,.u,.u,.u,.u,.u,.u,.u,.u,.u,.u,.u,.u,.u,.u,.u,.u,.u,.u,.u,.u,.u,.u,.u,.u,.u,.u,.u,.u,.u,.u,.u,.u,.u,.u,.u,.u,.u,.u,.u,.u,.u,.u,.u,.u,.u,.u,.u]) (by repeat first | exact .nil | refine .cons (.refl _) ?_ | refine .cons (.forget _) ?_) (m.length + 1) (loop7_1 m hml cut m.length (pickOps m order []) g (Nat.le_refl _) (by omega) ?_)
 intro g
 intros
 simp only [List.take_length,VV,Int.reduceBEq,Int.reduceBNe,pexec,xexec,binV,Nat.reduceAdd,Nat.reduceSub,Nat.reduceLeDiff,Nat.reduceEqDiff,Int.reduceToNat,reduceIte,reduceCtorEq]
 generalize hn : pickOps m order [] ++ m.reverse = n
 refine hR _ (PWc.wk ((Wk.fz σ.length (E := 33) (sz := 13) (by' := 184) (g := g) (sh := false) (rows := n.map Opr.cells) (by rw [base_get0]; rfl)).trans (Wk.cvs (ys := [.u,.u,.i .i64 cut,.u,.u,.u,.u,.sl 13 (m.map Opr.cells),.sl 13 (n.map Opr.cells),.u,.u,.u,.u,.u,.u,.u,.u,.u,.u,.u,.u,.u,.u,.u,.u,.u,.u,.u,.u,.u,.u,.u,.u,.u,.u,.u,.u,.u,.u,.u,.u,.u,.u,.u,.u,.u,.u,.u,.u,.u,.u,.u,.u,.u,.u,.u,.u,.u,.u,.u,.u,.u,.u,.u,.u,.u,.u,.u,.u,.u,.u,.u,.u,.u,.u,.u,.u,.u,.u,.u,.u,.u,.u,.u,.u,.u,.u,.u,.u,.u,.u,.u,.u,.u,.u,.u,.u,.u,.u,.u,.u,.u,.u,.u]) ?_)) ?_)
 ·simp only [List.map_cons,List.map_nil,fz,fz1,and_self,if_true]
  repeat first | exact .nil | refine .cons (.refl _) ?_ | refine .cons (.forget _) ?_
 clear hR R
 simp only [base_set0,opRow,List.set_cons_zero]
 have hwk : IntKind.i64.wrap ((m.length : Int) + 1) = ((m.length + 1 : Nat) : Int) := wrap_succ (by omega)
 have hr := place_range (x := cut) (n := ((m.length + 1 : Nat) : Int)) (by omega)
 refine PWc.cut fun R hR => ?_
 simp only [hwk,List.length_map,VV,Int.reduceBEq,Int.reduceBNe,pexec,xexec,binV,Nat.reduceAdd,Nat.reduceSub,Nat.reduceLeDiff,Nat.reduceEqDiff,Int.reduceToNat,reduceIte,reduceCtorEq]
 refine call_eq (place_pc cut ((m.length + 1 : Nat) : Int) (by omega) (by omega) _) rfl ?_
 obtain ⟨k,hk⟩ : ∃ k : Nat,(k : Int) = place cut ((m.length + 1 : Nat) : Int) := ⟨(place cut ((m.length + 1 : Nat) : Int)).toNat,by omega⟩
 rw [← hk] at hr ⊢
 simp only [VV,Int.reduceBEq,Int.reduceBNe,pexec,xexec,binV,Nat.reduceAdd,Nat.reduceSub,Nat.reduceLeDiff,Nat.reduceEqDiff,Int.reduceToNat,reduceIte,reduceCtorEq]
 refine hR _ (PWc.cvs (fr' := [.u,.u,.u,.u,.u,.u,.u,.sl 13 (m.map Opr.cells),.sl 13 (n.map Opr.cells),.u,.u,.u,.i .i64 k,.u,.u,.u,.u,.u,.u,.u,.u,.u,.u,.u,.u,.u,.u,.u,.u,.u,.u,.u,.u,.u,.u,.u,.u,.u,.u,.u,.u,.u,.u,.u,.u,.u,.u,.u,.u,.u,.u,.u,.u,.u,.u,.u,.u,.u,.u,.u,.u,.u,.u,.u,.u,.u,.u,.u,.u,.u,.u,.u,.u,.u,.u,.u,.u,.u,.u,.u,.u,.u,.u,.u,.u,.u,.u,.u,.u,.u,.u,.u,.u,.u,.u,.u,.u,.u,.u,.u,.u,.u,.u,.u]) ?_ (by repeat first | exact .nil | refine .cons (.refl _) ?_ | refine .cons (.forget _) ?_))
 clear hR R
 have hs : ∀ o ∈ m,o.small := fun o ho => (hm o ho).small
 have hsn : ∀ o ∈ n,o.small := fun o ho => hs o ((rev_all p1 o).2 (by rw [hn]; exact ho))
 obtain ⟨q1,q2,q3,q4⟩ := commutes hm hml order k
 rw [hn] at q1 q3
 have hkl : k ≤ m.length := by omega
 have hd : List.take (m.length - k) ((m.drop k).map Opr.cells) = (m.drop k).map Opr.cells := List.take_of_length_le (by simp)
 have hcl1 : (current (m.take k)).length ≤ 1024 := current_len _
 have hst : ∀ o ∈ m.take k,o.small := fun o ho => hs o (List.mem_of_mem_take ho)
 generalize hcc : current (m.take k) = c at hcl1 q2
 have hdl : (m.drop k).length ≤ 8 := by simp; omega
 have hd0 : V.sl 13 (List.take (m.length - k) (List.drop k (List.map Opr.cells m))) = V.sl 13 (List.map Opr.cells (List.take (m.length - k) (m.drop k))) := by rw [← List.map_drop,← List.map_take]
 have htd : List.take (m.length - k) (m.drop k) = m.drop k := List.take_of_length_le (by simp)
 generalize hdd : m.drop k = d at hd q2 hdl hd0 htd
 rw [htd] at hd0
 refine PWc.cutK fun R hR hwk => ?_
 have tail : ∀ (loc : Store) {fr : List V},Cvs fr [.u,.u,.u,.u,.u,.u,.u,.sl 13 (m.map Opr.cells),.sl 13 (n.map Opr.cells),.u,.u,.u,.u,.sl 13 ((c ++ d).map Opr.cells),.u,.u,.u,.u,.u,.u,.u,.u,.u,.u,.u,.u,.u,.u,.u,.u,.u,.u,.u,.u,.u,.u,.u,.u,.u,.u,.u,.u,.u,.u,.u,.u,.u,.u,.u,.u,.u,.u,.u,.u,.u,.u,.u,.u,.u,.u,.u,.u,.u,.u,.u,.u,.u,.u,.u,.u,.u,.u,.u,.u,.u,.u,.u,.u,.u,.u,.u,.u,.u,.u,.u,.u,.u,.u,.u,.u,.u,.u,.u,.u,.u,.u,.u,.u,.u,.u,.u,.u,.u,.u] → R ⟨fr,σ ++ loc⟩ := by
  intro loc fr hc
  refine hR _ (PWc.cvs ?_ hc)
  clear hR hwk hc
  have hsp : ∀ o ∈ c ++ d,o.small := fun o ho => by
   rcases List.mem_append.1 ho with h | h
   ·rw [← hcc] at h; exact hst o (current_mem h)
   ·rw [← hdd] at h; exact hs o (List.mem_of_mem_drop h)
  have hsc : ∀ o ∈ current m,o.small := fun o ho => hs o (current_mem ho)
  refine PWc.cut fun R hR => ?_
  simp only [VV,Int.reduceBEq,Int.reduceBNe,pexec,xexec,binV,Nat.reduceAdd,Nat.reduceSub,Nat.reduceLeDiff,Nat.reduceEqDiff,Int.reduceToNat,reduceIte,reduceCtorEq]
  refine call_eq (opCurrent_pc m hs _) rfl ?_
  simp only [VV,Int.reduceBEq,Int.reduceBNe,pexec,xexec,binV,Nat.reduceAdd,Nat.reduceSub,Nat.reduceLeDiff,Nat.reduceEqDiff,Int.reduceToNat,reduceIte,reduceCtorEq]
  refine hR _ (PWc.cvs (fr' := [.u,.u,.u,.u,.u,.u,.u,.sl 13 (m.map Opr.cells),.sl 13 (n.map Opr.cells),.u,.u,.u,.u,.sl 13 ((c ++ d).map Opr.cells),.sl 13 ((current m).map Opr.cells),.u,.u,.u,.u,.u,.u,.u,.u,.u,.u,.u,.u,.u,.u,.u,.u,.u,.u,.u,.u,.u,.u,.u,.u,.u,.u,.u,.u,.u,.u,.u,.u,.u,.u,.u,.u,.u,.u,.u,.u,.u,.u,.u,.u,.u,.u,.u,.u,.u,.u,.u,.u,.u,.u,.u,.u,.u,.u,.u,.u,.u,.u,.u,.u,.u,.u,.u,.u,.u,.u,.u,.u,.u,.u,.u,.u,.u,.u,.u,.u,.u,.u,.u,.u,.u,.u,.u,.u,.u]) (wpc_sound ?_) (by repeat first | exact .nil | refine .cons (.refl _) ?_ | refine .cons (.forget _) ?_))
  clear hR R
  simp only [VV,Int.reduceBEq,Int.reduceBNe,pexec,xexec,binV,Nat.reduceAdd,Nat.reduceSub,Nat.reduceLeDiff,Nat.reduceEqDiff,Int.reduceToNat,reduceIte,reduceCtorEq]
  refine call_eq (opCurrent_pc n hsn _) rfl ?_
  simp only [VV,Int.reduceBEq,Int.reduceBNe,pexec,xexec,binV,Nat.reduceAdd,Nat.reduceSub,Nat.reduceLeDiff,Nat.reduceEqDiff,Int.reduceToNat,reduceIte,reduceCtorEq]
  refine call_eq (r36SameOps_pc (current m) (current n) _) rfl ?_
  simp only [q1,VV,Int.reduceBEq,Int.reduceBNe,pexec,xexec,binV,Nat.reduceAdd,Nat.reduceSub,Nat.reduceLeDiff,Nat.reduceEqDiff,Int.reduceToNat,reduceIte,reduceCtorEq]
  refine callg_eq (c := true) (by simp only [VV,Int.reduceBEq,Int.reduceBNe,pexec,xexec,binV,Nat.reduceAdd,Nat.reduceSub,Nat.reduceLeDiff,Nat.reduceEqDiff,Int.reduceToNat,reduceIte,reduceCtorEq] <;> rfl) (fun _ => opCurrent_pc (c ++ d) hsp _) rfl ?_
  simp only [VV,Int.reduceBEq,Int.reduceBNe,pexec,xexec,binV,Nat.reduceAdd,Nat.reduceSub,Nat.reduceLeDiff,Nat.reduceEqDiff,Int.reduceToNat,reduceIte,reduceCtorEq]
  refine callg_eq (c := true) (by simp only [VV,Int.reduceBEq,Int.reduceBNe,pexec,xexec,binV,Nat.reduceAdd,Nat.reduceSub,Nat.reduceLeDiff,Nat.reduceEqDiff,Int.reduceToNat,reduceIte,reduceCtorEq] <;> rfl) (fun _ => r36SameOps_pc (current m) (current (c ++ d)) _) rfl ?_
  simp only [q2,VV,Int.reduceBEq,Int.reduceBNe,pexec,xexec,binV,Nat.reduceAdd,Nat.reduceSub,Nat.reduceLeDiff,Nat.reduceEqDiff,Int.reduceToNat,reduceIte,reduceCtorEq]
  refine callg_eq (c := true) (by simp only [VV,Int.reduceBEq,Int.reduceBNe,pexec,xexec,binV,Nat.reduceAdd,Nat.reduceSub,Nat.reduceLeDiff,Nat.reduceEqDiff,Int.reduceToNat,reduceIte,reduceCtorEq] <;> rfl) (fun _ => opMemory_pc m hs _) rfl ?_
  simp only [VV,Int.reduceBEq,Int.reduceBNe,pexec,xexec,binV,Nat.reduceAdd,Nat.reduceSub,Nat.reduceLeDiff,Nat.reduceEqDiff,Int.reduceToNat,reduceIte,reduceCtorEq]
  refine callg_eq (c := true) (by simp only [VV,Int.reduceBEq,Int.reduceBNe,pexec,xexec,binV,Nat.reduceAdd,Nat.reduceSub,Nat.reduceLeDiff,Nat.reduceEqDiff,Int.reduceToNat,reduceIte,reduceCtorEq] <;> rfl) (fun _ => opMemory_pc n hsn _) rfl ?_
  simp only [VV,Int.reduceBEq,Int.reduceBNe,pexec,xexec,binV,Nat.reduceAdd,Nat.reduceSub,Nat.reduceLeDiff,Nat.reduceEqDiff,Int.reduceToNat,reduceIte,reduceCtorEq]
  refine callg_eq (c := true) (by simp only [VV,Int.reduceBEq,Int.reduceBNe,pexec,xexec,binV,Nat.reduceAdd,Nat.reduceSub,Nat.reduceLeDiff,Nat.reduceEqDiff,Int.reduceToNat,reduceIte,reduceCtorEq] <;> rfl) (fun _ => r16SameEntries_pc (memoryOf m) (memoryOf n) _) rfl ?_
  simp only [q3,VV,Int.reduceBEq,Int.reduceBNe,pexec,xexec,binV,Nat.reduceAdd,Nat.reduceSub,Nat.reduceLeDiff,Nat.reduceEqDiff,Int.reduceToNat,reduceIte,reduceCtorEq]
  refine callg_eq (c := true) (by simp only [VV,Int.reduceBEq,Int.reduceBNe,pexec,xexec,binV,Nat.reduceAdd,Nat.reduceSub,Nat.reduceLeDiff,Nat.reduceEqDiff,Int.reduceToNat,reduceIte,reduceCtorEq] <;> rfl) (fun _ => opCurrent_pc (current m) hsc _) rfl ?_
  simp only [VV,Int.reduceBEq,Int.reduceBNe,pexec,xexec,binV,Nat.reduceAdd,Nat.reduceSub,Nat.reduceLeDiff,Nat.reduceEqDiff,Int.reduceToNat,reduceIte,reduceCtorEq]
  refine callg_eq (c := true) (by simp only [VV,Int.reduceBEq,Int.reduceBNe,pexec,xexec,binV,Nat.reduceAdd,Nat.reduceSub,Nat.reduceLeDiff,Nat.reduceEqDiff,Int.reduceToNat,reduceIte,reduceCtorEq] <;> rfl) (fun _ => r36SameOps_pc (current (current m)) (current m) _) rfl ?_
  simp only [q4,VV,Int.reduceBEq,Int.reduceBNe,pexec,xexec,binV,Nat.reduceAdd,Nat.reduceSub,Nat.reduceLeDiff,Nat.reduceEqDiff,Int.reduceToNat,reduceIte,reduceCtorEq]
  refine callg_eq (c := true) (by simp only [VV,Int.reduceBEq,Int.reduceBNe,pexec,xexec,binV,Nat.reduceAdd,Nat.reduceSub,Nat.reduceLeDiff,Nat.reduceEqDiff,Int.reduceToNat,reduceIte,reduceCtorEq] <;> rfl) (fun _ => known_pc _) rfl ?_
  simp only [VV,Int.reduceBEq,Int.reduceBNe,pexec,xexec,binV,Nat.reduceAdd,Nat.reduceSub,Nat.reduceLeDiff,Nat.reduceEqDiff,Int.reduceToNat,reduceIte,reduceCtorEq]
  exact ret_end hcl (.inr rfl) (by simp only [resVs,resV,W]; rfl) (by simp only [LW]) ⟨rfl,rfl⟩
 simp only [Int.toNat_natCast,List.length_map,← List.map_take,← List.map_drop,hdd,V.pure,VV,Int.reduceBEq,Int.reduceBNe,pexec,xexec,binV,Nat.reduceAdd,Nat.reduceSub,Nat.reduceLeDiff,Nat.reduceEqDiff,Int.reduceToNat,reduceIte,reduceCtorEq]
 refine ⟨by omega,by omega,?_⟩
 refine call_eq (opCurrent_pc (m.take k) hst _) rfl ?_
 rw [hcc]
 cases c with
 | nil =>
  simp only [List.map_nil,List.isEmpty_nil,hd,List.length_map,Int.toNat_natCast,V.pure,VV,Int.reduceBEq,Int.reduceBNe,pexec,xexec,binV,Nat.reduceAdd,Nat.reduceSub,Nat.reduceLeDiff,Nat.reduceEqDiff,Int.reduceToNat,reduceIte,reduceCtorEq]
  rw [htd]
  cases d with
  | nil =>
   simp only [List.map_nil,List.isEmpty_nil,List.length_nil,if_true]
   refine ⟨⟨hd0,by omega⟩,⟨by omega,by simp only [maxLen]; omega⟩,⟨hd0,by omega⟩,⟨by omega,by simp only [maxLen]; omega⟩,?_⟩
   refine tail [_] ?_
   repeat first | exact .nil | refine .cons (.refl _) ?_ | refine .cons (.lit _ _) ?_ | refine .cons (.forget _) ?_
  | cons d0 d =>
   simp only [List.map_cons,List.isEmpty_cons,List.length_cons,Bool.false_eq_true,if_false]
   simp only [List.length_cons] at hdl
   refine ⟨⟨hd0,by omega⟩,⟨by omega,by simp only [maxLen]; omega⟩,⟨hd0,by omega⟩,⟨by simp; omega,by simp [maxLen]; omega⟩,?_⟩
   refine hwk ((Wk.fz (σ.length + 1) (E := 33) (sz := 13) (by' := 184) (g := 0) (sh := false) (rows := (d0 :: d).map Opr.cells) (by rw [base_get]; rfl)).trans (Wk.cvs (ys := [.u,.u,.u,.u,.u,.u,.u,.sl 13 (m.map Opr.cells),.sl 13 (n.map Opr.cells),.u,.u,.u,.u,.sl 13 (([] ++ d0 :: d).map Opr.cells),.u,.u,.u,.u,.u,.u,.u,.u,.u,.u,.u,.u,.u,.u,.u,.u,.u,.u,.u,.u,.u,.u,.u,.u,.u,.u,.u,.u,.u,.u,.u,.u,.u,.u,.u,.u,.u,.u,.u,.u,.u,.u,.u,.u,.u,.u,.u,.u,.u,.u,.u,.u,.u,.u,.u,.u,.u,.u,.u,.u,.u,.u,.u,.u,.u,.u,.u,.u,.u,.u,.u,.u,.u,.u,.u,.u,.u,.u,.u,.u,.u,.u,.u,.u,.u,.u,.u,.u,.u,.u]) ?_)) ?_
   ·simp only [List.map_cons,List.map_nil,List.nil_append,fz,fz1,and_self,if_true]
    repeat first | exact .nil | refine .cons (.refl _) ?_ | refine .cons (.forget _) ?_
   ·rw [base_set]
    refine tail [_,_] ?_
    repeat first | exact .nil | refine .cons (.refl _) ?_ | refine .cons (.forget _) ?_
 | cons c0 c =>
  simp only [List.map_cons,List.isEmpty_cons,hd,List.length_map,Int.toNat_natCast,V.pure,VV,Int.reduceBEq,Int.reduceBNe,pexec,xexec,binV,Nat.reduceAdd,Nat.reduceSub,Nat.reduceLeDiff,Nat.reduceEqDiff,Int.reduceToNat,reduceIte,reduceCtorEq]
  rw [htd]
  simp only [List.length_cons] at hcl1
  refine ⟨⟨hd0,by omega⟩,⟨by omega,by simp only [maxLen]; omega⟩,⟨hd0,by omega⟩,⟨by omega,by simp only [maxLen]; omega⟩,?_⟩
  rw [← List.map_append]
  refine hwk ((Wk.fz (σ.length + 1) (E := 33) (sz := 13) (by' := 184) (g := 1) (sh := false) (rows := c0.cells :: (c ++ d).map Opr.cells) (by rw [base_get]; rfl)).trans (Wk.cvs (ys := [.u,.u,.u,.u,.u,.u,.u,.sl 13 (m.map Opr.cells),.sl 13 (n.map Opr.cells),.u,.u,.u,.u,.sl 13 ((c0 :: c ++ d).map Opr.cells),.u,.u,.u,.u,.u,.u,.u,.u,.u,.u,.u,.u,.u,.u,.u,.u,.u,.u,.u,.u,.u,.u,.u,.u,.u,.u,.u,.u,.u,.u,.u,.u,.u,.u,.u,.u,.u,.u,.u,.u,.u,.u,.u,.u,.u,.u,.u,.u,.u,.u,.u,.u,.u,.u,.u,.u,.u,.u,.u,.u,.u,.u,.u,.u,.u,.u,.u,.u,.u,.u,.u,.u,.u,.u,.u,.u,.u,.u,.u,.u,.u,.u,.u,.u,.u,.u,.u,.u,.u,.u]) ?_)) ?_
  ·simp only [List.map_cons,List.map_nil,List.cons_append,fz,fz1,and_self,if_true]
   repeat first | exact .nil | refine .cons (.refl _) ?_ | refine .cons (.forget _) ?_
  ·rw [base_set]
   refine tail [_,_] ?_
   repeat first | exact .nil | refine .cons (.refl _) ?_ | refine .cons (.forget _) ?_
end Go.Proofs.Tryz
