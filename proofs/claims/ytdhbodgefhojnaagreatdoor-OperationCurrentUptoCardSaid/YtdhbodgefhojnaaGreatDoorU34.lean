/- A part of the proof that OperationCurrent returns true and leaves its arguments as they were, for every input of bounded size. -/
import Derived.Test.YtdhbodgefhojnaaGreatDoorU10
import Derived.Test.YtdhbodgefhojnaaGreatDoorU12
import Derived.Test.YtdhbodgefhojnaaGreatDoorU13
import Derived.Test.YtdhbodgefhojnaaGreatDoorU15
import Derived.Test.YtdhbodgefhojnaaGreatDoorU18
import Derived.Test.YtdhbodgefhojnaaGreatDoorU19
import Derived.Test.YtdhbodgefhojnaaGreatDoorU20
import Derived.Test.YtdhbodgefhojnaaGreatDoorU21
import Derived.Test.YtdhbodgefhojnaaGreatDoorU31
import Derived.Test.YtdhbodgefhojnaaGreatDoorU32
set_option linter.all false

namespace Go.Proofs.Tryz
open Go Go.Pm Go.Bt
def opV (o : Opr) : V := .agg o.cells
def mapOp (l : List (List UInt8 × Opr)) : List (V × V) := emap keS opV l
theorem mapOp_cases (l : List (List UInt8 × Opr)) (a : List UInt8) :
  (getA a l = none ∧ findV 1 (.s a) (mapOp l) 0 = some none ∧ ∀ b : Opr,mapOp l ++ [(V.s a,opV b)] = mapOp (updA l a b)) ∨
  (∃ i b0,getA a l = some b0 ∧ findV 1 (.s a) (mapOp l) 0 = some (some (i,opV b0)) ∧ ∀ b : Opr,(mapOp l).set i (V.s a,opV b) = mapOp (updA l a b)) := emap_cases keS_eq l a
theorem getA_mem {α β : Type} [DecidableEq α] {a : α} {b : β} : ∀ {l : List (α × β)},getA a l = some b → (a,b) ∈ l := by
 intro l
 induction l with
 | nil => intro h; simp [getA_nil] at h
 | cons p l ih =>
  intro h
  rw [getA_cons] at h
  split at h
  ·rename_i e
   simp only [Option.some.injEq] at h
   subst e; subst h
   exact List.mem_cons_self ..
  ·exact List.mem_cons_of_mem _ (ih h)
theorem updA_mem {α β : Type} [DecidableEq α] {a : α} {b : β} {p : α × β} : ∀ {l : List (α × β)},p ∈ updA l a b → p = (a,b) ∨ p ∈ l := by
 intro l
 induction l with
 | nil => intro h; simp [updA] at h; exact .inl h
 | cons q l ih =>
  intro h
  simp only [updA] at h
  split at h
  ·rcases List.mem_cons.1 h with h | h
   ·exact .inl h
   ·exact .inr (List.mem_cons_of_mem _ h)
  ·rcases List.mem_cons.1 h with h | h
   ·exact .inr (h ▸ List.mem_cons_self ..)
   ·rcases ih h with h | h
    ·exact .inl h
    ·exact .inr (List.mem_cons_of_mem _ h)
theorem winStep_mem {m : List (List UInt8 × Opr)} {o : Opr} {p : List UInt8 × Opr} (h : p ∈ winStep m o) : p = (opKey o,o) ∨ p ∈ m := by
 simp only [winStep] at h
 split at h
 ·exact .inr h
 ·split at h
  ·exact updA_mem h
  ·split at h
   ·exact updA_mem h
   ·exact .inr h
theorem loop44 {σ : Store} {K : Exit → St → Prop} (l : List Opr) (hcl : Closed σ) (hlen : l.length < 2 ^ 63) (hsm : ∀ o ∈ l,o.small) : ∀ (rest pre : List Opr) (m : List (List UInt8 × Opr)),l = pre ++ rest → (∀ p ∈ m,p.2.small) →
  (∀ j0 j1 j2 j4 j5 j6 j7 j8 j9 j10 j11 j12 j13 j14 j15 j16 j17 j18 j19 j20 j21 j22 j23 j24 j25 j26 j27 j28 j29 j30 j31 j32 j33 j34 j35 j36 j37 j38 j39 j40 j41,K (.exit 0) ⟨[j0,j1,j2,.mp σ.length,j4,j5,j6,j7,j8,j9,j10,j11,j12,j13,j14,j15,j16,j17,j18,j19,j20,j21,j22,j23,j24,j25,j26,j27,j28,j29,j30,j31,j32,j33,j34,j35,j36,j37,j38,j39,j40,j41],σ ++ [.map 9 33 (mapOp (rest.foldl winStep m))]⟩) →
  Rnd σ.length Tryz.prog p44_0 K (rest.length + 1) ⟨[.u,.u,.u,.mp σ.length,.u,.u,.u,.u,.u,.u,.u,.u,.u,.u,.sl 13 (l.map Opr.cells),.i .i64 l.length,.i .i64 pre.length,.u,.u,.u,.u,.u,.u,.u,.u,.u,.u,.u,.u,.u,.u,.u,.u,.u,.u,.u,.u,.u,.u,.u,.u,.u],σ ++ [.map 9 33 (mapOp m)]⟩ := by
 intro rest
 induction rest with
 | nil =>
  intro pre m he hm h1
  have he : l = pre := by simpa using he
  subst he
  refine rnd_step fun R hR => ?_
  simp only [p44_0,VV,pexec,xexec,binV,Nat.reduceAdd,reduceIte]
  exact ⟨fun h => by simp at h,fun _ => h1 ..⟩
 | cons x rest ih =>
  intro pre m he hm h1
  subst he
  have hx := hsm x (by simp)
  have next : ∀ (m' : List (List UInt8 × Opr)) {loc : Store},winStep m x = m' → ∀ {R : St → Prop} {fr : List V},(∀ st',Rnd σ.length Tryz.prog p44_0 K (rest.length + 1) st' → R st') →
    Cvs fr [.u,.u,.u,.mp σ.length,.u,.u,.u,.u,.u,.u,.u,.u,.u,.u,.sl 13 ((pre ++ x :: rest).map Opr.cells),.i .i64 (pre ++ x :: rest).length,.i .i64 (IntKind.i64.wrap ((pre.length : Int) + 1)),.u,.u,.u,.u,.u,.u,.u,.u,.u,.u,.u,.u,.u,.u,.u,.u,.u,.u,.u,.u,.u,.u,.u,.u,.u] → R ⟨fr,σ ++ (.map 9 33 (mapOp m') :: loc)⟩ := by
   intro m' loc hw R fr hR hc
   have e1 : IntKind.i64.wrap ((pre.length : Int) + 1) = (((pre ++ [x]).length : Nat) : Int) := by
    rw [wrap_succ (by simp at hlen; omega)]; simp
   rw [e1] at hc
   refine hR _ (rnd_drop [_] loc (closed_add hcl (by simp)) hc ?_ (ih (pre ++ [x]) m' (by simp) ?_ ?_))
   ·simp only [LW,List.length_cons,List.length_nil,Nat.zero_add]
    omega
   ·intro p hp
    rw [← hw] at hp
    rcases winStep_mem hp with rfl | hp
    ·exact hx
    ·exact hm p hp
   ·rw [← hw]; exact h1
  refine rnd_step fun R hR => ?_
  simp only [p44_0,Opr.cells,Stamp.cells,En.cells,VV,pexec,xexec,binV,Nat.reduceAdd,reduceIte]
  refine ⟨fun _ => ⟨by simp; omega,?_⟩,fun h => by simp at h <;> omega⟩
  refine call_eq (opKey_pc x hx _) rfl ?_
  simp only [VV,pexec,binV,reduceIte]
  refine ⟨fun h => ?_,fun h => ?_⟩
  ·have h : opKey x = [] := by simpa using h
   refine next m (by simp only [winStep,h,if_true]) hR ?_
   simp only
   repeat first | exact .nil | refine .cons (.refl _) ?_ | refine .cons (.forget _) ?_
  have h : ¬ opKey x = [] := by simpa using h
  have hf : ∀ t,mapFind (σ ++ (.map 9 33 (mapOp m)) :: t) 1 (.mp σ.length) (.s (opKey x)) = findV 1 (.s (opKey x)) (mapOp m) 0 := fun t => by simp only [mapFind,base_get0,List.getElem?_cons_zero]
  rcases mapOp_cases m (opKey x) with ⟨h2,h3,h4⟩ | ⟨k,was,h2,h3,h4⟩
  ·simp only [hf,h3,V.mkey,VV,pexec,xexec,Nat.reduceAdd]
   refine callg_eq (c := false) (v := .b false) (by simp only [VV] <;> rfl) (fun h => by simp at h) rfl ?_
   have h4' := h4 x
   simp only [opV,Opr.cells,Stamp.cells,En.cells,List.cons_append,List.nil_append] at h4'
   simp only [h3,h4',purifyV,V.mkey,V.mval,VV,pexec,xexec,binV,Nat.reduceAdd,reduceIte,reduceCtorEq]
   refine next (updA m (opKey x) x) (by simp only [winStep,if_neg h,h2]) hR ?_
   simp only
   repeat first | exact .nil | refine .cons (.refl _) ?_ | refine .cons (.forget _) ?_
  ·simp only [hf,h3,V.mkey,opV,Opr.cells,Stamp.cells,En.cells,VV,pexec,xexec,Nat.reduceAdd]
   refine callg_eq (by simp only [VV] <;> rfl) (fun _ => opWins_pc x was hx (hm _ (getA_mem h2)) _) rfl ?_
   simp only [VV,pexec,xexec,binV,Nat.reduceAdd,reduceIte]
   refine ⟨fun hw => ?_,fun hw => ?_⟩
   ·have h4' := h4 x
    simp only [opV,Opr.cells,Stamp.cells,En.cells,List.cons_append,List.nil_append] at h3 h4'
    simp only [h3,h4',purifyV,V.mkey,V.mval,VV,pexec,binV,reduceIte]
    refine next (updA m (opKey x) x) (by simp only [winStep,if_neg h,h2,if_pos hw]) hR ?_
    simp only
    repeat first | exact .nil | refine .cons (.refl _) ?_ | refine .cons (.forget _) ?_
   ·refine next m (by simp only [winStep,if_neg h,h2,hw]; rfl) hR ?_
    simp only
    repeat first | exact .nil | refine .cons (.refl _) ?_ | refine .cons (.forget _) ?_
theorem opCurrentMap_pc (l : List Opr) (hsm : ∀ o ∈ l,o.small) (σ : Store) : PC Tryz.prog 44 [.sl 13 (l.map Opr.cells)] σ (fun r σ' => r = .mp σ.length ∧ σ' = σ ++ [.map 9 33 (mapOp (winners l))]) := by
 refine PC.intro Tryz.func44 c44 fun hcl hwf => wpc_sound ?_
 have hlen := wf_sl (hwf 0 _ rfl).1
 rw [List.length_map] at hlen
 simp only [p44,List.length_cons,List.length_nil,List.replicate,List.cons_append,List.nil_append,Nat.reduceAdd,Nat.reduceSub]
 simp only [List.length_map,VV,pexec,xexec,binV,reduceIte]
 refine ⟨fun h => ?_,fun h => ?_⟩
 ·have h : 1024 < l.length := by simp at h; omega
  refine ret_wk (.inr rfl) rfl (Wk.refl _ _) rfl ⟨rfl,?_⟩
  simp only [winners,if_pos h]; rfl
 ·have h : ¬ 1024 < l.length := by simp at h; omega
  refine PWc.rnd_cvs ?_ (l.length + 1) (loop44 l hcl hlen hsm l [] [] rfl (by simp) ?_)
  ·repeat first | exact .nil | refine .cons (.refl _) ?_ | refine .cons (.forget _) ?_
  ·intros
   simp only [VV,pexec]
   refine ret_wk (.inr rfl) rfl (Wk.refl _ _) rfl ⟨rfl,?_⟩
   simp only [winners,if_neg h]
theorem ti_Op : Ti Tryz.prog 33 13 184 := tiB_ok (by kernel_rfl)
theorem ti_Entry : Ti Tryz.prog 26 8 128 := tiB_ok (by kernel_rfl)
theorem mapOp_find {m : List (List UInt8 × Opr)} {k : List UInt8} {o : Opr} (h : getA k m = some o) : ∃ i,findV 1 (.s k) (mapOp m) 0 = some (some (i,opV o)) := by
 rcases mapOp_cases m k with ⟨h2,_,_⟩ | ⟨i,b,h2,h3,_⟩
 ·rw [h] at h2; simp at h2
 ·rw [h] at h2
  simp only [Option.some.injEq] at h2
  subst h2
  exact ⟨i,h3⟩
theorem loop13 {n : Nat} {σ : Store} {o2 : Ob} {K : Exit → St → Prop} (ks : List (List UInt8)) (m : List (List UInt8 × Opr)) (hlen : ks.length < 2 ^ 39) (hm : ∀ p ∈ m,p.2.small) (hks : ∀ k ∈ ks,∃ o,getA k m = some o) :
  ∀ (rest pre : List (List UInt8)) (out : List Opr) (g : Nat),ks = pre ++ rest → out.length + rest.length ≤ ks.length →
  (∀ g,(∀ j0 j1 j2 j5 j6 j7 j8 j9 j10 j12 j13 j14 j15 j16 j17 j18 j19 j20 j21 j22 j23 j24 j25,K (.exit 0) ⟨[j0,j1,j2,.mp σ.length,.own (σ.length + 3) g,j5,j6,j7,j8,j9,j10,.own (σ.length + 2) 0,j12,j13,j14,j15,j16,j17,j18,j19,j20,j21,j22,j23,j24,j25],σ ++ [.map 9 33 (mapOp m),o2,.row 9 1 16 0 false (ks.map sRow),.row 33 13 184 g false ((out ++ rest.filterMap fun k => getA k m).map Opr.cells)]⟩)) →
  Rnd n Tryz.prog p13_0 K (rest.length + 1) ⟨[.u,.u,.u,.mp σ.length,.own (σ.length + 3) g,.u,.u,.u,.u,.u,.u,.own (σ.length + 2) 0,.i .i64 ks.length,.i .i64 pre.length,.u,.u,.u,.u,.u,.u,.u,.u,.u,.u,.u,.u],
   σ ++ [.map 9 33 (mapOp m),o2,.row 9 1 16 0 false (ks.map sRow),.row 33 13 184 g false (out.map Opr.cells)]⟩ := by
 intro rest
 induction rest with
 | nil =>
  intro pre out g he ho h1
  have he : ks = pre := by simpa using he
  subst he
  refine rnd_step fun R hR => ?_
  simp only [p13_0,VV,pexec,binV,reduceIte]
  simp only [List.filterMap_nil,List.append_nil] at h1
  exact ⟨fun h => by simp at h,fun _ => h1 g ..⟩
 | cons x rest ih =>
  intro pre out g he ho h1
  subst he
  obtain ⟨o,hx⟩ := hks x (by simp)
  have hos := hm _ (getA_mem hx)
  obtain ⟨i,hf0⟩ := mapOp_find hx
  have hf : ∀ t,mapFind (σ ++ (.map 9 33 (mapOp m)) :: t) 1 (.mp σ.length) (.s x) = some (some (i,opV o)) := fun t => by simp only [mapFind,base_get0,List.getElem?_cons_zero,hf0]
  refine rnd_step fun R hR => ?_
  simp only [p13_0,sRow,hf,opV,V.mkey,List.length_map,VV,pexec,binV,reduceIte,reduceCtorEq]
  refine ⟨fun _ => ⟨by simp; omega,?_⟩,fun h => by simp at h <;> omega⟩
  refine call_eq (viewOp_pc o hos _) rfl ?_
  simp only [List.length_cons] at ho
  simp only [List.length_map,Opr.cells,Stamp.cells,En.cells,maxLen,V.pure,VV,pexec,xexec,binV,Nat.reduceAdd,reduceIte]
  refine ⟨by simp at ho hlen; omega,?_⟩
  have e0 : (out.map Opr.cells ++ [[.i .i64 o.stamp.time,.i .i64 o.stamp.office,.i .i64 o.stamp.number,.i .i64 o.kind,.sl 3 (o.entry.source.map It.cells),.sl 3 (o.entry.target.map It.cells),.s o.entry.previous,.s o.entry.next,.s o.entry.author,.s o.entry.project,.i .i64 o.entry.created,.i .i64 o.entry.origin,.sl 1 (o.seen.map iRow)]]) = (out ++ [o]).map Opr.cells := by
   simp [Opr.cells,Stamp.cells,En.cells]
  rw [e0]
  refine hR _ (rnd_cvs ?_ (ih (pre ++ [x]) (out ++ [o]) (g + 1) (by simp) (by simp at ho ⊢; omega) ?_))
  ·rw [wrap_succ (by simp at hlen; omega)]
   simp only [List.length_append,List.length_cons,List.length_nil]
   repeat first | exact .nil | refine .cons (.refl _) ?_ | refine .cons (.forget _) ?_
  ·simp only [List.filterMap_cons,hx] at h1
   simpa using h1
theorem opCurrent_pc (l : List Opr) (hsm : ∀ o ∈ l,o.small) (σ : Store) : PC Tryz.prog 13 [.sl 13 (l.map Opr.cells)] σ (fun r σ' => r = .sl 13 ((current l).map Opr.cells) ∧ σ' = σ) := by
 refine PC.intro Tryz.func13 c13 fun hcl hwf => wpc_sound ?_
 simp only [p13,List.length_cons,List.length_nil,List.replicate,List.cons_append,List.nil_append,Nat.reduceAdd,Nat.reduceSub]
 simp only [VV,pexec]
 refine call_eq (opCurrentMap_pc l hsm _) rfl ?_
 simp only [VV,pexec]
 have hk := mapsKeys_pc σ.length (σ ++ [.map 9 33 (mapOp (winners l))])
 simp only [List.length_append,List.length_cons,List.length_nil,Nat.zero_add,List.append_assoc,List.cons_append,List.nil_append] at hk
 refine call_eq hk rfl ?_
 simp only [VV]
 have hlen := sortedKeys_len l
 have hwl := winners_len l
 have hs := sortedKeys_own (β := Opr) (ve := opV) (id := σ.length) (k := σ.length + 1) (E := 33) (l := winners l) (σ := σ ++ [.map 9 33 (mapOp (winners l)),.box 70 [.mp σ.length]])
  (by simp only [base_get,List.getElem?_cons_succ,List.getElem?_cons_zero]) (by simp only [base_get0,List.getElem?_cons_zero]; rfl) (winners_nodup l) (by omega)
 simp only [List.length_append,List.length_cons,List.length_nil,Nat.zero_add,Nat.reduceAdd,List.append_assoc,List.cons_append,List.nil_append] at hs
 refine call_eq hs rfl ?_
 simp only [List.length_map,VV,pexec,reduceIte]
 refine PWc.wk ((Wk.promote_at (σ := σ) [_,_,_] (k := 4) ti_Op rfl).trans (Wk.cvs ?_)) (PWc.rnd ((sortedKeys l).length + 1) (loop13 (sortedKeys l) (winners l) (by omega)
  (fun p hp => hsm _ (winners_mem hp).2) (fun k hk => sortedKeys_some hk) (sortedKeys l) [] [] 0 rfl (by simp) ?_))
 ·simp only [W,Nat.reduceAdd]
  repeat first | exact .nil | refine .cons (.refl _) ?_ | refine .cons (.forget _) ?_
 ·intro g
  intros
  simp only [VV,pexec]
  refine ret_fz 3 hcl (.inr rfl) rfl rfl ?_ ?_
  ·simp only [List.getD_cons_zero,List.getD_cons_succ,List.map_cons,List.map_nil,fz,fz1,and_self,if_true,LW]
  ·simp only [List.getD_cons_zero,List.getD_cons_succ,List.map_cons,List.map_nil,fz,fz1,and_self,if_true]
   exact ⟨rfl,trivial⟩
theorem loop14 {σ : Store} {K : Exit → St → Prop} (l : List Opr) (hcl : Closed σ) (hlen : l.length < 2 ^ 39) : ∀ (rest pre : List Opr) (out : List En) (g : Nat),l = pre ++ rest → out.length + rest.length ≤ l.length →
  (∀ g,(∀ j0 j1 j2 j4 j5 j6 j7 j8 j9 j10 j11 j12 j13 j14 j15 j16 j17 j18 j19 j20 j21 j22,K (.exit 0) ⟨[j0,j1,j2,.own σ.length g,j4,j5,j6,j7,j8,j9,j10,j11,j12,j13,j14,j15,j16,j17,j18,j19,j20,j21,j22],σ ++ [.row 26 8 128 g false ((out ++ (rest.filter fun o => o.kind == 1).map (·.entry)).map En.cells)]⟩)) →
  Rnd σ.length Tryz.prog p14_0 K (rest.length + 1) ⟨[.u,.u,.u,.own σ.length g,.u,.u,.u,.sl 13 (l.map Opr.cells),.i .i64 l.length,.i .i64 pre.length,.u,.u,.u,.u,.u,.u,.u,.u,.u,.u,.u,.u,.u],σ ++ [.row 26 8 128 g false (out.map En.cells)]⟩ := by
 intro rest
 induction rest with
 | nil =>
  intro pre out g he ho h1
  have he : l = pre := by simpa using he
  subst he
  refine rnd_step fun R hR => ?_
  simp only [p14_0,VV,pexec,xexec,binV,Nat.reduceAdd,reduceIte]
  simp only [List.filter_nil,List.map_nil,List.append_nil] at h1
  exact ⟨fun h => by simp at h,fun _ => h1 g ..⟩
 | cons x rest ih =>
  intro pre out g he ho h1
  subst he
  simp only [List.length_cons] at ho
  have next : ∀ (out' : List En) (g' : Nat) {loc : Store},out'.length ≤ out.length + 1 → out ++ ((x :: rest).filter fun o => o.kind == 1).map (·.entry) = out' ++ (rest.filter fun o => o.kind == 1).map (·.entry) → ∀ {R : St → Prop} {fr : List V},(∀ st',Rnd σ.length Tryz.prog p14_0 K (rest.length + 1) st' → R st') →
    Cvs fr [.u,.u,.u,.own σ.length g',.u,.u,.u,.sl 13 ((pre ++ x :: rest).map Opr.cells),.i .i64 (pre ++ x :: rest).length,.i .i64 (IntKind.i64.wrap ((pre.length : Int) + 1)),.u,.u,.u,.u,.u,.u,.u,.u,.u,.u,.u,.u,.u] → R ⟨fr,σ ++ (.row 26 8 128 g' false (out'.map En.cells) :: loc)⟩ := by
   intro out' g' loc hl hw R fr hR hc
   have e1 : IntKind.i64.wrap ((pre.length : Int) + 1) = (((pre ++ [x]).length : Nat) : Int) := by
    rw [wrap_succ (by simp at hlen; omega)]; simp
   rw [e1] at hc
   rw [hw] at h1
   refine hR _ (rnd_drop [_] loc (closed_add hcl (by simp)) hc ?_ (ih (pre ++ [x]) out' g' (by simp) (by omega) h1))
   simp only [LW,List.length_cons,List.length_nil,Nat.zero_add]
   omega
  refine rnd_step fun R hR => ?_
  simp only [p14_0,Opr.cells,Stamp.cells,En.cells,VV,pexec,xexec,binV,Nat.reduceAdd,Nat.reduceLeDiff,reduceIte]
  refine ⟨fun _ => ⟨by simp; omega,?_⟩,fun h => by simp at h <;> omega⟩
  refine ⟨fun h => ?_,fun h => ?_⟩
  ·simp only [List.length_map,maxLen]
   refine ⟨by simp at ho hlen; omega,?_⟩
   have e0 : (out.map En.cells ++ [[.sl 3 (x.entry.source.map It.cells),.sl 3 (x.entry.target.map It.cells),.s x.entry.previous,.s x.entry.next,.s x.entry.author,.s x.entry.project,.i .i64 x.entry.created,.i .i64 x.entry.origin]]) = (out ++ [x.entry]).map En.cells := by
    simp [En.cells]
   rw [e0]
   refine next (out ++ [x.entry]) (g + 1) (by simp) (by simp [h]) hR ?_
   repeat first | exact .nil | refine .cons (.refl _) ?_ | refine .cons (.forget _) ?_
  ·refine next out g (by omega) (by simp [h]) hR ?_
   repeat first | exact .nil | refine .cons (.refl _) ?_ | refine .cons (.forget _) ?_
theorem opMemory_pc (l : List Opr) (hsm : ∀ o ∈ l,o.small) (σ : Store) : PC Tryz.prog 14 [.sl 13 (l.map Opr.cells)] σ (fun r σ' => r = .sl 8 ((memoryOf l).map En.cells) ∧ σ' = σ) := by
 refine PC.intro Tryz.func14 c14 fun hcl hwf => wpc_sound ?_
 simp only [p14,List.length_cons,List.length_nil,List.replicate,List.cons_append,List.nil_append,Nat.reduceAdd,Nat.reduceSub]
 simp only [VV,pexec]
 refine call_eq (opCurrent_pc l hsm _) rfl ?_
 simp only [List.length_map,VV,pexec]
 have hlen := current_len l
 refine PWc.wk ((Wk.promote (σ := σ) (k := 3) ti_Entry rfl).trans (Wk.cvs ?_)) (PWc.rnd ((current l).length + 1) (loop14 (current l) hcl (by omega) (current l) [] [] 0 rfl (by simp) ?_))
 ·simp only [W]
  repeat first | exact .nil | refine .cons (.refl _) ?_ | refine .cons (.forget _) ?_
 ·intro g
  intros
  simp only [VV,pexec]
  refine ret_fz 0 hcl (.inr rfl) rfl rfl ?_ ?_
  ·simp only [List.getD_cons_zero,List.getD_cons_succ,List.map_cons,List.map_nil,Nat.add_zero,fz,fz1,and_self,if_true,LW]
  ·simp only [List.getD_cons_zero,List.getD_cons_succ,List.map_cons,List.map_nil,Nat.add_zero,fz,fz1,and_self,if_true]
   exact ⟨rfl,trivial⟩
set_option maxRecDepth 20000 in
theorem r16SameEntry_pc (a b : En) (σ : Store) : PC Tryz.prog 38 [.agg a.cells,.agg b.cells] σ (fun r σ' => r = .b (enEq a b) ∧ σ' = σ) := by
 refine PC.intro Tryz.func38 c38 fun hcl hwf => wpc_sound ?_
 simp only [p38,List.length_cons,List.length_nil,List.replicate,List.cons_append,List.nil_append,Nat.reduceAdd,Nat.reduceSub]
 simp only [En.cells,VV,pexec,xexec]
 refine call_eq (r3Same_pc a.source b.source _) rfl ?_
 simp only [VV,pexec]
 have e1 : enEq a b = (itsEq a.source b.source && (itsEq a.target b.target && (a.previous == b.previous && (a.next == b.next && (a.author == b.author && (a.project == b.project && (a.created == b.created && a.origin == b.origin))))))) := rfl
 rw [e1]
 refine callg_eq (by simp only [VV] <;> rfl) (fun _ => r3Same_pc a.target b.target _) rfl ?_
 simp only [VV,pexec,binV,reduceIte]
 cases itsEq a.source b.source <;> simp only [VV]
 ·exact ret_end hcl (.inr rfl) (by simp only [resVs,resV,W]; rfl) (by simp only [LW]) ⟨rfl,rfl⟩
 cases itsEq a.target b.target <;> simp only [VV]
 ·exact ret_end hcl (.inr rfl) (by simp only [resVs,resV,W]; rfl) (by simp only [LW]) ⟨rfl,rfl⟩
 cases a.previous == b.previous <;> simp only [VV]
 ·exact ret_end hcl (.inr rfl) (by simp only [resVs,resV,W]; rfl) (by simp only [LW]) ⟨rfl,rfl⟩
 cases a.next == b.next <;> simp only [VV]
 ·exact ret_end hcl (.inr rfl) (by simp only [resVs,resV,W]; rfl) (by simp only [LW]) ⟨rfl,rfl⟩
 cases a.author == b.author <;> simp only [VV]
 ·exact ret_end hcl (.inr rfl) (by simp only [resVs,resV,W]; rfl) (by simp only [LW]) ⟨rfl,rfl⟩
 cases a.project == b.project <;> simp only [VV]
 ·exact ret_end hcl (.inr rfl) (by simp only [resVs,resV,W]; rfl) (by simp only [LW]) ⟨rfl,rfl⟩
 cases a.created == b.created <;> simp only [VV]
 ·exact ret_end hcl (.inr rfl) (by simp only [resVs,resV,W]; rfl) (by simp only [LW]) ⟨rfl,rfl⟩
 exact ret_end hcl (.inr rfl) (by simp only [resVs,resV,W]; rfl) (by simp only [LW]) ⟨rfl,rfl⟩
theorem loop16 {n : Nat} {σ : Store} {K : Exit → St → Prop} (a b : List En) (hlen : a.length < 2 ^ 63) (hab : a.length = b.length) : ∀ (ra rb pa pb : List En),a = pa ++ ra → b = pb ++ rb → pa.length = pb.length →
  (ensEq ra rb = true → (∀ j0 j1 j2 j3 j4 j5 j6 j7 j8 j9 j10 j11 j12 j13 j14 j15 j16 j17 j18 j19 j20 j21 j22 j23 j24 j25 j26,K (.exit 0) ⟨[j0,j1,j2,j3,j4,j5,j6,j7,j8,j9,j10,j11,j12,j13,j14,j15,j16,j17,j18,j19,j20,j21,j22,j23,j24,j25,j26],σ⟩)) → (ensEq ra rb = false → (∀ j0 j1 j2 j3 j5 j6 j7 j8 j9 j10 j11 j12 j13 j14 j15 j16 j17 j18 j19 j20 j21 j22 j23 j24 j25 j26,K .ret ⟨[j0,j1,j2,j3,.b false,j5,j6,j7,j8,j9,j10,j11,j12,j13,j14,j15,j16,j17,j18,j19,j20,j21,j22,j23,j24,j25,j26],σ⟩)) →
  Rnd n Tryz.prog p16_0 K (ra.length + 1) ⟨[.sl 8 (a.map En.cells),.sl 8 (b.map En.cells),.u,.u,.u,.u,.u,.u,.u,.u,.u,.u,.i .i64 a.length,.i .i64 pa.length,.u,.u,.u,.u,.u,.u,.u,.u,.u,.u,.u,.u,.u],σ⟩ := by
 intro ra
 induction ra with
 | nil =>
  intro rb pa pb ha hb hp h1 h2
  have : rb = [] := by
   subst ha; subst hb
   simp at hab
   exact List.eq_nil_of_length_eq_zero (by omega)
  subst this
  have ha : a = pa := by simpa using ha
  subst ha
  refine rnd_step fun R hR => ?_
  simp only [p16_0,VV,pexec,binV,reduceIte]
  exact ⟨fun h => by simp at h,fun _ => h1 rfl ..⟩
 | cons x ra ih =>
  intro rb pa pb ha hb hp h1 h2
  cases rb with
  | nil => subst ha; subst hb; simp at hab; omega
  | cons y rb =>
   subst ha; subst hb
   have e2 : (List.map En.cells (pb ++ y :: rb)).getD pa.length [] = y.cells := by rw [hp]; exact row_at
   have hw : IntKind.i64.wrap ((pa.length : Int) + 1) = (((pa ++ [x]).length : Nat) : Int) := by
    rw [wrap_succ (by simp at hlen; omega)]; simp
   refine rnd_step fun R hR => ?_
   simp only [p16_0,Int.toNat_natCast,e2,En.cells,VV,pexec,binV,Nat.reduceAdd,reduceIte]
   have hla : (0 : Int) ≤ pa.length ∧ (pa.length : Int) < (List.map En.cells (pa ++ x :: ra)).length := by simp; omega
   have hlb : (0 : Int) ≤ pa.length ∧ (pa.length : Int) < (List.map En.cells (pb ++ y :: rb)).length := by simp at hab ⊢; omega
   refine ⟨fun _ => ⟨hla,hlb,?_⟩,fun h => by simp at h <;> omega⟩
   refine call_eq (r16SameEntry_pc x y _) rfl ?_
   simp only [VV,pexec,binV,reduceIte]
   refine ⟨fun h => ?_,fun h => ?_⟩
   ·have h : enEq x y = false := by rw [Bool.not_eq_true'] at h; exact h
    exact h2 (by simp [ensEq,h]) ..
   ·have h : enEq x y = true := by rw [Bool.not_eq_false'] at h; exact h
    have e : ensEq (x :: ra) (y :: rb) = ensEq ra rb := by simp [ensEq,h]
    rw [e] at h1 h2
    refine hR _ (rnd_cvs ?_ (ih rb (pa ++ [x]) (pb ++ [y]) (by simp) (by simp) (by simp [hp]) h1 h2))
    rw [hw]; repeat first | exact .nil | refine .cons (.refl _) ?_ | refine .cons (.forget _) ?_
theorem r16SameEntries_pc (a b : List En) (σ : Store) : PC Tryz.prog 16 [.sl 8 (a.map En.cells),.sl 8 (b.map En.cells)] σ (fun r σ' => r = .b (ensEq a b) ∧ σ' = σ) := by
 refine PC.intro Tryz.func16 c16 fun hcl hwf => wpc_sound ?_
 have hlen := wf_sl (hwf 0 _ rfl).1
 rw [List.length_map] at hlen
 simp only [p16,List.length_cons,List.length_nil,List.replicate,List.cons_append,List.nil_append,Nat.reduceAdd,Nat.reduceSub]
 simp only [List.length_map,VV,pexec,binV,reduceIte]
 refine ⟨fun h => ?_,fun h => ?_⟩
 ·have h : a.length ≠ b.length := by simp at h; omega
  have e : ensEq a b = false := by
   cases he : ensEq a b with
   | false => rfl
   | true => exact absurd (ensEq_len he) h
  exact ret_end0 (.inr rfl) rfl ⟨by rw [e]; rfl,rfl⟩
 ·have h : a.length = b.length := by simp at h; omega
  refine PWc.rnd_cvs ?_ (a.length + 1) (loop16 a b hlen h a b [] [] rfl rfl rfl (fun ha => ?_) (fun ha => ?_))
  ·repeat first | exact .nil | refine .cons (.refl _) ?_ | refine .cons (.forget _) ?_
  ·intros
   simp only [VV,pexec]
   exact ret_end0 (.inr rfl) rfl ⟨by rw [ha]; rfl,rfl⟩
  ·intros
   exact ret_end0 (.inr rfl) rfl ⟨by rw [ha]; rfl,rfl⟩
theorem Cv.aggs {xs ys : List V} (h : Cvs xs ys) : Cv (.agg xs) (.agg ys) := .agg _ _ h.at.1 (fun i x y hx hy => h.at.2 i x y hx hy)
theorem known_pc (σ : Store) : PC Tryz.prog 15 [] σ (fun r σ' => r = .b true ∧ σ' = σ) := by
 refine PC.intro Tryz.func15 c15 fun hcl hwf => wpc_sound ?_
 simp only [p15,List.length_nil,List.replicate,List.nil_append,Nat.reduceSub]
 simp only [V.pure,VV,pexec,xexec,Nat.reduceAdd,Nat.reduceLeDiff,reduceIte]
 refine call_cv (zs := [.agg knY.cells]) (.cons (Cv.aggs ?_) .nil) (encode_pc knY knY_small _) ?_
 ·repeat first | exact .nil | refine .cons (.refl _) ?_ | refine .cons (.lit _ _) ?_ | refine .cons (.nil _) ?_
 simp only [knY_code.2,VV,pexec,Nat.reduceAdd]
 refine call_cv (zs := [.agg knX.cells]) (.cons (Cv.aggs ?_) .nil) (opValidate_pc knX knX_small _) ?_
 ·repeat first | exact .nil | refine .cons (.refl _) ?_ | refine .cons (.lit _ _) ?_ | refine .cons (.nil _) ?_
 simp only [knX_ok,VV,pexec,binV,Nat.reduceAdd,reduceIte]
 refine callg_eq (by simp only [VV] <;> rfl) (fun _ => PC.wk (args' := [.agg knY.cells]) (Wk.cvs (.cons (Cv.aggs ?_) .nil)) (opValidate_pc knY knY_small _)) rfl ?_
 ·repeat first | exact .nil | refine .cons (.refl _) ?_ | refine .cons (.lit _ _) ?_ | refine .cons (.nil _) ?_
 simp only [knY_ok,VV,pexec,binV,Nat.reduceAdd,reduceIte]
 refine callg_eq (by simp only [VV] <;> rfl) (fun _ => PC.wk (args' := [.agg knY.cells,.agg knX.cells]) (Wk.cvs (.cons (Cv.aggs ?_) (.cons (Cv.aggs ?_) .nil))) (opWins_pc knY knX knY_small knX_small _)) rfl ?_
 ·repeat first | exact .nil | refine .cons (.refl _) ?_ | refine .cons (.lit _ _) ?_ | refine .cons (.nil _) ?_
 ·repeat first | exact .nil | refine .cons (.refl _) ?_ | refine .cons (.lit _ _) ?_ | refine .cons (.nil _) ?_
 simp only [kn_wins.1,VV,pexec,binV,Nat.reduceAdd]
 refine callg_eq (by simp only [VV] <;> rfl) (fun _ => PC.wk (args' := [.agg knX.cells,.agg knY.cells]) (Wk.cvs (.cons (Cv.aggs ?_) (.cons (Cv.aggs ?_) .nil))) (opWins_pc knX knY knX_small knY_small _)) rfl ?_
 ·repeat first | exact .nil | refine .cons (.refl _) ?_ | refine .cons (.lit _ _) ?_ | refine .cons (.nil _) ?_
 ·repeat first | exact .nil | refine .cons (.refl _) ?_ | refine .cons (.lit _ _) ?_ | refine .cons (.nil _) ?_
 simp only [kn_wins.2.1,VV,pexec,binV,Nat.reduceAdd]
 refine callg_eq (by simp only [VV] <;> rfl) (fun _ => PC.wk (args' := [.agg knX.cells,.agg knY.cells]) (Wk.cvs (.cons (Cv.aggs ?_) (.cons (Cv.aggs ?_) .nil))) (opConcurrent_pc knX knY _)) rfl ?_
 ·repeat first | exact .nil | refine .cons (.refl _) ?_ | refine .cons (.lit _ _) ?_ | refine .cons (.nil _) ?_
 ·repeat first | exact .nil | refine .cons (.refl _) ?_ | refine .cons (.lit _ _) ?_ | refine .cons (.nil _) ?_
 simp only [kn_wins.2.2,V.pure,VV,pexec,binV,Nat.reduceAdd]
 refine callg_eq (by simp only [VV] <;> rfl) (fun _ => PC.wk (args' := [.sl 13 ([knX].map Opr.cells)]) (Wk.cvs (.cons (.lit _ _) .nil)) (opMemory_pc [knX] (by simp [knX_small]) _)) rfl ?_
 simp only [kn_mem1,VV,pexec,binV,Nat.reduceAdd]
 refine callg_eq (by simp only [VV] <;> rfl) (fun _ => PC.wk (args' := [.sl 8 ([knEntry].map En.cells),.sl 8 ([knEntry].map En.cells)]) (Wk.cvs (.cons (.refl _) (.cons (.lit _ _) .nil))) (r16SameEntries_pc [knEntry] [knEntry] _)) rfl ?_
 have hee : ensEq [knEntry] [knEntry] = true := ensEq_iff.2 rfl
 simp only [hee,V.pure,VV,pexec,binV,Nat.reduceAdd]
 refine callg_eq (by simp only [VV] <;> rfl) (fun _ => PC.wk (args' := [.sl 13 ([knY,knX].map Opr.cells)]) (Wk.cvs (.cons (.lit _ _) .nil)) (opMemory_pc [knY,knX] (by simp [knX_small,knY_small]) _)) rfl ?_
 simp only [kn_mem2,bytesV_length,knY_code.1,VV,pexec,binV,reduceIte]
 refine ret_end hcl (.inr rfl) (by simp only [resVs,resV,W]; rfl) (by simp only [LW]) ⟨?_,rfl⟩
 rfl
theorem from_pc (l : List Int) (σ : Store) : PC Tryz.prog 20 [.sl 1 (l.map iRow)] σ (fun r σ' => r = .ptr σ.length 0 ∧ σ' = σ ++ [.box 83 [.sl 1 (l.map iRow),.i .i64 ((0 : Nat) : Int)]]) := by
 refine PC.intro Tryz.func20 c20 fun hcl hwf => wpc_sound ?_
 simp only [p20,List.length_cons,List.length_nil,List.replicate,List.cons_append,List.nil_append,Nat.reduceAdd,Nat.reduceSub]
 simp only [VV,pexec,xexec,Nat.reduceAdd,Nat.reduceLeDiff,reduceIte]
 exact ret_wk (.inr rfl) rfl (Wk.refl _ _) rfl ⟨rfl,rfl⟩
theorem nst_new {σ : Store} {l : List Int} {k : Nat} : σ ++ [.box 83 [.sl 1 (l.map iRow),.i .i64 (k : Int)]] = nst (σ ++ [.dead]) σ.length l k := by
 simp [nst]
theorem opsOf_pc (l : List Int) (N : Nat) (hN : N ≤ 20) (σ : Store) : PC Tryz.prog 25 [.sl 1 (l.map iRow),.i .i64 N] σ (fun r σ' => ∃ out : List Opr,r = .sl 13 (out.map Opr.cells) ∧ (∀ o ∈ out,GenOp o) ∧ out.length ≤ N ∧ σ' = σ) := by
 refine PC.intro Tryz.func25 c25 fun hcl hwf => wpc_sound ?_
 simp only [p25,List.length_cons,List.length_nil,List.replicate,List.cons_append,List.nil_append,Nat.reduceAdd,Nat.reduceSub]
 simp only [VV,Int.reduceBEq,Int.reduceBNe,pexec,xexec,binV,Nat.reduceAdd,Nat.reduceSub,Nat.reduceLeDiff,Nat.reduceEqDiff,Int.reduceToNat,reduceIte,reduceCtorEq]
 refine call_eq (from_pc l σ) rfl ?_
 simp only [VV,Int.reduceBEq,Int.reduceBNe,pexec,xexec,binV,Nat.reduceAdd,Nat.reduceSub,Nat.reduceLeDiff,Nat.reduceEqDiff,Int.reduceToNat,reduceIte,reduceCtorEq]
 rw [nst_new]
 refine call_ex (ops_pc (σ ++ [.dead]) σ.length (by simp) l 0 (by decide) N hN) rfl ?_
 rintro _ _ ⟨out,k',rfl,h1,h2,rfl⟩
 rw [← nst_new]
 simp only [VV,Int.reduceBEq,Int.reduceBNe,pexec,xexec,binV,Nat.reduceAdd,Nat.reduceSub,Nat.reduceLeDiff,Nat.reduceEqDiff,Int.reduceToNat,reduceIte,reduceCtorEq]
 exact ret_end hcl (.inr rfl) (by simp only [resVs,resV,W]; rfl) (by simp only [LW]) ⟨out,rfl,h1,h2,rfl⟩
def longI (ls : List (List Int)) : Int := ls.foldl (fun a l => IntKind.i64.wrap (a + l.length)) 0
def liRow (l : List Int) : List V := [.sl 1 (l.map iRow)]
theorem loop17 {n : Nat} {σ : Store} {K : Exit → St → Prop} (ls : List (List Int)) (hlen : ls.length < 2 ^ 63) : ∀ (rest pre : List (List Int)) (a : Int),ls = pre ++ rest →
  (∀ j0 j1 j2 j4 j5 j6 j7 j8 j9 j10 j11 j12 j13 j14 j15 j16 j17 j18,K (.exit 0) ⟨[j0,j1,j2,.i .i64 (rest.foldl (fun a l => IntKind.i64.wrap (a + l.length)) a),j4,j5,j6,j7,j8,j9,j10,j11,j12,j13,j14,j15,j16,j17,j18],σ⟩) →
  Rnd n Tryz.prog p17_0 K (rest.length + 1) ⟨[.u,.u,.u,.i .i64 a,.u,.u,.sl 1 (ls.map liRow),.i .i64 ls.length,.i .i64 pre.length,.u,.u,.u,.u,.u,.u,.u,.u,.u,.u],σ⟩ := by
 intro rest
 induction rest with
 | nil =>
  intro pre a he h1
  have he : ls = pre := by simpa using he
  subst he
  refine rnd_step fun R hR => ?_
  simp only [p17_0,VV,pexec,binV,reduceIte]
  exact ⟨fun h => by simp at h,fun _ => h1 ..⟩
 | cons x rest ih =>
  intro pre a he h1
  subst he
  have hw : IntKind.i64.wrap ((pre.length : Int) + 1) = (((pre ++ [x]).length : Nat) : Int) := by
   rw [wrap_succ (by simp at hlen; omega)]; simp
  have hat : at2 (List.map liRow (pre ++ x :: rest)) pre.length 0 = some (.sl 1 (x.map iRow)) := at2_at
  refine rnd_step fun R hR => ?_
  simp only [p17_0,Int.toNat_natCast,hat,hw,List.length_map,VV,pexec,binV,reduceIte]
  refine ⟨fun _ => ⟨by simp; omega,?_⟩,fun h => by simp at h <;> omega⟩
  refine hR _ (rnd_cvs ?_ (ih (pre ++ [x]) (IntKind.i64.wrap (a + x.length)) (by simp) h1))
  repeat first | exact .nil | refine .cons (.refl _) ?_ | refine .cons (.forget _) ?_
theorem long_pc (ls : List (List Int)) (σ : Store) : PC Tryz.prog 17 [.sl 1 (ls.map liRow)] σ (fun r σ' => r = .b (decide (160 < longI ls)) ∧ σ' = σ) := by
 refine PC.intro Tryz.func17 c17 fun hcl hwf => wpc_sound ?_
 have hlen := wf_sl (hwf 0 _ rfl).1
 rw [List.length_map] at hlen
 simp only [p17,List.length_cons,List.length_nil,List.replicate,List.cons_append,List.nil_append,Nat.reduceAdd,Nat.reduceSub]
 simp only [List.length_map,VV,pexec]
 refine PWc.rnd_cvs ?_ (ls.length + 1) (loop17 ls hlen ls [] 0 rfl ?_)
 ·repeat first | exact .nil | refine .cons (.refl _) ?_ | refine .cons (.forget _) ?_
 ·intros
  simp only [VV,pexec,binV,reduceIte]
  exact ret_end0 (.inr rfl) rfl ⟨rfl,rfl⟩
theorem loop18 {σ : Store} {K : Exit → St → Prop} (hcl : Closed σ) (f : List It) (hlen : f.length < 2 ^ 62) : ∀ (rest pre : List It) (n : Int),f = pre ++ rest →
  (∀ n : Int,(∀ j0 j1 j2 j3 j5 j6 j7 j8 j9 j10 j11 j12 j13 j14 j15 j16 j17 j18 j19 j20 j21 j22 j23 j24 j25 j26 j27 j28 j29 j30 j31 j32 j33 j34 j35 j36 j37 j38 j39 j40 j41 j42 j43 j44 j45 j46 j47 j48 j49 j50 j51 j52 j53 j54 j55,K (.exit 0) ⟨[j0,j1,j2,j3,.i .i64 n,j5,j6,j7,j8,j9,j10,j11,j12,j13,j14,j15,j16,j17,j18,j19,j20,j21,j22,j23,j24,j25,j26,j27,j28,j29,j30,j31,j32,j33,j34,j35,j36,j37,j38,j39,j40,j41,j42,j43,j44,j45,j46,j47,j48,j49,j50,j51,j52,j53,j54,j55],σ⟩)) →
  Rnd σ.length Tryz.prog p18_0 K (rest.length + 1) ⟨[.u,.u,.u,.u,.i .i64 n,.u,.u,.u,.u,.u,.u,.u,.u,.u,.u,.u,.u,.u,.u,.u,.u,.u,.u,.u,.u,.u,.u,.u,.u,.u,.u,.u,.u,.u,.u,.u,.u,.u,.u,.u,.u,.u,.sl 3 (f.map It.cells),.i .i64 f.length,.i .i64 pre.length,.u,.u,.u,.u,.u,.u,.u,.u,.u,.u,.u],σ⟩ := by
 intro rest
 induction rest with
 | nil =>
  intro pre n he h1
  have he : f = pre := by simpa using he
  subst he
  refine rnd_step fun R hR => ?_
  simp only [p18_0,VV,pexec,xexec,binV,Nat.reduceAdd,reduceIte]
  exact ⟨fun h => by simp at h,fun _ => h1 n ..⟩
 | cons x rest ih =>
  intro pre n he h1
  have hfl : f.length = pre.length + (rest.length + 1) := by rw [he]; simp
  have hw : IntKind.i64.wrap ((pre.length : Int) + 1) = (((pre ++ [x]).length : Nat) : Int) := by
   rw [wrap_succ (by omega)]; simp
  have hat : (List.map It.cells f).getD pre.length [] = x.cells := by rw [he]; exact row_at
  have hd : decide ((pre.length : Int) < (f.length : Int)) = true := by simp; omega
  refine rnd_step fun R hR => ?_
  simp only [p18_0,Int.toNat_natCast,hat,hd,hw,It.cells,List.length_map,VV,pexec,xexec,binV,Nat.reduceAdd,reduceIte,reduceCtorEq]
  refine ⟨⟨by omega,by omega⟩,?_⟩
  refine hR _ (rnd_back (Nat.le_refl _) hcl ?_ ?_ (ih (pre ++ [x]) (IntKind.i64.wrap (n + x.text.length)) (by rw [he]; simp) h1))
  ·repeat first | exact .nil | refine .cons (.refl _) ?_ | refine .cons (.forget _) ?_
  ·simp only [LW]
theorem few_pc (o : Opr) (hs : o.small) (σ : Store) : PC Tryz.prog 18 [.agg o.cells] σ (fun r σ' => ∃ b : Bool,r = .b b ∧ σ' = σ) := by
 refine PC.intro Tryz.func18 c18 fun hcl hwf => ?_
 simp only [p18,List.length_cons,List.length_nil,List.replicate,List.cons_append,List.nil_append,Nat.reduceAdd,Nat.reduceSub]
 refine PWc.cut fun R hR => ?_
 simp only [Opr.cells,Stamp.cells,En.cells,VV,pexec,xexec]
 refine hR _ ?_
 clear hR R
 refine PWc.cut fun R hR => ?_
 simp only [VV,pexec,xexec,Nat.reduceAdd,Nat.reduceLeDiff]
 refine hR _ (PWc.cvs (fr' := [.u,.ptr σ.length 0,.u,.ptr (σ.length + 1) 0,.u,.u,.u,.u,.u,.u,.u,.u,.u,.u,.u,.u,.u,.u,.u,.u,.u,.u,.u,.u,.u,.u,.u,.u,.u,.u,.u,.u,.u,.u,.u,.u,.u,.u,.u,.u,.u,.u,.u,.u,.u,.u,.u,.u,.u,.u,.u,.u,.u,.u,.u,.u]) ?_ (by repeat first | exact .nil | refine .cons (.refl _) ?_ | refine .cons (.forget _) ?_))
 clear hR R
 refine PWc.cut fun R hR => ?_
 simp only [List.length_map,VV,pexec,binV,reduceIte]
 generalize hn : IntKind.i64.wrap _ = n
 refine hR _ (PWc.cvs (fr' := [.u,.u,.u,.ptr (σ.length + 1) 0,.i .i64 n,.u,.u,.u,.u,.u,.u,.u,.u,.u,.u,.u,.u,.u,.u,.u,.u,.u,.u,.u,.u,.u,.u,.u,.u,.u,.u,.u,.u,.u,.u,.u,.u,.u,.u,.u,.u,.u,.u,.u,.u,.u,.u,.u,.u,.u,.u,.u,.u,.u,.u,.u]) ?_ (by repeat first | exact .nil | refine .cons (.refl _) ?_ | refine .cons (.forget _) ?_))
 clear hR R hn
 have h1 := hs.entry.source
 have h2 := hs.entry.target
 refine PWc.cut fun R hR => ?_
 have tail : ∀ (f : List It) {fr : List V} {s : Store},f.length < 2 ^ 32 → (∃ loc,Wk Tryz.prog σ.length fr s [.u,.u,.u,.u,.i .i64 n,.u,.u,.u,.u,.u,.u,.u,.u,.u,.u,.u,.u,.u,.u,.u,.u,.u,.u,.u,.u,.u,.u,.u,.u,.u,.u,.u,.u,.u,.u,.u,.u,.u,.u,.u,.u,.u,.sl 3 (f.map It.cells),.i .i64 f.length,.i .i64 (([] : List It).length : Nat),.u,.u,.u,.u,.u,.u,.u,.u,.u,.u,.u] (σ ++ loc)) →
   PWc σ.length Tryz.prog (.loop p18_0) (blkK 0 (rndR R (retK Tryz.prog σ.length [.t 2] fun r σ' => ∃ b : Bool,r = .b b ∧ σ' = σ))) ⟨fr,s⟩ := by
  rintro f fr s hf ⟨loc,hw⟩
  refine PWc.wk (hw.trans (Wk.drop0 (σ := σ) (loc := loc) (Nat.le_refl _) hcl (allLt_iff.1 (by simp only [LW])))) (PWc.rnd (f.length + 1) (loop18 hcl f (by omega) f [] n rfl ?_))
  intro n
  intros
  simp only [VV]
  refine hR _ (wpc_sound ?_)
  simp only [VV,pexec,binV,reduceIte]
  exact ret_end0 (.inr rfl) (by simp only [resVs,resV,W]; rfl) ⟨_,rfl,rfl⟩
 cases ha : o.entry.source with
 | nil =>
  cases hb : o.entry.target with
  | nil =>
   simp only [List.map_nil,List.isEmpty_nil,List.length_nil,maxLen,V.pure,VV,pexec,xexec,binV,Nat.reduceAdd,reduceIte]
   refine ⟨⟨by omega,by omega⟩,⟨by omega,by omega⟩,tail [] (by simp) ⟨_,Wk.cvs ?_⟩⟩
   simp only [List.map_nil,List.length_nil]
   repeat first | exact .nil | refine .cons (.refl _) ?_ | refine .cons (.lit _ _) ?_ | refine .cons (.forget _) ?_
  | cons b t =>
   rw [hb] at h2
   simp only [List.length_cons] at h2
   simp only [List.map_nil,List.isEmpty_nil,List.map_cons,List.isEmpty_cons,Bool.false_eq_true,List.length_cons,List.length_map,maxLen,V.pure,VV,pexec,xexec,binV,Nat.reduceAdd,reduceIte]
   refine ⟨⟨by omega,by omega⟩,⟨by omega,by omega⟩,tail (b :: t) (by simp only [List.length_cons]; omega) ⟨_,(Wk.fz_at 2 (E := 23) (sz := 3) (by' := 32) (g := 0) (sh := false) (rows := b.cells :: t.map It.cells) rfl).trans (Wk.cvs ?_)⟩⟩
   simp only [List.map_cons,List.map_nil,List.length_cons,List.length_nil,fz,fz1,and_self,if_true]
   repeat first | exact .nil | refine .cons (.refl _) ?_ | refine .cons (.forget _) ?_
 | cons a s =>
  rw [ha] at h1
  simp only [List.length_cons] at h1
  simp only [List.map_cons,List.isEmpty_cons,Bool.false_eq_true,List.length_cons,List.length_map,maxLen,V.pure,VV,pexec,xexec,binV,Nat.reduceAdd,reduceIte]
  have el : (s.map It.cells ++ o.entry.target.map It.cells).length + 1 = (a :: (s ++ o.entry.target)).length := by simp
  rw [el,← List.map_append]
  have hln : (a :: (s ++ o.entry.target)).length < 2 ^ 32 := by simp; omega
  refine ⟨⟨by omega,by omega⟩,⟨by omega,by omega⟩,tail (a :: (s ++ o.entry.target)) hln ⟨_,(Wk.fz_at 2 (E := 23) (sz := 3) (by' := 32) (g := 1) (sh := false) (rows := a.cells :: (s ++ o.entry.target).map It.cells) rfl).trans (Wk.cvs ?_)⟩⟩
  simp only [List.map_cons,List.map_nil,fz,fz1,and_self,if_true]
  repeat first | exact .nil | refine .cons (.refl _) ?_ | refine .cons (.forget _) ?_
theorem r36SameOp_pc (a b : Opr) (σ : Store) : PC Tryz.prog 32 [.agg a.cells,.agg b.cells] σ (fun r σ' => r = .b (opEq a b) ∧ σ' = σ) := by
 refine PC.intro Tryz.func32 c32 fun hcl hwf => wpc_sound ?_
 simp only [p32,List.length_cons,List.length_nil,List.replicate,List.cons_append,List.nil_append,Nat.reduceAdd,Nat.reduceSub]
 simp only [Opr.cells,Stamp.cells,En.cells,cellsEq,scalEq,VV,pexec,xexec,binV,Nat.reduceAdd,Nat.reduceLeDiff,reduceIte]
 refine callg_eq (by simp only [VV] <;> rfl) (fun _ => r16SameEntry_pc a.entry b.entry _) rfl ?_
 simp only [VV,pexec]
 refine callg_eq (by simp only [VV] <;> rfl) (fun _ => r3SameInts_pc a.seen b.seen _) rfl ?_
 simp only [VV,pexec]
 refine ret_end hcl (.inr rfl) (by simp only [resVs,resV,W]; rfl) (by simp only [LW]) ⟨?_,rfl⟩
 simp only [Pm.one,opEq,stEq,Bool.and_true]
theorem loop33 {n : Nat} {σ : Store} {K : Exit → St → Prop} (a b : List Opr) (hlen : a.length < 2 ^ 63) (hab : a.length = b.length) : ∀ (ra rb pa pb : List Opr),a = pa ++ ra → b = pb ++ rb → pa.length = pb.length →
  (opsEq ra rb = true → (∀ j0 j1 j2 j3 j4 j5 j6 j7 j8 j9 j10 j11 j12 j13 j14 j15 j16 j17 j18 j19 j20 j21 j22 j23 j24 j25 j26,K (.exit 0) ⟨[j0,j1,j2,j3,j4,j5,j6,j7,j8,j9,j10,j11,j12,j13,j14,j15,j16,j17,j18,j19,j20,j21,j22,j23,j24,j25,j26],σ⟩)) → (opsEq ra rb = false → (∀ j0 j1 j2 j3 j5 j6 j7 j8 j9 j10 j11 j12 j13 j14 j15 j16 j17 j18 j19 j20 j21 j22 j23 j24 j25 j26,K .ret ⟨[j0,j1,j2,j3,.b false,j5,j6,j7,j8,j9,j10,j11,j12,j13,j14,j15,j16,j17,j18,j19,j20,j21,j22,j23,j24,j25,j26],σ⟩)) →
  Rnd n Tryz.prog p33_0 K (ra.length + 1) ⟨[.sl 13 (a.map Opr.cells),.sl 13 (b.map Opr.cells),.u,.u,.u,.u,.u,.u,.u,.u,.u,.u,.i .i64 a.length,.i .i64 pa.length,.u,.u,.u,.u,.u,.u,.u,.u,.u,.u,.u,.u,.u],σ⟩ := by
 intro ra
 induction ra with
 | nil =>
  intro rb pa pb ha hb hp h1 h2
  have : rb = [] := by
   subst ha; subst hb
   simp at hab
   exact List.eq_nil_of_length_eq_zero (by omega)
  subst this
  have ha : a = pa := by simpa using ha
  subst ha
  refine rnd_step fun R hR => ?_
  simp only [p33_0,VV,Int.reduceBEq,Int.reduceBNe,pexec,xexec,binV,Nat.reduceAdd,Nat.reduceSub,Nat.reduceLeDiff,Nat.reduceEqDiff,Int.reduceToNat,reduceIte,reduceCtorEq]
  exact ⟨fun h => by simp at h,fun _ => h1 rfl ..⟩
 | cons x ra ih =>
  intro rb pa pb ha hb hp h1 h2
  cases rb with
  | nil => subst ha; subst hb; simp at hab; omega
  | cons y rb =>
   subst ha; subst hb
   have e2 : (List.map Opr.cells (pb ++ y :: rb)).getD pa.length [] = y.cells := by rw [hp]; exact row_at
   have hw : IntKind.i64.wrap ((pa.length : Int) + 1) = (((pa ++ [x]).length : Nat) : Int) := by
    rw [wrap_succ (by simp at hlen; omega)]; simp
   refine rnd_step fun R hR => ?_
   simp only [p33_0,Int.toNat_natCast,e2,Opr.cells,Stamp.cells,En.cells,VV,Int.reduceBEq,Int.reduceBNe,pexec,xexec,binV,Nat.reduceAdd,Nat.reduceSub,Nat.reduceLeDiff,Nat.reduceEqDiff,Int.reduceToNat,reduceIte,reduceCtorEq]
   have hla : (0 : Int) ≤ pa.length ∧ (pa.length : Int) < (List.map Opr.cells (pa ++ x :: ra)).length := by simp; omega
   have hlb : (0 : Int) ≤ pa.length ∧ (pa.length : Int) < (List.map Opr.cells (pb ++ y :: rb)).length := by simp at hab ⊢; omega
   refine ⟨fun _ => ⟨hla,hlb,?_⟩,fun h => by simp at h <;> omega⟩
   refine call_eq (r36SameOp_pc x y _) rfl ?_
   simp only [VV,Int.reduceBEq,Int.reduceBNe,pexec,xexec,binV,Nat.reduceAdd,Nat.reduceSub,Nat.reduceLeDiff,Nat.reduceEqDiff,Int.reduceToNat,reduceIte,reduceCtorEq]
   refine ⟨fun h => ?_,fun h => ?_⟩
   ·have h : opEq x y = false := by rw [Bool.not_eq_true'] at h; exact h
    exact h2 (by simp [opsEq,h]) ..
   ·have h : opEq x y = true := by rw [Bool.not_eq_false'] at h; exact h
    have e : opsEq (x :: ra) (y :: rb) = opsEq ra rb := by simp [opsEq,h]
    rw [e] at h1 h2
    refine hR _ (rnd_cvs ?_ (ih rb (pa ++ [x]) (pb ++ [y]) (by simp) (by simp) (by simp [hp]) h1 h2))
    rw [hw]; repeat first | exact .nil | refine .cons (.refl _) ?_ | refine .cons (.forget _) ?_
theorem r36SameOps_pc (a b : List Opr) (σ : Store) : PC Tryz.prog 33 [.sl 13 (a.map Opr.cells),.sl 13 (b.map Opr.cells)] σ (fun r σ' => r = .b (opsEq a b) ∧ σ' = σ) := by
 refine PC.intro Tryz.func33 c33 fun hcl hwf => wpc_sound ?_
 have hlen := wf_sl (hwf 0 _ rfl).1
 rw [List.length_map] at hlen
 simp only [p33,List.length_cons,List.length_nil,List.replicate,List.cons_append,List.nil_append,Nat.reduceAdd,Nat.reduceSub]
 simp only [List.length_map,VV,Int.reduceBEq,Int.reduceBNe,pexec,xexec,binV,Nat.reduceAdd,Nat.reduceSub,Nat.reduceLeDiff,Nat.reduceEqDiff,Int.reduceToNat,reduceIte,reduceCtorEq]
 refine ⟨fun h => ?_,fun h => ?_⟩
 ·have h : a.length ≠ b.length := by simp at h; omega
  have e : opsEq a b = false := by
   cases he : opsEq a b with
   | false => rfl
   | true => exact absurd (opsEq_len he) h
  exact ret_end0 (.inr rfl) rfl ⟨by rw [e]; rfl,rfl⟩
 ·have h : a.length = b.length := by simp at h; omega
  refine PWc.rnd_cvs ?_ (a.length + 1) (loop33 a b hlen h a b [] [] rfl rfl rfl (fun ha => ?_) (fun ha => ?_))
  ·repeat first | exact .nil | refine .cons (.refl _) ?_ | refine .cons (.forget _) ?_
  ·intros
   simp only [VV,Int.reduceBEq,Int.reduceBNe,pexec,xexec,binV,Nat.reduceAdd,Nat.reduceSub,Nat.reduceLeDiff,Nat.reduceEqDiff,Int.reduceToNat,reduceIte,reduceCtorEq]
   exact ret_end0 (.inr rfl) rfl ⟨by rw [ha]; rfl,rfl⟩
  ·intros
   exact ret_end0 (.inr rfl) rfl ⟨by rw [ha]; rfl,rfl⟩
end Go.Proofs.Tryz
