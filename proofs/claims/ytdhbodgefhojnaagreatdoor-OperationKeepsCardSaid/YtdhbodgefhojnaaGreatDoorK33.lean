/- A part of the proof that OperationKeeps returns true and leaves its argument as it was, for every input. -/
import Derived.Test.YtdhbodgefhojnaaGreatDoorK12
import Derived.Test.YtdhbodgefhojnaaGreatDoorK31
import Derived.Test.YtdhbodgefhojnaaGreatDoorK32
set_option linter.all false

namespace Go.Proofs.Tryz
open Go Go.Pm Go.Bt
theorem loop9_0 {σ : Store} {K : Exit → St → Prop} (hcl : Closed σ) (c : List Opr) (hc : c.length < 2 ^ 62) (en : List En) (hen : ∀ e ∈ en,e.small) (x : Opr) (sx : x.small) (hs : ∀ y ∈ c,y.small)
  (hK : ∀ y ∈ c,opKey x = opKey y → wins x y = false ∧ (y.kind = 1 → 0 ≤ find en (opKey x) ∧ find en (opKey x) < en.length ∧ en[(find en (opKey x)).toNat]? = some y.entry) ∧ (y.kind ≠ 1 → find en (opKey x) = -1))
  (l : List (List V)) (n i : Int) : ∀ (rest pre : List Opr),c = pre ++ rest →
  (∀ j0 j1 j2 j3 j6 j7 j9 j10 j11 j12 j13 j14 j15 j16 j17 j18 j19 j20 j21 j25 j26 j27 j28 j29 j30 j31 j32 j33 j34 j35 j36 j37 j38 j39 j40 j41 j42 j43 j44 j45 j46 j47 j48 j49 j50 j51 j52 j53 j54 j55 j56 j57 j58 j59 j60 j61 j62 j63 j64 j65 j66 j67 j68 j69 j70 j71 j72 j73 j74,K (.exit 2) ⟨[j0,j1,j2,j3,.sl 13 (c.map Opr.cells),.sl 8 (en.map En.cells),j6,j7,.i .i64 (c.countP (fun y => opKey x == opKey y) : Nat),j9,j10,j11,j12,j13,j14,j15,j16,j17,j18,j19,j20,j21,.sl 13 l,.i .i64 n,.i .i64 i,j25,j26,j27,j28,j29,j30,j31,j32,j33,j34,j35,j36,j37,j38,j39,j40,j41,j42,j43,j44,j45,j46,j47,j48,j49,j50,j51,j52,j53,j54,j55,j56,j57,j58,j59,j60,j61,j62,j63,j64,j65,j66,j67,j68,j69,j70,j71,j72,j73,j74],σ ++ [.box 33 x.cells]⟩) →
  Rnd σ.length Tryz.prog p9_0 K (rest.length + 1) ⟨[.u,.u,.u,.u,.sl 13 (c.map Opr.cells),.sl 8 (en.map En.cells),.u,.ptr σ.length 0,.i .i64 (pre.countP (fun y => opKey x == opKey y) : Nat),.u,.u,.u,.u,.u,.u,.u,.u,.u,.u,.u,.u,.u,.sl 13 l,.i .i64 n,.i .i64 i,.u,.u,.u,.sl 13 (c.map Opr.cells),.i .i64 c.length,.i .i64 pre.length,.u,.u,.u,.u,.u,.u,.u,.u,.u,.u,.u,.u,.u,.u,.u,.u,.u,.u,.u,.u,.u,.u,.u,.u,.u,.u,.u,.u,.u,.u,.u,.u,.u,.u,.u,.u,.u,.u,.u,.u,.u,.u,.u,.u],σ ++ [.box 33 x.cells]⟩ := by
 intro rest
 induction rest with
 | nil =>
  intro pre he h1
  have he : c = pre := by simpa using he
  subst he
  refine rnd_step fun R hR => ?_
  simp only [p9_0,VV,pexec,xexec,binV,Nat.reduceAdd,reduceIte]
  exact ⟨fun h => by simp at h,fun _ => h1 ..⟩
 | cons y rest ih =>
  intro pre he h1
  have hy : y ∈ c := by rw [he]; simp
  have sy := hs y hy
  have hml : c.length = pre.length + (rest.length + 1) := by rw [he]; simp
  have hw : IntKind.i64.wrap ((pre.length : Int) + 1) = (((pre ++ [y]).length : Nat) : Int) := by
   rw [wrap_succ (by omega)]; simp
  have hat : (List.map Opr.cells c).getD pre.length [] = y.cells := by rw [he]; exact row_at
  have hd : decide ((pre.length : Int) < (c.length : Int)) = true := by simp; omega
  have hcn : pre.countP (fun y => opKey x == opKey y) ≤ pre.length := List.countP_le_length
  have fin : ∀ {fr : List V} {loc : Store} {R : St → Prop},(∀ st',Rnd σ.length Tryz.prog p9_0 K (rest.length + 1) st' → R st') →
    Cvs fr [.u,.u,.u,.u,.sl 13 (c.map Opr.cells),.sl 8 (en.map En.cells),.u,.ptr σ.length 0,.i .i64 ((pre ++ [y]).countP (fun y => opKey x == opKey y) : Nat),.u,.u,.u,.u,.u,.u,.u,.u,.u,.u,.u,.u,.u,.sl 13 l,.i .i64 n,.i .i64 i,.u,.u,.u,.sl 13 (c.map Opr.cells),.i .i64 c.length,.i .i64 (pre ++ [y]).length,.u,.u,.u,.u,.u,.u,.u,.u,.u,.u,.u,.u,.u,.u,.u,.u,.u,.u,.u,.u,.u,.u,.u,.u,.u,.u,.u,.u,.u,.u,.u,.u,.u,.u,.u,.u,.u,.u,.u,.u,.u,.u,.u,.u] → R ⟨fr,σ ++ (.box 33 x.cells :: loc)⟩ := by
   intro fr loc R hR hcv
   refine hR _ (rnd_drop [_] loc (cl_op (l := [x]) hcl) hcv ?_ (ih (pre ++ [y]) (by rw [he]; simp) h1))
   simp only [List.length_cons,List.length_nil,Nat.lt_add_right_iff_pos,Nat.zero_lt_succ,LW]
  refine rnd_step fun R hR => ?_
  simp only [p9_0,Int.toNat_natCast,hat,hd,Opr.cells,Stamp.cells,En.cells,List.length_map,VV,pexec,xexec,binV,Nat.reduceAdd,reduceIte,reduceCtorEq]
  refine ⟨⟨by omega,by omega⟩,?_⟩
  refine call_eq (opKey_pc x sx _) rfl ?_
  simp only [V.pure,VV,pexec,binV,Nat.reduceAdd]
  refine call_eq (opKey_pc y sy _) rfl ?_
  by_cases hk : opKey x = opKey y
  ·obtain ⟨k1,k2,k3⟩ := hK y hy hk
   have e0 : (!opKey x == opKey y) = false := by simp [hk]
   have hwc : IntKind.i64.wrap ((pre.countP (fun y => opKey x == opKey y) : Nat) + 1 : Int) = (((pre ++ [y]).countP (fun y => opKey x == opKey y) : Nat) : Int) := by
    rw [wrap_succ (by omega)]
    simp [List.countP_append,hk]
   simp only [e0,hwc,VV,pexec,binV,Nat.reduceAdd,reduceIte,reduceCtorEq]
   refine call_eq (opKey_pc x sx _) rfl ?_
   simp only [VV]
   refine call_eq (memFind_pc en hen (opKey x) _) rfl ?_
   simp only [VV,pexec,Nat.reduceAdd]
   refine call_eq (opWins_pc x y sx sy _) rfl ?_
   have e9 : enEq y.entry y.entry = true := enEq_iff.2 rfl
   generalize find en (opKey x) = z at k2 k3
   by_cases hk1 : y.kind = 1
   ·obtain ⟨f1,f2,f3⟩ := k2 hk1
    have hz : decide (0 ≤ z) = true := by simpa using f1
    have hate : (List.map En.cells en).getD z.toNat [] = y.entry.cells := by rw [List.getD_eq_getElem?_getD,List.getElem?_map,f3]; rfl
    have e1 : (y.kind == 1) = true := by simpa using hk1
    simp only [k1,hz,e1,hate,En.cells,List.length_map,V.pure,VV,pexec,binV,Nat.reduceAdd,Nat.reduceLeDiff,reduceIte]
    refine ⟨by omega,_,rfl,?_⟩
    refine callg_eq (by simp only [VV] <;> rfl) (fun _ => r16SameEntry_pc y.entry y.entry _) rfl ?_
    simp only [e9,hw,VV,pexec,binV,reduceIte,reduceCtorEq]
    exact fin hR (by repeat first | exact .nil | refine .cons (.refl _) ?_ | refine .cons (.forget _) ?_)
   ·have hz := k3 hk1
    subst hz
    have e1 : (y.kind == 1) = false := by simpa using hk1
    have hz : decide ((0 : Int) ≤ -1) = false := rfl
    simp only [k1,hz,e1,List.length_map,V.pure,VV,pexec,binV,Nat.reduceAdd,Nat.reduceLeDiff,Int.reduceToNat,reduceIte]
    refine ⟨by simp,.u,by simp,?_⟩
    refine callg_eq (c := false) (v := .b false) (by simp only [VV] <;> rfl) (fun h => by simp at h) rfl ?_
    simp only [hw,VV,pexec,binV,reduceIte,reduceCtorEq]
    exact fin hR (by repeat first | exact .nil | refine .cons (.refl _) ?_ | refine .cons (.forget _) ?_)
  ·have e0 : (!opKey x == opKey y) = true := by simp [hk]
   simp only [e0,hw,VV,pexec,binV,Nat.reduceAdd,reduceIte,reduceCtorEq]
   refine fin hR ?_
   have e1 : (pre ++ [y]).countP (fun y => opKey x == opKey y) = pre.countP (fun y => opKey x == opKey y) := by simp [List.countP_append,hk]
   rw [e1]
   repeat first | exact .nil | refine .cons (.refl _) ?_ | refine .cons (.forget _) ?_
theorem loop9_1 {σ : Store} {K : Exit → St → Prop} (hcl : Closed σ) (m : List Opr) (hm : ∀ o ∈ m,GenOp o) (hl : m.length ≤ 8) : ∀ (rest pre : List Opr),m = pre ++ rest →
  (∀ j0 j1 j2 j3 j4 j5 j6 j7 j8 j9 j10 j11 j12 j13 j14 j15 j16 j17 j18 j19 j20 j21 j22 j23 j24 j25 j26 j27 j28 j29 j30 j31 j32 j33 j34 j35 j36 j37 j38 j39 j40 j41 j42 j43 j44 j45 j46 j47 j48 j49 j50 j51 j52 j53 j54 j55 j56 j57 j58 j59 j60 j61 j62 j63 j64 j65 j66 j67 j68 j69 j70 j71 j72 j73 j74,K (.exit 0) ⟨[j0,j1,j2,j3,j4,j5,j6,j7,j8,j9,j10,j11,j12,j13,j14,j15,j16,j17,j18,j19,j20,j21,j22,j23,j24,j25,j26,j27,j28,j29,j30,j31,j32,j33,j34,j35,j36,j37,j38,j39,j40,j41,j42,j43,j44,j45,j46,j47,j48,j49,j50,j51,j52,j53,j54,j55,j56,j57,j58,j59,j60,j61,j62,j63,j64,j65,j66,j67,j68,j69,j70,j71,j72,j73,j74],σ⟩) →
  Rnd σ.length Tryz.prog p9_1 K (rest.length + 1) ⟨[.u,.u,.u,.u,.sl 13 ((current m).map Opr.cells),.sl 8 ((memoryOf m).map En.cells),.u,.u,.u,.u,.u,.u,.u,.u,.u,.u,.u,.u,.u,.u,.u,.u,.sl 13 (m.map Opr.cells),.i .i64 m.length,.i .i64 pre.length,.u,.u,.u,.u,.u,.u,.u,.u,.u,.u,.u,.u,.u,.u,.u,.u,.u,.u,.u,.u,.u,.u,.u,.u,.u,.u,.u,.u,.u,.u,.u,.u,.u,.u,.u,.u,.u,.u,.u,.u,.u,.u,.u,.u,.u,.u,.u,.u,.u,.u],σ⟩ := by
 intro rest
 induction rest with
 | nil =>
  intro pre he h1
  have he : m = pre := by simpa using he
  subst he
  refine rnd_step fun R hR => ?_
  simp only [p9_1,VV,pexec,xexec,binV,Nat.reduceAdd,reduceIte]
  exact ⟨fun h => by simp at h,fun _ => h1 ..⟩
 | cons x rest ih =>
  intro pre he h1
  have hx : x ∈ m := by rw [he]; simp
  have hml : m.length = pre.length + (rest.length + 1) := by rw [he]; simp
  have hw : IntKind.i64.wrap ((pre.length : Int) + 1) = (((pre ++ [x]).length : Nat) : Int) := by
   rw [wrap_succ (by omega)]; simp
  have hat : (List.map Opr.cells m).getD pre.length [] = x.cells := by rw [he]; exact row_at
  have hd : decide ((pre.length : Int) < (m.length : Int)) = true := by simp; omega
  have hs : ∀ o ∈ m,o.small := fun o ho => (hm o ho).small
  obtain ⟨k1,k2⟩ := keeps (m := m) (fun o ho => ⟨(hm o ho).ok,(hm o ho).small⟩) (by omega) hx
  have hcl2 := current_len m
  have hsc : ∀ y ∈ current m,y.small := fun y hy => hs y (current_mem hy)
  have hse : ∀ e ∈ memoryOf m,e.small := fun e he => by
   simp only [memoryOf,List.mem_map,List.mem_filter] at he
   obtain ⟨o,⟨ho,_⟩,rfl⟩ := he
   exact (hsc o ho).entry
  refine rnd_step fun R hR => ?_
  simp only [p9_1,Int.toNat_natCast,hat,hd,Opr.cells,Stamp.cells,En.cells,List.length_map,VV,pexec,xexec,binV,Nat.reduceAdd,reduceIte,reduceCtorEq]
  refine ⟨⟨by omega,by omega⟩,?_⟩
  refine PWc.rnd_cvs (fr' := [.u,.u,.u,.u,.sl 13 ((current m).map Opr.cells),.sl 8 ((memoryOf m).map En.cells),.u,.ptr σ.length 0,.i .i64 (([] : List Opr).countP (fun y => opKey x == opKey y) : Nat),.u,.u,.u,.u,.u,.u,.u,.u,.u,.u,.u,.u,.u,.sl 13 (m.map Opr.cells),.i .i64 m.length,.i .i64 pre.length,.u,.u,.u,.sl 13 ((current m).map Opr.cells),.i .i64 (current m).length,.i .i64 (([] : List Opr).length : Nat),.u,.u,.u,.u,.u,.u,.u,.u,.u,.u,.u,.u,.u,.u,.u,.u,.u,.u,.u,.u,.u,.u,.u,.u,.u,.u,.u,.u,.u,.u,.u,.u,.u,.u,.u,.u,.u,.u,.u,.u,.u,.u,.u,.u]) (by repeat first | exact .nil | refine .cons (.refl _) ?_ | refine .cons (.forget _) ?_) ((current m).length + 1)
   (loop9_0 hcl (current m) (by omega) (memoryOf m) hse x (hs x hx) hsc k2 (m.map Opr.cells) m.length pre.length (current m) [] rfl ?_)
  intros
  simp only [k1,hw,VV,pexec,binV,reduceIte]
  refine ⟨fun h => by simp at h,fun _ => hR _ ?_⟩
  refine rnd_back (fr' := [.u,.u,.u,.u,.sl 13 ((current m).map Opr.cells),.sl 8 ((memoryOf m).map En.cells),.u,.u,.u,.u,.u,.u,.u,.u,.u,.u,.u,.u,.u,.u,.u,.u,.sl 13 (m.map Opr.cells),.i .i64 m.length,.i .i64 (pre ++ [x]).length,.u,.u,.u,.u,.u,.u,.u,.u,.u,.u,.u,.u,.u,.u,.u,.u,.u,.u,.u,.u,.u,.u,.u,.u,.u,.u,.u,.u,.u,.u,.u,.u,.u,.u,.u,.u,.u,.u,.u,.u,.u,.u,.u,.u,.u,.u,.u,.u,.u,.u]) (Nat.le_refl _) hcl (by repeat first | exact .nil | refine .cons (.refl _) ?_ | refine .cons (.forget _) ?_) ?_ (ih (pre ++ [x]) (by rw [he]; simp) h1)
  simp only [LW]
theorem operationKeeps_pc (l : List Int) (σ : Store) : PC Tryz.prog 9 [.sl 1 (l.map iRow)] σ (fun r σ' => r = .b true ∧ σ' = σ) := by
 refine PC.intro Tryz.func9 c9 fun hcl hwf => wpc_sound ?_
 simp only [p9,List.length_cons,List.length_nil,List.replicate,List.cons_append,List.nil_append,Nat.reduceAdd,Nat.reduceSub]
 simp only [V.pure,VV,pexec]
 refine call_cv (zs := [.sl 1 ([l].map liRow)]) (.cons (.lit _ _) .nil) (long_pc [l] _) ?_
 simp only [VV,pexec]
 refine ⟨fun _ => ?_,fun _ => ?_⟩
 ·refine call_eq (known_pc _) rfl ?_
  simp only [VV,pexec]
  exact ret_end0 (.inr rfl) (by simp only [resVs,resV,VV]; rfl) ⟨rfl,rfl⟩
 refine call_ex (opsOf_pc l 8 (by decide) _) rfl ?_
 rintro _ σ1 ⟨m,rfl,hm,hml,hσ⟩
 have hσ := hσ.symm
 subst hσ
 have hs : ∀ o ∈ m,o.small := fun o ho => (hm o ho).small
 simp only [VV,pexec]
 refine call_eq (opCurrent_pc m hs _) rfl ?_
 simp only [VV,pexec]
 refine call_eq (opMemory_pc m hs _) rfl ?_
 simp only [List.length_map,VV,pexec]
 refine PWc.rnd_cvs (fr' := [.u,.u,.u,.u,.sl 13 ((current m).map Opr.cells),.sl 8 ((memoryOf m).map En.cells),.u,.u,.u,.u,.u,.u,.u,.u,.u,.u,.u,.u,.u,.u,.u,.u,.sl 13 (m.map Opr.cells),.i .i64 m.length,.i .i64 (([] : List Opr).length : Nat),.u,.u,.u,.u,.u,.u,.u,.u,.u,.u,.u,.u,.u,.u,.u,.u,.u,.u,.u,.u,.u,.u,.u,.u,.u,.u,.u,.u,.u,.u,.u,.u,.u,.u,.u,.u,.u,.u,.u,.u,.u,.u,.u,.u,.u,.u,.u,.u,.u,.u]) (by repeat first | exact .nil | refine .cons (.refl _) ?_ | refine .cons (.forget _) ?_) (m.length + 1) (loop9_1 hcl m hm hml m [] rfl ?_)
 intros
 simp only [VV]
 refine call_eq (known_pc _) rfl ?_
 simp only [VV,pexec]
 exact ret_end0 (.inr rfl) (by simp only [resVs,resV,VV]; rfl) ⟨rfl,rfl⟩
end Go.Proofs.Tryz
