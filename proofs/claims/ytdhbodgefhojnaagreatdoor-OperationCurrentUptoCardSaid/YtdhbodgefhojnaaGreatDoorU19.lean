/- A part of the proof that OperationCurrent returns true and leaves its arguments as they were, for every input of bounded size. -/
import Derived.Test.YtdhbodgefhojnaaGreatDoorU11
import Derived.Test.YtdhbodgefhojnaaGreatDoorU12
import Derived.Test.YtdhbodgefhojnaaGreatDoorU13
import Derived.Test.YtdhbodgefhojnaaGreatDoorU15
import Derived.Test.YtdhbodgefhojnaaGreatDoorU16
import Derived.Test.YtdhbodgefhojnaaGreatDoorU18
set_option linter.all false

namespace Go.Proofs.Tryz
open Go Go.Pm Go.Bt
theorem ti_it : Ti Tryz.prog 23 3 32 := tiB_ok (by kernel_rfl)
theorem loop158 {σ : Store} {K : Exit → St → Prop} (its : List It) (hcl : Closed σ) (hlen : its.length < 2 ^ 40) (htext : textLen its < 2 ^ 40) : ∀ (rest pre out : List It) (g : Nat),its = pre ++ rest → out.length ≤ pre.length → textLen out ≤ textLen pre →
  (∀ g,(∀ j0 j1 j2 j4 j5 j6 j7 j8 j9 j10 j11 j12 j13 j14 j15 j16 j17 j18 j19 j20 j21 j22 j23 j24 j25 j26 j27 j28 j29 j30 j31 j32 j33 j34 j35 j36 j37 j38 j39 j40 j41 j42 j43 j44 j45 j46 j47 j48 j49 j50 j51 j52 j53 j54 j55 j56 j57 j58 j59 j60,K (.exit 0) ⟨[j0,j1,j2,.own σ.length g,j4,j5,j6,j7,j8,j9,j10,j11,j12,j13,j14,j15,j16,j17,j18,j19,j20,j21,j22,j23,j24,j25,j26,j27,j28,j29,j30,j31,j32,j33,j34,j35,j36,j37,j38,j39,j40,j41,j42,j43,j44,j45,j46,j47,j48,j49,j50,j51,j52,j53,j54,j55,j56,j57,j58,j59,j60],σ ++ [.row 23 3 32 g false ((rest.foldl normStep out).map It.cells)]⟩)) →
  Rnd σ.length Tryz.prog p158_0 K (rest.length + 1) ⟨[.sl 3 (its.map It.cells),.u,.u,.own σ.length g,.u,.u,.u,.u,.i .i64 its.length,.i .i64 pre.length,.u,.u,.u,.u,.u,.u,.u,.u,.u,.u,.u,.u,.u,.u,.u,.u,.u,.u,.u,.u,.u,.u,.u,.u,.u,.u,.u,.u,.u,.u,.u,.u,.u,.u,.u,.u,.u,.u,.u,.u,.u,.u,.u,.u,.u,.u,.u,.u,.u,.u,.u],σ ++ [.row 23 3 32 g false (out.map It.cells)]⟩ := by
 intro rest
 induction rest with
 | nil =>
  intro pre out g he ho ht h1
  have he : its = pre := by simpa using he
  subst he
  refine rnd_step fun R hR => ?_
  simp only [p158_0,VV,pexec,xexec,binV,Nat.reduceAdd,reduceIte]
  exact ⟨fun h => by simp at h,fun _ => h1 g ..⟩
 | cons x rest ih =>
  intro pre out g he ho ht h1
  subst he
  have next : ∀ (out' : List It) (g' : Nat) {loc : Store},normStep out x = out' → ∀ {R : St → Prop} {fr : List V},(∀ st',Rnd σ.length Tryz.prog p158_0 K (rest.length + 1) st' → R st') →
    Cvs fr [.sl 3 ((pre ++ x :: rest).map It.cells),.u,.u,.own σ.length g',.u,.u,.u,.u,.i .i64 (pre ++ x :: rest).length,.i .i64 (IntKind.i64.wrap ((pre.length : Int) + 1)),.u,.u,.u,.u,.u,.u,.u,.u,.u,.u,.u,.u,.u,.u,.u,.u,.u,.u,.u,.u,.u,.u,.u,.u,.u,.u,.u,.u,.u,.u,.u,.u,.u,.u,.u,.u,.u,.u,.u,.u,.u,.u,.u,.u,.u,.u,.u,.u,.u,.u,.u] → R ⟨fr,σ ++ (.row 23 3 32 g' false (out'.map It.cells) :: loc)⟩ := by
   intro out' g' loc hw R fr hR hc
   have e1 : IntKind.i64.wrap ((pre.length : Int) + 1) = (((pre ++ [x]).length : Nat) : Int) := by
    rw [wrap_succ (by simp at hlen; omega)]; simp
   rw [e1] at hc
   have hb := normStep_bound out x
   rw [hw] at hb
   have e2 : (x :: rest).foldl normStep out = rest.foldl normStep out' := by rw [List.foldl_cons,hw]
   rw [e2] at h1
   refine hR _ (rnd_drop [_] loc (closed_add hcl (by simp)) hc ?_ (ih (pre ++ [x]) out' g' (by simp) (by simp; omega) (by simp only [textLen_append,textLen]; omega) h1))
   simp only [LW,List.length_cons,List.length_nil,Nat.zero_add]
   omega
  have okA : (out.length + 1) * 32 ≤ 2 ^ 47 ∧ out.length + 1 ≤ maxLen := by simp at hlen; simp [maxLen]; omega
  refine rnd_step fun R hR => ?_
  simp only [p158_0,It.cells,VV,pexec,xexec,binV,Nat.reduceAdd,reduceIte]
  refine ⟨fun _ => ⟨by simp; omega,fun hk => ?_,fun hk => ⟨fun ht0 => ?_,fun ht0 => ?_⟩⟩,fun h => by simp at h <;> omega⟩
  ·have hk : x.kind ≠ 1 := by simpa using hk
   have hrow : out.map It.cells ++ [[.i .i64 x.kind,.s x.text,.i .i64 x.id]] = (out ++ [x]).map It.cells := by simp [It.cells]
   refine ⟨by rw [List.length_map]; exact okA,?_⟩
   rw [hrow]
   refine next (out ++ [x]) (g + 1) (by simp [normStep,hk]) hR ?_
   simp only
   repeat first | exact .nil | refine .cons (.refl _) ?_ | refine .cons (.forget _) ?_
  ·have hk : x.kind = 1 := by simpa using hk
   have ht0 : x.text = [] := by simpa using ht0
   refine next out g (by simp [normStep,hk,ht0]) hR ?_
   simp only
   repeat first | exact .nil | refine .cons (.refl _) ?_ | refine .cons (.forget _) ?_
  have hk : x.kind = 1 := by simpa using hk
  have ht0 : x.text ≠ [] := by simpa using ht0
  rcases List.eq_nil_or_concat out with hnil | ⟨out',y,hout⟩
  ·subst hnil
   have e0 : decide ((0 : Int) < (([] : List (List V)).length : Int)) = false := rfl
   simp only [List.map_nil,e0]
   refine ⟨fun h => by simp at h,.i .i64 0,fun h => by simp at h,?_⟩
   simp only [VV,Int.reduceBEq,pexec,xexec,binV,Nat.reduceAdd,Nat.reduceLeDiff,reduceIte,reduceCtorEq]
   refine ⟨by decide,next [⟨1,x.text,0⟩] (g + 1) (by simp [normStep,hk,ht0]) hR ?_⟩
   simp only
   repeat first | exact .nil | refine .cons (.refl _) ?_ | refine .cons (.forget _) ?_
  ·rw [List.concat_eq_append] at hout
   subst hout
   have hp : IntKind.i64.wrap (((out' ++ [y]).length : Int) - 1) = out'.length := by
    have : (out' ++ [y]).length < 2 ^ 63 := by simp at ho hlen ⊢; omega
    rw [IntWalk.i64_in _ (by simp at this ⊢; omega)]; simp
   have hat : at2 (List.map It.cells (out' ++ [y])) out'.length 0 = some (.i .i64 y.kind) := by
    rw [at2_at]; rfl
   have e0 : decide ((0 : Int) < ((List.map It.cells (out' ++ [y])).length : Int)) = true := by simp
   simp only [List.length_map,hp,Int.toNat_natCast,hat]
   refine ⟨fun _ => by simp; omega,.i .i64 y.kind,fun _ => ⟨True,rfl,trivial⟩,?_⟩
   have e3 : decide ((0 : Int) < ((out' ++ [y]).length : Int)) = true := by simp
   have hat1 : at2 (List.map It.cells (out' ++ [y])) out'.length 1 = some (.s y.text) := by
    rw [at2_at]; rfl
   simp only [e3,hp,Int.toNat_natCast,hat1,List.length_map,VV,pexec,xexec,binV,Nat.reduceAdd,Nat.reduceLeDiff,reduceIte]
   have hb : (0 : Int) ≤ (out'.length : Int) ∧ (out'.length : Int) < ((out' ++ [y]).length : Int) := ⟨by omega,by rw [List.length_append,List.length_singleton]; omega⟩
   refine ⟨fun hy => ⟨hb,?_,hb,by omega,?_⟩,fun hy => ⟨okA,?_⟩⟩
   ·simp only [textLen_append,textLen] at ht htext
    simp only [maxLen]; omega
   ·have hy : y.kind = 1 := by simpa using hy
    have hrow : (List.map It.cells (out' ++ [y])).set out'.length (.i .i64 1 :: .s (y.text ++ x.text) :: .i .i64 0 :: List.drop 3 y.cells) = (out' ++ [(⟨1,y.text ++ x.text,0⟩ : It)]).map It.cells := by
     simp [List.set_append,It.cells]
    rw [hrow]
    refine next (out' ++ [⟨1,y.text ++ x.text,0⟩]) g (by simp [normStep,hk,ht0,hy]) hR ?_
    simp only
    repeat first | exact .nil | refine .cons (.refl _) ?_ | refine .cons (.forget _) ?_
   ·have hy : ¬ y.kind = 1 := by simpa using hy
    have hrow : List.map It.cells (out' ++ [y]) ++ [[.i .i64 1,.s x.text,.i .i64 0]] = (out' ++ [y] ++ [(⟨1,x.text,0⟩ : It)]).map It.cells := by simp [It.cells]
    rw [hrow]
    refine next (out' ++ [y] ++ [⟨1,x.text,0⟩]) (g + 1) (by simp [normStep,hk,ht0,hy]) hR ?_
    simp only
    repeat first | exact .nil | refine .cons (.refl _) ?_ | refine .cons (.forget _) ?_
theorem r3Normalize_pc (its : List It) (hlen : its.length < 2 ^ 40) (ht : textLen its < 2 ^ 40) (σ : Store) : PC Tryz.prog 158 [.sl 3 (its.map It.cells)] σ (fun r σ' => r = .sl 3 ((normalize its).map It.cells) ∧ σ' = σ) := by
 refine PC.intro Tryz.func158 c158 fun hcl hwf => wpc_sound ?_
 simp only [p158,List.length_cons,List.length_nil,List.replicate,List.cons_append,List.nil_append,Nat.reduceAdd,Nat.reduceSub]
 simp only [List.length_map,VV,pexec]
 refine PWc.wk ((Wk.promote (k := 3) ti_it rfl).trans (Wk.cvs ?_)) (PWc.rnd (its.length + 1) (loop158 its hcl hlen ht its [] [] 0 rfl (Nat.le_refl _) (Nat.le_refl _) ?_))
 ·simp only [VV]
  repeat first | exact .nil | refine .cons (.refl _) ?_ | refine .cons (.forget _) ?_
 ·intro g
  intros
  simp only [VV,pexec]
  refine ret_fz 0 hcl (.inr rfl) rfl rfl ?_ ?_
  ·simp [fz,fz1,AllLt,lt_sl]
  ·have e : its.foldl normStep [] = normalize its := normFold_eq its
   simp [fz,fz1,Pm.one,e]
theorem r3Concat_pc (a b : List It) (ha : a.length < 2 ^ 39) (hb : b.length < 2 ^ 39) (hat : textLen a < 2 ^ 39) (hbt : textLen b < 2 ^ 39) (σ : Store) : PC Tryz.prog 123 [.sl 3 (a.map It.cells),.sl 3 (b.map It.cells)] σ (fun r σ' => r = .sl 3 ((normalize (a ++ b)).map It.cells) ∧ σ' = σ) := by
 refine PC.intro Tryz.func123 c123 fun hcl hwf => wpc_sound ?_
 simp only [p123,List.length_cons,List.length_nil,List.replicate,List.cons_append,List.nil_append,Nat.reduceAdd,Nat.reduceSub]
 simp only [List.length_map,VV,pexec,xexec,reduceIte]
 refine ⟨by simp [maxLen]; omega,by simp [maxLen]; omega,?_⟩
 refine call_fz σ.length (by simp only [base_get0]; rfl) (r3Normalize_pc (a ++ b) (by simp; omega) (by rw [textLen_append]; omega) _) (by simp [fz,fz1,ev]) ?_
 simp only [VV,pexec]
 exact ret_end hcl (.inr rfl) (by simp only [resVs,resV,W]; rfl) (by simp only [LW]) ⟨rfl,rfl⟩
def putF (out : List It) (x : It) (o : Option Int) : List It := match o with
 | some b => out ++ [⟨x.kind,x.text,b⟩]
 | none => out
theorem loop126_0 {σ : Store} {K : Exit → St → Prop} (F L I : V) (fr to : List Int) (out : List It) (x : It) (g : Nat) (hfr : fr.length < 2 ^ 62) (okA : (out.length + 1) * 32 ≤ 2 ^ 47 ∧ out.length + 1 ≤ maxLen) :
  ∀ (m k : Nat),k + m = min fr.length to.length →
  (∀ g,(∀ j3 j4 j5 j6 j8 j9 j10 j11 j14 j15 j16 j17 j18 j19 j20 j21 j22 j23 j24 j25 j26 j27 j28 j29 j30 j31 j32 j33 j34 j35 j36 j37 j38 j39 j40 j41 j42 j43 j44 j45 j46 j47 j48 j49 j50 j51 j52 j53 j54 j55 j56 j57 j58 j59 j60,K (.exit 2) ⟨[F,.sl 1 (fr.map iRow),.sl 1 (to.map iRow),j3,j4,j5,j6,.own σ.length g,j8,j9,j10,j11,L,I,j14,j15,j16,j17,j18,j19,j20,j21,j22,j23,j24,j25,j26,j27,j28,j29,j30,j31,j32,j33,j34,j35,j36,j37,j38,j39,j40,j41,j42,j43,j44,j45,j46,j47,j48,j49,j50,j51,j52,j53,j54,j55,j56,j57,j58,j59,j60],σ ++ [.row 23 3 32 g false ((putF out x (toF (fr.drop k) (to.drop k) x.id)).map It.cells),.box 23 x.cells]⟩)) →
  Rnd σ.length Tryz.prog p126_0 K (m + 1) ⟨[F,.sl 1 (fr.map iRow),.sl 1 (to.map iRow),.u,.u,.u,.u,.own σ.length g,.u,.ptr (σ.length + 1) 0,.i .i64 k,.u,L,I,.u,.u,.u,.u,.u,.u,.u,.u,.u,.u,.u,.u,.u,.u,.u,.u,.u,.u,.u,.u,.u,.u,.u,.u,.u,.u,.u,.u,.u,.u,.u,.u,.u,.u,.u,.u,.u,.u,.u,.u,.u,.u,.u,.u,.u,.u,.u],σ ++ [.row 23 3 32 g false (out.map It.cells),.box 23 x.cells]⟩ := by
 intro m
 induction m with
 | zero =>
  intro k hk h1
  rw [toF_end (by omega)] at h1
  have hlt : ((decide ((k : Int) < (fr.length : Int))) && decide ((k : Int) < (to.length : Int))) = false := by
   rw [Bool.and_eq_false_iff]; simp; omega
  refine rnd_step fun R hR => ?_
  simp only [p126_0,List.length_map,hlt,VV,pexec,binV,reduceIte,reduceCtorEq]
  exact h1 g ..
 | succ m ih =>
  intro k hk h1
  have k1 : k < fr.length := by omega
  have k2 : k < to.length := by omega
  rw [toF_drop k1 k2] at h1
  have e1 : decide ((k : Int) < (fr.length : Int)) = true := by simp; omega
  have e2 : decide ((k : Int) < (to.length : Int)) = true := by simp; omega
  have hw : IntKind.i64.wrap ((k : Int) + 1) = ((k + 1 : Nat) : Int) := by rw [IntWalk.i64_in _ (by omega)]; omega
  refine rnd_step fun R hR => ?_
  simp only [p126_0,It.cells,List.length_map,e1,e2,hw,Int.toNat_natCast,at2_iRow k1,at2_iRow k2,VV,pexec,xexec,binV,Nat.reduceAdd,Nat.reduceLeDiff,Nat.reduceEqDiff,reduceIte,reduceCtorEq]
  have hb1 : (0 : Int) ≤ (k : Int) ∧ (k : Int) < (fr.length : Int) := by omega
  have hb2 : (0 : Int) ≤ (k : Int) ∧ (k : Int) < (to.length : Int) := by omega
  refine ⟨hb1,fun h => ⟨hb2,okA,?_⟩,fun h => ?_⟩
  ·have h : x.id = fr.getD k 0 := by rw [beq_iff_eq] at h; exact h.symm
   rw [if_pos h] at h1
   have hrow : out.map It.cells ++ [[.i .i64 x.kind,.s x.text,.i .i64 (to.getD k 0)]] = (putF out x (some (to.getD k 0))).map It.cells := by simp [putF,It.cells]
   rw [hrow]
   exact h1 (g + 1) ..
  ·have h : ¬ x.id = fr.getD k 0 := by rw [beq_eq_false_iff_ne] at h; exact fun e => h e.symm
   rw [if_neg h] at h1
   refine hR _ (rnd_cvs ?_ (ih (k + 1) (by omega) h1))
   repeat first | exact .nil | refine .cons (.refl _) ?_ | refine .cons (.forget _) ?_
theorem loop126_1 {σ : Store} {K : Exit → St → Prop} (its : List It) (fr to : List Int) (hcl : Closed σ) (hlen : its.length < 2 ^ 40) (hfr : fr.length < 2 ^ 62) : ∀ (rest pre out : List It) (g : Nat),its = pre ++ rest → out.length ≤ pre.length →
  (∀ g,(∀ j0 j1 j2 j3 j4 j5 j6 j8 j9 j10 j11 j12 j13 j14 j15 j16 j17 j18 j19 j20 j21 j22 j23 j24 j25 j26 j27 j28 j29 j30 j31 j32 j33 j34 j35 j36 j37 j38 j39 j40 j41 j42 j43 j44 j45 j46 j47 j48 j49 j50 j51 j52 j53 j54 j55 j56 j57 j58 j59 j60,K (.exit 0) ⟨[j0,j1,j2,j3,j4,j5,j6,.own σ.length g,j8,j9,j10,j11,j12,j13,j14,j15,j16,j17,j18,j19,j20,j21,j22,j23,j24,j25,j26,j27,j28,j29,j30,j31,j32,j33,j34,j35,j36,j37,j38,j39,j40,j41,j42,j43,j44,j45,j46,j47,j48,j49,j50,j51,j52,j53,j54,j55,j56,j57,j58,j59,j60],σ ++ [.row 23 3 32 g false ((out ++ renamed rest fr to).map It.cells)]⟩)) →
  Rnd σ.length Tryz.prog p126_1 K (rest.length + 1) ⟨[.sl 3 (its.map It.cells),.sl 1 (fr.map iRow),.sl 1 (to.map iRow),.u,.u,.u,.u,.own σ.length g,.u,.u,.u,.u,.i .i64 its.length,.i .i64 pre.length,.u,.u,.u,.u,.u,.u,.u,.u,.u,.u,.u,.u,.u,.u,.u,.u,.u,.u,.u,.u,.u,.u,.u,.u,.u,.u,.u,.u,.u,.u,.u,.u,.u,.u,.u,.u,.u,.u,.u,.u,.u,.u,.u,.u,.u,.u,.u],σ ++ [.row 23 3 32 g false (out.map It.cells)]⟩ := by
 intro rest
 induction rest with
 | nil =>
  intro pre out g he ho h1
  have he : its = pre := by simpa using he
  subst he
  have e : out ++ renamed [] fr to = out := by simp [renamed]
  rw [e] at h1
  refine rnd_step fun R hR => ?_
  simp only [p126_1,VV,pexec,xexec,binV,Nat.reduceAdd,reduceIte]
  exact ⟨fun h => by simp at h,fun _ => h1 g ..⟩
 | cons x rest ih =>
  intro pre out g he ho h1
  subst he
  have next : ∀ (out' : List It) (g' : Nat) {loc : Store},out ++ renamed (x :: rest) fr to = out' ++ renamed rest fr to → out'.length ≤ out.length + 1 → ∀ {R : St → Prop} {f0 : List V},(∀ st',Rnd σ.length Tryz.prog p126_1 K (rest.length + 1) st' → R st') →
    Cvs f0 [.sl 3 ((pre ++ x :: rest).map It.cells),.sl 1 (fr.map iRow),.sl 1 (to.map iRow),.u,.u,.u,.u,.own σ.length g',.u,.u,.u,.u,.i .i64 (pre ++ x :: rest).length,.i .i64 (IntKind.i64.wrap ((pre.length : Int) + 1)),.u,.u,.u,.u,.u,.u,.u,.u,.u,.u,.u,.u,.u,.u,.u,.u,.u,.u,.u,.u,.u,.u,.u,.u,.u,.u,.u,.u,.u,.u,.u,.u,.u,.u,.u,.u,.u,.u,.u,.u,.u,.u,.u,.u,.u,.u,.u] → R ⟨f0,σ ++ (.row 23 3 32 g' false (out'.map It.cells) :: loc)⟩ := by
   intro out' g' loc hw hl R f0 hR hc
   have e1 : IntKind.i64.wrap ((pre.length : Int) + 1) = (((pre ++ [x]).length : Nat) : Int) := by
    rw [wrap_succ (by simp at hlen; omega)]; simp
   rw [e1] at hc
   rw [hw] at h1
   refine hR _ (rnd_drop [_] loc (closed_add hcl (by simp)) hc ?_ (ih (pre ++ [x]) out' g' (by simp) (by simp; omega) h1))
   simp only [LW,List.length_cons,List.length_nil,Nat.zero_add]
   omega
  have okA : (out.length + 1) * 32 ≤ 2 ^ 47 ∧ out.length + 1 ≤ maxLen := by simp at hlen; simp [maxLen]; omega
  refine rnd_step fun R hR => ?_
  simp only [p126_1,It.cells,VV,pexec,xexec,binV,Nat.reduceAdd,reduceIte]
  refine ⟨fun _ => ⟨by simp; omega,?_⟩,fun h => by simp at h <;> omega⟩
  refine call_eq (r3IsTag_pc x _) rfl ?_
  simp only [VV,pexec,xexec,binV,Nat.reduceAdd,reduceIte]
  refine ⟨fun ht => ?_,fun ht => ?_⟩
  ·have ht : isTag x = false := by rw [Bool.not_eq_true'] at ht; exact ht
   have hrow : out.map It.cells ++ [[.i .i64 x.kind,.s x.text,.i .i64 x.id]] = (out ++ [x]).map It.cells := by simp [It.cells]
   refine ⟨by rw [List.length_map]; exact okA,?_⟩
   rw [hrow]
   refine next (out ++ [x]) (g + 1) (by simp [renamed,ren,ht]) (by simp) hR ?_
   simp only
   repeat first | exact .nil | refine .cons (.refl _) ?_ | refine .cons (.forget _) ?_
  ·have ht : isTag x = true := by rw [Bool.not_eq_false'] at ht; exact ht
   refine PWc.rnd_cvs ?_ (min fr.length to.length + 1) (loop126_0 (.sl 3 ((pre ++ x :: rest).map It.cells)) (.i .i64 (pre ++ x :: rest).length) (.i .i64 pre.length) fr to out x g hfr okA (min fr.length to.length) 0 (by omega) ?_)
   ·simp only [Int.natCast_zero]
    repeat first | exact .nil | refine .cons (.refl _) ?_ | refine .cons (.forget _) ?_
   intro g'
   intros
   simp only [VV,pexec,binV,reduceIte]
   refine next _ g' ?_ ?_ hR ?_
   ·simp only [renamed,List.filterMap_cons,ren,ht,if_true,putF]
    cases toF fr to x.id <;> simp
   ·simp only [putF]; split <;> simp
   ·repeat first | exact .nil | refine .cons (.refl _) ?_ | refine .cons (.forget _) ?_
theorem r3Rename_pc (its : List It) (fr to : List Int) (hlen : its.length < 2 ^ 40) (ht : textLen its < 2 ^ 40) (hfr : fr.length < 2 ^ 62) (σ : Store) : PC Tryz.prog 126 [.sl 3 (its.map It.cells),.sl 1 (fr.map iRow),.sl 1 (to.map iRow)] σ (fun r σ' => r = .sl 3 ((rename its fr to).map It.cells) ∧ σ' = σ) := by
 refine PC.intro Tryz.func126 c126 fun hcl hwf => wpc_sound ?_
 simp only [p126,List.length_cons,List.length_nil,List.replicate,List.cons_append,List.nil_append,Nat.reduceAdd,Nat.reduceSub]
 simp only [List.length_map,VV,pexec]
 refine PWc.wk ((Wk.promote (k := 7) ti_it rfl).trans (Wk.cvs ?_)) (PWc.rnd (its.length + 1) (loop126_1 its fr to hcl hlen hfr its [] [] 0 rfl (Nat.le_refl _) ?_))
 ·simp only [VV]
  repeat first | exact .nil | refine .cons (.refl _) ?_ | refine .cons (.forget _) ?_
 ·intro g
  intros
  simp only [List.nil_append,VV,pexec]
  refine call_fz σ.length (by simp only [base_get0]; rfl) (r3Normalize_pc (renamed its fr to) (Nat.lt_of_le_of_lt (renamed_len _ _ _) hlen) (Nat.lt_of_le_of_lt (renamed_text _ _ _) ht) _) (by simp [fz,fz1,ev]) ?_
  simp only [VV,pexec]
  exact ret_end hcl (.inr rfl) (by simp only [resVs,resV,W]; rfl) (by simp only [LW]) ⟨rfl,rfl⟩
theorem r3Canonical_pc (s t : List It) (hs : s.length < 2 ^ 38) (ht : t.length < 2 ^ 38) (hst : textLen s < 2 ^ 38) (htt : textLen t < 2 ^ 38) (σ : Store) : PC Tryz.prog 98 [.sl 3 (s.map It.cells),.sl 3 (t.map It.cells)] σ (fun r σ' => r = .tup [.sl 3 ((canonS s t).map It.cells),.sl 3 ((canonT s t).map It.cells)] ∧ σ' = σ) := by
 refine PC.intro Tryz.func98 c98 fun hcl hwf => wpc_sound ?_
 simp only [p98,List.length_cons,List.length_nil,List.replicate,List.cons_append,List.nil_append,Nat.reduceAdd,Nat.reduceSub]
 simp only [List.length_map,VV,pexec,xexec,reduceIte]
 refine ⟨by simp [maxLen]; omega,by simp [maxLen]; omega,?_⟩
 refine call_fz σ.length (by simp only [base_get0]; rfl) (r3Numbers_pc (s ++ t) (by simp; omega) _) (by simp [fz,fz1,ev]) ?_
 have hc := numbers_len (s ++ t)
 rw [numbers_append,List.length_append] at hc
 rw [numbers_append]
 simp only [List.length_map,VV,pexec]
 refine call_eq (r3UpTo_pc (canonNumbers s t).length (by omega) _) rfl ?_
 simp only [VV,pexec]
 refine call_eq (r3Rename_pc s (canonNumbers s t) (counting (canonNumbers s t).length) (by omega) (by omega) (by omega) _) rfl ?_
 simp only [VV,pexec]
 refine call_eq (r3Rename_pc t (canonNumbers s t) (counting (canonNumbers s t).length) (by omega) (by omega) (by omega) _) rfl ?_
 simp only [VV,pexec]
 exact ret_end hcl (.inr rfl) (by simp only [resVs,resV,W]; rfl) (by simp only [LW]) ⟨rfl,rfl⟩
theorem ne62 (c : UInt8) : ((c.toNat : Int) != 62) = (c != 62) := by revert c; exact u8_all (by decide +kernel)
theorem dig_int (c : UInt8) : (decide (48 ≤ (c.toNat : Int)) && decide ((c.toNat : Int) ≤ 57)) = digitB c := by revert c; exact u8_all (by decide +kernel)
theorem dec_step {pre : List UInt8} {c : UInt8} (hp : ∀ c ∈ pre,digitB c = true) (hl : pre.length ≤ 4) (hc : digitB c = true) :
  IntKind.i64.wrap (IntKind.i64.wrap (10 * decFrom 0 pre) + IntKind.i64.wrap (IntKind.u8.wrap ((c.toNat : Int) - 48))) = decFrom 0 (pre ++ [c]) := by
 have h := decFrom_le pre 0 pre.length rfl (List.all_eq_true.2 hp) (Int.le_refl 0)
 have h10 : (10 : Int) ^ pre.length ≤ 10 ^ 4 := by
  have : pre.length = 0 ∨ pre.length = 1 ∨ pre.length = 2 ∨ pre.length = 3 ∨ pre.length = 4 := by omega
  rcases this with h | h | h | h | h <;> rw [h] <;> decide
 simp only [digitB,Bool.and_eq_true,decide_eq_true_eq] at hc
 have e : IntKind.u8.wrap ((c.toNat : Int) - 48) = (c.toNat : Int) - 48 := IntWalk.u8_in _ (by omega)
 have h2 : decFrom 0 pre < 10000 := by omega
 rw [e,IntWalk.i64_in (10 * decFrom 0 pre) (by omega),IntWalk.i64_in ((c.toNat : Int) - 48) (by omega),IntWalk.i64_in _ (by omega)]
 simp [decFrom]
theorem tw_pre {pre rest : List UInt8} (hp : ∀ c ∈ pre,digitB c = true) : ((pre ++ rest).takeWhile digitB).length = pre.length + (rest.takeWhile digitB).length := by
 rw [List.takeWhile_append_of_pos hp,List.length_append]
set_option maxRecDepth 4000 in
theorem loop171_0 {n : Nat} {σ : Store} {K : Exit → St → Prop} (A : V) (s : List UInt8) (hlen : s.length < 2 ^ 62) : ∀ (rest pre : List UInt8),s = pre ++ rest →
  ((∀ j1 j3 j5 j6 j7 j8 j9 j10 j11 j12 j13 j14 j15 j16 j17 j18 j19 j20 j21 j22 j23 j24 j25 j26 j27 j28 j29 j30 j31 j32 j33 j34 j35 j36 j37 j38 j39 j40 j41 j42 j43 j44 j45 j46 j47 j48 j49 j50 j51 j52 j53 j54 j55 j56 j57 j58 j59 j60 j61 j62 j63 j64 j65 j66 j67 j68 j69 j70 j71 j72 j73 j74 j75 j76 j77 j78 j79 j80 j81 j82 j83 j84 j85 j86 j87 j88 j89 j90 j91 j92 j93 j94 j95 j96 j97 j98 j99 j100 j101 j102 j103 j104 j105 j106 j107 j108 j109 j110 j111 j112 j113 j114 j115 j116 j117 j118 j119 j120 j121 j122 j123 j124 j125 j126 j127 j128 j129 j130 j131 j132 j133 j134 j135 j136 j137 j138,K (.exit 0) ⟨[.s s,j1,A,j3,.i .i64 ((pre.length + (rest.takeWhile fun c => c != 62).length : Nat) : Int),j5,j6,j7,j8,j9,j10,j11,j12,j13,j14,j15,j16,j17,j18,j19,j20,j21,j22,j23,j24,j25,j26,j27,j28,j29,j30,j31,j32,j33,j34,j35,j36,j37,j38,j39,j40,j41,j42,j43,j44,j45,j46,j47,j48,j49,j50,j51,j52,j53,j54,j55,j56,j57,j58,j59,j60,j61,j62,j63,j64,j65,j66,j67,j68,j69,j70,j71,j72,j73,j74,j75,j76,j77,j78,j79,j80,j81,j82,j83,j84,j85,j86,j87,j88,j89,j90,j91,j92,j93,j94,j95,j96,j97,j98,j99,j100,j101,j102,j103,j104,j105,j106,j107,j108,j109,j110,j111,j112,j113,j114,j115,j116,j117,j118,j119,j120,j121,j122,j123,j124,j125,j126,j127,j128,j129,j130,j131,j132,j133,j134,j135,j136,j137,j138],σ⟩)) →
  Rnd n Tryz.prog p171_0 K (rest.length + 1) ⟨[.s s,.u,A,.u,.i .i64 pre.length,.u,.u,.u,.u,.u,.u,.u,.u,.u,.u,.u,.u,.u,.u,.u,.u,.u,.u,.u,.u,.u,.u,.u,.u,.u,.u,.u,.u,.u,.u,.u,.u,.u,.u,.u,.u,.u,.u,.u,.u,.u,.u,.u,.u,.u,.u,.u,.u,.u,.u,.u,.u,.u,.u,.u,.u,.u,.u,.u,.u,.u,.u,.u,.u,.u,.u,.u,.u,.u,.u,.u,.u,.u,.u,.u,.u,.u,.u,.u,.u,.u,.u,.u,.u,.u,.u,.u,.u,.u,.u,.u,.u,.u,.u,.u,.u,.u,.u,.u,.u,.u,.u,.u,.u,.u,.u,.u,.u,.u,.u,.u,.u,.u,.u,.u,.u,.u,.u,.u,.u,.u,.u,.u,.u,.u,.u,.u,.u,.u,.u,.u,.u,.u,.u],σ⟩ := by
 intro rest
 induction rest with
 | nil =>
  intro pre he h1
  have he : s = pre := by simpa using he
  subst he
  have e0 : decide ((s.length : Int) < (s.length : Int)) = false := by simp
  simp only [List.takeWhile_nil,List.length_nil,Nat.add_zero] at h1
  refine rnd_step fun R hR => ?_
  simp only [p171_0,e0,VV,pexec,binV,reduceIte,reduceCtorEq]
  exact ⟨fun h => by simp at h,h1 ..⟩
 | cons c rest ih =>
  intro pre he h1
  subst he
  have e0 : decide ((pre.length : Int) < ((pre ++ c :: rest).length : Int)) = true := by simp; omega
  refine rnd_step fun R hR => ?_
  simp only [p171_0,e0,VV,pexec,binV,reduceIte]
  refine ⟨by simp; omega,fun hc => ?_,fun hc => ?_⟩
  ·have hc2 : (c != 62) = true := by rw [← ne62]; exact hc
   have e2 : pre.length + ((c :: rest).takeWhile fun c => c != 62).length = (pre ++ [c]).length + (rest.takeWhile fun c => c != 62).length := by
    rw [List.takeWhile_cons,if_pos hc2]; simp; omega
   rw [e2] at h1
   refine hR _ (rnd_cvs ?_ (ih (pre ++ [c]) (by simp) h1))
   rw [wrap_succ (by simp at hlen; omega)]
   simp only [List.length_append,List.length_cons,List.length_nil]
   repeat first | exact .nil | refine .cons (.refl _) ?_ | refine .cons (.forget _) ?_
  ·have hc2 : ¬ (c != 62) = true := by rw [← ne62,hc]; simp
   have e2 : pre.length + ((c :: rest).takeWhile fun c => c != 62).length = pre.length := by
    rw [List.takeWhile_cons,if_neg hc2]; simp
   rw [e2] at h1
   exact h1 ..
set_option maxRecDepth 4000 in
theorem loop171_1 {n : Nat} {σ : Store} {K : Exit → St → Prop} (A B C : V) (t : List UInt8) (hlen : t.length < 2 ^ 62) : ∀ (m : Nat) (pre rest : List UInt8),t = pre ++ rest → pre.length + m = 4 → (∀ c ∈ pre,digitB c = true) →
  (∀ k : Nat,k = min 4 (t.takeWhile digitB).length → (∀ j0 j1 j3 j9 j10 j11 j12 j13 j14 j15 j16 j17 j18 j19 j20 j21 j22 j23 j24 j25 j26 j27 j28 j29 j30 j31 j32 j33 j34 j35 j36 j37 j38 j39 j40 j41 j42 j43 j44 j45 j46 j47 j48 j49 j50 j51 j52 j53 j54 j55 j56 j57 j58 j59 j60 j61 j62 j63 j64 j65 j66 j67 j68 j69 j70 j71 j72 j73 j74 j75 j76 j77 j78 j79 j80 j81 j82 j83 j84 j85 j86 j87 j88 j89 j90 j91 j92 j93 j94 j95 j96 j97 j98 j99 j100 j101 j102 j103 j104 j105 j106 j107 j108 j109 j110 j111 j112 j113 j114 j115 j116 j117 j118 j119 j120 j121 j122 j123 j124 j125 j126 j127 j128 j129 j130 j131 j132 j133 j134 j135 j136 j137 j138,K (.exit 2) ⟨[j0,j1,A,j3,B,.s t,C,.i .i64 (decFrom 0 (t.take k)),.i .i64 k,j9,j10,j11,j12,j13,j14,j15,j16,j17,j18,j19,j20,j21,j22,j23,j24,j25,j26,j27,j28,j29,j30,j31,j32,j33,j34,j35,j36,j37,j38,j39,j40,j41,j42,j43,j44,j45,j46,j47,j48,j49,j50,j51,j52,j53,j54,j55,j56,j57,j58,j59,j60,j61,j62,j63,j64,j65,j66,j67,j68,j69,j70,j71,j72,j73,j74,j75,j76,j77,j78,j79,j80,j81,j82,j83,j84,j85,j86,j87,j88,j89,j90,j91,j92,j93,j94,j95,j96,j97,j98,j99,j100,j101,j102,j103,j104,j105,j106,j107,j108,j109,j110,j111,j112,j113,j114,j115,j116,j117,j118,j119,j120,j121,j122,j123,j124,j125,j126,j127,j128,j129,j130,j131,j132,j133,j134,j135,j136,j137,j138],σ⟩)) →
  Rnd n Tryz.prog p171_1 K (m + 1) ⟨[.u,.u,A,.u,B,.s t,C,.i .i64 (decFrom 0 pre),.i .i64 pre.length,.u,.u,.u,.u,.u,.u,.u,.u,.u,.u,.u,.u,.u,.u,.u,.u,.u,.u,.u,.u,.u,.u,.u,.u,.u,.u,.u,.u,.u,.u,.u,.u,.u,.u,.u,.u,.u,.u,.u,.u,.u,.u,.u,.u,.u,.u,.u,.u,.u,.u,.u,.u,.u,.u,.u,.u,.u,.u,.u,.u,.u,.u,.u,.u,.u,.u,.u,.u,.u,.u,.u,.u,.u,.u,.u,.u,.u,.u,.u,.u,.u,.u,.u,.u,.u,.u,.u,.u,.u,.u,.u,.u,.u,.u,.u,.u,.u,.u,.u,.u,.u,.u,.u,.u,.u,.u,.u,.u,.u,.u,.u,.u,.u,.u,.u,.u,.u,.u,.u,.u,.u,.u,.u,.u,.u,.u,.u,.u,.u,.u],σ⟩ := by
 intro m
 induction m with
 | zero =>
  intro pre rest he hm hp h1
  subst he
  have e1 : decide ((pre.length : Int) < 4) = false := by simp; omega
  refine rnd_step fun R hR => ?_
  simp only [p171_1,e1,VV,pexec,binV,reduceIte,reduceCtorEq]
  have := h1 pre.length (by rw [tw_pre hp]; omega)
  rw [List.take_left] at this
  exact ⟨fun h => by simp at h,fun h => by simp at h,this ..⟩
 | succ m ih =>
  intro pre rest he hm hp h1
  subst he
  have e1 : decide ((pre.length : Int) < 4) = true := by simp; omega
  cases rest with
  | nil =>
   have e0 : decide ((pre.length : Int) < (pre.length : Int)) = false := by simp
   have h2 := h1 pre.length (by rw [tw_pre hp]; simp; omega)
   rw [List.take_left] at h2
   clear h1 ih
   simp only [List.append_nil] at h2 ⊢
   refine rnd_step fun R hR => ?_
   simp only [p171_1,e0,e1,VV,pexec,binV,reduceIte,reduceCtorEq]
   exact ⟨fun h => by simp at h,fun h => by simp at h,h2 ..⟩
  | cons c rest =>
   have e0 : decide ((pre.length : Int) < ((pre ++ c :: rest).length : Int)) = true := by simp; omega
   refine rnd_step fun R hR => ?_
   simp only [p171_1,e0,e1,VV,pexec,binV,reduceIte]
   have hb : (0 : Int) ≤ (pre.length : Int) ∧ (pre.length : Int) < ((pre ++ c :: rest).length : Int) := by simp; omega
   rw [dig_int]
   refine ⟨hb,fun _ => hb,fun hc => ⟨hb,?_⟩,fun hc => ?_⟩
   ·rw [dec_step hp (by omega) hc]
    refine hR _ (rnd_cvs ?_ (ih (pre ++ [c]) rest (by simp) (by simp; omega) (by
     intro x hx
     rcases List.mem_append.1 hx with hx | hx
     ·exact hp x hx
     ·simp only [List.mem_cons,List.not_mem_nil,or_false] at hx; subst hx; exact hc) h1))
    rw [wrap_succ (by omega)]
    simp only [List.length_append,List.length_cons,List.length_nil]
    repeat first | exact .nil | refine .cons (.refl _) ?_ | refine .cons (.forget _) ?_
   ·have := h1 pre.length (by rw [tw_pre hp,List.takeWhile_cons,if_neg (by rw [hc]; simp)]; simp; omega)
    rw [List.take_left] at this
    exact this ..
theorem idx_tw (c : UInt8) : ∀ l : List UInt8,Lib.indexByte l c = if (l.takeWhile fun x => x != c).length < l.length then ((l.takeWhile fun x => x != c).length : Int) else -1
 | [] => by simp [Lib.indexByte]
 | a :: l => by
  by_cases ha : a = c
  ·subst ha; simp [Lib.indexByte]
  ·have ha2 : (a == c) = false := by simpa using ha
   have ha3 : (a != c) = true := by simpa using ha
   have ih := idx_tw c l
   simp only [Lib.indexByte,ha2,Bool.false_eq_true,if_false,List.takeWhile_cons,ha3,if_true,List.length_cons]
   generalize (l.takeWhile fun x => x != c).length = tw at ih
   by_cases h : tw < l.length
   ·rw [if_pos h] at ih
    have e : ((tw : Int) == -1) = false := by rw [beq_eq_false_iff_ne]; omega
    rw [ih,if_pos (show tw + 1 < l.length + 1 by omega),e]; rfl
   ·rw [if_neg h] at ih
    rw [ih,if_neg (show ¬ tw + 1 < l.length + 1 by omega)]; rfl
theorem rread_rest (rest : List UInt8) : rread (60 :: rest) = if (rest.takeWhile fun x => x != 62).length < rest.length then
  (if (rtag (rest.take (rest.takeWhile fun x => x != 62).length)).2 = true then ((rtag (rest.take (rest.takeWhile fun x => x != 62).length)).1,((rest.takeWhile fun x => x != 62).length : Int) + 2) else (noIt,0)) else (noIt,0) := by
 have hi := idx_tw 62 (60 :: rest)
 simp only [List.takeWhile_cons,show ((60 : UInt8) != 62) = true from rfl,if_true,List.length_cons] at hi
 rw [rread_tag rfl]
 by_cases h : (rest.takeWhile fun x => x != 62).length < rest.length
 ·rw [if_pos (by omega)] at hi
  rw [hi,if_pos h,if_neg (by omega)]
  have e : ((60 :: rest).take (((rest.takeWhile fun x => x != 62).length + 1 : Nat) : Int).toNat).drop 1 = rest.take (rest.takeWhile fun x => x != 62).length := by
   rw [Int.toNat_natCast,List.take_succ_cons]; rfl
  rw [e]
  congr 2
 ·rw [if_neg (by omega)] at hi
  rw [hi,if_neg h,if_pos (by decide)]
theorem u47 (a : UInt8) : ((a.toNat : Int) == 47) = (a == 47) := by revert a; exact u8_all (by decide +kernel)
theorem u48 (a : UInt8) : ((a.toNat : Int) == 48) = (a == 48) := by revert a; exact u8_all (by decide +kernel)
theorem u58 (a : UInt8) : ((a.toNat : Int) != 58) = (a != 58) := by revert a; exact u8_all (by decide +kernel)
theorem pre47 {t : List UInt8} (h : t ≠ []) : hasPrefix t [47] = (((t.getD 0 0).toNat : Int) == 47) := by
 cases t with
 | nil => exact absurd rfl h
 | cons a t => rw [u47]; simp [hasPrefix]
theorem suf47 {t : List UInt8} (h : t ≠ []) : hasSuffix t [47] = (((t.getD (t.length - 1) 0).toNat : Int) == 47) := by
 rcases List.eq_nil_or_concat t with ht | ⟨t',a,ht⟩
 ·exact absurd ht h
 ·rw [List.concat_eq_append] at ht
  subst ht
  rw [u47,hasSuffix_snoc]
  simp [List.getD_eq_getElem?_getD]
set_option maxRecDepth 8000 in
theorem r3readTag_pc (s : List UInt8) (h0 : s.getD 0 0 = 60) (hlen : s.length < 2 ^ 62) (σ : Store) : PC Tryz.prog 171 [.s s] σ (fun r σ' => r = .tup [.agg (rread s).1.cells,.i .i64 (rread s).2] ∧ σ' = σ) := by
 obtain ⟨rest,rfl⟩ : ∃ rest,s = 60 :: rest := by
  cases s with
  | nil => simp at h0
  | cons a r => simp only [List.getD_cons_zero] at h0; exact ⟨r,by rw [h0]⟩
 refine PC.intro Tryz.func171 c171 fun hcl hwf => ?_
 simp only [p171,List.length_cons,List.length_nil,List.replicate,List.cons_append,List.nil_append,Nat.reduceAdd,Nat.reduceSub]
 refine PWc.cut fun R hR => ?_
 simp only [VV,pexec,xexec]
 refine hR _ (PWc.cvs (fr' := [.s (60 :: rest),.u,.ptr σ.length 0,.u,.u,.u,.u,.u,.u,.u,.u,.u,.u,.u,.u,.u,.u,.u,.u,.u,.u,.u,.u,.u,.u,.u,.u,.u,.u,.u,.u,.u,.u,.u,.u,.u,.u,.u,.u,.u,.u,.u,.u,.u,.u,.u,.u,.u,.u,.u,.u,.u,.u,.u,.u,.u,.u,.u,.u,.u,.u,.u,.u,.u,.u,.u,.u,.u,.u,.u,.u,.u,.u,.u,.u,.u,.u,.u,.u,.u,.u,.u,.u,.u,.u,.u,.u,.u,.u,.u,.u,.u,.u,.u,.u,.u,.u,.u,.u,.u,.u,.u,.u,.u,.u,.u,.u,.u,.u,.u,.u,.u,.u,.u,.u,.u,.u,.u,.u,.u,.u,.u,.u,.u,.u,.u,.u,.u,.u,.u,.u,.u,.u,.u,.u,.u,.u,.u,.u]) ?_ (by repeat first | exact .nil | refine .cons (.refl _) ?_ | refine .cons (.forget _) ?_))
 clear hR R
 refine PWc.cut fun R hR => ?_
 simp only [VV,pexec]
 refine hR _ (PWc.cvs (fr' := [.s (60 :: rest),.u,.ptr σ.length 0,.u,.i .i64 ((1 : Nat) : Int),.u,.u,.u,.u,.u,.u,.u,.u,.u,.u,.u,.u,.u,.u,.u,.u,.u,.u,.u,.u,.u,.u,.u,.u,.u,.u,.u,.u,.u,.u,.u,.u,.u,.u,.u,.u,.u,.u,.u,.u,.u,.u,.u,.u,.u,.u,.u,.u,.u,.u,.u,.u,.u,.u,.u,.u,.u,.u,.u,.u,.u,.u,.u,.u,.u,.u,.u,.u,.u,.u,.u,.u,.u,.u,.u,.u,.u,.u,.u,.u,.u,.u,.u,.u,.u,.u,.u,.u,.u,.u,.u,.u,.u,.u,.u,.u,.u,.u,.u,.u,.u,.u,.u,.u,.u,.u,.u,.u,.u,.u,.u,.u,.u,.u,.u,.u,.u,.u,.u,.u,.u,.u,.u,.u,.u,.u,.u,.u,.u,.u,.u,.u,.u,.u]) ?_ (by repeat first | exact .nil | refine .cons (.refl _) ?_ | refine .cons (.forget _) ?_))
 clear hR R
 refine PWc.cut fun R hR => ?_
 simp only [VV]
 have hr := rread_rest rest
 refine PWc.rnd_cvs ?_ (rest.length + 1) (loop171_0 (.ptr σ.length 0) (60 :: rest) hlen rest [60] rfl ?_)
 ·simp only [List.length_cons,List.length_nil]
  repeat first | exact .nil | refine .cons (.refl _) ?_ | refine .cons (.forget _) ?_
 generalize he : (rest.takeWhile fun x => x != 62).length = e at hr
 have hle : e ≤ rest.length := by rw [← he]; exact (List.takeWhile_prefix _).length_le
 intros
 simp only [List.length_cons,List.length_nil,Nat.zero_add,VV]
 refine hR _ (PWc.cvs (fr' := [.s (60 :: rest),.u,.ptr σ.length 0,.u,.i .i64 ((1 + e : Nat) : Int),.u,.u,.u,.u,.u,.u,.u,.u,.u,.u,.u,.u,.u,.u,.u,.u,.u,.u,.u,.u,.u,.u,.u,.u,.u,.u,.u,.u,.u,.u,.u,.u,.u,.u,.u,.u,.u,.u,.u,.u,.u,.u,.u,.u,.u,.u,.u,.u,.u,.u,.u,.u,.u,.u,.u,.u,.u,.u,.u,.u,.u,.u,.u,.u,.u,.u,.u,.u,.u,.u,.u,.u,.u,.u,.u,.u,.u,.u,.u,.u,.u,.u,.u,.u,.u,.u,.u,.u,.u,.u,.u,.u,.u,.u,.u,.u,.u,.u,.u,.u,.u,.u,.u,.u,.u,.u,.u,.u,.u,.u,.u,.u,.u,.u,.u,.u,.u,.u,.u,.u,.u,.u,.u,.u,.u,.u,.u,.u,.u,.u,.u,.u,.u,.u]) ?_ (by repeat first | exact .nil | refine .cons (.refl _) ?_ | refine .cons (.forget _) ?_))
 clear hR R
 refine PWc.cut fun R hR => ?_
 simp only [List.length_cons,VV,pexec,xexec,binV,Nat.reduceAdd,reduceIte]
 refine ⟨fun h => ?_,fun h => ?_⟩
 ·have h : ¬ e < rest.length := by simp at h; omega
  rw [if_neg h] at hr
  refine ret_end hcl (.inr rfl) (by simp only [resVs,resV,W]; rfl) (by simp only [LW]) ⟨?_,rfl⟩
  rw [hr]; rfl
 have h : e < rest.length := by simp at h; omega
 rw [if_pos h] at hr
 refine hR _ (PWc.cvs (fr' := [.s (60 :: rest),.u,.ptr σ.length 0,.u,.i .i64 ((1 + e : Nat) : Int),.u,.u,.u,.u,.u,.u,.u,.u,.u,.u,.u,.u,.u,.u,.u,.u,.u,.u,.u,.u,.u,.u,.u,.u,.u,.u,.u,.u,.u,.u,.u,.u,.u,.u,.u,.u,.u,.u,.u,.u,.u,.u,.u,.u,.u,.u,.u,.u,.u,.u,.u,.u,.u,.u,.u,.u,.u,.u,.u,.u,.u,.u,.u,.u,.u,.u,.u,.u,.u,.u,.u,.u,.u,.u,.u,.u,.u,.u,.u,.u,.u,.u,.u,.u,.u,.u,.u,.u,.u,.u,.u,.u,.u,.u,.u,.u,.u,.u,.u,.u,.u,.u,.u,.u,.u,.u,.u,.u,.u,.u,.u,.u,.u,.u,.u,.u,.u,.u,.u,.u,.u,.u,.u,.u,.u,.u,.u,.u,.u,.u,.u,.u,.u,.u]) ?_ (by repeat first | exact .nil | refine .cons (.refl _) ?_ | refine .cons (.forget _) ?_))
 clear hR R
 generalize ht : rest.take e = t at hr
 have htl : t.length < 2 ^ 62 := by rw [← ht,List.length_take]; simp at hlen; omega
 refine PWc.cut fun R hR => ?_
 simp only [List.length_cons,VV,pexec,Int.reduceToNat]
 refine ⟨by omega,?_⟩
 have e1 : List.take (1 + e - 1) rest = t := by rw [← ht]; congr 1; omega
 rw [e1]
 refine hR _ (PWc.cvs (fr' := [.u,.u,.ptr σ.length 0,.u,.i .i64 ((1 + e : Nat) : Int),.s t,.i .i64 2,.u,.u,.u,.u,.u,.u,.u,.u,.u,.u,.u,.u,.u,.u,.u,.u,.u,.u,.u,.u,.u,.u,.u,.u,.u,.u,.u,.u,.u,.u,.u,.u,.u,.u,.u,.u,.u,.u,.u,.u,.u,.u,.u,.u,.u,.u,.u,.u,.u,.u,.u,.u,.u,.u,.u,.u,.u,.u,.u,.u,.u,.u,.u,.u,.u,.u,.u,.u,.u,.u,.u,.u,.u,.u,.u,.u,.u,.u,.u,.u,.u,.u,.u,.u,.u,.u,.u,.u,.u,.u,.u,.u,.u,.u,.u,.u,.u,.u,.u,.u,.u,.u,.u,.u,.u,.u,.u,.u,.u,.u,.u,.u,.u,.u,.u,.u,.u,.u,.u,.u,.u,.u,.u,.u,.u,.u,.u,.u,.u,.u,.u,.u]) ?_ (by repeat first | exact .nil | refine .cons (.refl _) ?_ | refine .cons (.forget _) ?_))
 clear hR R
 refine PWc.cut fun R hR => ?_
 have tail : ∀ (kind : Int) (u : List UInt8),u.length < 2 ^ 62 → rread (60 :: rest) = (if (rbody kind u).2 = true then ((rbody kind u).1,(e : Int) + 2) else (noIt,0)) → (kind = 2 ∨ kind = 3 ∨ kind = 4) →
   ∀ {fr : List V},Cvs fr [.u,.u,.ptr σ.length 0,.u,.i .i64 ((1 + e : Nat) : Int),.s u,.i .i64 kind,.u,.u,.u,.u,.u,.u,.u,.u,.u,.u,.u,.u,.u,.u,.u,.u,.u,.u,.u,.u,.u,.u,.u,.u,.u,.u,.u,.u,.u,.u,.u,.u,.u,.u,.u,.u,.u,.u,.u,.u,.u,.u,.u,.u,.u,.u,.u,.u,.u,.u,.u,.u,.u,.u,.u,.u,.u,.u,.u,.u,.u,.u,.u,.u,.u,.u,.u,.u,.u,.u,.u,.u,.u,.u,.u,.u,.u,.u,.u,.u,.u,.u,.u,.u,.u,.u,.u,.u,.u,.u,.u,.u,.u,.u,.u,.u,.u,.u,.u,.u,.u,.u,.u,.u,.u,.u,.u,.u,.u,.u,.u,.u,.u,.u,.u,.u,.u,.u,.u,.u,.u,.u,.u,.u,.u,.u,.u,.u,.u,.u,.u,.u] → R ⟨fr,σ ++ [.box 23 [.i .i64 0,.s [],.i .i64 0]]⟩ := by
  intro kind u hu hru hkind fr hc
  refine hR _ (PWc.cvs ?_ hc)
  clear hR R
  refine PWc.cut fun R hR => ?_
  simp only [VV,pexec]
  refine hR _ (PWc.cvs (fr' := [.u,.u,.ptr σ.length 0,.u,.i .i64 ((1 + e : Nat) : Int),.s u,.i .i64 kind,.i .i64 (decFrom 0 []),.i .i64 (([] : List UInt8).length : Nat),.u,.u,.u,.u,.u,.u,.u,.u,.u,.u,.u,.u,.u,.u,.u,.u,.u,.u,.u,.u,.u,.u,.u,.u,.u,.u,.u,.u,.u,.u,.u,.u,.u,.u,.u,.u,.u,.u,.u,.u,.u,.u,.u,.u,.u,.u,.u,.u,.u,.u,.u,.u,.u,.u,.u,.u,.u,.u,.u,.u,.u,.u,.u,.u,.u,.u,.u,.u,.u,.u,.u,.u,.u,.u,.u,.u,.u,.u,.u,.u,.u,.u,.u,.u,.u,.u,.u,.u,.u,.u,.u,.u,.u,.u,.u,.u,.u,.u,.u,.u,.u,.u,.u,.u,.u,.u,.u,.u,.u,.u,.u,.u,.u,.u,.u,.u,.u,.u,.u,.u,.u,.u,.u,.u,.u,.u,.u,.u,.u,.u]) ?_ (by repeat first | exact .nil | refine .cons (.refl _) ?_ | refine .cons (.forget _) ?_))
  clear hR R
  refine PWc.cut fun R hR => ?_
  simp only [VV]
  refine PWc.rnd_cvs ?_ 5 (loop171_1 (.ptr σ.length 0) (.i .i64 ((1 + e : Nat) : Int)) (.i .i64 kind) u hu 4 [] u rfl rfl (by simp) ?_)
  ·repeat first | exact .nil | refine .cons (.refl _) ?_ | refine .cons (.forget _) ?_
  intro k hk
  intros
  simp only [VV]
  refine hR _ (PWc.cvs (fr' := [.u,.u,.ptr σ.length 0,.u,.i .i64 ((1 + e : Nat) : Int),.s u,.i .i64 kind,.i .i64 (decFrom 0 (u.take k)),.i .i64 k,.u,.u,.u,.u,.u,.u,.u,.u,.u,.u,.u,.u,.u,.u,.u,.u,.u,.u,.u,.u,.u,.u,.u,.u,.u,.u,.u,.u,.u,.u,.u,.u,.u,.u,.u,.u,.u,.u,.u,.u,.u,.u,.u,.u,.u,.u,.u,.u,.u,.u,.u,.u,.u,.u,.u,.u,.u,.u,.u,.u,.u,.u,.u,.u,.u,.u,.u,.u,.u,.u,.u,.u,.u,.u,.u,.u,.u,.u,.u,.u,.u,.u,.u,.u,.u,.u,.u,.u,.u,.u,.u,.u,.u,.u,.u,.u,.u,.u,.u,.u,.u,.u,.u,.u,.u,.u,.u,.u,.u,.u,.u,.u,.u,.u,.u,.u,.u,.u,.u,.u,.u,.u,.u,.u,.u,.u,.u,.u,.u,.u]) ?_ (by repeat first | exact .nil | refine .cons (.refl _) ?_ | refine .cons (.forget _) ?_))
  clear hR R
  have hrb : rbody kind u = if k = 0 ∨ u.length ≤ k ∨ u.getD 0 0 = 48 ∨ 999 < decFrom 0 (u.take k) ∨ u.getD k 0 ≠ 58 then (noIt,false) else
    if (kind = 3 ∧ isName (u.drop (k + 1)) = false) ∨ (kind ≠ 3 ∧ isContent (u.drop (k + 1)) = false) then (noIt,false) else (⟨kind,u.drop (k + 1),decFrom 0 (u.take k)⟩,true) := by rw [hk]; rfl
  refine PWc.cut fun R hR => ?_
  simp only [Int.toNat_natCast,VV,pexec,xexec,binV,Nat.reduceAdd,Int.reduceToNat,reduceIte]
  have hC : (((((k : Int) == 0 || decide ((u.length : Int) ≤ (k : Int))) || ((u.getD 0 0).toNat : Int) == 48) || decide (999 < decFrom 0 (u.take k))) || ((u.getD k 0).toNat : Int) != 58) = decide (k = 0 ∨ u.length ≤ k ∨ u.getD 0 0 = 48 ∨ 999 < decFrom 0 (u.take k) ∨ u.getD k 0 ≠ 58) := by
   rw [u48,u58,Bool.eq_iff_iff]; simp [or_assoc]
  rw [hC]
  refine ⟨fun h => by simp at h; omega,fun h => by simp at h; omega,fun h => ?_,fun h => ?_⟩
  ·rw [if_pos (by simpa using h)] at hrb
   refine ret_end hcl (.inr rfl) (by simp only [resVs,resV,W]; rfl) (by simp only [LW]) ⟨?_,rfl⟩
   rw [hru,hrb]; rfl
  have h := of_decide_eq_false h
  rw [if_neg h] at hrb
  simp only [not_or] at h
  refine hR _ (PWc.cvs (fr' := [.u,.u,.ptr σ.length 0,.u,.i .i64 ((1 + e : Nat) : Int),.s u,.i .i64 kind,.i .i64 (decFrom 0 (u.take k)),.i .i64 k,.u,.u,.u,.u,.u,.u,.u,.u,.u,.u,.u,.u,.u,.u,.u,.u,.u,.u,.u,.u,.u,.u,.u,.u,.u,.u,.u,.u,.u,.u,.u,.u,.u,.u,.u,.u,.u,.u,.u,.u,.u,.u,.u,.u,.u,.u,.u,.u,.u,.u,.u,.u,.u,.u,.u,.u,.u,.u,.u,.u,.u,.u,.u,.u,.u,.u,.u,.u,.u,.u,.u,.u,.u,.u,.u,.u,.u,.u,.u,.u,.u,.u,.u,.u,.u,.u,.u,.u,.u,.u,.u,.u,.u,.u,.u,.u,.u,.u,.u,.u,.u,.u,.u,.u,.u,.u,.u,.u,.u,.u,.u,.u,.u,.u,.u,.u,.u,.u,.u,.u,.u,.u,.u,.u,.u,.u,.u,.u,.u,.u]) ?_ (by repeat first | exact .nil | refine .cons (.refl _) ?_ | refine .cons (.forget _) ?_))
  clear hR R
  have hk1 : IntKind.i64.wrap ((k : Int) + 1) = ((k + 1 : Nat) : Int) := by rw [IntWalk.i64_in _ (by omega)]; omega
  refine PWc.cut fun R hR => ?_
  simp only [hk1,Int.toNat_natCast,VV,pexec,xexec,binV,Nat.reduceAdd,Nat.reduceLeDiff,reduceIte]
  have htk : List.take (u.length - (k + 1)) (List.drop (k + 1) u) = u.drop (k + 1) := List.take_of_length_le (by simp)
  rw [htk]
  refine ⟨by omega,?_⟩
  refine hR _ (PWc.cvs (fr' := [.u,.u,.ptr σ.length 0,.u,.i .i64 ((1 + e : Nat) : Int),.u,.i .i64 kind,.u,.u,.ptr (σ.length + 1) 0,.u,.u,.u,.u,.u,.u,.u,.u,.u,.u,.u,.u,.u,.u,.u,.u,.u,.u,.u,.u,.u,.u,.u,.u,.u,.u,.u,.u,.u,.u,.u,.u,.u,.u,.u,.u,.u,.u,.u,.u,.u,.u,.u,.u,.u,.u,.u,.u,.u,.u,.u,.u,.u,.u,.u,.u,.u,.u,.u,.u,.u,.u,.u,.u,.u,.u,.u,.u,.u,.u,.u,.u,.u,.u,.u,.u,.u,.u,.u,.u,.u,.u,.u,.u,.u,.u,.u,.u,.u,.u,.u,.u,.u,.u,.u,.u,.u,.u,.u,.u,.u,.u,.u,.u,.u,.u,.u,.u,.u,.u,.u,.u,.u,.u,.u,.u,.u,.u,.u,.u,.u,.u,.u,.u,.u,.u,.u,.u,.u]) ?_ (by repeat first | exact .nil | refine .cons (.refl _) ?_ | refine .cons (.forget _) ?_))
  clear hR R
  have he2 : IntKind.i64.wrap (((1 + e : Nat) : Int) + 1) = (e : Int) + 2 := by rw [IntWalk.i64_in _ (by simp at hlen; omega)]; omega
  refine PWc.cut fun R hR => ?_
  have fin : ∀ {fr : List V},rread (60 :: rest) = (⟨kind,u.drop (k + 1),decFrom 0 (u.take k)⟩,(e : Int) + 2) → Cvs fr [.u,.u,.ptr σ.length 0,.u,.i .i64 ((1 + e : Nat) : Int),.u,.u,.u,.u,.ptr (σ.length + 1) 0,.u,.u,.u,.u,.u,.u,.u,.u,.u,.u,.u,.u,.u,.u,.u,.u,.u,.u,.u,.u,.u,.u,.u,.u,.u,.u,.u,.u,.u,.u,.u,.u,.u,.u,.u,.u,.u,.u,.u,.u,.u,.u,.u,.u,.u,.u,.u,.u,.u,.u,.u,.u,.u,.u,.u,.u,.u,.u,.u,.u,.u,.u,.u,.u,.u,.u,.u,.u,.u,.u,.u,.u,.u,.u,.u,.u,.u,.u,.u,.u,.u,.u,.u,.u,.u,.u,.u,.u,.u,.u,.u,.u,.u,.u,.u,.u,.u,.u,.u,.u,.u,.u,.u,.u,.u,.u,.u,.u,.u,.u,.u,.u,.u,.u,.u,.u,.u,.u,.u,.u,.u,.u,.u,.u,.u,.u,.u,.u,.u] →
    R ⟨fr,σ ++ [.box 23 [.i .i64 0,.s [],.i .i64 0],.box 23 [.i .i64 kind,.s (u.drop (k + 1)),.i .i64 (decFrom 0 (u.take k))]]⟩ := by
   intro fr hg hc
   refine hR _ (PWc.cvs ?_ hc)
   clear hR R
   refine wpc_sound ?_
   simp only [he2,VV,pexec,xexec,binV,Nat.reduceAdd,reduceIte]
   refine ret_end hcl (.inr rfl) (by simp only [resVs,resV,W]; rfl) (by simp only [LW]) ⟨?_,rfl⟩
   rw [hg]; rfl
  by_cases k3 : kind = 3
  ·subst k3
   simp only [VV,pexec,binV,reduceIte]
   refine callg_eq (by simp only [VV] <;> rfl) (fun _ => r1IsName_pc _ _) rfl ?_
   simp only [VV,Int.reduceBNe,pexec,binV,reduceIte]
   refine callg_eq (c := false) (v := .b false) (by simp only [VV] <;> simp) (fun h => by simp at h) rfl ?_
   simp only [VV,pexec,xexec,Nat.reduceAdd]
   refine ⟨fun h2 => ?_,fun h2 => ?_⟩
   ·have h2 : isName (u.drop (k + 1)) = false := by rw [Bool.not_eq_true'] at h2; exact h2
    rw [if_pos (.inl ⟨rfl,h2⟩)] at hrb
    refine ret_end hcl (.inr rfl) (by simp only [resVs,resV,W]; rfl) (by simp only [LW]) ⟨?_,rfl⟩
    rw [hru,hrb]; rfl
   ·have h2 : isName (u.drop (k + 1)) = true := by rw [Bool.not_eq_false'] at h2; exact h2
    rw [if_neg (by simp only [h2]; simp)] at hrb
    exact fin (by rw [hru,hrb]; rfl) (by repeat first | exact .nil | refine .cons (.refl _) ?_ | refine .cons (.forget _) ?_)
  ·have n3 : (kind == 3) = false := by simpa using k3
   have n3' : (kind != 3) = true := by simpa using k3
   simp only [n3,VV,pexec,binV,reduceIte]
   refine callg_eq (c := false) (v := .b false) (by simp only [VV] <;> rfl) (fun h => by simp at h) rfl ?_
   simp only [n3',VV,pexec,binV,reduceIte]
   refine callg_eq (by simp only [VV] <;> rfl) (fun _ => r3IsContent_pc _ _) rfl ?_
   simp only [VV,pexec,xexec,Nat.reduceAdd]
   refine ⟨fun h2 => ?_,fun h2 => ?_⟩
   ·have h2 : isContent (u.drop (k + 1)) = false := by rw [Bool.not_eq_true'] at h2; exact h2
    rw [if_pos (.inr ⟨k3,h2⟩)] at hrb
    refine ret_end hcl (.inr rfl) (by simp only [resVs,resV,W]; rfl) (by simp only [LW]) ⟨?_,rfl⟩
    rw [hru,hrb]; rfl
   ·have h2 : isContent (u.drop (k + 1)) = true := by rw [Bool.not_eq_false'] at h2; exact h2
    rw [if_neg (by simp only [h2,k3]; simp)] at hrb
    exact fin (by rw [hru,hrb]; rfl) (by repeat first | exact .nil | refine .cons (.refl _) ?_ | refine .cons (.forget _) ?_)
 simp only [VV,pexec,binV,Int.reduceToNat,reduceIte]
 have hput : t.length ≤ rest.length := by rw [← ht,List.length_take]; omega
 by_cases htn : t = []
 ·subst htn
  refine ⟨fun h => by simp at h,fun h => by simp at h,fun _ => ⟨fun h => by simp at h,fun h => by simp at h,fun _ => tail 2 [] (by simp) ?_ (.inl rfl) ?_⟩⟩
  ·exact hr
  ·repeat first | exact .nil | refine .cons (.refl _) ?_ | refine .cons (.forget _) ?_
 have hpos : 0 < t.length := List.length_pos_iff.2 htn
 have hw : IntKind.i64.wrap ((t.length : Int) - 1) = ((t.length - 1 : Nat) : Int) := by rw [IntWalk.i64_in _ (by omega)]; omega
 have hd : decide ((0 : Int) < (t.length : Int)) = true := by simp; omega
 have hdr : List.take (t.length - 1) (List.drop 1 t) = t.drop 1 := List.take_of_length_le (by simp)
 simp only [hw,hd,hdr,Int.toNat_natCast,Bool.true_and,← pre47 htn,← suf47 htn]
 refine ⟨fun _ => by omega,fun h => ⟨by omega,tail 3 (t.drop 1) (by simp; omega) ?_ (.inr (.inl rfl)) ?_⟩,fun h => ⟨fun _ => by omega,fun h2 => ⟨by omega,tail 4 (t.take (t.length - 1)) (by simp; omega) ?_ (.inr (.inr rfl)) ?_⟩,fun h2 => tail 2 t htl ?_ (.inl rfl) ?_⟩⟩
 ·rw [hr]; simp only [rtag,h,if_true]
 ·repeat first | exact .nil | refine .cons (.refl _) ?_ | refine .cons (.forget _) ?_
 ·rw [hr]; simp only [rtag,h,h2,Bool.false_eq_true,if_false,if_true]
 ·repeat first | exact .nil | refine .cons (.refl _) ?_ | refine .cons (.forget _) ?_
 ·rw [hr]; simp only [rtag,h,h2,Bool.false_eq_true,if_false]
 ·repeat first | exact .nil | refine .cons (.refl _) ?_ | refine .cons (.forget _) ?_
def slotAt (s : List UInt8) (k : Nat) : Prop := s.getD k 0 = 125 ∧ isName ((s.take k).drop 1) = true
theorem u125 (a : UInt8) : ((a.toNat : Int) == 125) = (a == 125) := by revert a; exact u8_all (by decide +kernel)
theorem loop141_0 {σ : Store} {K : Exit → St → Prop} (s : List UInt8) (hlen : s.length < 2 ^ 62) : ∀ (m k : Nat),k + m = 26 → 1 ≤ k → (∀ j,1 ≤ j → j < k → j < s.length → ¬ slotAt s j) →
  ((∀ j,1 ≤ j → j < s.length → j ≤ 25 → ¬ slotAt s j) → (∀ j0 j1 j3 j4 j5 j6 j7 j8 j9 j10 j11 j12 j13 j14 j15 j16 j17 j18 j19 j20 j21 j22 j23 j24 j25 j26 j27 j28 j29 j30 j31 j32 j33 j34 j35 j36 j37 j38 j39 j40 j41 j42 j43 j44 j45 j46 j47 j48 j49 j50 j51 j52 j53 j54 j55 j56 j57 j58 j59 j60 j61 j62 j63 j64 j65 j66 j67 j68 j69 j70 j71 j72 j73,K (.exit 1) ⟨[j0,j1,.ptr σ.length 0,j3,j4,j5,j6,j7,j8,j9,j10,j11,j12,j13,j14,j15,j16,j17,j18,j19,j20,j21,j22,j23,j24,j25,j26,j27,j28,j29,j30,j31,j32,j33,j34,j35,j36,j37,j38,j39,j40,j41,j42,j43,j44,j45,j46,j47,j48,j49,j50,j51,j52,j53,j54,j55,j56,j57,j58,j59,j60,j61,j62,j63,j64,j65,j66,j67,j68,j69,j70,j71,j72,j73],σ ++ [.box 23 [.i .i64 0,.s [],.i .i64 0]]⟩)) →
  (∀ k : Nat,1 ≤ k → k < s.length → slotAt s k → (∀ j0 j1 j4 j5 j6 j7 j8 j9 j10 j11 j12 j13 j14 j15 j16 j17 j18 j19 j20 j21 j22 j23 j24 j25 j26 j27 j28 j29 j30 j31 j32 j33 j34 j35 j36 j37 j38 j39 j40 j41 j42 j43 j44 j45 j46 j47 j48 j49 j50 j51 j52 j53 j54 j55 j56 j57 j58 j59 j60 j61 j62 j63 j64 j65 j66 j67 j68 j69 j70 j71 j72 j73,K .ret ⟨[j0,j1,.ptr σ.length 0,.i .i64 ((k + 1 : Nat) : Int),j4,j5,j6,j7,j8,j9,j10,j11,j12,j13,j14,j15,j16,j17,j18,j19,j20,j21,j22,j23,j24,j25,j26,j27,j28,j29,j30,j31,j32,j33,j34,j35,j36,j37,j38,j39,j40,j41,j42,j43,j44,j45,j46,j47,j48,j49,j50,j51,j52,j53,j54,j55,j56,j57,j58,j59,j60,j61,j62,j63,j64,j65,j66,j67,j68,j69,j70,j71,j72,j73],σ ++ [.box 23 [.i .i64 5,.s ((s.take k).drop 1),.i .i64 0]]⟩)) →
  Rnd σ.length Tryz.prog p141_0 K (m + 1) ⟨[.s s,.u,.ptr σ.length 0,.u,.i .i64 k,.u,.u,.u,.u,.u,.u,.u,.u,.u,.u,.u,.u,.u,.u,.u,.u,.u,.u,.u,.u,.u,.u,.u,.u,.u,.u,.u,.u,.u,.u,.u,.u,.u,.u,.u,.u,.u,.u,.u,.u,.u,.u,.u,.u,.u,.u,.u,.u,.u,.u,.u,.u,.u,.u,.u,.u,.u,.u,.u,.u,.u,.u,.u,.u,.u,.u,.u,.u,.u],σ ++ [.box 23 [.i .i64 0,.s [],.i .i64 0]]⟩ := by
 intro m
 induction m with
 | zero =>
  intro k hk hk1 hno h1 h2
  have e1 : decide ((k : Int) ≤ 25) = false := by simp; omega
  refine rnd_step fun R hR => ?_
  simp only [p141_0,e1,Bool.and_false,VV,pexec,binV,Int.reduceToNat,reduceIte,reduceCtorEq]
  exact h1 (fun j j1 j2 j3 => hno j j1 (by omega) j2) ..
 | succ m ih =>
  intro k hk hk1 hno h1 h2
  have e1 : decide ((k : Int) ≤ 25) = true := by simp; omega
  have hw : IntKind.i64.wrap ((k : Int) + 1) = ((k + 1 : Nat) : Int) := by rw [IntWalk.i64_in _ (by omega)]; omega
  by_cases hks : k < s.length
  ·have e0 : decide ((k : Int) < (s.length : Int)) = true := by simp; omega
   refine rnd_step fun R hR => ?_
   have hdt : List.take (k - 1) (List.drop 1 s) = (s.take k).drop 1 := by rw [List.drop_take]
   simp only [p141_0,e0,e1,Int.toNat_natCast,hdt,VV,pexec,binV,Int.reduceToNat,reduceIte,reduceCtorEq]
   refine ⟨by omega,fun _ => by omega,callg_eq (by simp only [VV] <;> rfl) (fun _ => r1IsName_pc _ _) rfl ?_⟩
   simp only [hw,hdt,u125,Int.toNat_natCast,VV,pexec,xexec,binV,Nat.reduceAdd,Nat.reduceLeDiff,Int.reduceToNat,reduceIte]
   refine ⟨fun h => ⟨by omega,?_⟩,fun h => ?_⟩
   ·exact h2 k hk1 hks (by simpa [slotAt] using h) ..
   ·refine hR _ (rnd_cvs ?_ (ih (k + 1) (by omega) (by omega) (fun j j1 j2 j3 => ?_) h1 h2))
    ·repeat first | exact .nil | refine .cons (.refl _) ?_ | refine .cons (.forget _) ?_
    ·by_cases hj : j = k
     ·subst hj
      intro hs
      rw [hs.1,hs.2] at h
      simp at h
     ·exact hno j j1 (by omega) j3
  ·have e0 : decide ((k : Int) < (s.length : Int)) = false := by simp; omega
   refine rnd_step fun R hR => ?_
   simp only [p141_0,e0,e1,Int.toNat_natCast,VV,pexec,binV,Int.reduceToNat,reduceIte,reduceCtorEq]
   exact h1 (fun j j1 j2 j3 => hno j j1 (by omega) j2) ..
theorem loop141_1 {σ : Store} {K : Exit → St → Prop} (s : List UInt8) (hlen : s.length < 2 ^ 62) : ∀ (m c : Nat),c + m = 256 → (∀ j,j < c → hasPrefix s (writB (UInt8.ofNat j)) = false) →
  ((∀ j,j < 256 → hasPrefix s (writB (UInt8.ofNat j)) = false) → (∀ j0 j1 j3 j4 j5 j6 j7 j8 j9 j10 j11 j12 j13 j14 j15 j16 j17 j18 j19 j20 j21 j22 j23 j24 j25 j26 j27 j28 j29 j30 j31 j32 j33 j34 j35 j36 j37 j38 j39 j40 j41 j42 j43 j44 j45 j46 j47 j48 j49 j50 j51 j52 j53 j54 j55 j56 j57 j58 j59 j60 j61 j62 j63 j64 j65 j66 j67 j68 j69 j70 j71 j72 j73,K (.exit 3) ⟨[j0,j1,.ptr σ.length 0,j3,j4,j5,j6,j7,j8,j9,j10,j11,j12,j13,j14,j15,j16,j17,j18,j19,j20,j21,j22,j23,j24,j25,j26,j27,j28,j29,j30,j31,j32,j33,j34,j35,j36,j37,j38,j39,j40,j41,j42,j43,j44,j45,j46,j47,j48,j49,j50,j51,j52,j53,j54,j55,j56,j57,j58,j59,j60,j61,j62,j63,j64,j65,j66,j67,j68,j69,j70,j71,j72,j73],σ ++ [.box 23 [.i .i64 0,.s [],.i .i64 0]]⟩)) →
  (∀ b : UInt8,hasPrefix s (writB b) = true → (∀ j0 j1 j4 j5 j6 j7 j8 j9 j10 j11 j12 j13 j14 j15 j16 j17 j18 j19 j20 j21 j22 j23 j24 j25 j26 j27 j28 j29 j30 j31 j32 j33 j34 j35 j36 j37 j38 j39 j40 j41 j42 j43 j44 j45 j46 j47 j48 j49 j50 j51 j52 j53 j54 j55 j56 j57 j58 j59 j60 j61 j62 j63 j64 j65 j66 j67 j68 j69 j70 j71 j72 j73,K .ret ⟨[j0,j1,.ptr σ.length 0,.i .i64 (writB b).length,j4,j5,j6,j7,j8,j9,j10,j11,j12,j13,j14,j15,j16,j17,j18,j19,j20,j21,j22,j23,j24,j25,j26,j27,j28,j29,j30,j31,j32,j33,j34,j35,j36,j37,j38,j39,j40,j41,j42,j43,j44,j45,j46,j47,j48,j49,j50,j51,j52,j53,j54,j55,j56,j57,j58,j59,j60,j61,j62,j63,j64,j65,j66,j67,j68,j69,j70,j71,j72,j73],σ ++ [.box 23 [.i .i64 1,.s [b],.i .i64 0]]⟩)) →
  Rnd σ.length Tryz.prog p141_1 K (m + 1) ⟨[.s s,.u,.ptr σ.length 0,.u,.u,.i .i64 c,.u,.u,.u,.u,.u,.u,.u,.u,.u,.u,.u,.u,.u,.u,.u,.u,.u,.u,.u,.u,.u,.u,.u,.u,.u,.u,.u,.u,.u,.u,.u,.u,.u,.u,.u,.u,.u,.u,.u,.u,.u,.u,.u,.u,.u,.u,.u,.u,.u,.u,.u,.u,.u,.u,.u,.u,.u,.u,.u,.u,.u,.u,.u,.u,.u,.u,.u,.u],σ ++ [.box 23 [.i .i64 0,.s [],.i .i64 0]]⟩ := by
 intro m
 induction m with
 | zero =>
  intro c hc hno h1 h2
  have hc : c = 256 := by omega
  subst hc
  refine rnd_step fun R hR => ?_
  simp only [p141_1,VV,pexec,binV,reduceIte]
  exact ⟨fun h => by simp at h,fun _ => h1 hno ..⟩
 | succ m ih =>
  intro c hc hno h1 h2
  have hw : IntKind.i64.wrap ((c : Int) + 1) = ((c + 1 : Nat) : Int) := by rw [IntWalk.i64_in _ (by omega)]; omega
  have hb : IntKind.u8.wrap (c : Int) = ((UInt8.ofNat c).toNat : Int) := by rw [IntWalk.u8_in _ (by omega)]; simp; omega
  have e1 : decide ((c : Int) < 256) = true := by simp; omega
  refine rnd_step fun R hR => ?_
  simp only [p141_1,e1,hb,VV,pexec,binV,reduceIte,reduceCtorEq]
  refine call_eq (r3Written_pc (UInt8.ofNat c) _) rfl ?_
  simp only [hb,hw,Int.toNat_natCast,VV,pexec,xexec,binV,Nat.reduceAdd,Nat.reduceLeDiff,Int.reduceToNat,reduceIte]
  have hP : (decide (((writB (UInt8.ofNat c)).length : Int) ≤ (s.length : Int)) && List.take (writB (UInt8.ofNat c)).length s == writB (UInt8.ofNat c)) = hasPrefix s (writB (UInt8.ofNat c)) := by
   simp only [hasPrefix,Int.ofNat_le]
  rw [hP]
  refine ⟨fun h => by simp at h; omega,fun h => h2 _ h ..,fun h => ?_⟩
  refine hR _ (rnd_cvs ?_ (ih (c + 1) (by omega) (fun j hj => ?_) h1 h2))
  ·repeat first | exact .nil | refine .cons (.refl _) ?_ | refine .cons (.forget _) ?_
  ·by_cases hjc : j = c
   ·subst hjc; exact h
   ·exact hno j (by omega)
theorem r3read_pc (s : List UInt8) (hs : s ≠ []) (hlen : s.length < 2 ^ 62) (σ : Store) : PC Tryz.prog 141 [.s s] σ (fun r σ' => r = .tup [.agg (rread s).1.cells,.i .i64 (rread s).2] ∧ σ' = σ) := by
 refine PC.intro Tryz.func141 c141 fun hcl hwf => wpc_sound ?_
 have hpos : 0 < s.length := List.length_pos_iff.2 hs
 have u123 : (((s.getD 0 0).toNat : Int) == 123) = (s.getD 0 0 == 123) := by
  generalize s.getD 0 0 = a; revert a; exact u8_all (by decide +kernel)
 have u60 : (((s.getD 0 0).toNat : Int) == 60) = (s.getD 0 0 == 60) := by
  generalize s.getD 0 0 = a; revert a; exact u8_all (by decide +kernel)
 have hb : (0 : Int) ≤ 0 ∧ (0 : Int) < (s.length : Int) := by omega
 simp only [p141,List.length_cons,List.length_nil,List.replicate,List.cons_append,List.nil_append,Nat.reduceAdd,Nat.reduceSub]
 by_cases h123 : s.getD 0 0 = 123
 ·have e1 : (s.getD 0 0 == 123) = true := by simpa using h123
  simp only [u123,e1,VV,pexec,xexec,binV,Int.reduceToNat,reduceIte,reduceCtorEq]
  refine ⟨hb,?_⟩
  refine PWc.rnd_cvs ?_ 26 (loop141_0 s hlen 25 1 rfl (Nat.le_refl _) (fun j j1 j2 => by omega) (fun hno => ?_) (fun k k1 k2 hk => ?_))
  ·simp only [Int.natCast_one]
   repeat first | exact .nil | refine .cons (.refl _) ?_ | refine .cons (.forget _) ?_
  ·intros
   simp only [VV,pexec,xexec,Nat.reduceAdd]
   refine ret_end hcl (.inr rfl) (by simp only [resVs,resV,W]; rfl) (by simp only [LW]) ⟨?_,rfl⟩
   rw [rread_noslot h123 hno]; rfl
  ·intros
   simp only [VV]
   refine ret_end hcl (.inr rfl) (by simp only [resVs,resV,W]; rfl) (by simp only [LW]) ⟨?_,rfl⟩
   rw [rread_slot h123 k1 k2 hk.1 hk.2]; rfl
 have e1 : (s.getD 0 0 == 123) = false := by simpa using h123
 by_cases h60 : s.getD 0 0 = 60
 ·have e2 : (s.getD 0 0 == 60) = true := by simpa using h60
  simp only [u123,u60,e1,e2,VV,pexec,xexec,binV,Int.reduceToNat,reduceIte,reduceCtorEq]
  refine ⟨hb,hb,?_⟩
  refine call_eq (r3readTag_pc s h60 hlen _) rfl ?_
  simp only [It.cells,VV,pexec,xexec,Nat.reduceAdd]
  refine ret_end hcl (.inr rfl) (by simp only [resVs,resV,W]; rfl) (by simp only [LW]) ⟨?_,rfl⟩
  rfl
 ·have e2 : (s.getD 0 0 == 60) = false := by simpa using h60
  simp only [u123,u60,e1,e2,VV,pexec,xexec,binV,Int.reduceToNat,reduceIte,reduceCtorEq]
  refine ⟨hb,hb,?_⟩
  refine PWc.rnd_cvs ?_ 257 (loop141_1 s hlen 256 0 rfl (fun j hj => by omega) (fun hno => ?_) (fun b hb2 => ?_))
  ·simp only [Int.natCast_zero]
   repeat first | exact .nil | refine .cons (.refl _) ?_ | refine .cons (.forget _) ?_
  ·intros
   simp only [VV,pexec,xexec,Nat.reduceAdd]
   refine ret_end hcl (.inr rfl) (by simp only [resVs,resV,W]; rfl) (by simp only [LW]) ⟨?_,rfl⟩
   rw [rread_none hs h60 h123 (fun c => by
    have := hno c.toNat c.toNat_lt
    rwa [UInt8.ofNat_toNat] at this)]
   rfl
  ·intros
   simp only [VV]
   refine ret_end hcl (.inr rfl) (by simp only [resVs,resV,W]; rfl) (by simp only [LW]) ⟨?_,rfl⟩
   rw [rread_char hb2]; rfl
theorem loop106 {σ : Store} {K : Exit → St → Prop} (s : List UInt8) (hcl : Closed σ) (hlen : s.length < 2 ^ 30) : ∀ (n : Nat) (rest pre : List UInt8) (f : List It) (len : Nat),s = pre ++ rest → rest.length < n → f.length ≤ 512 → textLen f ≤ pre.length → len ≤ 1024 →
  ((rparseN n f len rest pre.length).2.2 = 0 → (∀ j0 j1 j2 j3 j4 j6 j7 j8 j9 j10 j11 j12 j13 j14 j15 j16 j17 j18 j19 j20 j21 j22 j23 j24 j25 j26 j27 j28 j29 j30 j31 j32 j33 j34 j35 j36 j37 j38 j39 j40 j41 j42 j43 j44 j45 j46 j47 j48 j49 j50 j51 j52 j53 j54,K (.exit 0) ⟨[j0,j1,j2,j3,j4,.sl 3 ((rparseN n f len rest pre.length).1.map It.cells),j6,j7,j8,j9,j10,j11,j12,j13,j14,j15,j16,j17,j18,j19,j20,j21,j22,j23,j24,j25,j26,j27,j28,j29,j30,j31,j32,j33,j34,j35,j36,j37,j38,j39,j40,j41,j42,j43,j44,j45,j46,j47,j48,j49,j50,j51,j52,j53,j54],σ⟩)) →
  ((rparseN n f len rest pre.length).2.2 ≠ 0 → ∀ loc,(∀ j0 j1 j5 j6 j7 j8 j9 j10 j11 j12 j13 j14 j15 j16 j17 j18 j19 j20 j21 j22 j23 j24 j25 j26 j27 j28 j29 j30 j31 j32 j33 j34 j35 j36 j37 j38 j39 j40 j41 j42 j43 j44 j45 j46 j47 j48 j49 j50 j51 j52 j53 j54,K .ret ⟨[j0,j1,.nil,.i .i64 (rparseN n f len rest pre.length).2.1,.i .i64 (rparseN n f len rest pre.length).2.2,j5,j6,j7,j8,j9,j10,j11,j12,j13,j14,j15,j16,j17,j18,j19,j20,j21,j22,j23,j24,j25,j26,j27,j28,j29,j30,j31,j32,j33,j34,j35,j36,j37,j38,j39,j40,j41,j42,j43,j44,j45,j46,j47,j48,j49,j50,j51,j52,j53,j54],σ ++ loc⟩)) →
  Rnd σ.length Tryz.prog p106_0 K n ⟨[.s s,.u,.u,.u,.u,.sl 3 (f.map It.cells),.i .i64 pre.length,.i .i64 len,.u,.u,.u,.u,.u,.u,.u,.u,.u,.u,.u,.u,.u,.u,.u,.u,.u,.u,.u,.u,.u,.u,.u,.u,.u,.u,.u,.u,.u,.u,.u,.u,.u,.u,.u,.u,.u,.u,.u,.u,.u,.u,.u,.u,.u,.u,.u],σ⟩ := by
 intro n
 induction n with
 | zero => intro rest pre f len he hn; omega
 | succ n ih =>
  intro rest pre f len he hn hf ht hl h1 h2
  cases rest with
  | nil =>
   have he : s = pre := by simpa using he
   subst he
   simp only [rparseN] at h1
   refine rnd_step fun R hR => ?_
   simp only [p106_0,VV,pexec,binV,reduceIte]
   exact ⟨fun h => by simp at h,fun _ => h1 trivial ..⟩
  | cons c rest =>
   subst he
   have hrs := rread_step (s := c :: rest) (by simp)
   have hd : List.take ((pre ++ c :: rest).length - pre.length) (List.drop pre.length (pre ++ c :: rest)) = c :: rest := by simp
   simp only [rparseN] at h1 h2
   refine rnd_step fun R hR => ?_
   simp only [p106_0,hd,Int.toNat_natCast,VV,pexec,binV,reduceIte]
   refine ⟨fun _ => ⟨by simp; omega,?_⟩,fun h => by simp at h <;> omega⟩
   refine call_eq (r3read_pc (c :: rest) (by simp) (by simp at hlen ⊢; omega) _) rfl ?_
   generalize hx : rread (c :: rest) = xm at *
   obtain ⟨x,m⟩ := xm
   simp only at hrs h1 h2
   simp only [It.cells,VV,pexec,xexec,binV,Nat.reduceAdd,reduceIte]
   refine ⟨fun hm => ?_,fun hm => ?_⟩
   ·have hm : m = 0 := by simpa using hm
    simp only [hm,if_true] at h2
    exact h2 (by simp) [_] ..
   have hm : m ≠ 0 := by simpa using hm
   obtain ⟨m1,m2,m3⟩ := hrs hm
   rw [if_neg hm] at h1 h2
   have hg := norm_bound (f ++ [x])
   simp only [textLen_append,textLen,List.length_append,List.length_cons,List.length_nil] at hg
   have hlen2 : pre.length + (rest.length + 1) < 2 ^ 30 := by simpa using hlen
   simp only [List.length_cons] at m2 hn
   have hpl : (pre ++ (c :: rest).take m.toNat).length = pre.length + m.toNat := by
    rw [List.length_append,List.length_take,List.length_cons]; omega
   have hwl : IntKind.i64.wrap ((len : Int) + 1) = ((len + 1 : Nat) : Int) := by rw [IntWalk.i64_in _ (by omega)]; omega
   have hwa : IntKind.i64.wrap ((pre.length : Int) + m) = (pre.length : Int) + m := IntWalk.i64_in _ (by omega)
   have el : (len : Int) + 1 = ((len + 1 : Nat) : Int) := by omega
   have ea : (pre.length : Int) + m = (((pre ++ (c :: rest).take m.toNat).length : Nat) : Int) := by rw [hpl]; omega
   refine ⟨fun hk => ?_,fun hk => ?_⟩
   ·have hk : x.kind ≠ 1 := by simpa using hk
    refine call_eq (r3Check_pc f x _) rfl ?_
    simp only [VV,pexec,binV,Nat.reduceAdd,reduceIte]
    refine ⟨fun he => ?_,fun he => ?_⟩
    ·have he : checkErr f x ≠ 0 := by simpa using he
     rw [if_pos ⟨hk,he⟩] at h2
     exact h2 he [_] ..
    have he : checkErr f x = 0 := by simpa using he
    rw [if_neg (fun h => h.2 he)] at h1 h2
    refine call_cv (zs := [.sl 3 (f.map It.cells),.sl 3 ([x].map It.cells)]) (.cons (.refl _) (.cons (.lit _ _) .nil)) (r3Concat_pc f [x] (by omega) (by simp) (by omega) (by simp only [textLen]; omega) _) ?_
    simp only [hwl,hwa,List.length_map,VV,pexec,binV,reduceIte]
    refine ⟨fun hc => ?_,fun hc => ?_⟩
    ·have hc : 512 < (normalize (f ++ [x])).length ∨ (1024 : Int) < (len : Int) + 1 := by simp at hc; omega
     rw [if_pos hc] at h2
     exact h2 (by simp) [_] ..
    ·have hc : ¬ (512 < (normalize (f ++ [x])).length ∨ (1024 : Int) < (len : Int) + 1) := by simp at hc; omega
     rw [if_neg hc,el,ea] at h1 h2
     refine hR _ (rnd_back (Nat.le_refl _) hcl ?_ ?_ (ih ((c :: rest).drop m.toNat) (pre ++ (c :: rest).take m.toNat) (normalize (f ++ [x])) (len + 1) (by simp) (by rw [List.length_drop,List.length_cons]; omega) (by omega) (by rw [hpl]; omega) (by omega) h1 h2))
     ·rw [← ea]
      repeat first | exact .nil | refine .cons (.refl _) ?_ | refine .cons (.forget _) ?_
     ·simp only [LW]
   ·have hk : x.kind = 1 := by simpa using hk
    rw [if_neg (fun h => h.1 hk)] at h1 h2
    refine call_cv (zs := [.sl 3 (f.map It.cells),.sl 3 ([x].map It.cells)]) (.cons (.refl _) (.cons (.lit _ _) .nil)) (r3Concat_pc f [x] (by omega) (by simp) (by omega) (by simp only [textLen]; omega) _) ?_
    simp only [hwl,hwa,List.length_map,VV,pexec,binV,reduceIte]
    refine ⟨fun hc => ?_,fun hc => ?_⟩
    ·have hc : 512 < (normalize (f ++ [x])).length ∨ (1024 : Int) < (len : Int) + 1 := by simp at hc; omega
     rw [if_pos hc] at h2
     exact h2 (by simp) [_] ..
    ·have hc : ¬ (512 < (normalize (f ++ [x])).length ∨ (1024 : Int) < (len : Int) + 1) := by simp at hc; omega
     rw [if_neg hc,el,ea] at h1 h2
     refine hR _ (rnd_back (Nat.le_refl _) hcl ?_ ?_ (ih ((c :: rest).drop m.toNat) (pre ++ (c :: rest).take m.toNat) (normalize (f ++ [x])) (len + 1) (by simp) (by rw [List.length_drop,List.length_cons]; omega) (by omega) (by rw [hpl]; omega) (by omega) h1 h2))
     ·rw [← ea]
      repeat first | exact .nil | refine .cons (.refl _) ?_ | refine .cons (.forget _) ?_
     ·simp only [LW]
theorem r3Parse_pc (s : List UInt8) (hlen : s.length < 2 ^ 30) (σ : Store) : PC Tryz.prog 106 [.s s] σ (fun r σ' => r = .tup [.sl 3 ((parse s).1.map It.cells),.i .i64 (parse s).2.1,.i .i64 (parse s).2.2] ∧ σ' = σ) := by
 refine PC.intro Tryz.func106 c106 fun hcl hwf => wpc_sound ?_
 rw [← rparse_parse]
 simp only [p106,List.length_cons,List.length_nil,List.replicate,List.cons_append,List.nil_append,Nat.reduceAdd,Nat.reduceSub]
 simp only [VV,pexec]
 refine PWc.wk (Wk.cvs ?_) (PWc.rnd (s.length + 1) (loop106 s hcl hlen (s.length + 1) s [] [] 0 rfl (by omega) (by simp) (by simp [textLen]) (by omega) (fun h => ?_) (fun h => ?_)))
 ·simp only [List.length_nil,Int.natCast_zero,List.map_nil]
  repeat first | exact .nil | refine .cons (.refl _) ?_ | refine .cons (.forget _) ?_
  exact .cons (.nil _) (by repeat first | exact .nil | refine .cons (.refl _) ?_ | refine .cons (.forget _) ?_)
 ·have e := rparseN_ok _ _ _ _ _ h
  intros
  simp only [VV,pexec]
  refine ret_end0 (.inr rfl) (by simp only [resVs,resV,W]; rfl) ⟨?_,rfl⟩
  have h' : (rparse s).2.2 = 0 := h
  have e' : (rparse s).2.1 = 0 := e
  rw [h',e']; rfl
 ·intros
  simp only [VV]
  refine ret_cvs (ys := [.sl 3 [],.i .i64 (rparse s).2.1,.i .i64 (rparse s).2.2]) hcl (.inr rfl) (by simp only [resVs,resV,W]; rfl) ?_ (by simp only [LW]) ⟨?_,rfl⟩
  ·exact .cons (.nil _) (.cons (.refl _) (.cons (.refl _) .nil))
  ·have hz := rparseN_bad _ _ _ _ _ h
   have hz' : (rparse s).1 = [] := hz
   rw [hz']; rfl
theorem named_pc (s : List UInt8) (σ : Store) : PC Tryz.prog 107 [.s s] σ (fun r σ' => r = .b (named s) ∧ σ' = σ) := by
 refine PC.intro Tryz.func107 c107 fun hcl hwf => wpc_sound ?_
 simp only [p107,List.length_cons,List.length_nil,List.replicate,List.cons_append,List.nil_append,Nat.reduceAdd,Nat.reduceSub]
 simp only [VV,pexec,binV]
 refine callg_eq (by simp only [VV] <;> rfl) (fun _ => r1IsName_pc s _) rfl ?_
 simp only [VV,pexec]
 exact ret_end0 (.inr rfl) (by simp only [resVs,resV,W]; rfl) ⟨rfl,rfl⟩
theorem r16Validate_pc (e : En) (hs : e.small) (σ : Store) : PC Tryz.prog 61 [.agg e.cells] σ (fun r σ' => r = .i .i64 (entryErr e) ∧ σ' = σ) := by
 refine PC.intro Tryz.func61 c61 fun hcl hwf => wpc_sound ?_
 simp only [p61,List.length_cons,List.length_nil,List.replicate,List.cons_append,List.nil_append,Nat.reduceAdd,Nat.reduceSub]
 simp only [En.cells,VV,pexec,xexec]
 refine call_eq (r3Validate_pc e.source _) rfl ?_
 simp only [VV,pexec,binV,reduceIte]
 refine ⟨fun h => ?_,fun h => ?_⟩
 ·have h : validItems e.source ≠ 0 := by simpa using h
  exact ret_end hcl (.inr rfl) (by simp only [resVs,resV,W]; rfl) (by simp only [LW]) ⟨by simp only [entryErr,h,if_true,ne_eq,not_false_eq_true]; rfl,rfl⟩
 have h1 : validItems e.source = 0 := by simpa using h
 refine call_eq (r3Validate_pc e.target _) rfl ?_
 simp only [VV,pexec,binV,reduceIte]
 refine ⟨fun h => ?_,fun h => ?_⟩
 ·have h : validItems e.target ≠ 0 := by simpa using h
  refine ret_end hcl (.inr rfl) (by simp only [resVs,resV,W]; rfl) (by simp only [LW]) ⟨?_,rfl⟩
  simp only [entryErr,h1,h,if_true,ne_eq,not_false_eq_true,not_true,if_false]; rfl
 have h2 : validItems e.target = 0 := by simpa using h
 refine call_eq (r3Canonical_pc e.source e.target (by have := hs.source; omega) (by have := hs.target; omega) (by have := hs.sourceT; omega) (by have := hs.targetT; omega) _) rfl ?_
 simp only [List.length_map,VV,pexec,binV,reduceIte]
 refine callg_eq (by simp only [VV] <;> rfl) (fun _ => r3Same_pc (canonS e.source e.target) e.source _) rfl ?_
 simp only [VV,pexec]
 refine callg_eq (by simp only [VV] <;> rfl) (fun _ => r3Same_pc (canonT e.source e.target) e.target _) rfl ?_
 simp only [VV,pexec]
 have hco : canonOk e = !((((e.source.length : Int) == 0) || !itsEq (canonS e.source e.target) e.source) || !itsEq (canonT e.source e.target) e.target) := by
  have : ((e.source.length : Int) == 0) = (e.source.length == 0) := by rw [Bool.eq_iff_iff]; simp
  simp only [canonOk,this]
  cases (e.source.length == 0) <;> cases itsEq (canonS e.source e.target) e.source <;> cases itsEq (canonT e.source e.target) e.target <;> rfl
 refine ⟨fun h => ?_,fun h => ?_⟩
 ·rw [h] at hco
  refine ret_end hcl (.inr rfl) (by simp only [resVs,resV,W]; rfl) (by simp only [LW]) ⟨?_,rfl⟩
  simp only [entryErr,h1,h2,hco,ne_eq,not_true,if_false]; rfl
 rw [h] at hco
 have e1 : entryErr e = if (parse e.previous).2.2 ≠ 0 then (parse e.previous).2.2 else if (parse e.next).2.2 ≠ 0 then (parse e.next).2.2 else
   if (named e.author && named e.project) = false then 4 else if e.created < 0 ∨ 1073741824 < e.created ∨ e.origin < 1 ∨ 3 < e.origin then 1 else 0 := by
  simp only [entryErr,h1,h2,hco,ne_eq,not_true,if_false]; rfl
 refine call_eq (r3Parse_pc e.previous (by have := hs.previous; omega) _) rfl ?_
 simp only [VV,pexec,binV,reduceIte]
 refine ⟨fun h => ?_,fun h => ?_⟩
 ·have h : (parse e.previous).2.2 ≠ 0 := by simpa using h
  rw [e1,if_pos h]
  exact ret_end hcl (.inr rfl) (by simp only [resVs,resV,W]; rfl) (by simp only [LW]) ⟨rfl,rfl⟩
 have h3 : ¬ (parse e.previous).2.2 ≠ 0 := by simpa using h
 refine call_eq (r3Parse_pc e.next (by have := hs.next; omega) _) rfl ?_
 simp only [VV,pexec,binV,reduceIte]
 refine ⟨fun h => ?_,fun h => ?_⟩
 ·have h : (parse e.next).2.2 ≠ 0 := by simpa using h
  rw [e1,if_neg h3,if_pos h]
  exact ret_end hcl (.inr rfl) (by simp only [resVs,resV,W]; rfl) (by simp only [LW]) ⟨rfl,rfl⟩
 have h4 : ¬ (parse e.next).2.2 ≠ 0 := by simpa using h
 rw [if_neg h3,if_neg h4] at e1
 refine call_eq (named_pc e.author _) rfl ?_
 simp only [VV,pexec]
 refine callg_eq (by simp only [VV] <;> rfl) (fun _ => named_pc e.project _) rfl ?_
 simp only [VV,pexec,binV,reduceIte]
 have hna : (!named e.author || !named e.project) = !(named e.author && named e.project) := by
  cases named e.author <;> cases named e.project <;> rfl
 rw [hna]
 refine ⟨fun h => ?_,fun h => ⟨fun h5 => ?_,fun h5 => ?_⟩⟩
 ·have h : (named e.author && named e.project) = false := by rw [Bool.not_eq_true'] at h; exact h
  rw [e1,if_pos h]
  exact ret_end hcl (.inr rfl) (by simp only [resVs,resV,W]; rfl) (by simp only [LW]) ⟨rfl,rfl⟩
 ·have h : ¬ (named e.author && named e.project) = false := by rw [Bool.not_eq_false'] at h; rw [h]; simp
  have h5 : e.created < 0 ∨ 1073741824 < e.created ∨ e.origin < 1 ∨ 3 < e.origin := by
   simp at h5; omega
  rw [e1,if_neg h,if_pos h5]
  exact ret_end hcl (.inr rfl) (by simp only [resVs,resV,W]; rfl) (by simp only [LW]) ⟨rfl,rfl⟩
 ·have h : ¬ (named e.author && named e.project) = false := by rw [Bool.not_eq_false'] at h; rw [h]; simp
  have h5 : ¬ (e.created < 0 ∨ 1073741824 < e.created ∨ e.origin < 1 ∨ 3 < e.origin) := by
   simp at h5; omega
  rw [e1,if_neg h,if_neg h5]
  exact ret_end hcl (.inr rfl) (by simp only [resVs,resV,W]; rfl) (by simp only [LW]) ⟨rfl,rfl⟩
theorem r16Key_pc (e : En) (hs : e.small) (σ : Store) : PC Tryz.prog 64 [.agg e.cells] σ (fun r σ' => r = .s (entryKey e) ∧ σ' = σ) := by
 refine PC.intro Tryz.func64 c64 fun hcl hwf => wpc_sound ?_
 simp only [p64,List.length_cons,List.length_nil,List.replicate,List.cons_append,List.nil_append,Nat.reduceAdd,Nat.reduceSub]
 simp only [En.cells,VV,Int.reduceBEq,Int.reduceBNe,pexec,xexec,binV,Nat.reduceAdd,Nat.reduceSub,Nat.reduceLeDiff,Nat.reduceEqDiff,Int.reduceToNat,reduceIte,reduceCtorEq]
 refine call_eq (r16Validate_pc e hs _) rfl ?_
 simp only [VV,Int.reduceBEq,Int.reduceBNe,pexec,xexec,binV,Nat.reduceAdd,Nat.reduceSub,Nat.reduceLeDiff,Nat.reduceEqDiff,Int.reduceToNat,reduceIte,reduceCtorEq]
 refine ⟨fun h => ?_,fun h => ?_⟩
 ·have h : entryErr e ≠ 0 := by simpa using h
  exact ret_end hcl (.inr rfl) (by simp only [resVs,resV,W]; rfl) (by simp only [LW]) ⟨by simp only [entryKey,h,if_true,ne_eq,not_false_eq_true]; rfl,rfl⟩
 ·have h : ¬ entryErr e ≠ 0 := by simpa using h
  refine call_eq (r3Format_pc e.source (by have := hs.sourceT; omega) _) rfl ?_
  simp only [VV,Int.reduceBEq,Int.reduceBNe,pexec,xexec,binV,Nat.reduceAdd,Nat.reduceSub,Nat.reduceLeDiff,Nat.reduceEqDiff,Int.reduceToNat,reduceIte,reduceCtorEq]
  have hf := format_len e.source hs.source hs.sourceT (fun x hx => hs.ids x (by simp [hx]))
  have h1 := hs.previous
  have h2 := hs.next
  refine ⟨by simp [maxLen]; omega,by simp [maxLen]; omega,by simp [maxLen]; omega,by simp [maxLen]; omega,?_⟩
  refine ret_end hcl (.inr rfl) (by simp only [resVs,resV,W]; rfl) (by simp only [LW]) ⟨?_,rfl⟩
  simp [Pm.one,entryKey,if_neg h,joinKey]
def ats (v : List Int) (n : Nat) : List Int := (List.range n).map fun (i : Nat) => vAt v i
def lst (v : List Int) : Nat → Nat
 | 0 => 0
 | n + 1 => if 0 < vAt v n then n + 1 else lst v n
theorem vAt_nonneg (v : List Int) (o : Int) : 0 ≤ vAt v o := by
 simp only [vAt]; split
 ·omega
 ·split <;> omega
theorem vAt_none (o : Int) : vAt [] o = 0 := by
 simp only [vAt]; split
 ·rfl
 ·simp
theorem ats_succ (v : List Int) (n : Nat) : ats v (n + 1) = ats v n ++ [vAt v n] := by simp [ats,List.range_succ]
theorem ats_join (v : List Int) : ∀ n,joinList v [] n = ats v n
 | 0 => rfl
 | n + 1 => by
  have := vAt_nonneg v n
  rw [joinList_succ,ats_succ,ats_join v n,vAt_none,if_neg (by omega)]
theorem lst_join (v : List Int) : ∀ n,joinLast v [] n = lst v n
 | 0 => rfl
 | n + 1 => by
  have := vAt_nonneg v n
  have e0 : (if vAt v n < 0 then (0 : Int) else vAt v n) = vAt v n := if_neg (by omega)
  simp only [joinLast,lst,vAt_none,e0,lst_join v n]
  by_cases h : 0 < vAt v n
  ·rw [if_pos (by omega),if_pos h]
  ·rw [if_neg (by omega),if_neg h]
theorem lst_le (v : List Int) (n : Nat) : lst v n ≤ n := by rw [← lst_join]; exact joinLast_le v [] n
theorem vTrim_ats (v : List Int) : vTrim v = ats v (lst v 8) := by
 have h := lst_le v 8
 simp only [vTrim,vJoin,ats_join,lst_join]
 simp only [ats,← List.map_take,List.take_range]
 congr 2
 omega
theorem tIr : Ti Tryz.prog 3 1 8 := tiB_ok (by kernel_rfl)
theorem loop50_0 {σ : Store} {K : Exit → St → Prop} (v : List Int) (i : Nat) (hi : i < 8) : ∀ (m k g : Nat),k + m = i →
  (∀ g,(∀ j1 j2 j5 j6 j7 j8 j9 j10 j11 j12 j13 j14 j15 j16 j17 j18 j19 j20 j21 j22 j23 j24 j25 j26 j27 j28 j29 j30,K (.exit 2) ⟨[.sl 1 (v.map iRow),j1,j2,.own σ.length g,.i .i64 i,j5,j6,j7,j8,j9,j10,j11,j12,j13,j14,j15,j16,j17,j18,j19,j20,j21,j22,j23,j24,j25,j26,j27,j28,j29,j30],σ ++ [.row 3 1 8 g false ((ats v i).map iRow)]⟩)) →
  Rnd σ.length Tryz.prog p50_0 K (m + 1) ⟨[.sl 1 (v.map iRow),.u,.u,.own σ.length g,.i .i64 i,.u,.u,.u,.u,.u,.u,.u,.u,.u,.u,.u,.u,.u,.u,.u,.u,.u,.u,.u,.u,.u,.u,.u,.u,.u,.u],σ ++ [.row 3 1 8 g false ((ats v k).map iRow)]⟩ := by
 intro m
 induction m with
 | zero =>
  intro k g hk h1
  have hk : k = i := by omega
  subst hk
  have e : (ats v k).length = k := by simp [ats]
  refine rnd_step fun R hR => ?_
  simp only [p50_0,List.length_map,e,VV,pexec,binV,reduceIte]
  exact ⟨fun h => by simp at h,fun _ => h1 g ..⟩
 | succ m ih =>
  intro k g hk h1
  have e : (ats v k).length = k := by simp [ats]
  refine rnd_step fun R hR => ?_
  simp only [p50_0,List.length_map,e,VV,pexec,binV,reduceIte]
  refine ⟨fun _ => ?_,fun h => by simp at h; omega⟩
  refine call_eq (r36At_pc v k _) rfl ?_
  simp only [List.length_map,e,VV,pexec,xexec,reduceIte]
  have hrow : (ats v k).map iRow ++ [[.i .i64 (vAt v k)]] = (ats v (k + 1)).map iRow := by rw [ats_succ]; simp [iRow]
  rw [hrow]
  refine ⟨by simp [maxLen]; omega,?_⟩
  refine hR _ (rnd_cvs ?_ (ih (k + 1) (g + 1) (by omega) h1))
  repeat first | exact .nil | refine .cons (.refl _) ?_ | refine .cons (.forget _) ?_
theorem loop50_1 {σ : Store} {K : Exit → St → Prop} (v : List Int) : ∀ (m i g : Nat),i + m = 8 →
  (∀ g,(∀ j0 j1 j2 j4 j5 j6 j7 j8 j9 j10 j11 j12 j13 j14 j15 j16 j17 j18 j19 j20 j21 j22 j23 j24 j25 j26 j27 j28 j29 j30,K (.exit 0) ⟨[j0,j1,j2,.own σ.length g,j4,j5,j6,j7,j8,j9,j10,j11,j12,j13,j14,j15,j16,j17,j18,j19,j20,j21,j22,j23,j24,j25,j26,j27,j28,j29,j30],σ ++ [.row 3 1 8 g false ((ats v (lst v 8)).map iRow)]⟩)) →
  Rnd σ.length Tryz.prog p50_1 K (m + 1) ⟨[.sl 1 (v.map iRow),.u,.u,.own σ.length g,.i .i64 i,.u,.u,.u,.u,.u,.u,.u,.u,.u,.u,.u,.u,.u,.u,.u,.u,.u,.u,.u,.u,.u,.u,.u,.u,.u,.u],σ ++ [.row 3 1 8 g false ((ats v (lst v i)).map iRow)]⟩ := by
 intro m
 induction m with
 | zero =>
  intro i g hi h1
  have hi : i = 8 := by omega
  subst hi
  refine rnd_step fun R hR => ?_
  simp only [p50_1,VV,pexec,binV,reduceIte]
  exact ⟨fun h => by simp at h,fun _ => h1 g ..⟩
 | succ m ih =>
  intro i g hi h1
  have hw : IntKind.i64.wrap ((i : Int) + 1) = ((i + 1 : Nat) : Int) := by rw [IntWalk.i64_in _ (by omega)]; omega
  have hl := lst_le v i
  refine rnd_step fun R hR => ?_
  simp only [p50_1,VV,pexec,binV,reduceIte]
  refine ⟨fun _ => ?_,fun h => by simp at h; omega⟩
  refine call_eq (r36At_pc v i _) rfl ?_
  simp only [hw,VV,pexec,binV,reduceIte]
  refine ⟨fun h => ?_,fun h => ?_⟩
  ·have h : 0 < vAt v i := by simpa using h
   have e : lst v (i + 1) = i + 1 := by simp only [lst,if_pos h]
   refine PWc.rnd_cvs ?_ (i - lst v i + 1) (loop50_0 v i (by omega) (i - lst v i) (lst v i) g (by omega) ?_)
   ·repeat first | exact .nil | refine .cons (.refl _) ?_ | refine .cons (.forget _) ?_
   intro g'
   intros
   simp only [VV,pexec]
   refine call_eq (r36At_pc v i _) rfl ?_
   have el : (ats v i).length = i := by simp [ats]
   simp only [List.length_map,el,hw,VV,pexec,xexec,binV,reduceIte]
   have hrow : (ats v i).map iRow ++ [[.i .i64 (vAt v i)]] = (ats v (lst v (i + 1))).map iRow := by rw [e,ats_succ]; simp [iRow]
   rw [hrow]
   refine ⟨by simp [maxLen]; omega,?_⟩
   refine hR _ (rnd_cvs ?_ (ih (i + 1) (g' + 1) (by omega) h1))
   repeat first | exact .nil | refine .cons (.refl _) ?_ | refine .cons (.forget _) ?_
  ·have h : ¬ 0 < vAt v i := by simpa using h
   have e : lst v (i + 1) = lst v i := by simp only [lst,if_neg h]
   rw [← e]
   refine hR _ (rnd_cvs ?_ (ih (i + 1) g (by omega) h1))
   repeat first | exact .nil | refine .cons (.refl _) ?_ | refine .cons (.forget _) ?_
theorem r36Trim_pc (v : List Int) (σ : Store) : PC Tryz.prog 50 [.sl 1 (v.map iRow)] σ (fun r σ' => r = .sl 1 ((vTrim v).map iRow) ∧ σ' = σ) := by
 refine PC.intro Tryz.func50 c50 fun hcl hwf => wpc_sound ?_
 rw [vTrim_ats]
 simp only [p50,List.length_cons,List.length_nil,List.replicate,List.cons_append,List.nil_append,Nat.reduceAdd,Nat.reduceSub]
 simp only [VV,pexec]
 refine PWc.wk ((Wk.promote (k := 3) tIr rfl).trans (Wk.cvs ?_)) (PWc.rnd 9 (loop50_1 v 8 0 0 rfl ?_))
 ·simp only [Int.natCast_zero,VV]
  repeat first | exact .nil | refine .cons (.refl _) ?_ | refine .cons (.forget _) ?_
 ·intro g
  intros
  simp only [VV,pexec]
  refine ret_fz 0 hcl (.inr rfl) rfl rfl ?_ ?_
  ·simp [fz,fz1,AllLt,lt_sl]
  ·simp [fz,fz1,Pm.one]
theorem loop59 {n : Nat} {σ : Store} {K : Exit → St → Prop} (a b : List Int) (hlen : a.length < 2 ^ 63) (hab : a.length = b.length) : ∀ (ra rb pa pb : List Int),a = pa ++ ra → b = pb ++ rb → pa.length = pb.length →
  (ra = rb → (∀ j0 j1 j2 j3 j4 j5 j6 j7 j8 j9 j10 j11 j12 j13 j14 j15 j16 j17 j18 j19 j20 j21 j22 j23 j24 j25,K (.exit 0) ⟨[j0,j1,j2,j3,j4,j5,j6,j7,j8,j9,j10,j11,j12,j13,j14,j15,j16,j17,j18,j19,j20,j21,j22,j23,j24,j25],σ⟩)) → (ra ≠ rb → (∀ j0 j1 j2 j3 j5 j6 j7 j8 j9 j10 j11 j12 j13 j14 j15 j16 j17 j18 j19 j20 j21 j22 j23 j24 j25,K .ret ⟨[j0,j1,j2,j3,.b false,j5,j6,j7,j8,j9,j10,j11,j12,j13,j14,j15,j16,j17,j18,j19,j20,j21,j22,j23,j24,j25],σ⟩)) →
  Rnd n Tryz.prog p59_0 K (ra.length + 1) ⟨[.sl 1 (a.map iRow),.sl 1 (b.map iRow),.u,.u,.u,.u,.u,.u,.u,.u,.u,.u,.i .i64 a.length,.i .i64 pa.length,.u,.u,.u,.u,.u,.u,.u,.u,.u,.u,.u,.u],σ⟩ := by
 intro ra
 induction ra with
 | nil =>
  intro rb pa pb ha hb hp h1 h2
  have : rb = [] := by
   subst ha; subst hb
   simp at hab
   exact List.eq_nil_of_length_eq_zero (by omega)
  subst this
  have ha : a = pa := by simpa using ha
  subst ha
  refine rnd_step fun R hR => ?_
  simp only [p59_0,VV,pexec,binV,reduceIte]
  exact ⟨fun h => by simp at h,fun _ => h1 rfl ..⟩
 | cons x ra ih =>
  intro rb pa pb ha hb hp h1 h2
  cases rb with
  | nil => subst ha; subst hb; simp at hab; omega
  | cons y rb =>
   subst ha; subst hb
   have e2 : at2 (List.map iRow (pb ++ y :: rb)) pa.length 0 = some (.i .i64 y) := by rw [hp,at2_at]; rfl
   have hw : IntKind.i64.wrap ((pa.length : Int) + 1) = (((pa ++ [x]).length : Nat) : Int) := by
    rw [wrap_succ (by simp at hlen; omega)]; simp
   refine rnd_step fun R hR => ?_
   have e1 : at2 (List.map iRow (pa ++ x :: ra)) pa.length 0 = some (.i .i64 x) := by rw [at2_at]; rfl
   simp only [p59_0,Int.toNat_natCast,e1,e2,VV,pexec,binV,reduceIte]
   have hla : (0 : Int) ≤ pa.length ∧ (pa.length : Int) < (List.map iRow (pa ++ x :: ra)).length := by simp; omega
   have hlb : (0 : Int) ≤ pa.length ∧ (pa.length : Int) < (List.map iRow (pb ++ y :: rb)).length := by simp at hab ⊢; omega
   refine ⟨fun _ => ⟨hla,hlb,fun h => ?_,fun h => ?_⟩,fun h => by simp at h <;> omega⟩
   ·have h : ¬ x = y := by simpa using h
    exact h2 (by simp [h]) ..
   ·have h : x = y := by simpa using h
    subst h
    refine hR _ (rnd_cvs ?_ (ih rb (pa ++ [x]) (pb ++ [x]) (by simp) (by simp) (by simp [hp]) (fun e => h1 (by rw [e])) (fun e => h2 (by simpa using e))))
    rw [hw]; repeat first | exact .nil | refine .cons (.refl _) ?_ | refine .cons (.forget _) ?_
theorem r3SameInts_pc (a b : List Int) (σ : Store) : PC Tryz.prog 59 [.sl 1 (a.map iRow),.sl 1 (b.map iRow)] σ (fun r σ' => r = .b (a == b) ∧ σ' = σ) := by
 refine PC.intro Tryz.func59 c59 fun hcl hwf => wpc_sound ?_
 have hlen := wf_sl (hwf 0 _ rfl).1
 rw [List.length_map] at hlen
 simp only [p59,List.length_cons,List.length_nil,List.replicate,List.cons_append,List.nil_append,Nat.reduceAdd,Nat.reduceSub]
 simp only [List.length_map,VV,pexec,binV,reduceIte]
 refine ⟨fun h => ?_,fun h => ?_⟩
 ·refine ret_end0 (.inr rfl) rfl ⟨?_,rfl⟩
  have : a ≠ b := fun e => by subst e; simp at h
  simp [Pm.one,this]
 ·have hab : a.length = b.length := by simp at h; omega
  refine PWc.rnd_cvs ?_ (a.length + 1) (loop59 a b hlen hab a b [] [] rfl rfl rfl (fun h => ?_) (fun h => ?_))
  ·repeat first | exact .nil | refine .cons (.refl _) ?_ | refine .cons (.forget _) ?_
  ·intros
   simp only [VV,pexec]
   exact ret_end0 (.inr rfl) rfl ⟨by simp [Pm.one,h],rfl⟩
  ·intros
   exact ret_end0 (.inr rfl) rfl ⟨by simp [Pm.one,h],rfl⟩
end Go.Proofs.Tryz
