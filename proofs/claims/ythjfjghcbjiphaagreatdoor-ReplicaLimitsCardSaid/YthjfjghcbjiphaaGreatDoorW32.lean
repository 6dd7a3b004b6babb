/- A part of the proof of the statement of the last text of this claim: for every two integers ReplicaLimits returns true and leaves the memory as it was. -/
import Derived.Test.YthjfjghcbjiphaaGreatDoorW23
import Derived.Test.YthjfjghcbjiphaaGreatDoorW31
set_option linter.all false

namespace Go.Proofs.YthjfjghcbjiphaaGreatDoor.replicaLimits
open Go Go.Pm Go.ChangeShapes Go.WideShapes Go.ChangeAt Go.RowKit Go.Proofs.Tryz
set_option maxRecDepth 100000 in
theorem contract (H : Type) (enc : TypeId × Value → H) (W : World) (base : Nat) (args : Array Value) (ds gs : List (DataW H)) (before : List MemPlace)
  (hval : ∀ (j : Nat) t v,Tryz.f3.params[j]? = some t → args[j]? = some v → Value.okWide Tryz.prog W .any base t v)
  (hW : DataW.Whole enc Tryz.prog Tryz.f3.params.toList Rows.replicaLimitsSpec.vars false W args.toList ds gs before) (hL : laidMetH Tryz.prog Rows.replicaLimitsRow.laid W) :
  Calls Tryz.prog 3 args W fun e W' => ∃ v,e = .returned v ∧ Rows.replicaLimitsSpec.post enc Tryz.prog Tryz.f3 false true false false W args v W' := by
 have hW' := hW
 obtain ⟨p,q,hA0,hV,rfl,hfz,hnd⟩ := hW
 have hA : DataW.TrodAll enc Tryz.prog W 0 (fun _ => true) true Tryz.f3.params.toList args.toList ds p := hA0
 have hp : Tryz.f3.params = #[3,3] := Tryz.params3
 rw [hp] at hA hval
 obtain ⟨v0,vs0,d0,ds0,p0,q0,hargs,rfl,rfl,h0,r0⟩ := trodAll_cons hA
 obtain ⟨v1,vs1,d1,ds1,p1,q1,rfl,rfl,rfl,h1,r1⟩ := trodAll_cons r0
 obtain ⟨rfl,rfl,rfl⟩ := trodAll_nil r1
 obtain rfl : args = #[v0,v1] := by cases args; simp_all
 obtain ⟨rfl,rfl⟩ := trodVars_none hV
 obtain ⟨n,rfl,rfl,rfl,hw0⟩ := open_int Tryz.underlying3 (hval 0 3 v0 rfl rfl) h0
 obtain ⟨time,rfl,rfl,rfl,hw1⟩ := open_int Tryz.underlying3 (hval 1 3 v1 rfl rfl) h1
 refine (run_row hL (replicaLimits_pc n time []) (μ := fun _ => undef) ⟨rfl,fun i y hy => ?_⟩).mono fun e W' ⟨he,hb⟩ => ?_
 ·rcases i with _ | _ | i
  ·simp only [Nat.zero_add,Nat.reduceAdd,List.getElem?_cons_zero,List.getElem?_cons_succ,Option.some.injEq] at hy; subst hy; exact .i _ _
  ·simp only [Nat.zero_add,Nat.reduceAdd,List.getElem?_cons_zero,List.getElem?_cons_succ,Option.some.injEq] at hy; subst hy; exact .i _ _
  ·simp at hy
 ·exact ⟨_,he,post_true rfl rfl (by kernel_rfl) hW' rfl hb⟩
theorem reads (os : Os) {H : Type} (enc : TypeId × Value → H) : ∃ places,DataW.whole enc Tryz.prog ((World.doorLaid Tryz.prog 400 os).forCall (fun _ _ => 0) ⟨#[],#[.int .i64 0,.int .i64 0],[]⟩).memory Tryz.f3.params.toList Rows.replicaLimitsSpec.vars false #[(Value.int .i64 0),(Value.int .i64 0)].toList 8 = some ([.lit (.int .i64 0),.lit (.int .i64 0)],[],places) :=
 ⟨[],by kernel_rfl⟩
set_option maxRecDepth 100000 in
theorem lifted (os : Os) (started : os.Started) (H : Type) (enc : TypeId × Value → H) (F : Stop.Interp) :
  ReturnsInHanded {} Tryz.checked os 3 .any ((OpenSpec.ofChange Rows.replicaLimitsSpec).preRow enc Tryz.prog Tryz.f3 Rows.replicaLimitsRow.domain false Rows.replicaLimitsRow.laid) (((OpenSpec.ofChange Rows.replicaLimitsSpec).at F).post enc Tryz.prog Tryz.f3 false true false false) := by
 obtain ⟨places,hx⟩ := reads os enc
 refine returnsInHanded_of_row (C := Tryz.checked) (s := OpenSpec.ofChange Rows.replicaLimitsSpec) own started (by kernel_rfl) Tryz.func3
  (witness_row_at (enc := enc) (C := Tryz.checked) false (World.doorLaid Tryz.prog 400 os) #[.int .i64 0,.int .i64 0] rfl (by kernel_rfl) (by kernel_rfl) (by kernel_rfl)
   (OpenSpec.preRow_of_cond 8 hx (by kernel_rfl) (fun k hk => by cases hk) (by kernel_rfl) (laid_met os _))) ?_
 intro W base args ds gs before hval hW _ _ _ hL _ _
 exact contract H enc W base args ds gs before hval hW hL
theorem said : Rows.ReplicaLimitsSaid :=
 OpenClaim.holds_of_cond 3 Tryz.f3 rfl rfl rfl rfl rfl rfl rfl ⟨rfl,rfl,rfl,rfl,rfl⟩ rfl rfl rfl rfl rfl (by kernel_rfl) Tryz.func3 (by kernel_rfl)
  (of_decide_eq_true (by kernel_rfl)) (by unfold Func.isWrapper; first | (rw [if_pos (by decide +kernel)]; kernel_rfl) | (rw [if_neg (by decide +kernel)]; exact ⟨rfl,rfl⟩))
  (fun os started H enc _ F => by rw [OpenClaim.pre_eq_preRow]; exact lifted os started H enc F)
theorem plain (f : FuncId) (fn : Func) (hf : Tryz.pinned.checked.prog.funcNamed "bitext/bitextlaw39.ReplicaLimits" = some f) (hfn : Tryz.pinned.checked.prog.funcs[f]? = some fn) :
  false = Tryz.pinned.checked.prog.looks [] ∧ ∀ (j : Nat) t,fn.params[j]? = some t → Tryz.pinned.checked.prog.wantsStandIn t = false := by
 obtain rfl : f = 3 := Option.some.inj ((show Tryz.prog.funcNamed "bitext/bitextlaw39.ReplicaLimits" = some 3 by kernel_rfl).symm.trans hf) |>.symm
 obtain rfl : fn = Tryz.f3 := (Option.some.inj (Tryz.func3.symm.trans hfn)).symm
 refine ⟨by kernel_rfl,fun j t ht => ?_⟩
 rw [Tryz.params3] at ht
 have hm : t ∈ [3,3] := by simpa using Array.mem_of_getElem? ht
 have hall : ([3,3].all fun u => !Tryz.prog.wantsStandIn u) = true := by kernel_rfl
 exact (show Tryz.prog.wantsStandIn t = false by simpa using List.all_eq_true.1 hall t hm)
end Go.Proofs.YthjfjghcbjiphaaGreatDoor.replicaLimits
namespace Go.Proofs.YthjfjghcbjiphaaGreatDoor
open Go
theorem replicaLimits_card : Rows.ReplicaLimitsCardSaid :=
 Claim7.holds_tied_plain_at .later [] _ _ _ _ replicaLimits.said (fun _ h => by cases h) (by kernel_rfl) (fun _ h => by cases h) replicaLimits_row_tie rfl ⟨rfl,rfl⟩ (by kernel_rfl) rfl replicaLimits.plain (by kernel_rfl)
#print axioms replicaLimits_card
end Go.Proofs.YthjfjghcbjiphaaGreatDoor
