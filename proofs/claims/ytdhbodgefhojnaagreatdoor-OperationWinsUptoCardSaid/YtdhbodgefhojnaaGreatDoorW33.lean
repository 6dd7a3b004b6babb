/- A part of the proof of the statement of the last text of this claim: for every input the law returns true and leaves its argument as it was. -/
import Derived.Test.YtdhbodgefhojnaaGreatDoorW27
import Derived.Test.YtdhbodgefhojnaaGreatDoorW32
set_option linter.all false

namespace Go.Proofs.YtdhbodgefhojnaaGreatDoor.operationWins
open Go Go.Pm Go.ChangeShapes Go.WideShapes Go.ChangeAt Go.RowKit Go.Proofs.Tryz
set_option maxRecDepth 100000 in
theorem contract (H : Type) (enc : TypeId × Value → H) (W : World) (base : Nat) (args : Array Value) (ds gs : List (DataW H)) (before : List MemPlace)
  (hval : ∀ (j : Nat) t v,Tryz.f5.params[j]? = some t → args[j]? = some v → Value.okWide Tryz.prog W .any base t v)
  (hW : DataW.Whole enc Tryz.prog Tryz.f5.params.toList Rows.operationWinsSpec.vars false W args.toList ds gs before) (hB : Rows.uptoBulkAll (ds ++ gs) ≤ 1048576) (hL : laidMetH Tryz.prog Rows.operationWinsUptoRow.laid W) :
  Calls Tryz.prog 5 args W fun e W' => ∃ v,e = .returned v ∧ Rows.operationWinsSpec.post enc Tryz.prog Tryz.f5 false true false false W args v W' := by
 have hW' := hW
 obtain ⟨p,q,hA0,hV,rfl,hfz,hnd⟩ := hW
 have hA : DataW.TrodAll enc Tryz.prog W 0 (fun _ => true) true Tryz.f5.params.toList args.toList ds p := hA0
 have hp : Tryz.f5.params = #[33,33,31] := Tryz.params5
 rw [hp] at hA hval
 obtain ⟨v0,vs0,d0,ds0,p0,q0,hargs,rfl,rfl,h0,r0⟩ := trodAll_cons hA
 obtain ⟨v1,vs1,d1,ds1,p1,q1,rfl,rfl,rfl,h1,r1⟩ := trodAll_cons r0
 obtain ⟨v2,vs2,d2,ds2,p2,q2,rfl,rfl,rfl,h2,r2⟩ := trodAll_cons r1
 obtain ⟨rfl,rfl,rfl⟩ := trodAll_nil r2
 obtain rfl : args = #[v0,v1,v2] := by cases args; simp_all
 obtain ⟨rfl,rfl⟩ := trodVars_none hV
 obtain ⟨a,hv0,hs0⟩ := arg_op (fun _ => undef) (hval 0 33 v0 rfl rfl) h0 (Nat.le_trans (bulk_part (by simp)) hB)
 obtain ⟨b,hv1,hs1⟩ := arg_op (fun _ => undef) (hval 1 33 v1 rfl rfl) h1 (Nat.le_trans (bulk_part (by simp)) hB)
 obtain ⟨l,hv2,_⟩ := arg_ints (fun _ => undef) Tryz.underlying31 Tryz.underlying3 (by kernel_rfl) (hval 2 31 v2 rfl rfl) h2
 refine (run_row hL (operationWins_pc a b hs0 hs1 l []) (μ := fun _ => undef) ⟨rfl,fun i y hy => ?_⟩).mono fun e W' ⟨he,hb⟩ => ?_
 ·rcases i with _ | _ | _ | i
  ·simp only [List.getElem?_cons_zero,Option.some.injEq] at hy; subst hy; exact hv0
  ·simp only [Nat.zero_add,List.getElem?_cons_zero,List.getElem?_cons_succ,Option.some.injEq] at hy; subst hy; exact hv1
  ·simp only [Nat.zero_add,Nat.reduceAdd,List.getElem?_cons_zero,List.getElem?_cons_succ,Option.some.injEq] at hy; subst hy; exact hv2
  ·simp at hy
 ·exact ⟨_,he,post_true rfl rfl (by kernel_rfl) hW' rfl hb⟩
theorem reads (os : Os) {H : Type} (enc : TypeId × Value → H) : ∃ places,DataW.whole enc Tryz.prog ((World.doorLaid Tryz.prog 400 os).forCall (fun _ _ => 0) ⟨#[],#[.agg #[.int .i64 0,.int .i64 0,.int .i64 0,.int .i64 0,.slice none 0 0,.slice none 0 0,.string ⟨#[]⟩,.string ⟨#[]⟩,.string ⟨#[]⟩,.string ⟨#[]⟩,.int .i64 0,.int .i64 0,.slice none 0 0],.agg #[.int .i64 0,.int .i64 0,.int .i64 0,.int .i64 0,.slice none 0 0,.slice none 0 0,.string ⟨#[]⟩,.string ⟨#[]⟩,.string ⟨#[]⟩,.string ⟨#[]⟩,.int .i64 0,.int .i64 0,.slice none 0 0],.slice none 0 0],[]⟩).memory Tryz.f5.params.toList Rows.operationWinsSpec.vars false #[(Value.agg #[.int .i64 0,.int .i64 0,.int .i64 0,.int .i64 0,.slice none 0 0,.slice none 0 0,.string ⟨#[]⟩,.string ⟨#[]⟩,.string ⟨#[]⟩,.string ⟨#[]⟩,.int .i64 0,.int .i64 0,.slice none 0 0]),(Value.agg #[.int .i64 0,.int .i64 0,.int .i64 0,.int .i64 0,.slice none 0 0,.slice none 0 0,.string ⟨#[]⟩,.string ⟨#[]⟩,.string ⟨#[]⟩,.string ⟨#[]⟩,.int .i64 0,.int .i64 0,.slice none 0 0]),(Value.slice none 0 0)].toList 8 = some ([.agg [.agg [.lit (.int .i64 0),.lit (.int .i64 0),.lit (.int .i64 0)],.lit (.int .i64 0),.agg [.nil,.nil,.lit (.string []),.lit (.string []),.lit (.string []),.lit (.string []),.lit (.int .i64 0),.lit (.int .i64 0)],.nil],.agg [.agg [.lit (.int .i64 0),.lit (.int .i64 0),.lit (.int .i64 0)],.lit (.int .i64 0),.agg [.nil,.nil,.lit (.string []),.lit (.string []),.lit (.string []),.lit (.string []),.lit (.int .i64 0),.lit (.int .i64 0)],.nil],.nil],[],places) :=
 ⟨[],by kernel_rfl⟩
set_option maxRecDepth 100000 in
theorem lifted (os : Os) (started : os.Started) (H : Type) (enc : TypeId × Value → H) (F : Stop.Interp) :
  ReturnsInHanded {} Tryz.checked os 5 .any ((Rows.OpenSpec.upto Rows.operationWinsSpec).preRow enc Tryz.prog Tryz.f5 Rows.operationWinsUptoRow.domain false Rows.operationWinsUptoRow.laid) (((Rows.OpenSpec.upto Rows.operationWinsSpec).at F).post enc Tryz.prog Tryz.f5 false true false false) := by
 obtain ⟨places,hx⟩ := reads os enc
 refine returnsInHanded_of_row (C := Tryz.checked) (s := Rows.OpenSpec.upto Rows.operationWinsSpec) own started (by kernel_rfl) Tryz.func5
  (witness_row_at (enc := enc) (C := Tryz.checked) false (World.doorLaid Tryz.prog 400 os) #[.agg #[.int .i64 0,.int .i64 0,.int .i64 0,.int .i64 0,.slice none 0 0,.slice none 0 0,.string ⟨#[]⟩,.string ⟨#[]⟩,.string ⟨#[]⟩,.string ⟨#[]⟩,.int .i64 0,.int .i64 0,.slice none 0 0],.agg #[.int .i64 0,.int .i64 0,.int .i64 0,.int .i64 0,.slice none 0 0,.slice none 0 0,.string ⟨#[]⟩,.string ⟨#[]⟩,.string ⟨#[]⟩,.string ⟨#[]⟩,.int .i64 0,.int .i64 0,.slice none 0 0],.slice none 0 0] rfl (by kernel_rfl) (by kernel_rfl) (by kernel_rfl)
   (OpenSpec.preRow_of_cond 8 hx (by kernel_rfl) (fun k hk => by cases hk; kernel_rfl) (by kernel_rfl) (laid_met os _))) ?_
 intro W base args ds gs before hval hW _ hk _ hL _ _
 exact contract H enc W base args ds gs before hval hW (of_decide_eq_true (hk _ rfl)) hL
theorem said : Rows.OperationWinsUptoSaid :=
 OpenClaim.holds_of_cond 5 Tryz.f5 rfl rfl rfl rfl rfl rfl rfl ⟨rfl,rfl,rfl,rfl,rfl⟩ rfl rfl rfl rfl rfl (by kernel_rfl) Tryz.func5 (by kernel_rfl)
  (of_decide_eq_true (by kernel_rfl)) (by unfold Func.isWrapper; first | (rw [if_pos (by decide +kernel)]; kernel_rfl) | (rw [if_neg (by decide +kernel)]; exact ⟨rfl,rfl⟩))
  (fun os started H enc _ F => by rw [OpenClaim.pre_eq_preRow]; exact lifted os started H enc F)
theorem plain (f : FuncId) (fn : Func) (hf : Tryz.pinned.checked.prog.funcNamed "bitext/bitextlaw37.OperationWins" = some f) (hfn : Tryz.pinned.checked.prog.funcs[f]? = some fn) :
  false = Tryz.pinned.checked.prog.looks [] ∧ ∀ (j : Nat) t,fn.params[j]? = some t → Tryz.pinned.checked.prog.wantsStandIn t = false := by
 obtain rfl : f = 5 := Option.some.inj ((show Tryz.prog.funcNamed "bitext/bitextlaw37.OperationWins" = some 5 by kernel_rfl).symm.trans hf) |>.symm
 obtain rfl : fn = Tryz.f5 := (Option.some.inj (Tryz.func5.symm.trans hfn)).symm
 refine ⟨by kernel_rfl,fun j t ht => ?_⟩
 rw [Tryz.params5] at ht
 have hm : t ∈ [33,33,31] := by simpa using Array.mem_of_getElem? ht
 have hall : ([33,33,31].all fun u => !Tryz.prog.wantsStandIn u) = true := by kernel_rfl
 exact (show Tryz.prog.wantsStandIn t = false by simpa using List.all_eq_true.1 hall t hm)
end Go.Proofs.YtdhbodgefhojnaaGreatDoor.operationWins
namespace Go.Proofs.YtdhbodgefhojnaaGreatDoor
open Go
theorem operationWinsUpto_card : Rows.OperationWinsUptoCardSaid :=
 Claim7.holds_tied_plain_at .later [] _ _ _ _ operationWins.said (fun _ h => by cases h) (by kernel_rfl) (fun _ h => by cases h) operationWinsUpto_row_tie rfl ⟨rfl,rfl⟩ (by kernel_rfl) rfl operationWins.plain (by kernel_rfl)
#print axioms operationWinsUpto_card
end Go.Proofs.YtdhbodgefhojnaaGreatDoor
