/- A part of the proof that OperationDecodes returns true and leaves its arguments as they were, for every input. -/
import Derived.Test.YtdhbodgefhojnaaGreatDoorD23
import Derived.Test.YtdhbodgefhojnaaGreatDoorD25
import Derived.Test.YtdhbodgefhojnaaGreatDoorD31
set_option linter.all false

namespace Go.Proofs.YtdhbodgefhojnaaGreatDoor.operationDecodes
open Go Go.Pm Go.ChangeShapes Go.WideShapes Go.ChangeAt Go.RowKit Go.Proofs.Tryz
set_option maxRecDepth 100000 in
theorem contract (H : Type) (enc : TypeId × Value → H) (W : World) (base : Nat) (args : Array Value) (ds gs : List (DataW H)) (before : List MemPlace)
  (hval : ∀ (j : Nat) t v,Tryz.f11.params[j]? = some t → args[j]? = some v → Value.okWide Tryz.prog W .any base t v)
  (hW : DataW.Whole enc Tryz.prog Tryz.f11.params.toList Rows.operationDecodesSpec.vars false W args.toList ds gs before) (hL : laidMetH Tryz.prog Rows.operationDecodesRow.laid W) :
  Calls Tryz.prog 11 args W fun e W' => ∃ v,e = .returned v ∧ Rows.operationDecodesSpec.post enc Tryz.prog Tryz.f11 false true false false W args v W' := by
 have hW' := hW
 obtain ⟨p,q,hA0,hV,rfl,hfz,hnd⟩ := hW
 have hA : DataW.TrodAll enc Tryz.prog W 0 (fun _ => true) true Tryz.f11.params.toList args.toList ds p := hA0
 have hp : Tryz.f11.params = #[61,31,3,5,3] := Tryz.params11
 rw [hp] at hA hval
 obtain ⟨v0,vs0,d0,ds0,p0,q0,hargs,rfl,rfl,h0,r0⟩ := trodAll_cons hA
 obtain ⟨v1,vs1,d1,ds1,p1,q1,rfl,rfl,rfl,h1,r1⟩ := trodAll_cons r0
 obtain ⟨v2,vs2,d2,ds2,p2,q2,rfl,rfl,rfl,h2,r2⟩ := trodAll_cons r1
 obtain ⟨v3,vs3,d3,ds3,p3,q3,rfl,rfl,rfl,h3,r3⟩ := trodAll_cons r2
 obtain ⟨v4,vs4,d4,ds4,p4,q4,rfl,rfl,rfl,h4,r4⟩ := trodAll_cons r3
 obtain ⟨rfl,rfl,rfl⟩ := trodAll_nil r4
 obtain rfl : args = #[v0,v1,v2,v3,v4] := by cases args; simp_all
 obtain ⟨rfl,rfl⟩ := trodVars_none hV
 obtain ⟨b,hv0⟩ := arg_bytes (fun _ => undef) Tryz.underlying61 Tryz.underlying5 (by kernel_rfl) (hval 0 61 v0 rfl rfl) h0
 obtain ⟨l,hv1,_⟩ := arg_ints (fun _ => undef) Tryz.underlying31 Tryz.underlying3 (by kernel_rfl) (hval 1 31 v1 rfl rfl) h1
 obtain ⟨at0,rfl,rfl,rfl,hw2⟩ := open_int Tryz.underlying3 (hval 2 3 v2 rfl rfl) h2
 obtain ⟨n3,rfl,rfl,rfl,hw3⟩ := open_int Tryz.underlying5 (hval 3 5 v3 rfl rfl) h3
 obtain ⟨by0,rfl⟩ := int_byte hw3
 obtain ⟨how,rfl,rfl,rfl,hw4⟩ := open_int Tryz.underlying3 (hval 4 3 v4 rfl rfl) h4
 refine (run_row hL (operationDecodes_pc b l at0 by0 how []) (μ := fun _ => undef) ⟨rfl,fun i y hy => ?_⟩).mono fun e W' ⟨he,hb⟩ => ?_
 ·rcases i with _ | _ | _ | _ | _ | i
  ·simp only [Nat.zero_add,Nat.reduceAdd,List.getElem?_cons_zero,List.getElem?_cons_succ,Option.some.injEq] at hy; subst hy; exact hv0
  ·simp only [Nat.zero_add,Nat.reduceAdd,List.getElem?_cons_zero,List.getElem?_cons_succ,Option.some.injEq] at hy; subst hy; exact hv1
  ·simp only [Nat.zero_add,Nat.reduceAdd,List.getElem?_cons_zero,List.getElem?_cons_succ,Option.some.injEq] at hy; subst hy; exact .i _ _
  ·simp only [Nat.zero_add,Nat.reduceAdd,List.getElem?_cons_zero,List.getElem?_cons_succ,Option.some.injEq] at hy; subst hy; exact .i _ _
  ·simp only [Nat.zero_add,Nat.reduceAdd,List.getElem?_cons_zero,List.getElem?_cons_succ,Option.some.injEq] at hy; subst hy; exact .i _ _
  ·simp at hy
 ·exact ⟨_,he,post_true rfl rfl (by kernel_rfl) hW' rfl hb⟩
theorem reads (os : Os) {H : Type} (enc : TypeId × Value → H) : ∃ places,DataW.whole enc Tryz.prog ((World.doorLaid Tryz.prog 400 os).forCall (fun _ _ => 0) ⟨#[],#[.slice none 0 0,.slice none 0 0,.int .i64 0,.int .u8 0,.int .i64 0],[]⟩).memory Tryz.f11.params.toList Rows.operationDecodesSpec.vars false #[(Value.slice none 0 0),(Value.slice none 0 0),(Value.int .i64 0),(Value.int .u8 0),(Value.int .i64 0)].toList 8 = some ([.nil,.nil,.lit (.int .i64 0),.lit (.int .u8 0),.lit (.int .i64 0)],[],places) :=
 ⟨[],by kernel_rfl⟩
set_option maxRecDepth 100000 in
theorem lifted (os : Os) (started : os.Started) (H : Type) (enc : TypeId × Value → H) (F : Stop.Interp) :
  ReturnsInHanded {} Tryz.checked os 11 .any ((OpenSpec.ofChange Rows.operationDecodesSpec).preRow enc Tryz.prog Tryz.f11 Rows.operationDecodesRow.domain false Rows.operationDecodesRow.laid) (((OpenSpec.ofChange Rows.operationDecodesSpec).at F).post enc Tryz.prog Tryz.f11 false true false false) := by
 obtain ⟨places,hx⟩ := reads os enc
 refine returnsInHanded_of_row (C := Tryz.checked) (s := OpenSpec.ofChange Rows.operationDecodesSpec) own started (by kernel_rfl) Tryz.func11
  (witness_row_at (enc := enc) (C := Tryz.checked) false (World.doorLaid Tryz.prog 400 os) #[.slice none 0 0,.slice none 0 0,.int .i64 0,.int .u8 0,.int .i64 0] rfl (by kernel_rfl) (by kernel_rfl) (by kernel_rfl)
   (OpenSpec.preRow_of_cond 8 hx (by kernel_rfl) (fun k hk => by cases hk) (by kernel_rfl) (laid_met os _))) ?_
 intro W base args ds gs before hval hW _ _ _ hL _ _
 exact contract H enc W base args ds gs before hval hW hL
theorem said : Rows.OperationDecodesSaid :=
 OpenClaim.holds_of_cond 11 Tryz.f11 rfl rfl rfl rfl rfl rfl rfl ⟨rfl,rfl,rfl,rfl,rfl⟩ rfl rfl rfl rfl rfl (by kernel_rfl) Tryz.func11 (by kernel_rfl)
  (of_decide_eq_true (by kernel_rfl)) (by unfold Func.isWrapper; first | (rw [if_pos (by decide +kernel)]; kernel_rfl) | (rw [if_neg (by decide +kernel)]; exact ⟨rfl,rfl⟩))
  (fun os started H enc _ F => by rw [OpenClaim.pre_eq_preRow]; exact lifted os started H enc F)
theorem plain (f : FuncId) (fn : Func) (hf : Tryz.pinned.checked.prog.funcNamed "bitext/bitextlaw37.OperationDecodes" = some f) (hfn : Tryz.pinned.checked.prog.funcs[f]? = some fn) :
  false = Tryz.pinned.checked.prog.looks [] ∧ ∀ (j : Nat) t,fn.params[j]? = some t → Tryz.pinned.checked.prog.wantsStandIn t = false := by
 obtain rfl : f = 11 := Option.some.inj ((show Tryz.prog.funcNamed "bitext/bitextlaw37.OperationDecodes" = some 11 by kernel_rfl).symm.trans hf) |>.symm
 obtain rfl : fn = Tryz.f11 := (Option.some.inj (Tryz.func11.symm.trans hfn)).symm
 refine ⟨by kernel_rfl,fun j t ht => ?_⟩
 rw [Tryz.params11] at ht
 have hm : t ∈ [61,31,3,5,3] := by simpa using Array.mem_of_getElem? ht
 have hall : ([61,31,3,5,3].all fun u => !Tryz.prog.wantsStandIn u) = true := by kernel_rfl
 exact (show Tryz.prog.wantsStandIn t = false by simpa using List.all_eq_true.1 hall t hm)
end Go.Proofs.YtdhbodgefhojnaaGreatDoor.operationDecodes
namespace Go.Proofs.YtdhbodgefhojnaaGreatDoor
open Go
theorem operationDecodes_card : Rows.OperationDecodesCardSaid :=
 Claim7.holds_tied_plain_at .later [] _ _ _ _ operationDecodes.said (fun _ h => by cases h) (by kernel_rfl) (fun _ h => by cases h) operationDecodes_row_tie rfl ⟨rfl,rfl⟩ (by kernel_rfl) rfl operationDecodes.plain (by kernel_rfl)
#print axioms operationDecodes_card
end Go.Proofs.YtdhbodgefhojnaaGreatDoor
