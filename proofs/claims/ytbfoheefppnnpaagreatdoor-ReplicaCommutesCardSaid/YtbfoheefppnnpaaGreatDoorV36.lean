/- A part of the proof of the statement of the last text of this claim: for every two lists of integers ReplicaCommutes returns true and leaves the memory as it was. -/
import Derived.Test.YtbfoheefppnnpaaGreatDoorV28
import Derived.Test.YtbfoheefppnnpaaGreatDoorV35
set_option linter.all false

namespace Go.Proofs.YtbfoheefppnnpaaGreatDoor.replicaCommutes
open Go Go.Pm Go.ChangeShapes Go.WideShapes Go.ChangeAt Go.RowKit Go.Proofs.Tryz
set_option maxRecDepth 100000 in
theorem contract (H:Type) (enc:TypeId×Value→H) (W:World) (base:Nat) (args:Array Value) (ds gs:List (DataW H)) (before:List MemPlace)
  (hval:∀ (j:Nat) t v,Tryz.f3.params[j]?=some t→args[j]?=some v→Value.okWide Tryz.prog W .any base t v)
  (hW:DataW.Whole enc Tryz.prog Tryz.f3.params.toList Rows.replicaCommutesSpec.vars false W args.toList ds gs before) (hL:laidMetH Tryz.prog Rows.replicaCommutesRow.laid W) :
  Calls Tryz.prog 3 args W fun e W'=>∃ v,e=.returned v∧Rows.replicaCommutesSpec.post enc Tryz.prog Tryz.f3 false true false false W args v W':=by
 have hW':=hW
 obtain ⟨p,q,hA0,hV,rfl,hfz,hnd⟩:=hW
 have hA:DataW.TrodAll enc Tryz.prog W 0 (fun _=>true) true Tryz.f3.params.toList args.toList ds p:=hA0
 have hp:Tryz.f3.params=#[22,22]:=Tryz.params3
 rw [hp] at hA hval
 obtain ⟨v0,vs0,d0,ds0,p0,q0,hargs,rfl,rfl,h0,r0⟩:=trodAll_cons hA
 obtain ⟨v1,vs1,d1,ds1,p1,q1,rfl,rfl,rfl,h1,r1⟩:=trodAll_cons r0
 obtain ⟨rfl,rfl,rfl⟩:=trodAll_nil r1
 obtain rfl:args=#[v0,v1]:=by cases args;simp_all
 obtain ⟨rfl,rfl⟩:=trodVars_none hV
 obtain ⟨l,hv0,_⟩:=arg_ints (fun _=>undef) Tryz.underlying22 Tryz.underlying3 (by kernel_rfl) (hval 0 22 v0 rfl rfl) h0
 obtain ⟨order,hv1,_⟩:=arg_ints (fun _=>undef) Tryz.underlying22 Tryz.underlying3 (by kernel_rfl) (hval 1 22 v1 rfl rfl) h1
 refine (run_row hL (replicaCommutes_pc l order []) (μ:=fun _=>undef) ⟨rfl,fun i y hy=>?_⟩).mono fun e W' ⟨he,hb⟩=>?_
 ·rcases i with _ | _ | i
  ·simp only [List.getElem?_cons_zero,Option.some.injEq] at hy;subst hy;exact hv0
  ·simp only [Nat.zero_add,List.getElem?_cons_zero,List.getElem?_cons_succ,Option.some.injEq] at hy;subst hy;exact hv1
  ·simp at hy
 ·exact ⟨_,he,post_true rfl rfl (by kernel_rfl) hW' rfl hb⟩
theorem reads (os:Os) {H:Type} (enc:TypeId×Value→H):∃ places,DataW.whole enc Tryz.prog ((World.doorLaid Tryz.prog 400 os).forCall (fun _ _=>0) ⟨#[],#[.slice none 0 0,.slice none 0 0],[]⟩).memory Tryz.f3.params.toList Rows.replicaCommutesSpec.vars false #[(Value.slice none 0 0),(Value.slice none 0 0)].toList 8=some ([.nil,.nil],[],places) :=
 ⟨[],by kernel_rfl⟩
set_option maxRecDepth 100000 in
theorem lifted (os:Os) (started:os.Started) (H:Type) (enc:TypeId×Value→H) (F:Stop.Interp) :
  ReturnsInHanded {} Tryz.checked os 3 .any ((OpenSpec.ofChange Rows.replicaCommutesSpec).preRow enc Tryz.prog Tryz.f3 Rows.replicaCommutesRow.domain false Rows.replicaCommutesRow.laid) (((OpenSpec.ofChange Rows.replicaCommutesSpec).at F).post enc Tryz.prog Tryz.f3 false true false false):=by
 obtain ⟨places,hx⟩:=reads os enc
 refine returnsInHanded_of_row (C:=Tryz.checked) (s:=OpenSpec.ofChange Rows.replicaCommutesSpec) own started (by kernel_rfl) Tryz.func3
  (witness_row_at (enc:=enc) (C:=Tryz.checked) false (World.doorLaid Tryz.prog 400 os) #[.slice none 0 0,.slice none 0 0] rfl (by kernel_rfl) (by kernel_rfl) (by kernel_rfl)
   (OpenSpec.preRow_of_cond 8 hx (by kernel_rfl) (fun k hk=>by cases hk) (by kernel_rfl) (laid_met os _))) ?_
 intro W base args ds gs before hval hW _ _ _ hL _ _
 exact contract H enc W base args ds gs before hval hW hL
theorem said:Rows.ReplicaCommutesSaid :=
 OpenClaim.holds_of_cond 3 Tryz.f3 rfl rfl rfl rfl rfl rfl rfl ⟨rfl,rfl,rfl,rfl,rfl⟩ rfl rfl rfl rfl rfl (by kernel_rfl) Tryz.func3 (by kernel_rfl)
  (of_decide_eq_true (by kernel_rfl)) (by unfold Func.isWrapper;first | (rw [if_pos (by decide +kernel)];kernel_rfl) | (rw [if_neg (by decide +kernel)];exact ⟨rfl,rfl⟩))
  (fun os started H enc _ F=>by rw [OpenClaim.pre_eq_preRow];exact lifted os started H enc F)
theorem plain (f:FuncId) (fn:Func) (hf:Tryz.pinned.checked.prog.funcNamed "bitext/bitextlaw39.ReplicaCommutes" = some f) (hfn:Tryz.pinned.checked.prog.funcs[f]?=some fn) :
  false=Tryz.pinned.checked.prog.looks []∧∀ (j:Nat) t,fn.params[j]?=some t→Tryz.pinned.checked.prog.wantsStandIn t=false:=by
 obtain rfl:f=3:=Option.some.inj ((show Tryz.prog.funcNamed "bitext/bitextlaw39.ReplicaCommutes" = some 3 by kernel_rfl).symm.trans hf) |>.symm
 obtain rfl:fn=Tryz.f3:=(Option.some.inj (Tryz.func3.symm.trans hfn)).symm
 refine ⟨by kernel_rfl,fun j t ht=>?_⟩
 rw [Tryz.params3] at ht
 have hm:t∈[22,22]:=by simpa using Array.mem_of_getElem? ht
 have hall:([22,22].all fun u=>!Tryz.prog.wantsStandIn u)=true:=by kernel_rfl
 exact (show Tryz.prog.wantsStandIn t=false by simpa using List.all_eq_true.1 hall t hm)
end Go.Proofs.YtbfoheefppnnpaaGreatDoor.replicaCommutes
namespace Go.Proofs.YtbfoheefppnnpaaGreatDoor
open Go
theorem replicaCommutes_card:Rows.ReplicaCommutesCardSaid :=
 Claim7.holds_tied_plain_at .later [] _ _ _ _ replicaCommutes.said (fun _ h=>by cases h) (by kernel_rfl) (fun _ h=>by cases h) replicaCommutes_row_tie rfl ⟨rfl,rfl⟩ (by kernel_rfl) rfl replicaCommutes.plain (by kernel_rfl)
#print axioms replicaCommutes_card
end Go.Proofs.YtbfoheefppnnpaaGreatDoor
