/- A part of the proof that for every input the law NetworkLimits returns true and leaves its argument as it was. -/
import Derived.Test.YtgihcpilgfbggaaGreatDoorL29
import Derived.Test.YtgihcpilgfbggaaGreatDoorL31
import Derived.Test.YtgihcpilgfbggaaGreatDoorL40
set_option linter.all false

namespace Go.Proofs.YtgihcpilgfbggaaGreatDoor.networkLimits
open Go Go.Pm Go.ChangeShapes Go.WideShapes Go.ChangeAt Go.RowKit Go.Proofs.Tryz
set_option maxRecDepth 100000 in
theorem Nd(H:Type)(enc:TypeId×Value→H)(W:World)(base:Nat)(args:Array Value)(ds gs:List (DataW H))(before:List MemPlace)
  (Pr:∀ (j:Nat) t v,Tryz.f3.params[j]?=some t→args[j]?=some v→Value.okWide Tryz.prog W .any base t v)
  (hW:DataW.Whole enc Tryz.prog Tryz.f3.params.toList Rows.networkLimitsSpec.vars false W args.toList ds gs before) (hL:laidMetH Tryz.prog Rows.networkLimitsRow.laid W) :
  Calls Tryz.prog 3 args W fun e W'=>∃ v,e=.returned v∧Rows.networkLimitsSpec.post enc Tryz.prog Tryz.f3 false true false false W args v W':=by
 have hW':=hW;obtain⟨p,q,hA0,hV,rfl,hfz,T8⟩:=hW;have hA:DataW.TrodAll enc Tryz.prog W 0 (fun _=>true) true Tryz.f3.params.toList args.toList ds p:=hA0;have hp:Tryz.f3.params=#[3]:=Tryz.params3;rw[hp]at hA Pr;obtain⟨v0,vs0,d0,ds0,p0,q0,acN,rfl,rfl,h0,r0⟩:=trodAll_cons hA;obtain⟨rfl,rfl,rfl⟩:=trodAll_nil r0;obtain rfl:args=#[v0]:=by cases args;simp_all
 obtain⟨rfl,rfl⟩:=trodVars_none hV;obtain⟨n,rfl,rfl,rfl,hw0⟩:=open_int Tryz.underlying3 (Pr 0 3 v0 rfl rfl) h0;refine(N9 hL (ud n []) (μ:=fun _=>undef) ⟨rfl,fun i y hy=>?_⟩).mono fun e W' ⟨he,hb⟩=>?_
 ·rcases i with _ | i
  ·simp only[aI,Nat.reduceAdd,ax,cc,aa]at hy;subst hy;exact .i _ _
  ·simp at hy
 ·exact⟨_,he,I7 rfl rfl (by kernel_rfl) hW' rfl hb⟩
theorem reads(os:Os){H:Type}(enc:TypeId×Value→H):∃ places,DataW.whole enc Tryz.prog ((World.doorLaid Tryz.prog 400 os).forCall (fun _ _=>0) ⟨#[],#[.int .i64 0],[]⟩).memory Tryz.f3.params.toList Rows.networkLimitsSpec.vars false #[(Value.int .i64 0)].toList 8=some ([.lit (.int .i64 0)],[],places) :=
 ⟨[],by kernel_rfl⟩
set_option maxRecDepth 100000 in
theorem lifted(os:Os)(started:os.Started)(H:Type)(enc:TypeId×Value→H)(F:Stop.Interp):
  ReturnsInHanded {} Tryz.checked os 3 .any ((OpenSpec.ofChange Rows.networkLimitsSpec).preRow enc Tryz.prog Tryz.f3 Rows.networkLimitsRow.domain false Rows.networkLimitsRow.laid) (((OpenSpec.ofChange Rows.networkLimitsSpec).at F).post enc Tryz.prog Tryz.f3 false true false false):=by
 obtain⟨places,hx⟩:=reads os enc
 refine returnsInHanded_of_row (C:=Tryz.checked) (s:=OpenSpec.ofChange Rows.networkLimitsSpec) own started (by kernel_rfl) Tryz.func3
  (witness_row_at (enc:=enc) (C:=Tryz.checked) false (World.doorLaid Tryz.prog 400 os) #[.int .i64 0] rfl (by kernel_rfl) (by kernel_rfl) (by kernel_rfl)
   (OpenSpec.preRow_of_cond 8 hx (by kernel_rfl) (fun k hk=>by cases hk) (by kernel_rfl) (L3 os _))) ?_
 intro W base args ds gs before Pr hW _ _ _ hL _ _;exact Nd H enc W base args ds gs before Pr hW hL
theorem said:Rows.NetworkLimitsSaid :=
 OpenClaim.holds_of_cond 3 Tryz.f3 rfl rfl rfl rfl rfl rfl rfl ⟨rfl,rfl,rfl,rfl,rfl⟩ rfl rfl rfl rfl rfl (by kernel_rfl) Tryz.func3 (by kernel_rfl)
  (of_decide_eq_true (by kernel_rfl)) (by unfold Func.isWrapper;first | (rw[if_pos (by decide +kernel)];kernel_rfl) | (rw[if_neg (by decide +kernel)];exact⟨rfl,rfl⟩))
  (fun os started H enc _ F=>by rw[OpenClaim.pre_eq_preRow];exact lifted os started H enc F)
theorem plain(f:FuncId)(fn:Func)(hf:Tryz.pinned.checked.prog.funcNamed "bitext/bitextlaw40.NetworkLimits" = some f) (JR:Tryz.pinned.checked.prog.funcs[f]?=some fn) :
  false=Tryz.pinned.checked.prog.looks []∧∀ (j:Nat) t,fn.params[j]?=some t→Tryz.pinned.checked.prog.wantsStandIn t=false:=by
 obtain rfl:f=3:=ky ((show Tryz.prog.funcNamed "bitext/bitextlaw40.NetworkLimits" = some 3 by kernel_rfl).symm.trans hf) |>.symm;obtain rfl:fn=Tryz.f3:=(ky (Tryz.func3.symm.trans JR)).symm;refine⟨by kernel_rfl,fun j t ht=>?_⟩;rw[Tryz.params3]at ht;have hm:t∈[3]:=by simpa using Array.mem_of_getElem? ht
 have iE:([3].all fun u=>!Tryz.prog.wantsStandIn u)=true:=by kernel_rfl
 exact(show Tryz.prog.wantsStandIn t=false by simpa using bR.1 iE t hm)
end Go.Proofs.YtgihcpilgfbggaaGreatDoor.networkLimits
namespace Go.Proofs.YtgihcpilgfbggaaGreatDoor
open Go
theorem networkLimits_card:Rows.NetworkLimitsCardSaid :=
 Claim7.holds_tied_plain_at .later [] _ _ _ _ networkLimits.said (fun _ h=>by cases h) (by kernel_rfl) (fun _ h=>by cases h) networkLimits_row_tie rfl ⟨rfl,rfl⟩ (by kernel_rfl) rfl networkLimits.plain (by kernel_rfl)
#print axioms networkLimits_card
end Go.Proofs.YtgihcpilgfbggaaGreatDoor
