/- ReplicaNumbers returns true for every integer and every list of integers, and leaves all that was there as it was. Conditions: none. -/
import Derived.Test.YtkkjfegefckehaaGreatDoorN3
import Derived.Test.YtkkjfegefckehaaGreatDoorN5
set_option linter.all false

namespace Go.Proofs.YtkkjfegefckehaaGreatDoor.replicaNumbers
open Go Go.Pm Go.ChangeShapes Go.WideShapes Go.ChangeAt Go.RowKit Go.Proofs.Tryz
set_option maxRecDepth 100000 in
theorem lS(H:Type)(enc:TypeId×Value→H)(W:World)(base:Nat)(args:Array Value)(ds gs:List (DataW H))(before:List MemPlace)
  (im:∀ (j:Nat) t v,Tryz.f4.params[j]?=some t→args[j]?=some v→Value.okWide Tryz.prog W .any base t v)
  (hW:DataW.Whole enc Tryz.prog Tryz.f4.params.toList Rows.replicaNumbersSpec.vars false W args.toList ds gs before) (hL:laidMetH Tryz.prog Rows.replicaNumbersRow.laid W) :
  Calls Tryz.prog 4 args W fun e W'=>∃ v,e=.returned v∧Rows.replicaNumbersSpec.post enc Tryz.prog Tryz.f4 false true false false W args v W':=by
 have hW':=hW;obtain⟨p,q,Ty,hV,rfl,hfz,KI⟩:=hW;have hA:DataW.TrodAll enc Tryz.prog W 0 (fun _=>true) true Tryz.f4.params.toList args.toList ds p:=Ty;have hp:Tryz.f4.params=#[3,22]:=Tryz.params4;rw[hp]at hA im;obtain⟨v0,vs0,d0,ds0,p0,q0,KL,rfl,rfl,h0,r0⟩:=trodAll_cons hA;obtain⟨v1,Ro,d1,ds1,p1,q1,rfl,rfl,rfl,h1,r1⟩:=trodAll_cons r0;obtain⟨rfl,rfl,rfl⟩:=trodAll_nil r1;obtain rfl:args=#[v0,v1]:=by cases args;simp_all
 obtain⟨rfl,rfl⟩:=trodVars_none hV;obtain⟨n,rfl,rfl,rfl,hw0⟩:=open_int Tryz.underlying3 (im 0 3 v0 rfl rfl) h0;obtain⟨l,Wp,_⟩:=qw (fun _=>undef) Tryz.underlying22 Tryz.underlying3 (by kernel_rfl) (im 1 22 v1 rfl rfl) h1;refine(vG hL (yA n l []) (μ:=fun _=>undef) ⟨rfl,fun i y hy=>?_⟩).mono fun e W' ⟨he,hb⟩=>?_
 ·rcases i with _ | _ | i
  ·simp only[ao,aa]at hy;subst hy;exact .i _ _
  ·simp only[aK,ao,bQ,aa]at hy;subst hy;exact Wp
  ·simp at hy
 ·exact⟨_,he,pN rfl rfl (by kernel_rfl) hW' rfl hb⟩
theorem reads(os:Os){H:Type}(enc:TypeId×Value→H):∃ places,DataW.whole enc Tryz.prog ((World.doorLaid Tryz.prog 400 os).forCall (fun _ _=>0) ⟨#[],#[.int .i64 0,.slice none 0 0],[]⟩).memory Tryz.f4.params.toList Rows.replicaNumbersSpec.vars false #[(Value.int .i64 0),(Value.slice none 0 0)].toList 8=some ([.lit (.int .i64 0),.nil],[],places) :=
 ⟨[],by kernel_rfl⟩
set_option maxRecDepth 100000 in
theorem lifted(os:Os)(started:os.Started)(H:Type)(enc:TypeId×Value→H)(F:Stop.Interp):
  ReturnsInHanded {} Tryz.checked os 4 .any ((OpenSpec.ofChange Rows.replicaNumbersSpec).preRow enc Tryz.prog Tryz.f4 Rows.replicaNumbersRow.domain false Rows.replicaNumbersRow.laid) (((OpenSpec.ofChange Rows.replicaNumbersSpec).at F).post enc Tryz.prog Tryz.f4 false true false false):=by
 obtain⟨places,hx⟩:=reads os enc
 refine returnsInHanded_of_row (C:=Tryz.checked) (s:=OpenSpec.ofChange Rows.replicaNumbersSpec) own started (by kernel_rfl) Tryz.func4
  (witness_row_at (enc:=enc) (C:=Tryz.checked) false (World.doorLaid Tryz.prog 400 os) #[.int .i64 0,.slice none 0 0] rfl (by kernel_rfl) (by kernel_rfl) (by kernel_rfl)
   (OpenSpec.preRow_of_cond 8 hx (by kernel_rfl) (fun k hk=>by cases hk) (by kernel_rfl) (rR os _))) ?_
 intro W base args ds gs before im hW _ _ _ hL _ _;exact lS H enc W base args ds gs before im hW hL
theorem said:Rows.ReplicaNumbersSaid :=
 OpenClaim.holds_of_cond 4 Tryz.f4 rfl rfl rfl rfl rfl rfl rfl ⟨rfl,rfl,rfl,rfl,rfl⟩ rfl rfl rfl rfl rfl (by kernel_rfl) Tryz.func4 (by kernel_rfl)
  (of_decide_eq_true (by kernel_rfl)) (by unfold Func.isWrapper;first | (rw[if_pos (by decide +kernel)];kernel_rfl) | (rw[if_neg (by decide +kernel)];exact⟨rfl,rfl⟩))
  (fun os started H enc _ F=>by rw[OpenClaim.pre_eq_preRow];exact lifted os started H enc F)
theorem plain(f:FuncId)(fn:Func)(hf:Tryz.pinned.checked.prog.funcNamed "bitext/bitextlaw39.ReplicaNumbers" = some f) (DC:Tryz.pinned.checked.prog.funcs[f]?=some fn) :
  false=Tryz.pinned.checked.prog.looks []∧∀ (j:Nat) t,fn.params[j]?=some t→Tryz.pinned.checked.prog.wantsStandIn t=false:=by
 obtain rfl:f=4:=dJ ((show Tryz.prog.funcNamed "bitext/bitextlaw39.ReplicaNumbers" = some 4 by kernel_rfl).symm.trans hf) |>.symm;obtain rfl:fn=Tryz.f4:=(dJ (Tryz.func4.symm.trans DC)).symm;refine⟨by kernel_rfl,fun j t ht=>?_⟩;rw[Tryz.params4]at ht;have hm:t∈[3,22]:=by simpa using lk ht
 have js:([3,22].all fun u=>!Tryz.prog.wantsStandIn u)=true:=by kernel_rfl
 exact(show Tryz.prog.wantsStandIn t=false by simpa using bI.1 js t hm)
end Go.Proofs.YtkkjfegefckehaaGreatDoor.replicaNumbers
namespace Go.Proofs.YtkkjfegefckehaaGreatDoor
open Go
theorem replicaNumbers_card:Rows.ReplicaNumbersCardSaid :=
 Claim7.holds_tied_plain_at .later [] _ _ _ _ replicaNumbers.said (fun _ h=>by cases h) (by kernel_rfl) (fun _ h=>by cases h) replicaNumbers_row_tie rfl ⟨rfl,rfl⟩ (by kernel_rfl) rfl replicaNumbers.plain (by kernel_rfl)
#print axioms replicaNumbers_card
end Go.Proofs.YtkkjfegefckehaaGreatDoor
