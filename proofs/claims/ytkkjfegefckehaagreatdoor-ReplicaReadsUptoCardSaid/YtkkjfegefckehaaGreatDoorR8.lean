/- ReplicaReads returns true for every two lists of integers, and leaves all that was there as it was. Conditions: the arguments have at most the bulk that the statement names. -/
import Derived.Test.YtkkjfegefckehaaGreatDoorR6
import Derived.Test.YtkkjfegefckehaaGreatDoorR7
set_option linter.all false

namespace Go.Proofs.YtkkjfegefckehaaGreatDoor.replicaReads
open Go Go.Pm Go.ChangeShapes Go.WideShapes Go.ChangeAt Go.RowKit Go.Proofs.Tryz
set_option maxRecDepth 100000 in
theorem lS(H:Type)(enc:TypeId×Value→H)(W:World)(base:Nat)(args:Array Value)(ds gs:List (DataW H))(before:List MemPlace)
  (im:∀ (j:Nat) t v,Tryz.f7.params[j]?=some t→args[j]?=some v→Value.okWide Tryz.prog W .any base t v)
  (hW:DataW.Whole enc Tryz.prog Tryz.f7.params.toList Rows.replicaReadsSpec.vars false W args.toList ds gs before) (hB:Rows.uptoBulkAll (ds++gs)≤1048576) (hL:laidMetH Tryz.prog Rows.replicaReadsUptoRow.laid W) :
  Calls Tryz.prog 7 args W fun e W'=>∃ v,e=.returned v∧Rows.replicaReadsSpec.post enc Tryz.prog Tryz.f7 false true false false W args v W':=by
 have hW':=hW;obtain⟨p,q,Ty,hV,rfl,hfz,KI⟩:=hW;have hA:DataW.TrodAll enc Tryz.prog W 0 (fun _=>true) true Tryz.f7.params.toList args.toList ds p:=Ty;have hp:Tryz.f7.params=#[22,22]:=Tryz.params7;rw[hp]at hA im;obtain⟨v0,vs0,d0,ds0,p0,q0,KL,rfl,rfl,h0,r0⟩:=trodAll_cons hA;obtain⟨v1,Ro,d1,ds1,p1,q1,rfl,rfl,rfl,h1,r1⟩:=trodAll_cons r0;obtain⟨rfl,rfl,rfl⟩:=trodAll_nil r1;obtain rfl:args=#[v0,v1]:=by cases args;simp_all
 obtain⟨rfl,rfl⟩:=trodVars_none hV;obtain⟨l,zM,hs0⟩:=r7 (fun _=>undef) (im 0 22 v0 rfl rfl) h0 (bZ (kK (by simp)) hB);obtain⟨seen,Wp,Wu⟩:=r7 (fun _=>undef) (im 1 22 v1 rfl rfl) h1 (bZ (kK (by simp)) hB);refine(vG hL (BJ l seen hs0 Wu []) (μ:=fun _=>undef) ⟨rfl,fun i y hy=>?_⟩).mono fun e W' ⟨he,hb⟩=>?_
 ·rcases i with _ | _ | i
  ·simp only[ao,aa]at hy;subst hy;exact zM
  ·simp only[aK,ao,bQ,aa]at hy;subst hy;exact Wp
  ·simp at hy
 ·exact⟨_,he,pN rfl rfl (by kernel_rfl) hW' rfl hb⟩
theorem reads(os:Os){H:Type}(enc:TypeId×Value→H):∃ places,DataW.whole enc Tryz.prog ((World.doorLaid Tryz.prog 400 os).forCall (fun _ _=>0) ⟨#[],#[.slice none 0 0,.slice none 0 0],[]⟩).memory Tryz.f7.params.toList Rows.replicaReadsSpec.vars false #[(Value.slice none 0 0),(Value.slice none 0 0)].toList 8=some ([.nil,.nil],[],places) :=
 ⟨[],by kernel_rfl⟩
set_option maxRecDepth 100000 in
theorem lifted(os:Os)(started:os.Started)(H:Type)(enc:TypeId×Value→H)(F:Stop.Interp):
  ReturnsInHanded {} Tryz.checked os 7 .any ((Rows.OpenSpec.upto Rows.replicaReadsSpec).preRow enc Tryz.prog Tryz.f7 Rows.replicaReadsUptoRow.domain false Rows.replicaReadsUptoRow.laid) (((Rows.OpenSpec.upto Rows.replicaReadsSpec).at F).post enc Tryz.prog Tryz.f7 false true false false):=by
 obtain⟨places,hx⟩:=reads os enc
 refine returnsInHanded_of_row (C:=Tryz.checked) (s:=Rows.OpenSpec.upto Rows.replicaReadsSpec) own started (by kernel_rfl) Tryz.func7
  (witness_row_at (enc:=enc) (C:=Tryz.checked) false (World.doorLaid Tryz.prog 400 os) #[.slice none 0 0,.slice none 0 0] rfl (by kernel_rfl) (by kernel_rfl) (by kernel_rfl)
   (OpenSpec.preRow_of_cond 8 hx (by kernel_rfl) (fun k hk=>by cases hk;kernel_rfl) (by kernel_rfl) (rR os _))) ?_
 intro W base args ds gs before im hW _ hk _ hL _ _;exact lS H enc W base args ds gs before im hW (of_decide_eq_true (hk _ rfl)) hL
theorem said:Rows.ReplicaReadsUptoSaid :=
 OpenClaim.holds_of_cond 7 Tryz.f7 rfl rfl rfl rfl rfl rfl rfl ⟨rfl,rfl,rfl,rfl,rfl⟩ rfl rfl rfl rfl rfl (by kernel_rfl) Tryz.func7 (by kernel_rfl)
  (of_decide_eq_true (by kernel_rfl)) (by unfold Func.isWrapper;first | (rw[if_pos (by decide +kernel)];kernel_rfl) | (rw[if_neg (by decide +kernel)];exact⟨rfl,rfl⟩))
  (fun os started H enc _ F=>by rw[OpenClaim.pre_eq_preRow];exact lifted os started H enc F)
theorem plain(f:FuncId)(fn:Func)(hf:Tryz.pinned.checked.prog.funcNamed "bitext/bitextlaw39.ReplicaReads" = some f) (DC:Tryz.pinned.checked.prog.funcs[f]?=some fn) :
  false=Tryz.pinned.checked.prog.looks []∧∀ (j:Nat) t,fn.params[j]?=some t→Tryz.pinned.checked.prog.wantsStandIn t=false:=by
 obtain rfl:f=7:=dJ ((show Tryz.prog.funcNamed "bitext/bitextlaw39.ReplicaReads" = some 7 by kernel_rfl).symm.trans hf) |>.symm;obtain rfl:fn=Tryz.f7:=(dJ (Tryz.func7.symm.trans DC)).symm;refine⟨by kernel_rfl,fun j t ht=>?_⟩;rw[Tryz.params7]at ht;have hm:t∈[22,22]:=by simpa using lk ht
 have js:([22,22].all fun u=>!Tryz.prog.wantsStandIn u)=true:=by kernel_rfl
 exact(show Tryz.prog.wantsStandIn t=false by simpa using bI.1 js t hm)
end Go.Proofs.YtkkjfegefckehaaGreatDoor.replicaReads
namespace Go.Proofs.YtkkjfegefckehaaGreatDoor
open Go
theorem replicaReadsUpto_card:Rows.ReplicaReadsUptoCardSaid :=
 Claim7.holds_tied_plain_at .later [] _ _ _ _ replicaReads.said (fun _ h=>by cases h) (by kernel_rfl) (fun _ h=>by cases h) replicaReadsUpto_row_tie rfl ⟨rfl,rfl⟩ (by kernel_rfl) rfl replicaReads.plain (by kernel_rfl)
#print axioms replicaReadsUpto_card
end Go.Proofs.YtkkjfegefckehaaGreatDoor
