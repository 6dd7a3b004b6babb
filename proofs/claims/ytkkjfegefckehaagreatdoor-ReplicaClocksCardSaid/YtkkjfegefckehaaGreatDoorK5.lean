/- ReplicaClocks returns true for every list of integers and every two integers, and leaves all that was there as it was. Conditions: none. -/
import Derived.Test.YtkkjfegefckehaaGreatDoorK3
import Derived.Test.YtkkjfegefckehaaGreatDoorK4
set_option linter.all false

namespace Go.Proofs.YtkkjfegefckehaaGreatDoor.replicaClocks
open Go Go.Pm Go.ChangeShapes Go.WideShapes Go.ChangeAt Go.RowKit Go.Proofs.Tryz
set_option maxRecDepth 100000 in
theorem lS(H:Type)(enc:TypeId×Value→H)(W:World)(base:Nat)(args:Array Value)(ds gs:List (DataW H))(before:List MemPlace)
  (im:∀ (j:Nat) t v,Tryz.f6.params[j]?=some t→args[j]?=some v→Value.okWide Tryz.prog W .any base t v)
  (hW:DataW.Whole enc Tryz.prog Tryz.f6.params.toList Rows.replicaClocksSpec.vars false W args.toList ds gs before) (hL:laidMetH Tryz.prog Rows.replicaClocksRow.laid W) :
  Calls Tryz.prog 6 args W fun e W'=>∃ v,e=.returned v∧Rows.replicaClocksSpec.post enc Tryz.prog Tryz.f6 false true false false W args v W':=by
 have hW':=hW;obtain⟨p,q,Ty,hV,rfl,hfz,KI⟩:=hW;have hA:DataW.TrodAll enc Tryz.prog W 0 (fun _=>true) true Tryz.f6.params.toList args.toList ds p:=Ty;have hp:Tryz.f6.params=#[22,3,3]:=Tryz.params6;rw[hp]at hA im;obtain⟨v0,vs0,d0,ds0,p0,q0,KL,rfl,rfl,h0,r0⟩:=trodAll_cons hA;obtain⟨v1,Ro,d1,ds1,p1,q1,rfl,rfl,rfl,h1,r1⟩:=trodAll_cons r0;obtain⟨v2,vs2,d2,ds2,p2,q2,rfl,rfl,rfl,h2,r2⟩:=trodAll_cons r1;obtain⟨rfl,rfl,rfl⟩:=trodAll_nil r2;obtain rfl:args=#[v0,v1,v2]:=by cases args;simp_all
 obtain⟨rfl,rfl⟩:=trodVars_none hV;obtain⟨l,zM,_⟩:=qw (fun _=>undef) Tryz.underlying22 Tryz.underlying3 (by kernel_rfl) (im 0 22 v0 rfl rfl) h0;obtain⟨s,rfl,rfl,rfl,Qe⟩:=open_int Tryz.underlying3 (im 1 3 v1 rfl rfl) h1;obtain⟨t,rfl,rfl,rfl,FZ⟩:=open_int Tryz.underlying3 (im 2 3 v2 rfl rfl) h2;refine(vG hL (Ah l s t []) (μ:=fun _=>undef) ⟨rfl,fun i y hy=>?_⟩).mono fun e W' ⟨he,hb⟩=>?_
 ·rcases i with _ | _ | _ | i
  ·simp only[ao,aa]at hy;subst hy;exact zM
  ·simp only[aK,ao,bQ,aa]at hy;subst hy;exact .i _ _
  ·simp only[aK,Nat.reduceAdd,ao,bQ,aa]at hy;subst hy;exact .i _ _
  ·simp at hy
 ·exact⟨_,he,pN rfl rfl (by kernel_rfl) hW' rfl hb⟩
theorem reads(os:Os){H:Type}(enc:TypeId×Value→H):∃ places,DataW.whole enc Tryz.prog ((World.doorLaid Tryz.prog 400 os).forCall (fun _ _=>0) ⟨#[],#[.slice none 0 0,.int .i64 0,.int .i64 0],[]⟩).memory Tryz.f6.params.toList Rows.replicaClocksSpec.vars false #[(Value.slice none 0 0),(Value.int .i64 0),(Value.int .i64 0)].toList 8=some ([.nil,.lit (.int .i64 0),.lit (.int .i64 0)],[],places) :=
 ⟨[],by kernel_rfl⟩
set_option maxRecDepth 100000 in
theorem lifted(os:Os)(started:os.Started)(H:Type)(enc:TypeId×Value→H)(F:Stop.Interp):
  ReturnsInHanded {} Tryz.checked os 6 .any ((OpenSpec.ofChange Rows.replicaClocksSpec).preRow enc Tryz.prog Tryz.f6 Rows.replicaClocksRow.domain false Rows.replicaClocksRow.laid) (((OpenSpec.ofChange Rows.replicaClocksSpec).at F).post enc Tryz.prog Tryz.f6 false true false false):=by
 obtain⟨places,hx⟩:=reads os enc
 refine returnsInHanded_of_row (C:=Tryz.checked) (s:=OpenSpec.ofChange Rows.replicaClocksSpec) own started (by kernel_rfl) Tryz.func6
  (witness_row_at (enc:=enc) (C:=Tryz.checked) false (World.doorLaid Tryz.prog 400 os) #[.slice none 0 0,.int .i64 0,.int .i64 0] rfl (by kernel_rfl) (by kernel_rfl) (by kernel_rfl)
   (OpenSpec.preRow_of_cond 8 hx (by kernel_rfl) (fun k hk=>by cases hk) (by kernel_rfl) (rR os _))) ?_
 intro W base args ds gs before im hW _ _ _ hL _ _;exact lS H enc W base args ds gs before im hW hL
theorem said:Rows.ReplicaClocksSaid :=
 OpenClaim.holds_of_cond 6 Tryz.f6 rfl rfl rfl rfl rfl rfl rfl ⟨rfl,rfl,rfl,rfl,rfl⟩ rfl rfl rfl rfl rfl (by kernel_rfl) Tryz.func6 (by kernel_rfl)
  (of_decide_eq_true (by kernel_rfl)) (by unfold Func.isWrapper;first | (rw[if_pos (by decide +kernel)];kernel_rfl) | (rw[if_neg (by decide +kernel)];exact⟨rfl,rfl⟩))
  (fun os started H enc _ F=>by rw[OpenClaim.pre_eq_preRow];exact lifted os started H enc F)
theorem plain(f:FuncId)(fn:Func)(hf:Tryz.pinned.checked.prog.funcNamed "bitext/bitextlaw39.ReplicaClocks" = some f) (DC:Tryz.pinned.checked.prog.funcs[f]?=some fn) :
  false=Tryz.pinned.checked.prog.looks []∧∀ (j:Nat) t,fn.params[j]?=some t→Tryz.pinned.checked.prog.wantsStandIn t=false:=by
 obtain rfl:f=6:=dJ ((show Tryz.prog.funcNamed "bitext/bitextlaw39.ReplicaClocks" = some 6 by kernel_rfl).symm.trans hf) |>.symm;obtain rfl:fn=Tryz.f6:=(dJ (Tryz.func6.symm.trans DC)).symm;refine⟨by kernel_rfl,fun j t ht=>?_⟩;rw[Tryz.params6]at ht;have hm:t∈[22,3,3]:=by simpa using lk ht
 have js:([22,3,3].all fun u=>!Tryz.prog.wantsStandIn u)=true:=by kernel_rfl
 exact(show Tryz.prog.wantsStandIn t=false by simpa using bI.1 js t hm)
end Go.Proofs.YtkkjfegefckehaaGreatDoor.replicaClocks
namespace Go.Proofs.YtkkjfegefckehaaGreatDoor
open Go
theorem replicaClocks_card:Rows.ReplicaClocksCardSaid :=
 Claim7.holds_tied_plain_at .later [] _ _ _ _ replicaClocks.said (fun _ h=>by cases h) (by kernel_rfl) (fun _ h=>by cases h) replicaClocks_row_tie rfl ⟨rfl,rfl⟩ (by kernel_rfl) rfl replicaClocks.plain (by kernel_rfl)
#print axioms replicaClocks_card
end Go.Proofs.YtkkjfegefckehaaGreatDoor
