/- MatchExact returns true for every list of integers and every integer, and leaves all that was there as it was. Conditions: none. -/
import Derived.Test.YtlakkaamfadipaaGreatDoorX4
set_option linter.all false
set_option maxHeartbeats 80000000

namespace Go.Proofs.YtlakkaamfadipaaGreatDoor.matchExact
open Go Go.Pm Go.ChangeShapes Go.WideShapes Go.ChangeAt Go.RowKit Go.Proofs.Tryz
set_option maxRecDepth 100000 in
def vR(H:Type)(enc:TypeId×Value->H)(W:bD)(b:Nat)(args:Array Value)(n gs:List (DataW H))(before:List MemPlace)
  (f:∀(j:Nat) t v,Tryz.f10.params[j]?=some t->args[j]?=some v->Value.okWide Tryz.prog W .any b t v)
  (hW:DataW.Whole enc Tryz.prog Tryz.f10.params.toList Rows.matchExactSpec.vars false W args.toList n gs before) (x:laidMetH Tryz.prog Rows.matchExactRow.laid W) :
  Calls Tryz.prog 10 args W λe m=>∃v,e=.returned v/\Rows.matchExactSpec.post enc Tryz.prog Tryz.f10 false true false false W args v m:=by
 have d:=hW;obtain⟨p,q,g,D,rfl,J,P⟩:=hW;have o:DataW.TrodAll enc Tryz.prog W 0 (λ_=>true) true Tryz.f10.params.toList args.toList n p:=g;have I:Tryz.f10.params=#[25,3]:=Tryz.params10;rw[I]at o f;obtain⟨k,A,K,s,R,L,C,rfl,rfl,F,w⟩:=trodAll_cons o;obtain⟨h,vs1,N,z,O,M,rfl,rfl,rfl,G,E⟩:=trodAll_cons w;obtain⟨rfl,rfl,rfl⟩:=trodAll_nil E;obtain rfl:args=#[k,h]:=by cases args;simp_all
 obtain⟨rfl,rfl⟩:=trodVars_none D;obtain⟨l,u,_⟩:=yN (λ_=>undef) Tryz.underlying25 Tryz.underlying3 (by kernel_rfl) (f 0 25 k rfl rfl) F;obtain⟨a,rfl,rfl,rfl,Q⟩:=open_int Tryz.underlying3 (f 1 3 h rfl rfl) G;refine(HQ x (LB l a []) (μ:=λ_=>undef) ⟨rfl,λi y c=>?_⟩).mono λe m ⟨B,r⟩=>?_
 .rcases i with _|_|i
  .simp only[aY,Nat.reduceAdd,aM,bX,ae]at c;subst c;exact u
  .simp only[aY,Nat.reduceAdd,aM,bX,ae]at c;subst c;exact .i _ _
  .simp at c
 .exact⟨_,B,By rfl rfl (by kernel_rfl) d rfl r⟩
def reads(os:Os){H:Type}(enc:TypeId×Value->H):∃places,DataW.whole enc Tryz.prog ((World.doorLaid Tryz.prog 400 os).forCall (λ_ _=>0) ⟨#[],#[.slice none 0 0,.int .i64 0],[]⟩).memory Tryz.f10.params.toList Rows.matchExactSpec.vars false #[(Value.slice none 0 0),(Value.int .i64 0)].toList 8=some ([.nil,.lit (.int .i64 0)],[],places) :=
 ⟨[],by kernel_rfl⟩
set_option maxRecDepth 100000 in
def lifted(os:Os)(started:os.Started)(H:Type)(enc:TypeId×Value->H)(F:Stop.Interp):
  ReturnsInHanded {} Tryz.checked os 10 .any ((OpenSpec.ofChange Rows.matchExactSpec).preRow enc Tryz.prog Tryz.f10 Rows.matchExactRow.domain false Rows.matchExactRow.laid) (((OpenSpec.ofChange Rows.matchExactSpec).at F).post enc Tryz.prog Tryz.f10 false true false false):=by
 obtain⟨places,c⟩:=reads os enc
 refine returnsInHanded_of_row (C:=Tryz.checked) (s:=OpenSpec.ofChange Rows.matchExactSpec) own started (by kernel_rfl) Tryz.func10
  (witness_row_at (enc:=enc) (C:=Tryz.checked) false (World.doorLaid Tryz.prog 400 os) #[.slice none 0 0,.int .i64 0] rfl (by kernel_rfl) (by kernel_rfl) (by kernel_rfl)
   (OpenSpec.preRow_of_cond 8 c (by kernel_rfl) (λk d=>by cases d) (by kernel_rfl) (El os _))) ?_
 intro W b a g e before f hW _ _ _ h _ _;exact vR H enc W b a g e before f hW h
set_option maxRecDepth 100000 in
def said:Rows.MatchExactSaid :=
 OpenClaim.holds_of_cond 10 Tryz.f10 rfl rfl rfl rfl rfl rfl rfl ⟨rfl,rfl,rfl,rfl,rfl⟩ rfl rfl rfl rfl rfl (by kernel_rfl) Tryz.func10 (by unfold joinedFacts;simp only[aJ];(repeat' apply aC);all_goals as_aux_lemma=>kernel_rfl)
  (xE (by kernel_rfl)) (by unfold Func.isWrapper;first|(rw[az (by decide +kernel)];kernel_rfl)|(rw[an (by decide +kernel)];exact⟨rfl,rfl⟩))
  (λos started H a _ F=>by rw[OpenClaim.pre_eq_preRow];exact lifted os started H a F)
def plain(f:FuncId)(a:Func)(d:Tryz.pinned.checked.prog.funcNamed "bitext/bitextlaw18.MatchExact" = some f) (g:Tryz.pinned.checked.prog.funcs[f]?=some a) :
  false=Tryz.pinned.checked.prog.looks []/\∀(j:Nat) t,a.params[j]?=some t->Tryz.pinned.checked.prog.wantsStandIn t=false:=by
 obtain rfl:f=10:=gy ((show Tryz.prog.funcNamed "bitext/bitextlaw18.MatchExact" = some 10 by kernel_rfl).symm.trans d) |>.symm;obtain rfl:a=Tryz.f10:=(gy (Tryz.func10.symm.trans g)).symm;refine⟨by kernel_rfl,λj t b=>?_⟩;rw[Tryz.params10]at b;have c:t∈[25,3]:=by simpa using yU b
 have e:([25,3].all λu=>!Tryz.prog.wantsStandIn u)=true:=by kernel_rfl
 exact(show Tryz.prog.wantsStandIn t=false by simpa using bY.1 e t c)
end Go.Proofs.YtlakkaamfadipaaGreatDoor.matchExact
namespace Go.Proofs.YtlakkaamfadipaaGreatDoor
open Go
def matchExact_card:Rows.MatchExactCardSaid :=
 Claim7.holds_tied_plain_at .later [] _ _ _ _ matchExact.said (λ_ h=>by cases h) (by kernel_rfl) (λ_ h=>by cases h) matchExact_row_tie rfl ⟨rfl,rfl⟩ (by kernel_rfl) rfl matchExact.plain (by kernel_rfl)
#print axioms matchExact_card
end Go.Proofs.YtlakkaamfadipaaGreatDoor
