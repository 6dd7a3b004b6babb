/- MatchFinds returns true for every two lists of integers and every integer, and leaves all that was there as it was. Conditions: none. -/
import Derived.Test.YtlakkaamfadipaaGreatDoorF4
set_option linter.all false
set_option maxHeartbeats 80000000

namespace Go.Proofs.YtlakkaamfadipaaGreatDoor.matchFinds
open Go Go.Pm Go.ChangeShapes Go.WideShapes Go.ChangeAt Go.RowKit Go.Proofs.Tryz
set_option maxRecDepth 100000 in
def vR(H:Type)(enc:TypeId×Value->H)(W:bD)(b:Nat)(args:Array Value)(o gs:List (DataW H))(before:List MemPlace)
  (c:∀(j:Nat) t v,Tryz.f8.params[j]?=some t->args[j]?=some v->Value.okWide Tryz.prog W .any b t v)
  (hW:DataW.Whole enc Tryz.prog Tryz.f8.params.toList Rows.matchFindsSpec.vars false W args.toList o gs before) (A:laidMetH Tryz.prog Rows.matchFindsRow.laid W) :
  Calls Tryz.prog 8 args W λe n=>∃v,e=.returned v/\Rows.matchFindsSpec.post enc Tryz.prog Tryz.f8 false true false false W args v n:=by
 have d:=hW;obtain⟨p,q,f,G,rfl,O,Z⟩:=hW;have r:DataW.TrodAll enc Tryz.prog W 0 (λ_=>true) true Tryz.f8.params.toList args.toList o p:=f;have L:Tryz.f8.params=#[25,25,3]:=Tryz.params8;rw[L]at r c;obtain⟨k,C,S,w,p0,U,E,rfl,rfl,J,z⟩:=trodAll_cons r;obtain⟨g,vs1,X,B,Y,V,rfl,rfl,rfl,K,I⟩:=trodAll_cons z;obtain⟨h,vs2,P,F,Q,T,rfl,rfl,rfl,s,N⟩:=trodAll_cons I;obtain⟨rfl,rfl,rfl⟩:=trodAll_nil N;obtain rfl:args=#[k,g,h]:=by cases args;simp_all
 obtain⟨rfl,rfl⟩:=trodVars_none G;obtain⟨l,x,_⟩:=yN (λ_=>undef) Tryz.underlying25 Tryz.underlying3 (by kernel_rfl) (c 0 25 k rfl rfl) J;obtain⟨m,M,_⟩:=yN (λ_=>undef) Tryz.underlying25 Tryz.underlying3 (by kernel_rfl) (c 1 25 g rfl rfl) K;obtain⟨del,rfl,rfl,rfl,R⟩:=open_int Tryz.underlying3 (c 2 3 h rfl rfl) s;refine(HQ A (LA l m del []) (μ:=λ_=>undef) ⟨rfl,λi y a=>?_⟩).mono λe n ⟨D,u⟩=>?_
 .rcases i with _|_|_|i
  .simp only[aY,Nat.reduceAdd,aM,bX,ae]at a;subst a;exact x
  .simp only[aY,Nat.reduceAdd,aM,bX,ae]at a;subst a;exact M
  .simp only[aY,Nat.reduceAdd,aM,bX,ae]at a;subst a;exact .i _ _
  .simp at a
 .exact⟨_,D,By rfl rfl (by kernel_rfl) d rfl u⟩
def reads(os:Os){H:Type}(enc:TypeId×Value->H):∃places,DataW.whole enc Tryz.prog ((World.doorLaid Tryz.prog 400 os).forCall (λ_ _=>0) ⟨#[],#[.slice none 0 0,.slice none 0 0,.int .i64 0],[]⟩).memory Tryz.f8.params.toList Rows.matchFindsSpec.vars false #[(Value.slice none 0 0),(Value.slice none 0 0),(Value.int .i64 0)].toList 8=some ([.nil,.nil,.lit (.int .i64 0)],[],places) :=
 ⟨[],by kernel_rfl⟩
set_option maxRecDepth 100000 in
def lifted(os:Os)(started:os.Started)(H:Type)(enc:TypeId×Value->H)(F:Stop.Interp):
  ReturnsInHanded {} Tryz.checked os 8 .any ((OpenSpec.ofChange Rows.matchFindsSpec).preRow enc Tryz.prog Tryz.f8 Rows.matchFindsRow.domain false Rows.matchFindsRow.laid) (((OpenSpec.ofChange Rows.matchFindsSpec).at F).post enc Tryz.prog Tryz.f8 false true false false):=by
 obtain⟨places,c⟩:=reads os enc
 refine returnsInHanded_of_row (C:=Tryz.checked) (s:=OpenSpec.ofChange Rows.matchFindsSpec) own started (by kernel_rfl) Tryz.func8
  (witness_row_at (enc:=enc) (C:=Tryz.checked) false (World.doorLaid Tryz.prog 400 os) #[.slice none 0 0,.slice none 0 0,.int .i64 0] rfl (by kernel_rfl) (by kernel_rfl) (by kernel_rfl)
   (OpenSpec.preRow_of_cond 8 c (by kernel_rfl) (λk d=>by cases d) (by kernel_rfl) (El os _))) ?_
 intro W b a g e before f hW _ _ _ h _ _;exact vR H enc W b a g e before f hW h
set_option maxRecDepth 100000 in
def said:Rows.MatchFindsSaid :=
 OpenClaim.holds_of_cond 8 Tryz.f8 rfl rfl rfl rfl rfl rfl rfl ⟨rfl,rfl,rfl,rfl,rfl⟩ rfl rfl rfl rfl rfl (by kernel_rfl) Tryz.func8 (by unfold joinedFacts;simp only[aJ];(repeat' apply aC);all_goals as_aux_lemma=>kernel_rfl)
  (xE (by kernel_rfl)) (by unfold Func.isWrapper;first|(rw[az (by decide +kernel)];kernel_rfl)|(rw[an (by decide +kernel)];exact⟨rfl,rfl⟩))
  (λos started H a _ F=>by rw[OpenClaim.pre_eq_preRow];exact lifted os started H a F)
def plain(f:FuncId)(a:Func)(d:Tryz.pinned.checked.prog.funcNamed "bitext/bitextlaw18.MatchFinds" = some f) (g:Tryz.pinned.checked.prog.funcs[f]?=some a) :
  false=Tryz.pinned.checked.prog.looks []/\∀(j:Nat) t,a.params[j]?=some t->Tryz.pinned.checked.prog.wantsStandIn t=false:=by
 obtain rfl:f=8:=gy ((show Tryz.prog.funcNamed "bitext/bitextlaw18.MatchFinds" = some 8 by kernel_rfl).symm.trans d) |>.symm;obtain rfl:a=Tryz.f8:=(gy (Tryz.func8.symm.trans g)).symm;refine⟨by kernel_rfl,λj t b=>?_⟩;rw[Tryz.params8]at b;have c:t∈[25,25,3]:=by simpa using yU b
 have e:([25,25,3].all λu=>!Tryz.prog.wantsStandIn u)=true:=by kernel_rfl
 exact(show Tryz.prog.wantsStandIn t=false by simpa using bY.1 e t c)
end Go.Proofs.YtlakkaamfadipaaGreatDoor.matchFinds
namespace Go.Proofs.YtlakkaamfadipaaGreatDoor
open Go
def matchFinds_card:Rows.MatchFindsCardSaid :=
 Claim7.holds_tied_plain_at .later [] _ _ _ _ matchFinds.said (λ_ h=>by cases h) (by kernel_rfl) (λ_ h=>by cases h) matchFinds_row_tie rfl ⟨rfl,rfl⟩ (by kernel_rfl) rfl matchFinds.plain (by kernel_rfl)
#print axioms matchFinds_card
end Go.Proofs.YtlakkaamfadipaaGreatDoor
