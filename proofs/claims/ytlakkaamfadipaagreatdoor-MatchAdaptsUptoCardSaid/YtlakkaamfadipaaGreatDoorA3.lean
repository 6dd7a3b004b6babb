/- MatchAdapts returns true for every entry, every list of items and every list of integers, and leaves all that was there as it was. Condition: the total bulk of the arguments is at most 1048576. -/
import Derived.Test.YtlakkaamfadipaaGreatDoorA2
set_option linter.all false
set_option maxHeartbeats 80000000

namespace Go.Proofs.YtlakkaamfadipaaGreatDoor.matchAdapts
open Go Go.Pm Go.ChangeShapes Go.WideShapes Go.ChangeAt Go.RowKit Go.Proofs.Tryz
set_option maxRecDepth 100000 in
def vR(H:Type)(enc:TypeId×Value->H)(W:bD)(b:Nat)(args:Array Value)(h gs:List (DataW H))(before:List MemPlace)
  (c:∀(j:Nat) t v,Tryz.f9.params[j]?=some t->args[j]?=some v->Value.okWide Tryz.prog W .any b t v)
  (hW:DataW.Whole enc Tryz.prog Tryz.f9.params.toList Rows.matchAdaptsSpec.vars false W args.toList h gs before) (s:Rows.uptoBulkAll (h++gs)<=1048576) (C:laidMetH Tryz.prog Rows.matchAdaptsUptoRow.laid W) :
  Calls Tryz.prog 9 args W λe o=>∃v,e=.returned v/\Rows.matchAdaptsSpec.post enc Tryz.prog Tryz.f9 false true false false W args v o:=by
 have d:=hW;obtain⟨p,q,g,L,rfl,S,sv⟩:=hW;have r:DataW.TrodAll enc Tryz.prog W 0 (λ_=>true) true Tryz.f9.params.toList args.toList h p:=g;have P:Tryz.f9.params=#[37,22,25]:=Tryz.params9;rw[P]at r c;obtain⟨n,F,V,x,p0,Y,J,rfl,rfl,N,B⟩:=trodAll_cons r;obtain⟨k,vs1,d1,E,p1,Z,rfl,rfl,rfl,O,M⟩:=trodAll_cons B;obtain⟨m,vs2,T,K,U,X,rfl,rfl,rfl,u,R⟩:=trodAll_cons M;obtain⟨rfl,rfl,rfl⟩:=trodAll_nil R;obtain rfl:args=#[n,k,m]:=by cases args;simp_all
 obtain⟨rfl,rfl⟩:=trodVars_none L;obtain⟨e,z,D⟩:=afF (λ_=>undef) (c 0 37 n rfl rfl) N (cu (BP (by simp)) s);obtain⟨f,Q,A⟩:=Yx (λ_=>undef) (c 1 22 k rfl rfl) O (cu (BP (by simp)) s);obtain⟨l,I,_⟩:=yN (λ_=>undef) Tryz.underlying25 Tryz.underlying3 (by kernel_rfl) (c 2 25 m rfl rfl) u;refine(HQ C (Jl e f D A l []) (μ:=λ_=>undef) ⟨rfl,λi y a=>?_⟩).mono λe o ⟨G,w⟩=>?_
 .rcases i with _|_|_|i
  .simp only[aY,Nat.reduceAdd,aM,bX,ae]at a;subst a;exact z
  .simp only[aY,Nat.reduceAdd,aM,bX,ae]at a;subst a;exact Q
  .simp only[aY,Nat.reduceAdd,aM,bX,ae]at a;subst a;exact I
  .simp at a
 .exact⟨_,G,By rfl rfl (by kernel_rfl) d rfl w⟩
def reads(os:Os){H:Type}(enc:TypeId×Value->H):∃places,DataW.whole enc Tryz.prog ((World.doorLaid Tryz.prog 400 os).forCall (λ_ _=>0) ⟨#[],#[.agg #[.slice none 0 0,.slice none 0 0,.string ⟨#[]⟩,.string ⟨#[]⟩,.string ⟨#[]⟩,.string ⟨#[]⟩,.int .i64 0,.int .i64 0],.slice none 0 0,.slice none 0 0],[]⟩).memory Tryz.f9.params.toList Rows.matchAdaptsSpec.vars false #[(Value.agg #[.slice none 0 0,.slice none 0 0,.string ⟨#[]⟩,.string ⟨#[]⟩,.string ⟨#[]⟩,.string ⟨#[]⟩,.int .i64 0,.int .i64 0]),(Value.slice none 0 0),(Value.slice none 0 0)].toList 8=some ([.agg [.nil,.nil,.lit (.string []),.lit (.string []),.lit (.string []),.lit (.string []),.lit (.int .i64 0),.lit (.int .i64 0)],.nil,.nil],[],places) :=
 ⟨[],by kernel_rfl⟩
set_option maxRecDepth 100000 in
def lifted(os:Os)(started:os.Started)(H:Type)(enc:TypeId×Value->H)(F:Stop.Interp):
  ReturnsInHanded {} Tryz.checked os 9 .any ((Rows.OpenSpec.upto Rows.matchAdaptsSpec).preRow enc Tryz.prog Tryz.f9 Rows.matchAdaptsUptoRow.domain false Rows.matchAdaptsUptoRow.laid) (((Rows.OpenSpec.upto Rows.matchAdaptsSpec).at F).post enc Tryz.prog Tryz.f9 false true false false):=by
 obtain⟨places,d⟩:=reads os enc
 refine returnsInHanded_of_row (C:=Tryz.checked) (s:=Rows.OpenSpec.upto Rows.matchAdaptsSpec) own started (by kernel_rfl) Tryz.func9
  (witness_row_at (enc:=enc) (C:=Tryz.checked) false (World.doorLaid Tryz.prog 400 os) #[.agg #[.slice none 0 0,.slice none 0 0,.string ⟨#[]⟩,.string ⟨#[]⟩,.string ⟨#[]⟩,.string ⟨#[]⟩,.int .i64 0,.int .i64 0],.slice none 0 0,.slice none 0 0] rfl (by kernel_rfl) (by kernel_rfl) (by kernel_rfl)
   (OpenSpec.preRow_of_cond 8 d (by kernel_rfl) (λk c=>by cases c;kernel_rfl) (by kernel_rfl) (El os _))) ?_
 intro W b a g e before f hW _ c _ h _ _;exact vR H enc W b a g e before f hW (xE (c _ rfl)) h
set_option maxRecDepth 100000 in
def said:Rows.MatchAdaptsUptoSaid :=
 OpenClaim.holds_of_cond 9 Tryz.f9 rfl rfl rfl rfl rfl rfl rfl ⟨rfl,rfl,rfl,rfl,rfl⟩ rfl rfl rfl rfl rfl (by kernel_rfl) Tryz.func9 (by unfold joinedFacts;simp only[aJ];(repeat' apply aC);all_goals as_aux_lemma=>kernel_rfl)
  (xE (by kernel_rfl)) (by unfold Func.isWrapper;first|(rw[az (by decide +kernel)];kernel_rfl)|(rw[an (by decide +kernel)];exact⟨rfl,rfl⟩))
  (λos started H a _ F=>by rw[OpenClaim.pre_eq_preRow];exact lifted os started H a F)
def plain(f:FuncId)(a:Func)(d:Tryz.pinned.checked.prog.funcNamed "bitext/bitextlaw18.MatchAdapts" = some f) (g:Tryz.pinned.checked.prog.funcs[f]?=some a) :
  false=Tryz.pinned.checked.prog.looks []/\∀(j:Nat) t,a.params[j]?=some t->Tryz.pinned.checked.prog.wantsStandIn t=false:=by
 obtain rfl:f=9:=gy ((show Tryz.prog.funcNamed "bitext/bitextlaw18.MatchAdapts" = some 9 by kernel_rfl).symm.trans d) |>.symm;obtain rfl:a=Tryz.f9:=(gy (Tryz.func9.symm.trans g)).symm;refine⟨by kernel_rfl,λj t b=>?_⟩;rw[Tryz.params9]at b;have c:t∈[37,22,25]:=by simpa using yU b
 have e:([37,22,25].all λu=>!Tryz.prog.wantsStandIn u)=true:=by kernel_rfl
 exact(show Tryz.prog.wantsStandIn t=false by simpa using bY.1 e t c)
end Go.Proofs.YtlakkaamfadipaaGreatDoor.matchAdapts
namespace Go.Proofs.YtlakkaamfadipaaGreatDoor
open Go
def matchAdaptsUpto_card:Rows.MatchAdaptsUptoCardSaid :=
 Claim7.holds_tied_plain_at .later [] _ _ _ _ matchAdapts.said (λ_ h=>by cases h) (by kernel_rfl) (λ_ h=>by cases h) matchAdaptsUpto_row_tie rfl ⟨rfl,rfl⟩ (by kernel_rfl) rfl matchAdapts.plain (by kernel_rfl)
#print axioms matchAdaptsUpto_card
end Go.Proofs.YtlakkaamfadipaaGreatDoor
