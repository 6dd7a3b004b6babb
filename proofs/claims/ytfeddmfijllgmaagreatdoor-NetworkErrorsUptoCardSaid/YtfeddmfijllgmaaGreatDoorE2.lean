/- NetworkErrors returns true for every list of integers, every event and every integer, and leaves all that was there as it was. Condition: the total bulk of the arguments is at most 1048576. -/
import Derived.Test.YtfeddmfijllgmaaGreatDoorE1
set_option linter.all false
set_option maxHeartbeats 80000000
open Option renaming some->S,none->Z
open Bool renaming true->θ,false->G

namespace Go.Proofs.YtfeddmfijllgmaaGreatDoor.networkErrors
open Go Go.Pm Go.ChangeShapes Go.WideShapes Go.ChangeAt Go.RowKit Go.Proofs.Tryz
set_option maxRecDepth 100000 in
def py(H:Type)(b:TypeId×Value->H)(W:bQ)(d:Nat)(a:Array Value)(g r:List (DataW H))(before:List MemPlace) (f:∀(j:Nat) t v,Tryz.f4.params[j]?=S t->a[j]?=S v->Value.okWide Tryz.prog W .any d t v) (w:DataW.Whole b Tryz.prog Tryz.f4.params.toList Rows.networkErrorsSpec.vars G W a.toList g r before) (K:Rows.uptoBulkAll (g++r)<=1048576) (D:laidMetH Tryz.prog Rows.networkErrorsUptoRow.laid W) : Calls Tryz.prog 4 a W λe s=>∃v,e=.returned v/\Rows.networkErrorsSpec.post b Tryz.prog Tryz.f4 G θ G G W a v s:=by
 have n:=w;obtain⟨p,q,h,C,rfl,X,S1⟩:=w;have A:DataW.TrodAll b Tryz.prog W 0 (λ_=>θ) θ Tryz.f4.params.toList a.toList g p:=h;have F:Tryz.f4.params=#[22,38,3]:=Tryz.params4;rw[F]at A f;obtain⟨z,J,d0,P,p0,q0,Ta,rfl,rfl,T,U⟩:=trodAll_cons A;obtain⟨x,vs1,d1,I,p1,q1,rfl,rfl,rfl,R,L⟩:=trodAll_cons U;obtain⟨u,vs2,d2,E,p2,q2,rfl,rfl,rfl,O,V⟩:=trodAll_cons L;obtain⟨rfl,rfl,rfl⟩:=trodAll_nil V;obtain rfl:a=#[z,x,u]:=by cases a;simp_all
 obtain⟨rfl,rfl⟩:=trodVars_none C;obtain⟨l,N,_⟩:=yh (λ_=>undef) Tryz.underlying22 Tryz.underlying3 (by kernel_rfl) (f 0 22 z rfl rfl) T;obtain⟨o,m,B⟩:=amo (λ_=>undef) (f 1 38 x rfl rfl) R (cE (s7 (by simp)) K);obtain⟨k,rfl,rfl,rfl,Ee⟩:=open_int Tryz.underlying3 (f 2 3 u rfl rfl) O;refine(Bj D (Fi o B l k []) (μ:=λ_=>undef) ⟨rfl,λi y c=>?_⟩).mono λe s ⟨Q,M⟩=>?_
 .rcases i with _|_|_|i;.simp only[aG,Nat.reduceAdd,aC,bY,ab]at c;subst c;exact N
  .simp only[aG,Nat.reduceAdd,aC,bY,ab]at c;subst c;exact m
  .simp only[aG,Nat.reduceAdd,aC,bY,ab]at c;subst c;exact .i _ _
  simp at c
 exact⟨_,Q,uY rfl rfl (by kernel_rfl) n rfl M⟩
def reads(os:Os){H:Type}(a:TypeId×Value->H):∃places,DataW.whole a Tryz.prog ((World.doorLaid Tryz.prog 400 os).forCall (λ_ _=>0) ⟨#[],#[.slice Z 0 0,.agg #[.int .i64 0,.int .i64 0,.int .i64 0,.int .i64 0,.slice Z 0 0,.slice Z 0 0,.string ⟨#[]⟩,.string ⟨#[]⟩,.string ⟨#[]⟩,.string ⟨#[]⟩,.int .i64 0,.int .i64 0],.int .i64 0],[]⟩).memory Tryz.f4.params.toList Rows.networkErrorsSpec.vars G #[(Value.slice Z 0 0),(Value.agg #[.int .i64 0,.int .i64 0,.int .i64 0,.int .i64 0,.slice Z 0 0,.slice Z 0 0,.string ⟨#[]⟩,.string ⟨#[]⟩,.string ⟨#[]⟩,.string ⟨#[]⟩,.int .i64 0,.int .i64 0]),(Value.int .i64 0)].toList 8=S ([.nil,.agg [.lit (.int .i64 0),.lit (.int .i64 0),.lit (.int .i64 0),.lit (.int .i64 0),.agg [.nil,.nil,.lit (.string []),.lit (.string []),.lit (.string []),.lit (.string []),.lit (.int .i64 0),.lit (.int .i64 0)]],.lit (.int .i64 0)],[],places) :=⟨[],by kernel_rfl⟩
set_option maxRecDepth 100000 in
def lifted(os:Os)(started:os.Started)(H:Type)(enc:TypeId×Value->H)(F:Stop.Interp): ReturnsInHanded {} Tryz.checked os 4 .any ((Rows.OpenSpec.upto Rows.networkErrorsSpec).preRow enc Tryz.prog Tryz.f4 Rows.networkErrorsUptoRow.domain G Rows.networkErrorsUptoRow.laid) (((Rows.OpenSpec.upto Rows.networkErrorsSpec).at F).post enc Tryz.prog Tryz.f4 G θ G G):=by obtain⟨places,g⟩:=reads os enc;refine returnsInHanded_of_row (C:=Tryz.checked) (s:=Rows.OpenSpec.upto Rows.networkErrorsSpec) own started (by kernel_rfl) Tryz.func4 (witness_row_at (enc:=enc) (C:=Tryz.checked) G (World.doorLaid Tryz.prog 400 os) #[.slice Z 0 0,.agg #[.int .i64 0,.int .i64 0,.int .i64 0,.int .i64 0,.slice Z 0 0,.slice Z 0 0,.string ⟨#[]⟩,.string ⟨#[]⟩,.string ⟨#[]⟩,.string ⟨#[]⟩,.int .i64 0,.int .i64 0],.int .i64 0] rfl (by kernel_rfl) (by kernel_rfl) (by kernel_rfl) (OpenSpec.preRow_of_cond 8 g (by kernel_rfl) (λk c=>by cases c;kernel_rfl) (by kernel_rfl) (xS os _))) ?_;intro W b a e f before i d _ c _ h _ _;exact py H enc W b a e f before i d (ic (c _ rfl)) h
set_option maxRecDepth 100000 in
def said:Rows.NetworkErrorsUptoSaid :=OpenClaim.holds_of_cond 4 Tryz.f4 rfl rfl rfl rfl rfl rfl rfl ⟨rfl,rfl,rfl,rfl,rfl⟩ rfl rfl rfl rfl rfl (by kernel_rfl) Tryz.func4 (by unfold joinedFacts;simp only[aZ];(repeat' apply aH);all_goals as_aux_lemma=>kernel_rfl) (ic (by kernel_rfl)) (by unfold Func.isWrapper;first|(rw[aQ (by decide +kernel)];kernel_rfl)|(rw[aw (by decide +kernel)];exact⟨rfl,rfl⟩)) (λos started H a _ F=>by rw[OpenClaim.pre_eq_preRow];exact lifted os started H a F)
def plain(f:FuncId)(a:Func)(e:Tryz.pinned.checked.prog.funcNamed "bitext/bitextlaw40.NetworkErrors" = S f) (c:Tryz.pinned.checked.prog.funcs[f]?=S a) : G=Tryz.pinned.checked.prog.looks []/\∀(j:Nat) t,a.params[j]?=S t->Tryz.pinned.checked.prog.wantsStandIn t=G:=by
 obtain rfl:f=4:=fO ((show Tryz.prog.funcNamed "bitext/bitextlaw40.NetworkErrors" = S 4 by kernel_rfl).symm.trans e) |>.symm;obtain rfl:a=Tryz.f4:=(fO (Tryz.func4.symm.trans c)).symm;refine⟨by kernel_rfl,λj t b=>?_⟩;rw[Tryz.params4]at b;have d:t∈[22,38,3]:=by simpa using oM b
 have g:([22,38,3].all λu=>!Tryz.prog.wantsStandIn u)=θ:=by kernel_rfl
 exact(show Tryz.prog.wantsStandIn t=G by simpa using df.1 g t d)
end Go.Proofs.YtfeddmfijllgmaaGreatDoor.networkErrors
namespace Go.Proofs.YtfeddmfijllgmaaGreatDoor
open Go
def networkErrorsUpto_card:Rows.NetworkErrorsUptoCardSaid :=Claim7.holds_tied_plain_at .later [] _ _ _ _ networkErrors.said (λ_ h=>by cases h) (by kernel_rfl) (λ_ h=>by cases h) networkErrorsUpto_row_tie rfl ⟨rfl,rfl⟩ (by kernel_rfl) rfl networkErrors.plain (by kernel_rfl)
#print axioms networkErrorsUpto_card
end Go.Proofs.YtfeddmfijllgmaaGreatDoor
