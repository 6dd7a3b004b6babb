/- NetworkLater returns true for every list of integers, integer and entry, and leaves all as it was. Condition: the total bulk of the arguments is at most 1048576. -/
import Derived.Test.YtfeddmfijllgmaaGreatDoorZ29
set_option linter.all false
set_option maxHeartbeats 80000000
open Option renaming some->S,none->Y
open Bool renaming true->G,false->Z
namespace Go.Proofs.YtfeddmfijllgmaaGreatDoor.networkLater
open Go Go.Pm Go.ChangeShapes Go.WideShapes Go.ChangeAt Go.RowKit Go.Proofs.Tryz
set_option maxRecDepth 100000 in
def acs(H:Type)(c:TypeId×Value->H)(W:bF)(f:Nat)(b:Array Value)(o r:List (DataW H))(before:List MemPlace) (g:∀(j:Nat) t v,Tryz.f7.params[j]?=S t->b[j]?=S v->Value.okWide Tryz.prog W .any f t v) (z:DataW.Whole c Tryz.prog Tryz.f7.params.toList Rows.networkLaterSpec.vars Z W b.toList o r before) (hB:Rows.uptoBulkAll (o++r)<=1048576) (J:laidMetH Tryz.prog Rows.networkLaterUptoRow.laid W) : Calls Tryz.prog 7 b W λe x=>∃v,e=.returned v/\Rows.networkLaterSpec.post c Tryz.prog Tryz.f7 Z G Z Z W b v x:=by
 have k:=z;obtain⟨p,q,n,P,rfl,ac,YF⟩:=z;have B:DataW.TrodAll c Tryz.prog W 0 (λ_=>G) G Tryz.f7.params.toList b.toList o p:=n;have U:Tryz.f7.params=#[22,3,36]:=Tryz.params7;rw[U]at B g;obtain⟨w,M,d0,E,p0,q0,L,rfl,rfl,R,I⟩:=trodAll_cons B;obtain⟨s,vs1,d1,K,p1,q1,rfl,rfl,rfl,T,Q⟩:=trodAll_cons I;obtain⟨u,vs2,d2,O,p2,q2,rfl,rfl,rfl,C,V⟩:=trodAll_cons Q;obtain⟨rfl,rfl,rfl⟩:=trodAll_nil V;obtain rfl:b=#[w,s,u]:=by cases b;simp_all
 obtain⟨rfl,rfl⟩:=trodVars_none P;obtain⟨l,F,_⟩:=acR (λ_=>undef) Tryz.underlying22 Tryz.underlying3 (by kernel_rfl) (g 0 22 w rfl rfl) R;obtain⟨a,rfl,rfl,rfl,Nd⟩:=open_int Tryz.underlying3 (g 1 3 s rfl rfl) T;obtain⟨v,h,m⟩:=akk (λ_=>undef) (g 2 36 u rfl rfl) C (cE (CD (by simp)) hB);refine(adG J (D8 v m l a []) (μ:=λ_=>undef) ⟨rfl,λi y d=>?_⟩).mono λe x ⟨N,D⟩=>?_
 .rcases i with _|_|_|i;.simp only[aP,Nat.reduceAdd,aG,cA,aa]at d;subst d;exact F
  .simp only[aP,Nat.reduceAdd,aG,cA,aa]at d;subst d;exact .i _ _
  .simp only[aP,Nat.reduceAdd,aG,cA,aa]at d;subst d;exact h
  simp at d
 exact⟨_,N,WI rfl rfl (by kernel_rfl) k rfl D⟩
def reads(os:Os){H:Type}(a:TypeId×Value->H):∃places,DataW.whole a Tryz.prog ((World.doorLaid Tryz.prog 400 os).forCall (λ_ _=>0) ⟨#[],#[.slice Y 0 0,.int .i64 0,.agg #[.slice Y 0 0,.slice Y 0 0,.string ⟨#[]⟩,.string ⟨#[]⟩,.string ⟨#[]⟩,.string ⟨#[]⟩,.int .i64 0,.int .i64 0]],[]⟩).memory Tryz.f7.params.toList Rows.networkLaterSpec.vars Z #[(Value.slice Y 0 0),(Value.int .i64 0),(Value.agg #[.slice Y 0 0,.slice Y 0 0,.string ⟨#[]⟩,.string ⟨#[]⟩,.string ⟨#[]⟩,.string ⟨#[]⟩,.int .i64 0,.int .i64 0])].toList 8=S ([.nil,.lit (.int .i64 0),.agg [.nil,.nil,.lit (.string []),.lit (.string []),.lit (.string []),.lit (.string []),.lit (.int .i64 0),.lit (.int .i64 0)]],[],places) :=⟨[],by kernel_rfl⟩
set_option maxRecDepth 100000 in
def lifted(os:Os)(started:os.Started)(H:Type)(enc:TypeId×Value->H)(F:Stop.Interp): ReturnsInHanded {} Tryz.checked os 7 .any ((Rows.OpenSpec.upto Rows.networkLaterSpec).preRow enc Tryz.prog Tryz.f7 Rows.networkLaterUptoRow.domain Z Rows.networkLaterUptoRow.laid) (((Rows.OpenSpec.upto Rows.networkLaterSpec).at F).post enc Tryz.prog Tryz.f7 Z G Z Z):=by obtain⟨places,e⟩:=reads os enc;refine returnsInHanded_of_row (C:=Tryz.checked) (s:=Rows.OpenSpec.upto Rows.networkLaterSpec) own started (by kernel_rfl) Tryz.func7 (witness_row_at (enc:=enc) (C:=Tryz.checked) Z (World.doorLaid Tryz.prog 400 os) #[.slice Y 0 0,.int .i64 0,.agg #[.slice Y 0 0,.slice Y 0 0,.string ⟨#[]⟩,.string ⟨#[]⟩,.string ⟨#[]⟩,.string ⟨#[]⟩,.int .i64 0,.int .i64 0]] rfl (by kernel_rfl) (by kernel_rfl) (by kernel_rfl) (OpenSpec.preRow_of_cond 8 e (by kernel_rfl) (λk c=>by cases c;kernel_rfl) (by kernel_rfl) (aaW os _))) ?_;intro W b a h g before d f _ c _ i _ _;exact acs H enc W b a h g before d f (lW (c _ rfl)) i
set_option maxRecDepth 100000 in
def said:Rows.NetworkLaterUptoSaid :=OpenClaim.holds_of_cond 7 Tryz.f7 rfl rfl rfl rfl rfl rfl rfl ⟨rfl,rfl,rfl,rfl,rfl⟩ rfl rfl rfl rfl rfl (by kernel_rfl) Tryz.func7 (by unfold joinedFacts;simp only[aV];(repeat' apply ay);all_goals as_aux_lemma=>kernel_rfl) (lW (by kernel_rfl)) (by unfold Func.isWrapper;first|(rw[aO (by decide +kernel)];kernel_rfl)|(rw[ao (by decide +kernel)];exact⟨rfl,rfl⟩)) (λos started H a _ F=>by rw[OpenClaim.pre_eq_preRow];exact lifted os started H a F)
def plain(f:FuncId)(a:Func)(d:Tryz.pinned.checked.prog.funcNamed "bitext/bitextlaw40.NetworkLater" = S f) (e:Tryz.pinned.checked.prog.funcs[f]?=S a) : Z=Tryz.pinned.checked.prog.looks []/\∀(j:Nat) t,a.params[j]?=S t->Tryz.pinned.checked.prog.wantsStandIn t=Z:=by
 obtain rfl:f=7:=kW ((show Tryz.prog.funcNamed "bitext/bitextlaw40.NetworkLater" = S 7 by kernel_rfl).symm.trans d) |>.symm;obtain rfl:a=Tryz.f7:=(kW (Tryz.func7.symm.trans e)).symm;refine⟨by kernel_rfl,λj t b=>?_⟩;rw[Tryz.params7]at b;have c:t∈[22,3,36]:=by simpa using Array.mem_of_getElem? b
 have g:([22,3,36].all λu=>!Tryz.prog.wantsStandIn u)=G:=by kernel_rfl
 exact(show Tryz.prog.wantsStandIn t=Z by simpa using dd.1 g t c)
end Go.Proofs.YtfeddmfijllgmaaGreatDoor.networkLater
namespace Go.Proofs.YtfeddmfijllgmaaGreatDoor
open Go
def networkLaterUpto_card:Rows.NetworkLaterUptoCardSaid :=Claim7.holds_tied_plain_at .later [] _ _ _ _ networkLater.said (λ_ h=>by cases h) (by kernel_rfl) (λ_ h=>by cases h) networkLaterUpto_row_tie rfl ⟨rfl,rfl⟩ (by kernel_rfl) rfl networkLater.plain (by kernel_rfl)
end Go.Proofs.YtfeddmfijllgmaaGreatDoor
