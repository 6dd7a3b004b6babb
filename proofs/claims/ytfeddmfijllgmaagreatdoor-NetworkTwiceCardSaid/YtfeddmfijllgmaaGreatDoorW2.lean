/- NetworkTwice returns true for every list of integers and every integer, and leaves all that was there as it was. Conditions: none. -/
import Derived.Test.YtfeddmfijllgmaaGreatDoorW1
set_option linter.all false
set_option maxHeartbeats 80000000
open Bool renaming true->θ,false->G

namespace Go.Proofs.YtfeddmfijllgmaaGreatDoor.networkTwice
open Go Go.Pm Go.ChangeShapes Go.WideShapes Go.ChangeAt Go.RowKit Go.Proofs.Tryz
set_option maxRecDepth 100000 in
def py(H:Type)(b:TypeId×Value->H)(W:bQ)(c:Nat)(a:Array Value)(m u:List (DataW H))(before:List MemPlace) (g:∀(j:Nat) t v,Tryz.f8.params[j]?=some t->a[j]?=some v->Value.okWide Tryz.prog W .any c t v) (n:DataW.Whole b Tryz.prog Tryz.f8.params.toList Rows.networkTwiceSpec.vars G W a.toList m u before) (x:laidMetH Tryz.prog Rows.networkTwiceRow.laid W) : Calls Tryz.prog 8 a W λe k=>∃v,e=.returned v/\Rows.networkTwiceSpec.post b Tryz.prog Tryz.f8 G θ G G W a v k:=by
 have h:=n;obtain⟨p,q,f,w,rfl,M,O⟩:=n;have s:DataW.TrodAll b Tryz.prog W 0 (λ_=>θ) θ Tryz.f8.params.toList a.toList m p:=f;have z:Tryz.f8.params=#[22,3]:=Tryz.params8;rw[z]at s g;obtain⟨r,B,U,F,V,X,P,rfl,rfl,K,L⟩:=trodAll_cons s;obtain⟨o,vs1,N,A,Q,T,rfl,rfl,rfl,J,C⟩:=trodAll_cons L;obtain⟨rfl,rfl,rfl⟩:=trodAll_nil C;obtain rfl:a=#[r,o]:=by cases a;simp_all
 obtain⟨rfl,rfl⟩:=trodVars_none w;obtain⟨l,E,_⟩:=yh (λ_=>undef) Tryz.underlying22 Tryz.underlying3 (by kernel_rfl) (g 0 22 r rfl rfl) K;obtain⟨letter,rfl,rfl,rfl,R⟩:=open_int Tryz.underlying3 (g 1 3 o rfl rfl) J;refine(Bj x (Hi l letter []) (μ:=λ_=>undef) ⟨rfl,λi y d=>?_⟩).mono λe k ⟨I,D⟩=>?_
 .rcases i with _|_|i;.simp only[aG,Nat.reduceAdd,aC,bY,ab]at d;subst d;exact E
  .simp only[aG,Nat.reduceAdd,aC,bY,ab]at d;subst d;exact .i _ _
  simp at d
 exact⟨_,I,uY rfl rfl (by kernel_rfl) h rfl D⟩
def reads(os:Os){H:Type}(a:TypeId×Value->H):∃places,DataW.whole a Tryz.prog ((World.doorLaid Tryz.prog 400 os).forCall (λ_ _=>0) ⟨#[],#[.slice none 0 0,.int .i64 0],[]⟩).memory Tryz.f8.params.toList Rows.networkTwiceSpec.vars G #[(Value.slice none 0 0),(Value.int .i64 0)].toList 8=some ([.nil,.lit (.int .i64 0)],[],places) :=⟨[],by kernel_rfl⟩
set_option maxRecDepth 100000 in
def lifted(os:Os)(started:os.Started)(H:Type)(enc:TypeId×Value->H)(F:Stop.Interp): ReturnsInHanded {} Tryz.checked os 8 .any ((OpenSpec.ofChange Rows.networkTwiceSpec).preRow enc Tryz.prog Tryz.f8 Rows.networkTwiceRow.domain G Rows.networkTwiceRow.laid) (((OpenSpec.ofChange Rows.networkTwiceSpec).at F).post enc Tryz.prog Tryz.f8 G θ G G):=by obtain⟨places,g⟩:=reads os enc;refine returnsInHanded_of_row (C:=Tryz.checked) (s:=OpenSpec.ofChange Rows.networkTwiceSpec) own started (by kernel_rfl) Tryz.func8 (witness_row_at (enc:=enc) (C:=Tryz.checked) G (World.doorLaid Tryz.prog 400 os) #[.slice none 0 0,.int .i64 0] rfl (by kernel_rfl) (by kernel_rfl) (by kernel_rfl) (OpenSpec.preRow_of_cond 8 g (by kernel_rfl) (λk f=>by cases f) (by kernel_rfl) (xS os _))) ?_;intro W b a d e before i c _ _ _ h _ _;exact py H enc W b a d e before i c h
set_option maxRecDepth 100000 in
def said:Rows.NetworkTwiceSaid :=OpenClaim.holds_of_cond 8 Tryz.f8 rfl rfl rfl rfl rfl rfl rfl ⟨rfl,rfl,rfl,rfl,rfl⟩ rfl rfl rfl rfl rfl (by kernel_rfl) Tryz.func8 (by unfold joinedFacts;simp only[aZ];(repeat' apply aH);all_goals as_aux_lemma=>kernel_rfl) (ic (by kernel_rfl)) (by unfold Func.isWrapper;first|(rw[aQ (by decide +kernel)];kernel_rfl)|(rw[aw (by decide +kernel)];exact⟨rfl,rfl⟩)) (λos started H a _ F=>by rw[OpenClaim.pre_eq_preRow];exact lifted os started H a F)
def plain(f:FuncId)(a:Func)(e:Tryz.pinned.checked.prog.funcNamed "bitext/bitextlaw40.NetworkTwice" = some f) (c:Tryz.pinned.checked.prog.funcs[f]?=some a) : G=Tryz.pinned.checked.prog.looks []/\∀(j:Nat) t,a.params[j]?=some t->Tryz.pinned.checked.prog.wantsStandIn t=G:=by
 obtain rfl:f=8:=fO ((show Tryz.prog.funcNamed "bitext/bitextlaw40.NetworkTwice" = some 8 by kernel_rfl).symm.trans e) |>.symm;obtain rfl:a=Tryz.f8:=(fO (Tryz.func8.symm.trans c)).symm;refine⟨by kernel_rfl,λj t b=>?_⟩;rw[Tryz.params8]at b;have d:t∈[22,3]:=by simpa using oM b
 have g:([22,3].all λu=>!Tryz.prog.wantsStandIn u)=θ:=by kernel_rfl
 exact(show Tryz.prog.wantsStandIn t=G by simpa using df.1 g t d)
end Go.Proofs.YtfeddmfijllgmaaGreatDoor.networkTwice
namespace Go.Proofs.YtfeddmfijllgmaaGreatDoor
open Go
def networkTwice_card:Rows.NetworkTwiceCardSaid :=Claim7.holds_tied_plain_at .later [] _ _ _ _ networkTwice.said (λ_ h=>by cases h) (by kernel_rfl) (λ_ h=>by cases h) networkTwice_row_tie rfl ⟨rfl,rfl⟩ (by kernel_rfl) rfl networkTwice.plain (by kernel_rfl)
#print axioms networkTwice_card
end Go.Proofs.YtfeddmfijllgmaaGreatDoor
