/- NetworkConverges returns true for every list of integers, and leaves all that was there as it was. Conditions: none. -/
import Derived.Test.YtfeddmfijllgmaaGreatDoorK1
set_option linter.all false
set_option maxHeartbeats 80000000
open Bool renaming true->θ,false->G

namespace Go.Proofs.YtfeddmfijllgmaaGreatDoor.networkConverges
open Go Go.Pm Go.ChangeShapes Go.WideShapes Go.ChangeAt Go.RowKit Go.Proofs.Tryz
set_option maxRecDepth 100000 in
def py(H:Type)(b:TypeId×Value->H)(W:bQ)(c:Nat)(a:Array Value)(n w:List (DataW H))(before:List MemPlace) (r:∀(j:Nat) t v,Tryz.f6.params[j]?=some t->a[j]?=some v->Value.okWide Tryz.prog W .any c t v) (h:DataW.Whole b Tryz.prog Tryz.f6.params.toList Rows.networkConvergesSpec.vars G W a.toList n w before) (z:laidMetH Tryz.prog Rows.networkConvergesRow.laid W) : Calls Tryz.prog 6 a W λe k=>∃v,e=.returned v/\Rows.networkConvergesSpec.post b Tryz.prog Tryz.f6 G θ G G W a v k:=by
 have d:=h;obtain⟨p,q,g,x,rfl,I,L⟩:=h;have o:DataW.TrodAll b Tryz.prog W 0 (λ_=>θ) θ Tryz.f6.params.toList a.toList n p:=g;have B:Tryz.f6.params=#[22]:=Tryz.params6;rw[B]at o r;obtain⟨m,D,J,A,K,N,M,rfl,rfl,E,F⟩:=trodAll_cons o;obtain⟨rfl,rfl,rfl⟩:=trodAll_nil F;obtain rfl:a=#[m]:=by cases a;simp_all
 obtain⟨rfl,rfl⟩:=trodVars_none x;obtain⟨l,u,_⟩:=yh (λ_=>undef) Tryz.underlying22 Tryz.underlying3 (by kernel_rfl) (r 0 22 m rfl rfl) E;refine(Bj z (BT l []) (μ:=λ_=>undef) ⟨rfl,λi y f=>?_⟩).mono λe k ⟨C,s⟩=>?_
 .rcases i with _|i;.simp only[aG,Nat.reduceAdd,aC,bY,ab]at f;subst f;exact u
  simp at f
 exact⟨_,C,uY rfl rfl (by kernel_rfl) d rfl s⟩
def reads(os:Os){H:Type}(a:TypeId×Value->H):∃places,DataW.whole a Tryz.prog ((World.doorLaid Tryz.prog 400 os).forCall (λ_ _=>0) ⟨#[],#[.slice none 0 0],[]⟩).memory Tryz.f6.params.toList Rows.networkConvergesSpec.vars G #[(Value.slice none 0 0)].toList 8=some ([.nil],[],places) :=⟨[],by kernel_rfl⟩
set_option maxRecDepth 100000 in
def lifted(os:Os)(started:os.Started)(H:Type)(enc:TypeId×Value->H)(F:Stop.Interp): ReturnsInHanded {} Tryz.checked os 6 .any ((OpenSpec.ofChange Rows.networkConvergesSpec).preRow enc Tryz.prog Tryz.f6 Rows.networkConvergesRow.domain G Rows.networkConvergesRow.laid) (((OpenSpec.ofChange Rows.networkConvergesSpec).at F).post enc Tryz.prog Tryz.f6 G θ G G):=by obtain⟨places,g⟩:=reads os enc;refine returnsInHanded_of_row (C:=Tryz.checked) (s:=OpenSpec.ofChange Rows.networkConvergesSpec) own started (by kernel_rfl) Tryz.func6 (witness_row_at (enc:=enc) (C:=Tryz.checked) G (World.doorLaid Tryz.prog 400 os) #[.slice none 0 0] rfl (by kernel_rfl) (by kernel_rfl) (by kernel_rfl) (OpenSpec.preRow_of_cond 8 g (by kernel_rfl) (λk f=>by cases f) (by kernel_rfl) (xS os _))) ?_;intro W b a d e before i c _ _ _ h _ _;exact py H enc W b a d e before i c h
set_option maxRecDepth 100000 in
def said:Rows.NetworkConvergesSaid :=OpenClaim.holds_of_cond 6 Tryz.f6 rfl rfl rfl rfl rfl rfl rfl ⟨rfl,rfl,rfl,rfl,rfl⟩ rfl rfl rfl rfl rfl (by kernel_rfl) Tryz.func6 (by unfold joinedFacts;simp only[aZ];(repeat' apply aH);all_goals as_aux_lemma=>kernel_rfl) (ic (by kernel_rfl)) (by unfold Func.isWrapper;first|(rw[aQ (by decide +kernel)];kernel_rfl)|(rw[aw (by decide +kernel)];exact⟨rfl,rfl⟩)) (λos started H a _ F=>by rw[OpenClaim.pre_eq_preRow];exact lifted os started H a F)
def plain(f:FuncId)(a:Func)(e:Tryz.pinned.checked.prog.funcNamed "bitext/bitextlaw40.NetworkConverges" = some f) (c:Tryz.pinned.checked.prog.funcs[f]?=some a) : G=Tryz.pinned.checked.prog.looks []/\∀(j:Nat) t,a.params[j]?=some t->Tryz.pinned.checked.prog.wantsStandIn t=G:=by
 obtain rfl:f=6:=fO ((show Tryz.prog.funcNamed "bitext/bitextlaw40.NetworkConverges" = some 6 by kernel_rfl).symm.trans e) |>.symm;obtain rfl:a=Tryz.f6:=(fO (Tryz.func6.symm.trans c)).symm;refine⟨by kernel_rfl,λj t b=>?_⟩;rw[Tryz.params6]at b;have d:t∈[22]:=by simpa using oM b
 have g:([22].all λu=>!Tryz.prog.wantsStandIn u)=θ:=by kernel_rfl
 exact(show Tryz.prog.wantsStandIn t=G by simpa using df.1 g t d)
end Go.Proofs.YtfeddmfijllgmaaGreatDoor.networkConverges
namespace Go.Proofs.YtfeddmfijllgmaaGreatDoor
open Go
def networkConverges_card:Rows.NetworkConvergesCardSaid :=Claim7.holds_tied_plain_at .later [] _ _ _ _ networkConverges.said (λ_ h=>by cases h) (by kernel_rfl) (λ_ h=>by cases h) networkConverges_row_tie rfl ⟨rfl,rfl⟩ (by kernel_rfl) rfl networkConverges.plain (by kernel_rfl)
#print axioms networkConverges_card
end Go.Proofs.YtfeddmfijllgmaaGreatDoor
