/- MatchOrder returns true for every two lists of integers and every two integers, and leaves all that was there as it was. Conditions: none. -/
import Derived.Test.YtlakkaamfadipaaGreatDoorO3
set_option linter.all false
set_option maxHeartbeats 80000000

namespace Go.Proofs.YtlakkaamfadipaaGreatDoor.matchOrder
open Go Go.Pm Go.ChangeShapes Go.WideShapes Go.ChangeAt Go.RowKit Go.Proofs.Tryz
set_option maxRecDepth 100000 in
def vR(H:Type)(enc:TypeId×Value->H)(W:bD)(b:Nat)(args:Array Value)(s gs:List (DataW H))(before:List MemPlace)
  (c:∀(j:Nat) t v,Tryz.f6.params[j]?=some t->args[j]?=some v->Value.okWide Tryz.prog W .any b t v)
  (hW:DataW.Whole enc Tryz.prog Tryz.f6.params.toList Rows.matchOrderSpec.vars false W args.toList s gs before) (E:laidMetH Tryz.prog Rows.matchOrderRow.laid W) :
  Calls Tryz.prog 6 args W λe o=>∃v,e=.returned v/\Rows.matchOrderSpec.post enc Tryz.prog Tryz.f6 false true false false W args v o:=by
 have d:=hW;obtain⟨p,q,g,M,rfl,X,sv⟩:=hW;have u:DataW.TrodAll enc Tryz.prog W 0 (λ_=>true) true Tryz.f6.params.toList args.toList s p:=g;have S:Tryz.f6.params=#[25,25,3,3]:=Tryz.params6;rw[S]at u c;obtain⟨n,I,d0,A,p0,q0,K,rfl,rfl,P,D⟩:=trodAll_cons u;obtain⟨h,vs1,d1,F,p1,q1,rfl,rfl,rfl,R,O⟩:=trodAll_cons D;obtain⟨k,vs2,Y,L,Z,q2,rfl,rfl,rfl,x,V⟩:=trodAll_cons O;obtain⟨r,Q,d3,N,p3,q3,rfl,rfl,rfl,G,w⟩:=trodAll_cons V;obtain⟨rfl,rfl,rfl⟩:=trodAll_nil w;obtain rfl:args=#[n,h,k,r]:=by cases args;simp_all
 obtain⟨rfl,rfl⟩:=trodVars_none M;obtain⟨l,C,_⟩:=yN (λ_=>undef) Tryz.underlying25 Tryz.underlying3 (by kernel_rfl) (c 0 25 n rfl rfl) P;obtain⟨m,T,_⟩:=yN (λ_=>undef) Tryz.underlying25 Tryz.underlying3 (by kernel_rfl) (c 1 25 h rfl rfl) R;obtain⟨U,rfl,rfl,rfl,wx⟩:=open_int Tryz.underlying3 (c 2 3 k rfl rfl) x;obtain⟨f,rfl,rfl,rfl,z⟩:=open_int Tryz.underlying3 (c 3 3 r rfl rfl) G;refine(HQ E (Ly l m U f []) (μ:=λ_=>undef) ⟨rfl,λi y a=>?_⟩).mono λe o ⟨J,B⟩=>?_
 .rcases i with _|_|_|_|i
  .simp only[aY,Nat.reduceAdd,aM,bX,ae]at a;subst a;exact C
  .simp only[aY,Nat.reduceAdd,aM,bX,ae]at a;subst a;exact T
  .simp only[aY,Nat.reduceAdd,aM,bX,ae]at a;subst a;exact .i _ _
  .simp only[aY,Nat.reduceAdd,aM,bX,ae]at a;subst a;exact .i _ _
  .simp at a
 .exact⟨_,J,By rfl rfl (by kernel_rfl) d rfl B⟩
def reads(os:Os){H:Type}(enc:TypeId×Value->H):∃places,DataW.whole enc Tryz.prog ((World.doorLaid Tryz.prog 400 os).forCall (λ_ _=>0) ⟨#[],#[.slice none 0 0,.slice none 0 0,.int .i64 0,.int .i64 0],[]⟩).memory Tryz.f6.params.toList Rows.matchOrderSpec.vars false #[(Value.slice none 0 0),(Value.slice none 0 0),(Value.int .i64 0),(Value.int .i64 0)].toList 8=some ([.nil,.nil,.lit (.int .i64 0),.lit (.int .i64 0)],[],places) :=
 ⟨[],by kernel_rfl⟩
set_option maxRecDepth 100000 in
def lifted(os:Os)(started:os.Started)(H:Type)(enc:TypeId×Value->H)(F:Stop.Interp):
  ReturnsInHanded {} Tryz.checked os 6 .any ((OpenSpec.ofChange Rows.matchOrderSpec).preRow enc Tryz.prog Tryz.f6 Rows.matchOrderRow.domain false Rows.matchOrderRow.laid) (((OpenSpec.ofChange Rows.matchOrderSpec).at F).post enc Tryz.prog Tryz.f6 false true false false):=by
 obtain⟨places,c⟩:=reads os enc
 refine returnsInHanded_of_row (C:=Tryz.checked) (s:=OpenSpec.ofChange Rows.matchOrderSpec) own started (by kernel_rfl) Tryz.func6
  (witness_row_at (enc:=enc) (C:=Tryz.checked) false (World.doorLaid Tryz.prog 400 os) #[.slice none 0 0,.slice none 0 0,.int .i64 0,.int .i64 0] rfl (by kernel_rfl) (by kernel_rfl) (by kernel_rfl)
   (OpenSpec.preRow_of_cond 8 c (by kernel_rfl) (λk d=>by cases d) (by kernel_rfl) (El os _))) ?_
 intro W b a g e before f hW _ _ _ h _ _;exact vR H enc W b a g e before f hW h
set_option maxRecDepth 100000 in
def said:Rows.MatchOrderSaid :=
 OpenClaim.holds_of_cond 6 Tryz.f6 rfl rfl rfl rfl rfl rfl rfl ⟨rfl,rfl,rfl,rfl,rfl⟩ rfl rfl rfl rfl rfl (by kernel_rfl) Tryz.func6 (by unfold joinedFacts;simp only[aJ];(repeat' apply aC);all_goals as_aux_lemma=>kernel_rfl)
  (xE (by kernel_rfl)) (by unfold Func.isWrapper;first|(rw[az (by decide +kernel)];kernel_rfl)|(rw[an (by decide +kernel)];exact⟨rfl,rfl⟩))
  (λos started H a _ F=>by rw[OpenClaim.pre_eq_preRow];exact lifted os started H a F)
def plain(f:FuncId)(a:Func)(d:Tryz.pinned.checked.prog.funcNamed "bitext/bitextlaw18.MatchOrder" = some f) (g:Tryz.pinned.checked.prog.funcs[f]?=some a) :
  false=Tryz.pinned.checked.prog.looks []/\∀(j:Nat) t,a.params[j]?=some t->Tryz.pinned.checked.prog.wantsStandIn t=false:=by
 obtain rfl:f=6:=gy ((show Tryz.prog.funcNamed "bitext/bitextlaw18.MatchOrder" = some 6 by kernel_rfl).symm.trans d) |>.symm;obtain rfl:a=Tryz.f6:=(gy (Tryz.func6.symm.trans g)).symm;refine⟨by kernel_rfl,λj t b=>?_⟩;rw[Tryz.params6]at b;have c:t∈[25,25,3,3]:=by simpa using yU b
 have e:([25,25,3,3].all λu=>!Tryz.prog.wantsStandIn u)=true:=by kernel_rfl
 exact(show Tryz.prog.wantsStandIn t=false by simpa using bY.1 e t c)
end Go.Proofs.YtlakkaamfadipaaGreatDoor.matchOrder
namespace Go.Proofs.YtlakkaamfadipaaGreatDoor
open Go
def matchOrder_card:Rows.MatchOrderCardSaid :=
 Claim7.holds_tied_plain_at .later [] _ _ _ _ matchOrder.said (λ_ h=>by cases h) (by kernel_rfl) (λ_ h=>by cases h) matchOrder_row_tie rfl ⟨rfl,rfl⟩ (by kernel_rfl) rfl matchOrder.plain (by kernel_rfl)
#print axioms matchOrder_card
end Go.Proofs.YtlakkaamfadipaaGreatDoor
