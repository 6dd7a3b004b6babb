/- A part of a proof; the claim's last text says of what. -/
import Derived.Test.YtlakkaamfadipaaGreatDoorM21
import Derived.Test.YtlakkaamfadipaaGreatDoorM28
set_option linter.all false
set_option maxHeartbeats 1000000
open List renaming length->F

namespace Go.Proofs.Tryz
open Go Go.Pm Go.Bt
def NR(b:UInt8)(J:ag):bO prog 170 [.i .u8 b.toNat] J (.b (mO b)):=by refine a6 func170 ai1 λc a=>ay ?_;simp only[acB,SS,seval];simp only[VV,seval];refine aA (nk b _) rfl ?_;simp only[VV,seval];refine aY (.inr rfl) rfl ⟨?_,rfl⟩;simp only[one,mO,aO,aZ]
def Tx(b:UInt8)(J:ag):bO prog 171 [.i .u8 b.toNat] J (.b (DN b)):=by refine a6 func171 ai0 λc a=>ay ?_;simp only[acA,SS,seval];simp only[VV,seval];refine aA (nk b _) rfl ?_;simp only[VV,seval];exact aY (.inr rfl) rfl ⟨by simp only[one,DN,aO,aZ],rfl⟩
def Hy(a b:UInt8):(((a.toNat:Int))==(b.toNat:Int))=(a==b):=by
 rw[dL];simp only[b9];constructor;.intro h;exact C4.1 (by omega)
 rintro rfl;rfl
def Vw{J:ag}{K:bj}(s:aJ)(m l:UInt8)(f:Nat)(inner:UInt8->Bool)(B:Iz prog f=true)(D:∀b J,bO prog f [.i .u8 b.toNat] J (.b (inner b)))(o:F s<2^62): ∀(a:Nat) (g pre:aJ),s=pre++g->F g<=a ->((fj 7 (fh (.I ((F pre+iA inner m l g:Nat):Int)) (fj 46 fo))) λu=>K (.exit 0) ⟨u,J⟩)->((fj 6 (fh (.I ((F pre+iA inner m l g:Nat):Int)) (fj 47 fo))) λu=>K .ret ⟨u,J⟩) ->fS (F J) prog Bv K (a+1) ⟨(.s s::.s [m,l]::.fn f []::uu 4 (.I (F pre)::uu 46 [])),J⟩:=by
 intro a;induction a with
 |zero =>intro g pre q w j k;have G:g=[]:=aL (by omega);subst G;subst q;refine aF λR t=>?_;simp only[Bv,VV,seval];simp only[bM,iA,dQ]at j |-;refine⟨λh=>by simp at h,λ_=>j ..⟩
 |succ a ih =>
 intro g pre q w j k;cases g with
 |nil =>subst q;refine aF λR t=>?_;simp only[Bv,VV,seval];simp only[bM,iA,dQ]at j |-;refine⟨λh=>by simp at h,λ_=>j ..⟩
 |cons c r =>
 subst q;refine aF λR t=>?_;simp only[Bv,VV,seval];refine⟨λ_=>⟨by simp;omega,?_⟩,λh=>by simp at h;omega⟩;have L:F pre+1+F r<2^62:=by simp at o;omega
 have z:IntKind.i64.wrap ((F pre:Int)+1)=((F pre+1:Nat):Int):=by rw[IntWalk.i64_in _ (by omega)];omega
 have C:IntKind.i64.wrap ((F pre:Int)+2)=((F pre+2:Nat):Int):=by rw[IntWalk.i64_in _ (by omega)];omega
 refine xn rfl B (D c _) (by simp only[VV,seval,UO]) ?_;simp only[VV,seval];simp only[Hy,z,C];refine⟨λp=>?_,λp=>⟨⟨by omega,by simp;omega⟩,λ_=>⟨by omega,by simp;omega⟩,λh=>?_,?_⟩⟩
 .rw[yl p]at j k;have e:F pre+(1+iA inner m l r)=F (pre++[c])+iA inner m l r:=by simp;omega
  rw[e]at j k;refine t _ (aX ?_ (ih r (pre++[c]) (by simp) (by simp at w;omega) j k));rw[show F pre+1=F (pre++[c]) by simp];repeat' constructor
 .simp at h;exact⟨by omega,by simp;omega⟩
 cases r with
 |nil =>
  have x:decide (((F pre+1:Nat):Int)<(F (pre++[c]):Int))=false:=by simp
  rw[yn p]at j k;simp only[x,ir];refine ui (c:=false) (v:=.b false) (by simp only[VV,seval]<;>rfl) (by simp) ?_;simp only[VV,seval];exact k ..
 |cons d n =>
 have x:decide (((F pre+1:Nat):Int)<(F (pre++c::d::n):Int))=true:=by simp;omega
 simp only[x,dM];have E:(pre++c::d::n).getD (F pre+1) 0=d:=by simp[aq]
 refine ui (c:=(c==m||c==l)) (v:=.b (inner d)) (by simp only[VV,seval];simp) (λH=>⟨f,[],rfl,B,?_⟩) ?_;.have:=D d J;simp only[z,aG,E,VV,seval];exact this
 simp only[VV,seval];simp only[C];refine⟨λy=>?_,λy=>?_⟩
 .rw[ym p y]at j k;have e:F pre+(2+iA inner m l n)=F (pre++[c,d])+iA inner m l n:=by simp;omega
  rw[e]at j k;refine t _ (aX ?_ (ih n (pre++[c,d]) (by simp) (by simp at w;omega) j k));rw[show F pre+2=F (pre++[c,d]) by simp];repeat' constructor
 rw[wC p y]at j k;exact k ..
def EE(c e d:UInt8)(a:aJ)(f:Nat)(inner:UInt8->Bool)(h:Iz prog f=true)(j:∀b J,bO prog f [.i .u8 b.toNat] J (.b (inner b)))(g:F a<2^61)(J:ag): bO prog 169 [.s (c::a),.s [e,d],.fn f []] J (.I ((1+iA inner e d a:Nat):Int)):=by
 refine a6 func169 ai2 λl k=>ay ?_;simp only[acC,SS,seval];simp only[VV,seval];refine cd.aX (fr':=(.s (c::a)::.s [e,d]::.fn f []::uu 4 (.I (F ([c]:aJ):Nat)::uu 46 []))) (by repeat' constructor) (F a+1) (Vw (c::a) e d f inner h j (by simp;omega) (F a) a [c] rfl (ax _) ?_ ?_);.simp only[JE];intros;simp only[VV,seval];exact aY (.inr rfl) rfl ⟨rfl,rfl⟩
 simp only[JE];intros;simp only[VV,seval];exact aY (.inr rfl) rfl ⟨rfl,rfl⟩
def VI{J:ag}{K:bj}(s:aJ)(d:F s<2^62):∀(a pre:aJ),s=pre++a ->((fj 4 (fh (.I ((F pre+gS a:Nat):Int)) (fj 27 fo))) λl=>K (.exit 1) ⟨l,J⟩) ->fS (F J) prog Gh K (F a+1) ⟨(.s s::uu 3 (.I (F pre)::uu 27 [])),J⟩:=by
 intro a;induction a with
 |nil =>
  intro pre g b;subst g;refine aF λR i=>?_;simp only[Gh,VV,seval];simp only[bM,gS,dQ]at b |-;have f:decide ((F pre:Int)<F pre)=false:=by simp
  simp only[f];refine⟨by simp,b7 (c:=false) (v:=.I 0) (by simp only[VV,seval]<;>rfl) (by simp) rfl ?_⟩;simp only[VV,seval];exact b ..
 |cons c r ih =>
 intro pre g b;subst g;have m:F pre+1+F r<2^62:=by simp at d;omega
 have j:IntKind.i64.wrap ((F pre:Int)+1)=((F (pre++[c]):Nat):Int):=by rw[IntWalk.i64_in _ (by omega)];simp
 refine aF λR i=>?_;simp only[Gh,VV,seval];have f:decide ((F pre:Int)<(F (pre++c::r):Int))=true:=by simp;omega
 simp only[f];refine⟨λ_=>⟨by omega,by simp;omega⟩,b7 (c:=true) (v:=.I (du c)) (by simp only[VV,seval]<;>rfl) (λ_=>nk c _) (by simp only[VV,seval,UO]) ?_⟩;simp only[VV,seval];have k:(du c==2)=pS c:=rfl;simp only[k,j];refine⟨λh=>?_,λh=>?_⟩
 .have e:F pre+gS (c::r)=F (pre++[c])+gS r:=by simp[gS,h];omega
  rw[e]at b;refine i _ (aX ?_ (ih (pre++[c]) (by simp) b));repeat' constructor
 have e:F pre+gS (c::r)=F pre:=by simp[gS,h]
 rw[e]at b;exact b ..
def Kg(c:UInt8)(a:aJ)(e:F a<2^61)(J:ag):bO prog 109 [.s (c::a)] J (.gy [.I (eG (c::a)).1,.I ((eG (c::a)).2:Nat)]):=by
 refine a6 func109 ajG λh g=>ay ?_;simp only[adm,SS,seval];simp only[VV,seval];refine⟨by simp,aA (nk c _) (by simp only[VV,seval]) ?_⟩;simp only[VV,seval];refine⟨λb=>?_,λb=>⟨λd=>?_,λd=>⟨λf=>?_,λf=>?_⟩⟩⟩
 .refine aA (EE c 39 45 a 170 mO (by kernel_rfl) NR e J) rfl ?_;simp only[VV,seval];have b:du c=4:=by simpa using b
  exact aY (.inr rfl) rfl ⟨by simp[one,eG,b],rfl⟩
 .refine aA (EE c 46 44 a 171 DN (by kernel_rfl) Tx e J) rfl ?_;simp only[VV,seval];have b:¬du c=4:=by simpa using b
  have d:du c=3:=by simpa using d
  exact aY (.inr rfl) rfl ⟨by simp[one,eG,d],rfl⟩
 .have b:¬du c=4:=by simpa using b
  have d:¬du c=3:=by simpa using d
  have f:du c=2:=by simpa using f
  refine cd.aX (fr':=(.s (c::a)::uu 3 (.I (F ([c]:aJ):Nat)::uu 27 []))) (by repeat' constructor) (F a+1) (VI (c::a) (by simp;omega) a [c] rfl ?_);simp only[JE];intros;simp only[VV,seval];exact aY (.inr rfl) rfl ⟨by simp[one,eG,f],rfl⟩
 have b:¬du c=4:=by simpa using b
 have d:¬du c=3:=by simpa using d
 have f:¬du c=2:=by simpa using f
 exact aY (.inr rfl) rfl ⟨by simp[one,eG,b,d,f],rfl⟩
end Go.Proofs.Tryz
