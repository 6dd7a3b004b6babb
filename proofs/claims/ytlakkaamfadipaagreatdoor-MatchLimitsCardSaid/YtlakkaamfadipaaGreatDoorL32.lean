/- A part of a proof; the claim's last text says of what. -/
import Derived.Test.YtlakkaamfadipaaGreatDoorL21
import Derived.Test.YtlakkaamfadipaaGreatDoorL27
set_option linter.all false

namespace Go.Proofs.Tryz
open Go Go.Pm Go.Bt
theorem GS(b:UInt8)(J:ae):PC prog 170 [.i .u8 b.toNat] J (fun r J'=>r=.b (vm b)∧J'=J):=by
 refine PC.intro func170 ZI fun bz er=>aB ?_;simp only[TR,SS,seval];simp only[VV,seval];refine aA (kt b _) rfl ?_;simp only[VV,seval];refine a6 (.inr rfl) rfl ⟨?_,rfl⟩;simp only[one,vm,bd,bf]
theorem Ly(b:UInt8)(J:ae):PC prog 171 [.i .u8 b.toNat] J (fun r J'=>r=.b (LA b)∧J'=J):=by
 refine PC.intro func171 ZH fun bz er=>aB ?_;simp only[TQ,SS,seval];simp only[VV,seval];refine aA (kt b _) rfl ?_;simp only[VV,seval];exact a6 (.inr rfl) rfl ⟨by simp only[one,LA,bd,bf],rfl⟩
theorem SQ(a b:UInt8):(((a.toNat:Int))==(b.toNat:Int))=(a==b):=by
 rw[ir];simp only[bN];constructor
 ·intro h;exact O4.1 (by omega)
 ·rintro rfl;rfl
set_option maxHeartbeats 1000000 in
theorem Nk{J:ae}{K:Exit→St→Prop}(s:List UInt8)(j0 j1:UInt8)(f:Nat)(inner:UInt8→Bool)(hf:Cj prog f=true)(CV:∀ b J,PC prog f [.i .u8 b.toNat] J (fun r J'=>r=.b (inner b)∧J'=J))(hlen:s.length<2^62):
  ∀ (N:Nat) (rest pre:List UInt8),s=pre++rest→rest.length≤N →
  ((fj 7 (fh (.i .i64 ((pre.length+gL inner j0 j1 rest:Nat):Int)) (fj 46 fo))) fun ZZ=>K (.exit 0) ⟨ZZ,J⟩)→((fj 6 (fh (.i .i64 ((pre.length+gL inner j0 j1 rest:Nat):Int)) (fj 47 fo))) fun ZZ=>K .ret ⟨ZZ,J⟩) →
  gw J.length prog v8 K (N+1) ⟨(.s s::.s [j0,j1]::.fn f []::uu 4 (.i .i64 pre.length::uu 46 [])),J⟩:=by
 intro N
 induction N with
 | zero =>
  intro rest pre he hn h1 h2;have hr:rest=[]:=aD (by omega);subst hr;subst he;refine aH fun R hR=>?_;simp only[v8,VV,seval];simp only[bF,gL,eA]at h1 ⊢;refine⟨fun h=>by simp at h,fun _=>h1 ..⟩
 | succ N ih =>
  intro rest pre he hn h1 h2;cases rest with
  | nil =>
   subst he;refine aH fun R hR=>?_;simp only[v8,VV,seval];simp only[bF,gL,eA]at h1 ⊢;refine⟨fun h=>by simp at h,fun _=>h1 ..⟩
  | cons c r =>
   subst he;refine aH fun R hR=>?_;simp only[v8,VV,seval];refine⟨fun _=>⟨by simp;omega,?_⟩,fun h=>by simp at h;omega⟩;have EB:pre.length+1+r.length<2^62:=by simp at hlen;omega
   have hw:IntKind.i64.wrap ((pre.length:Int)+1)=((pre.length+1:Nat):Int):=by rw[IntWalk.i64_in _ (by omega)];omega
   have Bn:IntKind.i64.wrap ((pre.length:Int)+2)=((pre.length+2:Nat):Int):=by rw[IntWalk.i64_in _ (by omega)];omega
   refine rX rfl hf (CV c _) (by simp only[VV,seval,Qe]) ?_;simp only[VV,seval];simp only[SQ,hw,Bn];refine⟨fun hi=>?_,fun hi=>⟨⟨by omega,by simp;omega⟩,fun _=>⟨by omega,by simp;omega⟩,fun h=>?_,?_⟩⟩
   ·rw[H4 hi]at h1 h2;have e:pre.length+(1+gL inner j0 j1 r)=(pre++[c]).length+gL inner j0 j1 r:=by simp;omega
    rw[e]at h1 h2;refine hR _ (bk ?_ (ih r (pre++[c]) (by simp) (by simp at hn;omega) h1 h2));rw[show pre.length+1=(pre++[c]).length by simp]
    repeat' constructor
   ·simp at h;exact⟨by omega,by simp;omega⟩
   ·cases r with
    | nil =>
     have cM:decide (((pre.length+1:Nat):Int)<((pre++[c]).length:Int))=false:=by simp
     rw[H6 hi]at h1 h2;simp only[cM,qS];refine pK (c:=false) (v:=.b false) (by simp only[VV,seval]<;>rfl) (by simp) ?_;simp only[VV,seval];exact h2 ..
    | cons d r' =>
     have cM:decide (((pre.length+1:Nat):Int)<((pre++c::d::r').length:Int))=true:=by simp;omega
     simp only[cM,oy];have hd:(pre++c::d::r').getD (pre.length+1) 0=d:=by simp[ar]
     refine pK (c:=(c==j0||c==j1)) (v:=.b (inner d)) (by simp only[VV,seval];simp) (fun hg=>⟨f,[],rfl,hf,?_⟩) ?_
     ·have:=CV d J;simp only[hw,aX,hd,VV,seval];exact this
     ·simp only[VV,seval];simp only[Bn];refine⟨fun hj=>?_,fun hj=>?_⟩
      ·rw[H5 hi hj]at h1 h2;have e:pre.length+(2+gL inner j0 j1 r')=(pre++[c,d]).length+gL inner j0 j1 r':=by simp;omega
       rw[e]at h1 h2;refine hR _ (bk ?_ (ih r' (pre++[c,d]) (by simp) (by simp at hn;omega) h1 h2));rw[show pre.length+2=(pre++[c,d]).length by simp]
       repeat' constructor
      ·rw[Ks hi hj]at h1 h2;exact h2 ..
theorem y9(c j0 j1:UInt8)(rest:List UInt8)(f:Nat)(inner:UInt8→Bool)(hf:Cj prog f=true)(CV:∀ b J,PC prog f [.i .u8 b.toNat] J (fun r J'=>r=.b (inner b)∧J'=J))(hlen:rest.length<2^61)(J:ae):
  PC prog 169 [.s (c::rest),.s [j0,j1],.fn f []] J (fun r J'=>r=.i .i64 ((1+gL inner j0 j1 rest:Nat):Int)∧J'=J):=by
 refine PC.intro func169 ZJ fun bz er=>aB ?_;simp only[TS,SS,seval];simp only[VV,seval];refine cE.bk (fr':=(.s (c::rest)::.s [j0,j1]::.fn f []::uu 4 (.i .i64 (([c]:List UInt8).length:Nat)::uu 46 []))) (by repeat' constructor) (rest.length+1) (Nk (c::rest) j0 j1 f inner hf CV (by simp;omega) rest.length rest [c] rfl (aq _) ?_ ?_)
 ·simp only[JE];intros;simp only[VV,seval];exact a6 (.inr rfl) rfl ⟨rfl,rfl⟩
 ·simp only[JE];intros;simp only[VV,seval];exact a6 (.inr rfl) rfl ⟨rfl,rfl⟩
theorem Nr{J:ae}{K:Exit→St→Prop}(s:List UInt8)(hlen:s.length<2^62):∀ (rest pre:List UInt8),s=pre++rest →
  ((fj 4 (fh (.i .i64 ((pre.length+l5 rest:Nat):Int)) (fj 27 fo))) fun ZZ=>K (.exit 1) ⟨ZZ,J⟩) →
  gw J.length prog Av K (rest.length+1) ⟨(.s s::uu 3 (.i .i64 pre.length::uu 27 [])),J⟩:=by
 intro rest
 induction rest with
 | nil =>
  intro pre he h1;subst he;refine aH fun R hR=>?_;simp only[Av,VV,seval];simp only[bF,l5,eA]at h1 ⊢;have cM:decide ((pre.length:Int)<pre.length)=false:=by simp
  simp only[cM];refine⟨by simp,cL (c:=false) (v:=.i .i64 0) (by simp only[VV,seval]<;>rfl) (by simp) rfl ?_⟩;simp only[VV,seval];exact h1 ..
 | cons c r ih =>
  intro pre he h1;subst he;have EB:pre.length+1+r.length<2^62:=by simp at hlen;omega
  have hw:IntKind.i64.wrap ((pre.length:Int)+1)=(((pre++[c]).length:Nat):Int):=by rw[IntWalk.i64_in _ (by omega)];simp
  refine aH fun R hR=>?_;simp only[Av,VV,seval];have cM:decide ((pre.length:Int)<((pre++c::r).length:Int))=true:=by simp;omega
  simp only[cM];refine⟨fun _=>⟨by omega,by simp;omega⟩,cL (c:=true) (v:=.i .i64 (eE c)) (by simp only[VV,seval]<;>rfl) (fun _=>kt c _) (by simp only[VV,seval,Qe]) ?_⟩;simp only[VV,seval];have hb:(eE c==2)=Jw c:=rfl;simp only[hb,hw];refine⟨fun h=>?_,fun h=>?_⟩
  ·have e:pre.length+l5 (c::r)=(pre++[c]).length+l5 r:=by simp[l5,h];omega
   rw[e]at h1;refine hR _ (bk ?_ (ih (pre++[c]) (by simp) h1))
   repeat' constructor
  ·have e:pre.length+l5 (c::r)=pre.length:=by simp[l5,h]
   rw[e]at h1;exact h1 ..
theorem DU(c:UInt8)(rest:List UInt8)(hlen:rest.length<2^61)(J:ae):PC prog 109 [.s (c::rest)] J (fun r J'=>r=.fa [.i .i64 (ek (c::rest)).1,.i .i64 ((ek (c::rest)).2:Nat)]∧J'=J):=by
 refine PC.intro func109 aac fun bz er=>aB ?_;simp only[Uq,SS,seval];simp only[VV,seval];refine⟨by simp,aA (kt c _) (by simp only[VV,seval]) ?_⟩;simp only[VV,seval];refine⟨fun h4=>?_,fun h4=>⟨fun h3=>?_,fun h3=>⟨fun h2=>?_,fun h2=>?_⟩⟩⟩
 ·refine aA (y9 c 39 45 rest 170 vm (by kernel_rfl) GS hlen J) rfl ?_;simp only[VV,seval];have h4:eE c=4:=by simpa using h4
  exact a6 (.inr rfl) rfl ⟨by simp[one,ek,h4],rfl⟩
 ·refine aA (y9 c 46 44 rest 171 LA (by kernel_rfl) Ly hlen J) rfl ?_;simp only[VV,seval];have h4:¬ eE c=4:=by simpa using h4
  have h3:eE c=3:=by simpa using h3
  exact a6 (.inr rfl) rfl ⟨by simp[one,ek,h3],rfl⟩
 ·have h4:¬ eE c=4:=by simpa using h4
  have h3:¬ eE c=3:=by simpa using h3
  have h2:eE c=2:=by simpa using h2
  refine cE.bk (fr':=(.s (c::rest)::uu 3 (.i .i64 (([c]:List UInt8).length:Nat)::uu 27 []))) (by repeat' constructor) (rest.length+1) (Nr (c::rest) (by simp;omega) rest [c] rfl ?_);simp only[JE];intros;simp only[VV,seval];exact a6 (.inr rfl) rfl ⟨by simp[one,ek,h2],rfl⟩
 ·have h4:¬ eE c=4:=by simpa using h4
  have h3:¬ eE c=3:=by simpa using h3
  have h2:¬ eE c=2:=by simpa using h2
  exact a6 (.inr rfl) rfl ⟨by simp[one,ek,h4,h3,h2],rfl⟩
end Go.Proofs.Tryz
