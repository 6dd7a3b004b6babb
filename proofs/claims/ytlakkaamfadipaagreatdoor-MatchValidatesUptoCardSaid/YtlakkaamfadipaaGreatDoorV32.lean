/- A part of a proof; the claim's last text says of what. -/
import Derived.Test.YtlakkaamfadipaaGreatDoorV21
import Derived.Test.YtlakkaamfadipaaGreatDoorV27
set_option linter.all false

namespace Go.Proofs.Tryz
open Go Go.Pm Go.Bt
theorem IV(b:UInt8)(J:ae):PC prog 170 [.i .u8 b.toNat] J (fun r J'=>r=.b (wT b)∧J'=J):=by
 refine PC.intro func170 acg fun bz dH=>aB ?_;simp only[WN,SS,seval];simp only[VV,seval];refine aC (kV b _) rfl ?_;simp only[VV,seval];refine aR (.inr rfl) rfl ⟨?_,rfl⟩;simp only[one,wT,aF,aP]
theorem Of(b:UInt8)(J:ae):PC prog 171 [.i .u8 b.toNat] J (fun r J'=>r=.b (Og b)∧J'=J):=by
 refine PC.intro func171 acf fun bz dH=>aB ?_;simp only[WM,SS,seval];simp only[VV,seval];refine aC (kV b _) rfl ?_;simp only[VV,seval];exact aR (.inr rfl) rfl ⟨by simp only[one,Og,aF,aP],rfl⟩
theorem VU(a b:UInt8):(((a.toNat:Int))==(b.toNat:Int))=(a==b):=by
 rw[df];simp only[bR];constructor
 ·intro h;exact zq.1 (by omega)
 ·rintro rfl;rfl
set_option maxHeartbeats 1000000 in
theorem P5{J:ae}{K:Exit→St→Prop}(s:List UInt8)(j0 j1:UInt8)(f:Nat)(inner:UInt8→Bool)(hf:DY prog f=true)(ye:∀ b J,PC prog f [.i .u8 b.toNat] J (fun r J'=>r=.b (inner b)∧J'=J))(hlen:s.length<2^62):
  ∀ (N:Nat) (rest pre:List UInt8),s=pre++rest→rest.length≤N →
  ((fj 7 (fh (.i .i64 ((pre.length+iw inner j0 j1 rest:Nat):Int)) (fj 46 fo))) fun ZZ=>K (.exit 0) ⟨ZZ,J⟩)→((fj 6 (fh (.i .i64 ((pre.length+iw inner j0 j1 rest:Nat):Int)) (fj 47 fo))) fun ZZ=>K .ret ⟨ZZ,J⟩) →
  fJ J.length prog xM K (N+1) ⟨(.s s::.s [j0,j1]::.fn f []::uu 4 (.i .i64 pre.length::uu 46 [])),J⟩:=by
 intro N
 induction N with
 | zero =>
  intro rest pre he hn h1 h2;have hr:rest=[]:=aL (by omega);subst hr;subst he;refine aD fun R hR=>?_;simp only[xM,VV,seval];simp only[bV,iw,dm]at h1 ⊢;refine⟨fun h=>by simp at h,fun _=>h1 ..⟩
 | succ N ih =>
  intro rest pre he hn h1 h2;cases rest with
  | nil =>
   subst he;refine aD fun R hR=>?_;simp only[xM,VV,seval];simp only[bV,iw,dm]at h1 ⊢;refine⟨fun h=>by simp at h,fun _=>h1 ..⟩
  | cons c r =>
   subst he;refine aD fun R hR=>?_;simp only[xM,VV,seval];refine⟨fun _=>⟨by simp;omega,?_⟩,fun h=>by simp at h;omega⟩;have zn:pre.length+1+r.length<2^62:=by simp at hlen;omega
   have hw:IntKind.i64.wrap ((pre.length:Int)+1)=((pre.length+1:Nat):Int):=by rw[IntWalk.i64_in _ (by omega)];omega
   have AX:IntKind.i64.wrap ((pre.length:Int)+2)=((pre.length+2:Nat):Int):=by rw[IntWalk.i64_in _ (by omega)];omega
   refine EY rfl hf (ye c _) (by simp only[VV,seval,PD]) ?_;simp only[VV,seval];simp only[VU,hw,AX];refine⟨fun hi=>?_,fun hi=>⟨⟨by omega,by simp;omega⟩,fun _=>⟨by omega,by simp;omega⟩,fun h=>?_,?_⟩⟩
   ·rw[Kg hi]at h1 h2;have e:pre.length+(1+iw inner j0 j1 r)=(pre++[c]).length+iw inner j0 j1 r:=by simp;omega
    rw[e]at h1 h2;refine hR _ (bd ?_ (ih r (pre++[c]) (by simp) (by simp at hn;omega) h1 h2));rw[show pre.length+1=(pre++[c]).length by simp]
    repeat' constructor
   ·simp at h;exact⟨by omega,by simp;omega⟩
   ·cases r with
    | nil =>
     have dp:decide (((pre.length+1:Nat):Int)<((pre++[c]).length:Int))=false:=by simp
     rw[Ki hi]at h1 h2;simp only[dp,jF];refine qV (c:=false) (v:=.b false) (by simp only[VV,seval]<;>rfl) (by simp) ?_;simp only[VV,seval];exact h2 ..
    | cons d r' =>
     have dp:decide (((pre.length+1:Nat):Int)<((pre++c::d::r').length:Int))=true:=by simp;omega
     simp only[dp,dQ];have hd:(pre++c::d::r').getD (pre.length+1) 0=d:=by simp[ar]
     refine qV (c:=(c==j0||c==j1)) (v:=.b (inner d)) (by simp only[VV,seval];simp) (fun hg=>⟨f,[],rfl,hf,?_⟩) ?_
     ·have:=ye d J;simp only[hw,aM,hd,VV,seval];exact this
     ·simp only[VV,seval];simp only[AX];refine⟨fun hj=>?_,fun hj=>?_⟩
      ·rw[Kh hi hj]at h1 h2;have e:pre.length+(2+iw inner j0 j1 r')=(pre++[c,d]).length+iw inner j0 j1 r':=by simp;omega
       rw[e]at h1 h2;refine hR _ (bd ?_ (ih r' (pre++[c,d]) (by simp) (by simp at hn;omega) h1 h2));rw[show pre.length+2=(pre++[c,d]).length by simp]
       repeat' constructor
      ·rw[Na hi hj]at h1 h2;exact h2 ..
theorem AU(c j0 j1:UInt8)(rest:List UInt8)(f:Nat)(inner:UInt8→Bool)(hf:DY prog f=true)(ye:∀ b J,PC prog f [.i .u8 b.toNat] J (fun r J'=>r=.b (inner b)∧J'=J))(hlen:rest.length<2^61)(J:ae):
  PC prog 169 [.s (c::rest),.s [j0,j1],.fn f []] J (fun r J'=>r=.i .i64 ((1+iw inner j0 j1 rest:Nat):Int)∧J'=J):=by
 refine PC.intro func169 ach fun bz dH=>aB ?_;simp only[WO,SS,seval];simp only[VV,seval];refine cc.bd (fr':=(.s (c::rest)::.s [j0,j1]::.fn f []::uu 4 (.i .i64 (([c]:List UInt8).length:Nat)::uu 46 []))) (by repeat' constructor) (rest.length+1) (P5 (c::rest) j0 j1 f inner hf ye (by simp;omega) rest.length rest [c] rfl (au _) ?_ ?_)
 ·simp only[JE];intros;simp only[VV,seval];exact aR (.inr rfl) rfl ⟨rfl,rfl⟩
 ·simp only[JE];intros;simp only[VV,seval];exact aR (.inr rfl) rfl ⟨rfl,rfl⟩
theorem Qd{J:ae}{K:Exit→St→Prop}(s:List UInt8)(hlen:s.length<2^62):∀ (rest pre:List UInt8),s=pre++rest →
  ((fj 4 (fh (.i .i64 ((pre.length+mL rest:Nat):Int)) (fj 27 fo))) fun ZZ=>K (.exit 1) ⟨ZZ,J⟩) →
  fJ J.length prog Cc K (rest.length+1) ⟨(.s s::uu 3 (.i .i64 pre.length::uu 27 [])),J⟩:=by
 intro rest
 induction rest with
 | nil =>
  intro pre he h1;subst he;refine aD fun R hR=>?_;simp only[Cc,VV,seval];simp only[bV,mL,dm]at h1 ⊢;have dp:decide ((pre.length:Int)<pre.length)=false:=by simp
  simp only[dp];refine⟨by simp,cn (c:=false) (v:=.i .i64 0) (by simp only[VV,seval]<;>rfl) (by simp) rfl ?_⟩;simp only[VV,seval];exact h1 ..
 | cons c r ih =>
  intro pre he h1;subst he;have zn:pre.length+1+r.length<2^62:=by simp at hlen;omega
  have hw:IntKind.i64.wrap ((pre.length:Int)+1)=(((pre++[c]).length:Nat):Int):=by rw[IntWalk.i64_in _ (by omega)];simp
  refine aD fun R hR=>?_;simp only[Cc,VV,seval];have dp:decide ((pre.length:Int)<((pre++c::r).length:Int))=true:=by simp;omega
  simp only[dp];refine⟨fun _=>⟨by omega,by simp;omega⟩,cn (c:=true) (v:=.i .i64 (dD c)) (by simp only[VV,seval]<;>rfl) (fun _=>kV c _) (by simp only[VV,seval,PD]) ?_⟩;simp only[VV,seval];have hb:(dD c==2)=L8 c:=rfl;simp only[hb,hw];refine⟨fun h=>?_,fun h=>?_⟩
  ·have e:pre.length+mL (c::r)=(pre++[c]).length+mL r:=by simp[mL,h];omega
   rw[e]at h1;refine hR _ (bd ?_ (ih (pre++[c]) (by simp) h1))
   repeat' constructor
  ·have e:pre.length+mL (c::r)=pre.length:=by simp[mL,h]
   rw[e]at h1;exact h1 ..
theorem Fw(c:UInt8)(rest:List UInt8)(hlen:rest.length<2^61)(J:ae):PC prog 109 [.s (c::rest)] J (fun r J'=>r=.fu [.i .i64 (eS (c::rest)).1,.i .i64 ((eS (c::rest)).2:Nat)]∧J'=J):=by
 refine PC.intro func109 acP fun bz dH=>aB ?_;simp only[Xn,SS,seval];simp only[VV,seval];refine⟨by simp,aC (kV c _) (by simp only[VV,seval]) ?_⟩;simp only[VV,seval];refine⟨fun h4=>?_,fun h4=>⟨fun h3=>?_,fun h3=>⟨fun h2=>?_,fun h2=>?_⟩⟩⟩
 ·refine aC (AU c 39 45 rest 170 wT (by kernel_rfl) IV hlen J) rfl ?_;simp only[VV,seval];have h4:dD c=4:=by simpa using h4
  exact aR (.inr rfl) rfl ⟨by simp[one,eS,h4],rfl⟩
 ·refine aC (AU c 46 44 rest 171 Og (by kernel_rfl) Of hlen J) rfl ?_;simp only[VV,seval];have h4:¬ dD c=4:=by simpa using h4
  have h3:dD c=3:=by simpa using h3
  exact aR (.inr rfl) rfl ⟨by simp[one,eS,h3],rfl⟩
 ·have h4:¬ dD c=4:=by simpa using h4
  have h3:¬ dD c=3:=by simpa using h3
  have h2:dD c=2:=by simpa using h2
  refine cc.bd (fr':=(.s (c::rest)::uu 3 (.i .i64 (([c]:List UInt8).length:Nat)::uu 27 []))) (by repeat' constructor) (rest.length+1) (Qd (c::rest) (by simp;omega) rest [c] rfl ?_);simp only[JE];intros;simp only[VV,seval];exact aR (.inr rfl) rfl ⟨by simp[one,eS,h2],rfl⟩
 ·have h4:¬ dD c=4:=by simpa using h4
  have h3:¬ dD c=3:=by simpa using h3
  have h2:¬ dD c=2:=by simpa using h2
  exact aR (.inr rfl) rfl ⟨by simp[one,eS,h4,h3,h2],rfl⟩
end Go.Proofs.Tryz
