/- A part of a proof; the claim's last text says of what. -/
import Derived.Test.YtlakkaamfadipaaGreatDoorS20
import Derived.Test.YtlakkaamfadipaaGreatDoorS26
set_option linter.all false

namespace Go.Proofs.Tryz
open Go Go.Pm Go.Bt
theorem JQ(b:UInt8)(J:ae):PC prog 170 [.i .u8 b.toNat] J (fun r J'=>r=.b (kL b)∧J'=J):=by
 refine PC.intro func170 adg fun bj dx=>ax ?_;simp only[Xv,SS,seval];simp only[VV,seval];refine az (kY b _) rfl ?_;simp only[VV,seval];refine aU (.inr rfl) rfl ⟨?_,rfl⟩;simp only[one,kL,aV,aW]
theorem OZ(b:UInt8)(J:ae):PC prog 171 [.i .u8 b.toNat] J (fun r J'=>r=.b (AQ b)∧J'=J):=by
 refine PC.intro func171 adf fun bj dx=>ax ?_;simp only[Xu,SS,seval];simp only[VV,seval];refine az (kY b _) rfl ?_;simp only[VV,seval];exact aU (.inr rfl) rfl ⟨by simp only[one,AQ,aV,aW],rfl⟩
theorem DU(a b:UInt8):(((a.toNat:Int))==(b.toNat:Int))=(a==b):=by
 rw[gP];simp only[bT];constructor
 ·intro h;exact Sy.1 (by omega)
 ·rintro rfl;rfl
set_option maxHeartbeats 1000000 in
theorem QG{J:ae}{K:Exit→St→Prop}(s:List UInt8)(j0 j1:UInt8)(f:Nat)(inner:UInt8→Bool)(hf:ES prog f=true)(sI:∀ b J,PC prog f [.i .u8 b.toNat] J (fun r J'=>r=.b (inner b)∧J'=J))(hlen:s.length<2^62):
  ∀ (N:Nat) (rest pre:List UInt8),s=pre++rest→rest.length≤N →
  ((fj 7 (fh (.i .i64 ((pre.length+fU inner j0 j1 rest:Nat):Int)) (fj 46 fo))) fun ZZ=>K (.exit 0) ⟨ZZ,J⟩)→((fj 6 (fh (.i .i64 ((pre.length+fU inner j0 j1 rest:Nat):Int)) (fj 47 fo))) fun ZZ=>K .ret ⟨ZZ,J⟩) →
  fp J.length prog yB K (N+1) ⟨(.s s::.s [j0,j1]::.fn f []::uu 4 (.i .i64 pre.length::uu 46 [])),J⟩:=by
 intro N
 induction N with
 | zero =>
  intro rest pre he hn h1 h2;have hr:rest=[]:=aG (by omega);subst hr;subst he;refine aB fun R hR=>?_;simp only[yB,VV,seval];simp only[bV,fU,dK]at h1 ⊢;refine⟨fun h=>by simp at h,fun _=>h1 ..⟩
 | succ N ih =>
  intro rest pre he hn h1 h2;cases rest with
  | nil =>
   subst he;refine aB fun R hR=>?_;simp only[yB,VV,seval];simp only[bV,fU,dK]at h1 ⊢;refine⟨fun h=>by simp at h,fun _=>h1 ..⟩
  | cons c r =>
   subst he;refine aB fun R hR=>?_;simp only[yB,VV,seval];refine⟨fun _=>⟨by simp;omega,?_⟩,fun h=>by simp at h;omega⟩;have Fo:pre.length+1+r.length<2^62:=by simp at hlen;omega
   have hw:IntKind.i64.wrap ((pre.length:Int)+1)=((pre.length+1:Nat):Int):=by rw[IntWalk.i64_in _ (by omega)];omega
   have s5:IntKind.i64.wrap ((pre.length:Int)+2)=((pre.length+2:Nat):Int):=by rw[IntWalk.i64_in _ (by omega)];omega
   refine FZ rfl hf (sI c _) (by simp only[VV,seval,TT]) ?_;simp only[VV,seval];simp only[DU,hw,s5];refine⟨fun hi=>?_,fun hi=>⟨⟨by omega,by simp;omega⟩,fun _=>⟨by omega,by simp;omega⟩,fun h=>?_,?_⟩⟩
   ·rw[u4 hi]at h1 h2;have e:pre.length+(1+fU inner j0 j1 r)=(pre++[c]).length+fU inner j0 j1 r:=by simp;omega
    rw[e]at h1 h2;refine hR _ (aZ ?_ (ih r (pre++[c]) (by simp) (by simp at hn;omega) h1 h2));rw[show pre.length+1=(pre++[c]).length by simp]
    repeat' constructor
   ·simp at h;exact⟨by omega,by simp;omega⟩
   ·cases r with
    | nil =>
     have dc:decide (((pre.length+1:Nat):Int)<((pre++[c]).length:Int))=false:=by simp
     rw[u6 hi]at h1 h2;simp only[dc,iG];refine rB (c:=false) (v:=.b false) (by simp only[VV,seval]<;>rfl) (by simp) ?_;simp only[VV,seval];exact h2 ..
    | cons d r' =>
     have dc:decide (((pre.length+1:Nat):Int)<((pre++c::d::r').length:Int))=true:=by simp;omega
     simp only[dc,fH];have hd:(pre++c::d::r').getD (pre.length+1) 0=d:=by simp[an]
     refine rB (c:=(c==j0||c==j1)) (v:=.b (inner d)) (by simp only[VV,seval];simp) (fun hg=>⟨f,[],rfl,hf,?_⟩) ?_
     ·have:=sI d J;simp only[hw,aD,hd,VV,seval];exact this
     ·simp only[VV,seval];simp only[s5];refine⟨fun hj=>?_,fun hj=>?_⟩
      ·rw[u5 hi hj]at h1 h2;have e:pre.length+(2+fU inner j0 j1 r')=(pre++[c,d]).length+fU inner j0 j1 r':=by simp;omega
       rw[e]at h1 h2;refine hR _ (aZ ?_ (ih r' (pre++[c,d]) (by simp) (by simp at hn;omega) h1 h2));rw[show pre.length+2=(pre++[c,d]).length by simp]
       repeat' constructor
      ·rw[tK hi hj]at h1 h2;exact h2 ..
theorem BA(c j0 j1:UInt8)(rest:List UInt8)(f:Nat)(inner:UInt8→Bool)(hf:ES prog f=true)(sI:∀ b J,PC prog f [.i .u8 b.toNat] J (fun r J'=>r=.b (inner b)∧J'=J))(hlen:rest.length<2^61)(J:ae):
  PC prog 169 [.s (c::rest),.s [j0,j1],.fn f []] J (fun r J'=>r=.i .i64 ((1+fU inner j0 j1 rest:Nat):Int)∧J'=J):=by
 refine PC.intro func169 adh fun bj dx=>ax ?_;simp only[Xw,SS,seval];simp only[VV,seval];refine b6.aZ (fr':=(.s (c::rest)::.s [j0,j1]::.fn f []::uu 4 (.i .i64 (([c]:List UInt8).length:Nat)::uu 46 []))) (by repeat' constructor) (rest.length+1) (QG (c::rest) j0 j1 f inner hf sI (by simp;omega) rest.length rest [c] rfl (aq _) ?_ ?_)
 ·simp only[JE];intros;simp only[VV,seval];exact aU (.inr rfl) rfl ⟨rfl,rfl⟩
 ·simp only[JE];intros;simp only[VV,seval];exact aU (.inr rfl) rfl ⟨rfl,rfl⟩
theorem QN{J:ae}{K:Exit→St→Prop}(s:List UInt8)(hlen:s.length<2^62):∀ (rest pre:List UInt8),s=pre++rest →
  ((fj 4 (fh (.i .i64 ((pre.length+fv rest:Nat):Int)) (fj 27 fo))) fun ZZ=>K (.exit 1) ⟨ZZ,J⟩) →
  fp J.length prog CW K (rest.length+1) ⟨(.s s::uu 3 (.i .i64 pre.length::uu 27 [])),J⟩:=by
 intro rest
 induction rest with
 | nil =>
  intro pre he h1;subst he;refine aB fun R hR=>?_;simp only[CW,VV,seval];simp only[bV,fv,dK]at h1 ⊢;have dc:decide ((pre.length:Int)<pre.length)=false:=by simp
  simp only[dc];refine⟨by simp,cu (c:=false) (v:=.i .i64 0) (by simp only[VV,seval]<;>rfl) (by simp) rfl ?_⟩;simp only[VV,seval];exact h1 ..
 | cons c r ih =>
  intro pre he h1;subst he;have Fo:pre.length+1+r.length<2^62:=by simp at hlen;omega
  have hw:IntKind.i64.wrap ((pre.length:Int)+1)=(((pre++[c]).length:Nat):Int):=by rw[IntWalk.i64_in _ (by omega)];simp
  refine aB fun R hR=>?_;simp only[CW,VV,seval];have dc:decide ((pre.length:Int)<((pre++c::r).length:Int))=true:=by simp;omega
  simp only[dc];refine⟨fun _=>⟨by omega,by simp;omega⟩,cu (c:=true) (v:=.i .i64 (dd c)) (by simp only[VV,seval]<;>rfl) (fun _=>kY c _) (by simp only[VV,seval,TT]) ?_⟩;simp only[VV,seval];have hb:(dd c==2)=nH c:=rfl;simp only[hb,hw];refine⟨fun h=>?_,fun h=>?_⟩
  ·have e:pre.length+fv (c::r)=(pre++[c]).length+fv r:=by simp[fv,h];omega
   rw[e]at h1;refine hR _ (aZ ?_ (ih (pre++[c]) (by simp) h1))
   repeat' constructor
  ·have e:pre.length+fv (c::r)=pre.length:=by simp[fv,h]
   rw[e]at h1;exact h1 ..
theorem Gy(c:UInt8)(rest:List UInt8)(hlen:rest.length<2^61)(J:ae):PC prog 109 [.s (c::rest)] J (fun r J'=>r=.fi [.i .i64 (du (c::rest)).1,.i .i64 ((du (c::rest)).2:Nat)]∧J'=J):=by
 refine PC.intro func109 adM fun bj dx=>ax ?_;simp only[X8,SS,seval];simp only[VV,seval];refine⟨by simp,az (kY c _) (by simp only[VV,seval]) ?_⟩;simp only[VV,seval];refine⟨fun h4=>?_,fun h4=>⟨fun h3=>?_,fun h3=>⟨fun h2=>?_,fun h2=>?_⟩⟩⟩
 ·refine az (BA c 39 45 rest 170 kL (by kernel_rfl) JQ hlen J) rfl ?_;simp only[VV,seval];have h4:dd c=4:=by simpa using h4
  exact aU (.inr rfl) rfl ⟨by simp[one,du,h4],rfl⟩
 ·refine az (BA c 46 44 rest 171 AQ (by kernel_rfl) OZ hlen J) rfl ?_;simp only[VV,seval];have h4:¬ dd c=4:=by simpa using h4
  have h3:dd c=3:=by simpa using h3
  exact aU (.inr rfl) rfl ⟨by simp[one,du,h3],rfl⟩
 ·have h4:¬ dd c=4:=by simpa using h4
  have h3:¬ dd c=3:=by simpa using h3
  have h2:dd c=2:=by simpa using h2
  refine b6.aZ (fr':=(.s (c::rest)::uu 3 (.i .i64 (([c]:List UInt8).length:Nat)::uu 27 []))) (by repeat' constructor) (rest.length+1) (QN (c::rest) (by simp;omega) rest [c] rfl ?_);simp only[JE];intros;simp only[VV,seval];exact aU (.inr rfl) rfl ⟨by simp[one,du,h2],rfl⟩
 ·have h4:¬ dd c=4:=by simpa using h4
  have h3:¬ dd c=3:=by simpa using h3
  have h2:¬ dd c=2:=by simpa using h2
  exact aU (.inr rfl) rfl ⟨by simp[one,du,h4,h3,h2],rfl⟩
end Go.Proofs.Tryz
