/- MatchLimits returns true for every three integers, and leaves all that was there as it was. Conditions: none. -/
import Derived.Test.YtlakkaamfadipaaGreatDoorL47
import Derived.Test.YtlakkaamfadipaaGreatDoorL48
set_option linter.all false

namespace Go.Proofs.Tryz
open Go Go.Pm Go.Bt
def Wh(i:Nat):List UInt8:=[UInt8.ofNat (97+i / 400),UInt8.ofNat (97+i / 20 % 20),UInt8.ofNat (97+i % 20)]
def jJ(i:Nat):En:=⟨[⟨1,120::32::Wh i,0⟩],[],[],[],[],[],0,1⟩
def nv(n:Int):Qr:=⟨[⟨1,[120,32,98],0⟩],[],[],0,50,n⟩
def ow(k:Nat):List dP:=(List.range k).map fun(i:Nat)=>mo i (jJ i)
def xL(i:Nat):Mt:=⟨i,55,0,0,55⟩
set_option maxRecDepth 100000 in
theorem QG:(List.range 1025).all (fun i=>decide (cG (jJ i)=0)&&(decide (cS (cd (jJ i).aeq) (cd (nv 0).aeq)=55)&&decide (eB (aV (jJ i)) (aV (jJ (i+1)))<0)))=true:=by decide +kernel
theorem F7{i:Nat}(h:i<1025):cG (jJ i)=0∧cS (cd (jJ i).aeq) (cd (nv 0).aeq)=55∧eB (aV (jJ i)) (aV (jJ (i+1)))<0:=by
 have:=cj.1 QG i (b7.2 h);simpa only[aP,a8]using this
theorem Pq:∀ {k:Nat},k≤1025→∀ j<k,eB (aV (jJ j)) (aV (jJ k))<0
 | 0,_,j,h=>by omega
 | k+1,hk,j,h=>by
  have h1:=(F7 (i:=k) (by omega)).2.2
  by_cases e:j=k
  ·rw[e];exact h1
  ·exact kQ (Pq (k:=k) (by omega) j (by omega)) h1
theorem Kj(k:Nat):ow (k+1)=ow k++[mo k (jJ k)]:=by simp[ow,O6]
theorem mE(k:Nat):(ow k).length=k:=by simp[ow]
theorem uX{k:Nat}{s:dP}(h:s∈ow k):∃ i<k,s=mo i (jJ i):=by
 obtain⟨i,hi,rfl⟩:=aT.1 h;exact⟨i,b7.1 hi,rfl⟩
theorem sY(i:Nat):(jJ i).aew:=by
 refine⟨by simp[jJ],by simp[jJ,Wh,bP],by simp[jJ],by simp[jJ,bP],by simp[jJ],by simp[jJ],fun x hx=>?_⟩;have:x=⟨1,120::32::Wh i,0⟩:=by simpa[jJ]using hx
 rw[this];show -9223372036854775808≤(0:Int)∧(0:Int)≤9223372036854775807;decide
theorem Ct(i:Nat):(cd (jJ i).aeq).length≤6:=by
 have:=qX (jJ i).aeq;have h1:(jJ i).aeq.length=1:=rfl;have h2:bP (jJ i).aeq=5:=rfl;omega
theorem Cc{α:Type}{p:α→Bool}:∀ {l:List α},(∀ x∈l,p x=true)→mW p l=l.length
 | [],_=>rfl
 | a::l,h=>by
  have:=Cc (l:=l) fun x hx=>h x (di _ hx);simp only[mW,pM,h a (by simp),aR,ai]at this ⊢;omega
theorem Kg{k:Nat}(hk:k≤1025):aV (jJ k) ∉ (ow k).map dP.key∧fG (ow k) (aV (jJ k))=k:=by
 have h:=Pq hk;constructor
 ·intro hm;obtain⟨s,hs,e⟩:=aT.1 hm;obtain⟨j,hj,rfl⟩:=uX hs;have h1:=h j hj;rw[show aV (jJ j)=aV (jJ k)from e]at h1;rw[jM.self]at h1;omega
 ·have:=Cc (p:=fun s:dP=>decide (eB s.key (aV (jJ k))<0)) (l:=ow k) fun s hs=>by
   obtain⟨j,hj,rfl⟩:=uX hs;exact Bf (h j hj)
  rw[mE]at this;exact this
theorem Ke{k:Nat}(hk:k<1024):fH (ow k) (jJ k)=0∧sJ (ow k) k (jJ k)=ow (k+1)∧oS (ow k) k (jJ k)=((k+1:Nat):Int):=by
 obtain⟨h1,h2⟩:=Kg (k:=k) (by omega)
 have h0:fH (ow k) (jJ k)=0:=by
  rw[fH,aC (by rw[(F7 (by omega)).1];decide),aQ (.inr (by rw[mE];exact hk))]
 have ht:(ow k).take k=ow k:=ca (by rw[mE];exact aq _);have hd:(ow k).drop k=[]:=mO (by rw[mE];exact aq _);refine⟨h0,?_,by rw[oS,aQ h0];omega⟩;rw[sJ,aQ h0,aC h1,h2,ht,hd,Kj]
theorem Nt:fH (ow 1024) (jJ 1024)=3∧sJ (ow 1024) (1024:Nat) (jJ 1024)=ow 1024∧oS (ow 1024) (1024:Nat) (jJ 1024)=((1024:Nat):Int):=by
 obtain⟨h1,_⟩:=Kg (k:=1024) (by omega)
 have h0:fH (ow 1024) (jJ 1024)=3:=by
  rw[fH,aC (by rw[(F7 (by omega)).1];decide),aC];rintro(h | h)
  ·exact h1 h
  ·rw[mE]at h;omega
 have h3:¬ fH (ow 1024) (jJ 1024)=0:=by rw[h0];decide
 exact⟨h0,by rw[sJ,aC h3],by rw[oS,aC h3]⟩
theorem Kf:∀ {k:Nat},k≤1024→IM (ow k)
 | 0,_=>IM.nil
 | k+1,h=>by
  have:=MQ (Kf (k:=k) (by omega)) k (jJ k) (sY k)
  rwa [(Ke (by omega)).2.1]at this
theorem Kh{i:Nat}(h:i<1025)(n:Int):({ fb (jJ i) (cd (jJ i).aeq) (cd (nv n).aeq) [] (nv n)with aev:=(i:Int) }:Mt)=xL i:=by
 have hp:cS (cd (jJ i).aeq) (cd (nv n).aeq)=55:=(F7 h).2.1;have h55:¬ (55:Int)=100:=by decide
 simp only[fb,hp,h55,aO,xL,jH,lz];rfl
theorem F6(n:Int):∀ (len i0:Nat),i0+len≤1025→kW [] (nv n) (cd (nv n).aeq) i0 ((List.range' i0 len).map fun(i:Nat)=>mo i (jJ i))=(List.range' i0 len).map xL
 | 0,_,_=>rfl
 | len+1,i0,h=>by
  have e:=Kh (i:=i0) (by omega) n
  have e2:(fb (jJ i0) (cd (jJ i0).aeq) (cd (nv n).aeq) [] (nv n)).score=55:=by
   have:=congrArg Mt.score e;exact this
  rw[List.range'_succ,az,az,kW,F6 n len (i0+1) (by omega)];have hq:(nv n).threshold=50:=rfl
  have hs:∀ s:dP,s=mo i0 (jJ i0)→(if(nv n).threshold≤(fb s.en s.cd (cd (nv n).aeq) [] (nv n)).score then[({ fb s.en s.cd (cd (nv n).aeq) [] (nv n)with aev:=(i0:Int) }:Mt)]else[])=[xL i0]:=by
   rintro s rfl;show(if(nv n).threshold≤(fb (jJ i0) (cd (jJ i0).aeq) (cd (nv n).aeq) [] (nv n)).score then[({ fb (jJ i0) (cd (jJ i0).aeq) (cd (nv n).aeq) [] (nv n)with aev:=(i0:Int) }:Mt)]else[])=[xL i0];rw[e2,hq,aQ (by decide),e]
  rw[hs _ rfl];rfl
theorem Ki(n:Int){k:Nat}(hk:k≤1025){l':List Mt}(hp:l'.Perm (kW [] (nv n) (cd (nv n).aeq) 0 (ow k)))(hs:l'.Pairwise fun x y=>¬ mA (OQ (ow k)) y x<0):l'=(List.range k).map xL:=by
 have e:kW [] (nv n) (cd (nv n).aeq) 0 (ow k)=(List.range k).map xL:=by
  have:=F6 n k 0 (by omega)
  rwa [← List.range_eq_range']at this
 have hA:=wG [] (nv n) (cd (nv n).aeq) (ow k) 0;refine(G5 hA hp (fun m hm=>hm) hs ?_).trans e
 have hcr:∀ i:Nat,OQ (ow k) (xL i)=0:=fun i=>by
  simp only[OQ,xL,ow,aW];cases(List.range k)[((i:Int)).toNat]?<;>rfl
 rw[e];refine sk.2 (List.pairwise_lt_range.imp fun {a b} h=>?_);rw[mA,hcr,hcr]
 have h1:jY (xL b).aev (xL a).aev=1:=by
  have h2:¬ ((b:Int)<(a:Int)):=by omega
  have h3:(a:Int)<(b:Int):=by omega
  simp[jY,xL,h2,h3]
 simp[tR,jY,xL]at h1 ⊢
 (repeat' split)<;>omega
end Go.Proofs.Tryz
set_option maxRecDepth 8000
set_option maxHeartbeats 4000000
namespace Go.Proofs.Tryz
open Go Go.Pm Go.Bt
theorem Na{J:ae}{n0:Nat}{K:Exit→St→Prop}(N:Nat)(hN:N≤1025)(o:Int):∀ (c i:Nat) (S:ae),i+c=N→Be J (ow (min i 1024)) ((min i 1024:Nat):Int) S →
  (∀ S',Be J (ow (min N 1024)) ((min N 1024:Nat):Int) S'→((fh (.i .i64 N) (fh (.i .i64 o) (fj 5 (fh (.ptr (J.length+4) 0) (fj 98 fo))))) fun ZZ=>K (.exit 0) ⟨ZZ,S'⟩)) →
  gw n0 prog JV K (c+1) ⟨(.i .i64 N::.i .i64 o::uu 5 (.ptr (J.length+4) 0::.i .i64 i::uu 97 [])),S⟩:=by
 intro c
 induction c with
 | zero =>
  intro i S he hF h1;have he:i=N:=by omega
  subst he;have hd:decide ((i:Int)<(i:Int))=false:=by simp
  refine aH fun R hR=>?_;simp only[JV,hd,V.pure,↓IT,VV,seval];exact h1 S hF ..
 | succ c ih =>
  intro i S he hF h1;have hd:decide ((i:Int)<(N:Int))=true:=by simp;omega
  have hw:IntKind.i64.wrap ((i:Int)+1)=((i+1:Nat):Int):=br (by omega);have d1:IntKind.i64.wrap ((i:Int).tdiv 400)=((i / 400:Nat):Int):=by rw[dA (by omega),IntWalk.i64_in _ (by omega)];omega
  have d2:IntKind.i64.wrap ((i:Int).tdiv 20)=((i / 20:Nat):Int):=by rw[dA (by omega),IntWalk.i64_in _ (by omega)];omega
  have m1:((i / 20:Nat):Int).tmod 20=((i / 20 % 20:Nat):Int):=by rw[Se (by omega)];omega
  have m2:(i:Int).tmod 20=((i % 20:Nat):Int):=by rw[Se (by omega)];omega
  have hb:∀ n:Nat,n≤20→UInt8.ofNat (IntKind.u8.wrap (IntKind.i64.wrap (97+(n:Int)))).toNat=UInt8.ofNat (97+n):=fun n hn=>by
   rw[IntWalk.i64_in _ (by omega),IntWalk.u8_in _ (by omega)];congr 1
  have b1:=hb (i / 400) (by omega);have b2:=hb (i / 20 % 20) (by omega);have b3:=hb (i % 20) (by omega)
  have Ig:fH (ow (min i 1024)) (jJ i)=(if 1024≤i then 3 else 0)∧sJ (ow (min i 1024)) ((min i 1024:Nat):Int) (jJ i)=ow (min (i+1) 1024)∧oS (ow (min i 1024)) ((min i 1024:Nat):Int) (jJ i)=((min (i+1) 1024:Nat):Int):=by
   by_cases h:1024≤i
   ·have hi:i=1024:=by omega
    subst hi;exact Nt
   ·rw[aC h,show min i 1024=i by omega,show min (i+1) 1024=i+1 by omega];exact Ke (by omega)
  have fQ:=Kf (k:=min i 1024) (by omega);have H:=JP hF (by omega) fQ.Mo fQ.len (jJ i) (sY i) (by have:=Ct i;omega);have hml:(5:Nat)≤maxLen:=by decide
  have KX:(jJ i).aen=[.sl 3 [[.i .i64 1,.s (120::32::Wh i),.i .i64 0]],.sl 3 [],.s [],.s [],.s [],.s [],.i .i64 0,.i .i64 1]:=rfl;refine aH fun R hR=>?_;simp only[JV,hd,hw,d1,d2,m1,m2,b1,b2,b3,V.pure,↓IT,VV,seval];have fin:∀ (S':ae),Be J (ow (min (i+1) 1024)) ((min (i+1) 1024:Nat):Int) S'→gw n0 prog JV K (c+1) ⟨(.i .i64 N::.i .i64 o::uu 5 (.ptr (J.length+4) 0::.i .i64 (i+1:Nat)::uu 97 [])),S'⟩:=fun S' hF'=>ih (i+1) S' (by omega) hF' h1;refine⟨fun h=>⟨hml,?_⟩,fun h=>⟨hml,?_⟩⟩
  ·have h:1024≤i:=by simp at h;omega
   rw[Ig.1,Ig.2.1,Ig.2.2,aQ h]at H;refine fJ (PC.wk (args':=[.ptr (J.length+4) 0,.agg (jJ i).aen]) (Wk.kP (.cons (.refl _) (.cons (Cv.Bd ?_) .nil))) H) rfl ?_
   ·rw[KX];exact .cons (.lit _ _) (.cons (.nil _) (.cons (.refl _) (.cons (.refl _) (.cons (.refl _) (.cons (.refl _) (.cons (.refl _) (.cons (.refl _) .nil)))))))
   rintro _ S' ⟨rfl,hF'⟩;simp only[hw,iv,↓IT,VV,seval];exact hR _ (bk (by repeat' constructor) (fin S' hF'))
  ·have h:¬ 1024≤i:=by simp at h;omega
   rw[Ig.1,Ig.2.1,Ig.2.2,aC h]at H;refine fJ (PC.wk (args':=[.ptr (J.length+4) 0,.agg (jJ i).aen]) (Wk.kP (.cons (.refl _) (.cons (Cv.Bd ?_) .nil))) H) rfl ?_
   ·rw[KX];exact .cons (.lit _ _) (.cons (.nil _) (.cons (.refl _) (.cons (.refl _) (.cons (.refl _) (.cons (.refl _) (.cons (.refl _) (.cons (.refl _) .nil)))))))
   rintro _ S' ⟨rfl,hF'⟩;simp only[hw,iv,↓IT,VV,seval];exact hR _ (bk (by repeat' constructor) (fin S' hF'))
theorem M9{S:ae}{n0:Nat}{K:Exit→St→Prop}(z:Nat)(N:Int)(k:Nat)(hk:k<2^40):∀ (c i:Nat),i+c=k →
  ((fh (.i .i64 N) (fj 6 (fh (.ptr z 0) (fj 98 fo)))) fun ZZ=>K (.exit 2) ⟨ZZ,S⟩) →
  gw n0 prog MV K (c+1) ⟨(.i .i64 N::uu 6 (.ptr z 0::uu 3 (.sl 5 (((List.range k).map xL).map Mt.aen)::uu 65 (.i .i64 k::.i .i64 i::uu 27 [])))),S⟩:=by
 intro c
 induction c with
 | zero =>
  intro i he h1;have he:i=k:=by omega
  subst he;have hd:decide ((i:Int)<(i:Int))=false:=by simp
  refine aH fun R hR=>?_;simp only[MV,hd,V.pure,↓IT,VV,seval];exact h1 ..
 | succ c ih =>
  intro i he h1;have hd:decide ((i:Int)<(k:Int))=true:=by simp;omega
  have hw:IntKind.i64.wrap ((i:Int)+1)=((i+1:Nat):Int):=br (by omega)
  have bT:(((List.range k).map xL).map Mt.aen).getD i []=(xL i).aen:=by
   simp[ar,show i<k by omega]
  have eJ:∀ j,eV (((List.range k).map xL).map Mt.aen) i j=(xL i).aen[j]?:=fun j=>by
   simp[eV,show i<k by omega]
  have CV:(0:Int)≤(i:Int)∧(i:Int)<(k:Int):=by omega
  refine aH fun R hR=>?_;simp only[MV,hd,hw,eJ,bT,xL,Mt.aen,aj,sn,aX,iv,V.pure,↓IT,VV,seval];refine⟨CV,CV,_,rfl,?_⟩;simp only[hw,iv,↓IT,VV,seval];exact hR _ (bk (by repeat' constructor) (ih (i+1) (by omega) h1))
end Go.Proofs.Tryz
set_option maxRecDepth 20000
set_option maxHeartbeats 4000000
namespace Go.Proofs.Tryz
open Go Go.Pm Go.Bt
theorem wu(n jo often:Int)(J:ae):PC prog 7 [.i .i64 n,.i .i64 jo,.i .i64 often] J (fun r J'=>r=.b true∧J'=J):=by
 refine PC.intro func7 c7 fun bz er=>?_;have Sp:=my (x:=n) (n:=3) (by decide);have Sn:=my (x:=often) (n:=40) (by decide);have XQ:=my (x:=jo) (n:=100) (by decide);simp only[p7,SS,seval];refine cE.cut fun R hR=>?_;simp only[V.pure,VV,seval];refine hR _ ?_;clear hR R;refine cE.cut fun R hR=>?_;simp only[V.pure,VV,seval];refine aA (zo _) rfl ?_;simp only[V.pure,VV,seval];refine hR _ (cE.kP (fr':=(.i .i64 n::.i .i64 jo::.i .i64 often::uu 4 (.ptr (J.length+4) 0::uu 98 []))) ?_ (by repeat' constructor));clear hR R;refine cE.cut fun R hR=>?_;simp only[V.pure,VV,seval];refine aA (vW n 3 (by decide) (by decide) _) rfl ?_;generalize place n 3=v1 at Sp ⊢;obtain⟨a,rfl⟩:∃ a:Nat,v1=a:=⟨v1.toNat,by omega⟩;have w1:IntKind.i64.wrap (5+(a:Int))=((5+a:Nat):Int):=by rw[IntWalk.i64_in _ (by omega)];omega
 simp only[w1,V.pure,VV,seval];refine hR _ (cE.kP (fr':=(.i .i64 (5+a:Nat)::.i .i64 jo::.i .i64 often::uu 4 (.ptr (J.length+4) 0::uu 98 []))) ?_ (by repeat' constructor));clear hR R;refine cE.cut fun R hR=>?_;simp only[V.pure,VV,seval];refine aA (vW often 40 (by decide) (by decide) _) rfl ?_;generalize place often 40=v2 at Sn ⊢
 have cont:∀ (N:Nat) {fr:List V} {S:ae},5≤N→N≤1025→Be J (ow 0) ((0:Nat):Int) S→qJ fr (.i .i64 N::.i .i64 jo::uu 5 (.ptr (J.length+4) 0::uu 98 []))→R ⟨fr,S⟩:=by
  intro N fr S hN0 hN hF hc;refine hR _ (cE.kP ?_ hc);clear hR R hc;refine cE.cut fun R hR=>?_;simp only[V.pure,VV,seval];refine cE.bk (fr':=(.i .i64 N::.i .i64 jo::uu 5 (.ptr (J.length+4) 0::.i .i64 (0:Nat)::uu 97 []))) (by repeat' constructor) (N+1) (Na N hN jo N 0 S (by omega) hF ?_);intro S hF;simp only[JE];intros;simp only[VV,seval];refine hR _ (cE.kP (fr':=(.i .i64 N::.i .i64 jo::uu 5 (.ptr (J.length+4) 0::uu 98 []))) ?_ (by repeat' constructor));clear hR R;obtain⟨k,hk⟩:∃ k,k=min N 1024:=⟨_,rfl⟩;rw[← hk]at hF;have fQ:=Kf (k:=k) (by omega);refine cE.cut fun R hR=>?_;simp only[V.pure,VV,seval];refine aA (vW jo 100 (by decide) (by decide) _) rfl ?_;generalize place jo 100=v3 at XQ ⊢;obtain⟨b,rfl⟩:∃ b:Nat,v3=b:=⟨v3.toNat,by omega⟩;have w2:IntKind.i64.wrap (1+(b:Int))=((1+b:Nat):Int):=by rw[IntWalk.i64_in _ (by omega)];omega
  simp only[w2,V.pure,VV,seval];refine hR _ (cE.kP (fr':=(.i .i64 N::.i .i64 (1+b:Nat)::uu 5 (.ptr (J.length+4) 0::uu 98 []))) ?_ (by repeat' constructor));clear hR R
  have EA:dV (nv ((1+b:Nat):Int))=0:=by
   have h:∀ b:Nat,b<100→dV (nv ((1+b:Nat):Int))=0:=by decide +kernel
   exact h b (by omega)
  have hqt:(cd (nv ((1+b:Nat):Int)).aeq).length≤2^20:=by
   have:=qX (nv ((1+b:Nat):Int)).aeq;have h1:(nv ((1+b:Nat):Int)).aeq.length=1:=rfl;have h2:bP (nv ((1+b:Nat):Int)).aeq=3:=rfl;omega
  have HF:=C5 hF (by rw[mE];omega) [] (by decide) (nv ((1+b:Nat):Int)) (by simp[nv]) (by simp[nv]) (by simp[nv]) (by simp[nv,bP]) hqt (fun s hs=>by
   obtain⟨i,hi,rfl⟩:=uX hs;refine⟨by have:=Ct i;show(cd (jJ i).aeq).length≤2^20;omega,⟨(by decide : -9223372036854775808≤(0:Int)∧(0:Int)≤9223372036854775807),(by decide : -9223372036854775808≤(0:Int)∧(0:Int)≤9223372036854775807),by decide,fun p hp=>by cases hp⟩⟩)
  have Wp:(nv ((1+b:Nat):Int)).aen=[.sl 3 [[.i .i64 1,.s [120,32,98],.i .i64 0]],.s [],.s [],.i .i64 0,.i .i64 50,.i .i64 (1+b:Nat)]:=rfl;refine cE.cut fun R hR=>?_;simp only[V.pure,VV,seval];refine fJ (PC.wk (args':=[.ptr (J.length+4) 0,.sl 5 (([]:List Pn).map Pn.aen),.agg (nv ((1+b:Nat):Int)).aen]) (Wk.kP (.cons (.refl _) (.cons (.nil _) (.cons (Cv.Bd ?_) .nil)))) HF) rfl ?_
  ·rw[Wp];exact .cons (.lit _ _) (.cons (.refl _) (.cons (.refl _) (.cons (.refl _) (.cons (.refl _) (.cons (.refl _) .nil)))))
  rintro _ S2 ⟨hr,e2⟩;rw[e2];clear e2 S2;rcases hr with⟨h,_⟩ | ⟨_,h,_⟩ | ⟨_,_,l',hp,hso,rfl⟩
  ·exact absurd EA h
  ·exact absurd rfl h
  have hl':=Ki _ (by omega) hp hso;have hm:(nv ((1+b:Nat):Int)).jo.toNat=1+b:=rfl;rw[hl',hm,← List.map_take,List.take_range];obtain⟨m,Ym⟩:∃ m,m=min (1+b) k:=⟨_,rfl⟩;rw[← Ym];simp only[V.pure,VV,seval];refine hR _ (cE.kP (fr':=(.i .i64 N::.i .i64 (1+b:Nat)::uu 5 (.ptr (J.length+4) 0::uu 3 (.sl 5 (((List.range m).map xL).map Mt.aen)::.i .i64 0::uu 93 [])))) ?_ (by repeat' constructor));clear hR R;have KP:(if(N:Int)<((1+b:Nat):Int)then(N:Int)else((1+b:Nat):Int))=(m:Int):=by split<;>omega
  have CT:(if(1024:Int)<(N:Int)then(1024:Int)else(N:Int))=(k:Int):=by split<;>omega
  refine cE.cut fun R hR=>?_;simp only[aj,sn,KP,iv,V.pure,↓IT,VV,seval];refine hR _ (cE.kP (fr':=(.i .i64 N::uu 6 (.ptr (J.length+4) 0::uu 3 (.sl 5 (((List.range m).map xL).map Mt.aen)::uu 94 [])))) ?_ (by repeat' constructor));clear hR R;refine cE.cut fun R hR=>?_;simp only[aj,sn,V.pure,↓IT,VV,seval];refine cE.bk (fr':=(.i .i64 N::uu 6 (.ptr (J.length+4) 0::uu 3 (.sl 5 (((List.range m).map xL).map Mt.aen)::uu 65 (.i .i64 m::.i .i64 (0:Nat)::uu 27 []))))) (by repeat' constructor) (m+1) (M9 (J.length+4) N m (by omega) m 0 (by omega) ?_);simp only[JE];intros;simp only[VV,seval];refine hR _ (cE.kP (fr':=(.i .i64 N::uu 6 (.ptr (J.length+4) 0::uu 98 []))) (aB ?_) (by repeat' constructor));clear hR R;simp only[V.pure,↓IT,VV,seval];refine aA (C7 hF (by rw[mE];omega) (fun s hs=>by obtain⟨i,_,rfl⟩:=uX hs;exact sY i)) rfl ?_;obtain⟨loc,rfl⟩:=hF.pre;simp only[aj,mE,CT,uM,V.pure,↓IT,VV,seval];refine cL (c:=true) (by simp only[VV,seval]<;>rfl) (fun _=>Et _) rfl ?_;simp only[↓IT,VV,seval];exact ou bz (by rfl) (by simp[LW])
 simp only[V.pure,↓IT,VV,seval];have w2:IntKind.i64.wrap (((5+a:Nat):Int)+1018)=((5+a+1018:Nat):Int):=by rw[IntWalk.i64_in _ (by omega)];omega
 simp only[w2];refine⟨fun _=>cont (5+a+1018) (by omega) (by omega) (Be.new J) (by repeat' constructor),fun _=>cont (5+a) (by omega) (by omega) (Be.new J) (by repeat' constructor)⟩
end Go.Proofs.Tryz
namespace Go.Proofs.YtlakkaamfadipaaGreatDoor.matchLimits
open Go Go.Pm Go.ChangeShapes Go.WideShapes Go.ChangeAt Go.RowKit Go.Proofs.Tryz
set_option maxRecDepth 100000 in
theorem LD(H:Type)(enc:TypeId×Value→H)(W:World)(base:Nat)(args:Array Value)(ds gs:List (DataW H))(before:List MemPlace)
  (CJ:∀ (j:Nat) t v,f7.params[j]?=some t→args[j]?=some v→Value.okWide prog W .any base t v)
  (hW:DataW.Whole enc prog f7.params.toList Rows.matchLimitsSpec.vars false W args.toList ds gs before) (hL:laidMetH prog Rows.matchLimitsRow.laid W) :
  Calls prog 7 args W fun e W'=>∃ v,e=.returned v∧Rows.matchLimitsSpec.post enc prog f7 false true false false W args v W':=by
 have hW':=hW;obtain⟨p,q,hA0,hV,rfl,hfz,lM⟩:=hW;have hA:DataW.TrodAll enc prog W 0 (fun _=>true) true f7.params.toList args.toList ds p:=hA0;have hp:f7.params=#[3,3,3]:=params7;rw[hp]at hA CJ;obtain⟨v0,vs0,d0,ds0,p0,q0,abj,rfl,rfl,h0,r0⟩:=trodAll_cons hA;obtain⟨v1,Wb,d1,ds1,p1,q1,rfl,rfl,rfl,h1,r1⟩:=trodAll_cons r0;obtain⟨v2,Wa,d2,ds2,p2,q2,rfl,rfl,rfl,h2,r2⟩:=trodAll_cons r1;obtain⟨rfl,rfl,rfl⟩:=trodAll_nil r2;obtain rfl:args=#[v0,v1,v2]:=by cases args;simp_all
 obtain⟨rfl,rfl⟩:=trodVars_none hV;obtain⟨n,rfl,rfl,rfl,Sl⟩:=open_int underlying3 (CJ 0 3 v0 rfl rfl) h0;obtain⟨jo,rfl,rfl,rfl,QP⟩:=open_int underlying3 (CJ 1 3 v1 rfl rfl) h1;obtain⟨often,rfl,rfl,rfl,Bn⟩:=open_int underlying3 (CJ 2 3 v2 rfl rfl) h2;refine(MM hL (wu n jo often []) (μ:=fun _=>undef) ⟨rfl,fun i y hy=>?_⟩).mono fun e W' ⟨he,hb⟩=>?_
 ·rcases i with _ | _ | _ | i
  ·simp only[bj,Nat.reduceAdd,au,bA,aa]at hy;subst hy;exact .i _ _
  ·simp only[bj,Nat.reduceAdd,au,bA,aa]at hy;subst hy;exact .i _ _
  ·simp only[bj,Nat.reduceAdd,au,bA,aa]at hy;subst hy;exact .i _ _
  ·simp at hy
 ·exact⟨_,he,Hw rfl rfl (by kernel_rfl) hW' rfl hb⟩
theorem reads(os:Os){H:Type}(enc:TypeId×Value→H):∃ places,DataW.whole enc prog ((World.doorLaid prog 400 os).forCall (fun _ _=>0) ⟨#[],#[.int .i64 0,.int .i64 0,.int .i64 0],[]⟩).memory f7.params.toList Rows.matchLimitsSpec.vars false #[(Value.int .i64 0),(Value.int .i64 0),(Value.int .i64 0)].toList 8=some ([.lit (.int .i64 0),.lit (.int .i64 0),.lit (.int .i64 0)],[],places) :=
 ⟨[],by kernel_rfl⟩
set_option maxRecDepth 100000 in
theorem lifted(os:Os)(started:os.Started)(H:Type)(enc:TypeId×Value→H)(F:Stop.Interp):
  ReturnsInHanded {} Tryz.checked os 7 .any ((OpenSpec.ofChange Rows.matchLimitsSpec).preRow enc prog f7 Rows.matchLimitsRow.domain false Rows.matchLimitsRow.laid) (((OpenSpec.ofChange Rows.matchLimitsSpec).at F).post enc prog f7 false true false false):=by
 obtain⟨places,hx⟩:=reads os enc
 refine returnsInHanded_of_row (C:=Tryz.checked) (s:=OpenSpec.ofChange Rows.matchLimitsSpec) own started (by kernel_rfl) func7
  (witness_row_at (enc:=enc) (C:=Tryz.checked) false (World.doorLaid prog 400 os) #[.int .i64 0,.int .i64 0,.int .i64 0] rfl (by kernel_rfl) (by kernel_rfl) (by kernel_rfl)
   (OpenSpec.preRow_of_cond 8 hx (by kernel_rfl) (fun k hk=>by cases hk) (by kernel_rfl) (Kn os _))) ?_
 intro W base args ds gs before CJ hW _ _ _ hL _ _;exact LD H enc W base args ds gs before CJ hW hL
set_option maxHeartbeats 80000000 in
set_option maxRecDepth 100000 in
theorem said:Rows.MatchLimitsSaid :=
 OpenClaim.holds_of_cond 7 f7 rfl rfl rfl rfl rfl rfl rfl ⟨rfl,rfl,rfl,rfl,rfl⟩ rfl rfl rfl rfl rfl (by kernel_rfl) func7 (by unfold joinedFacts;simp only[aP];(repeat' apply And.intro);all_goals as_aux_lemma=>kernel_rfl)
  (of_decide_eq_true (by kernel_rfl)) (by unfold Func.isWrapper;first | (rw[aQ (by decide +kernel)];kernel_rfl) | (rw[aC (by decide +kernel)];exact⟨rfl,rfl⟩))
  (fun os started H enc _ F=>by rw[OpenClaim.pre_eq_preRow];exact lifted os started H enc F)
theorem plain(f:FuncId)(fn:Func)(hf:Tryz.pinned.checked.prog.funcNamed "bitext/bitextlaw18.MatchLimits" = some f) (wH:Tryz.pinned.checked.prog.funcs[f]?=some fn) :
  false=Tryz.pinned.checked.prog.looks []∧∀ (j:Nat) t,fn.params[j]?=some t→Tryz.pinned.checked.prog.wantsStandIn t=false:=by
 obtain rfl:f=7:=gm ((show prog.funcNamed "bitext/bitextlaw18.MatchLimits" = some 7 by kernel_rfl).symm.trans hf) |>.symm;obtain rfl:fn=f7:=(gm (func7.symm.trans wH)).symm;refine⟨by kernel_rfl,fun j t ht=>?_⟩;rw[params7]at ht;have hm:t∈[3,3,3]:=by simpa using Array.mem_of_getElem? ht
 have lX:([3,3,3].all fun u=>!prog.wantsStandIn u)=true:=by kernel_rfl
 exact(show prog.wantsStandIn t=false by simpa using cj.1 lX t hm)
end Go.Proofs.YtlakkaamfadipaaGreatDoor.matchLimits
namespace Go.Proofs.YtlakkaamfadipaaGreatDoor
open Go
theorem matchLimits_card:Rows.MatchLimitsCardSaid :=
 Claim7.holds_tied_plain_at .later [] _ _ _ _ matchLimits.said (fun _ h=>by cases h) (by kernel_rfl) (fun _ h=>by cases h) matchLimits_row_tie rfl ⟨rfl,rfl⟩ (by kernel_rfl) rfl matchLimits.plain (by kernel_rfl)
#print axioms matchLimits_card
end Go.Proofs.YtlakkaamfadipaaGreatDoor
