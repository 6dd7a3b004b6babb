/- A part of the proof of the statement of the last text of this claim; its conditions stand there. -/
import Derived.Test.YtkkjfegefckehaaGreatDoorB16
import Derived.Test.YtkkjfegefckehaaGreatDoorB23
set_option linter.all false

namespace Go.Proofs.Tryz
open Go Go.Pm Go.Bt
open Go.Pm.V(u)
def GJ(s:List UInt8)(k:Nat):Prop:=s.getD k 0=125∧isName ((s.take k).drop 1)=true
theorem agb(a:UInt8):((a.toNat:Int)==125)=(a==125):=by revert a;exact iw (by decide +kernel)
theorem PY{σ:ag}{K:Exit→St→Prop}(s:List UInt8)(hlen:s.length<2^62):∀ (m k:Nat),k+m=26→1≤k→(∀ j,1≤j→j<k→j<s.length→¬ GJ s j) →
  ((∀ j,1≤j→j<s.length→j≤25→¬ GJ s j)→(∀ j0 j1 j3 j4 j5 j6 j7 j8 j9 cT cS cX cR cN cM cL cW df dn dx dy dD dI dH dG dX ez eA eH eW fg fi ft fw fG fM fL fK fX gi gF gR gQ il ix iV iU iT iS iR jo jn jm jK jY kx ku kt kH lB l9 mD nr nH nG nF pw pt pq po pn pk qD,K (.exit 1) ⟨[j0,j1,.ptr σ.length 0,j3,j4,j5,j6,j7,j8,j9,cT,cS,cX,cR,cN,cM,cL,cW,df,dn,dx,dy,dD,dI,dH,dG,dX,ez,eA,eH,eW,fg,fi,ft,fw,fG,fM,fL,fK,fX,gi,gF,gR,gQ,il,ix,iV,iU,iT,iS,iR,jo,jn,jm,jK,jY,kx,ku,kt,kH,lB,l9,mD,nr,nH,nG,nF,pw,pt,pq,po,pn,pk,qD],σ++[.box 76 [.i .i64 0,.s [],.i .i64 0]]⟩)) →
  (∀ k:Nat,1≤k→k<s.length→GJ s k→(∀ j0 j1 j4 j5 j6 j7 j8 j9 cT cS cX cR cN cM cL cW df dn dx dy dD dI dH dG dX ez eA eH eW fg fi ft fw fG fM fL fK fX gi gF gR gQ il ix iV iU iT iS iR jo jn jm jK jY kx ku kt kH lB l9 mD nr nH nG nF pw pt pq po pn pk qD,K .ret ⟨[j0,j1,.ptr σ.length 0,.i .i64 ((k+1:Nat):Int),j4,j5,j6,j7,j8,j9,cT,cS,cX,cR,cN,cM,cL,cW,df,dn,dx,dy,dD,dI,dH,dG,dX,ez,eA,eH,eW,fg,fi,ft,fw,fG,fM,fL,fK,fX,gi,gF,gR,gQ,il,ix,iV,iU,iT,iS,iR,jo,jn,jm,jK,jY,kx,ku,kt,kH,lB,l9,mD,nr,nH,nG,nF,pw,pt,pq,po,pn,pk,qD],σ++[.box 76 [.i .i64 5,.s ((s.take k).drop 1),.i .i64 0]]⟩)) →
  fO σ.length prog CX K (m+1) ⟨[.s s,u,.ptr σ.length 0,u,.i .i64 k,u,u,u,u,u,u,u,u,u,u,u,u,u,u,u,u,u,u,u,u,u,u,u,u,u,u,u,u,u,u,u,u,u,u,u,u,u,u,u,u,u,u,u,u,u,u,u,u,u,u,u,u,u,u,u,u,u,u,u,u,u,u,u,u,u,u,u,u,u],σ++[.box 76 [.i .i64 0,.s [],.i .i64 0]]⟩:=by
 intro m
 induction m with
 | zero =>
  intro k hk qA qT h1 h2;have e1:decide ((k:Int)≤25)=false:=by simp;omega
  refine ax fun R hR=>?_;simp only[CX,e1,yf,VV,seval];exact h1 (fun j j1 j2 j3=>qT j j1 (by omega) j2) ..
 | succ m ih =>
  intro k hk qA qT h1 h2;have e1:decide ((k:Int)≤25)=true:=by simp;omega
  have hw:IntKind.i64.wrap ((k:Int)+1)=((k+1:Nat):Int):=by rw[IntWalk.i64_in _ (by omega)];omega
  by_cases Tl:k<s.length
  ·have e0:decide ((k:Int)<(s.length:Int))=true:=by simp;omega
   refine ax fun R hR=>?_;have hdt:List.take (k - 1) (List.drop 1 s)=(s.take k).drop 1:=by rw[aaV]
   simp only[CX,e0,e1,an,hdt,VV,seval];refine⟨by omega,fun _=>by omega,bg (by simp only[VV,seval]<;>rfl) (fun _=>mO _ _) rfl ?_⟩;simp only[hw,hdt,agb,an,VV,seval];refine⟨fun h=>⟨by omega,?_⟩,fun h=>?_⟩
   ·exact h2 k qA Tl (by simpa[GJ]using h) ..
   ·refine hR _ (aW ?_ (ih (k+1) (by omega) (by omega) (fun j j1 j2 j3=>?_) h1 h2))
    ·repeat' constructor
    ·by_cases hj:j=k
     ·subst hj;intro hs;rw[hs.1,hs.2]at h;simp at h
     ·exact qT j j1 (by omega) j3
  ·have e0:decide ((k:Int)<(s.length:Int))=false:=by simp;omega
   refine ax fun R hR=>?_;simp only[CX,e0,e1,an,VV,seval];exact h1 (fun j j1 j2 j3=>qT j j1 (by omega) j2) ..
theorem PX{σ:ag}{K:Exit→St→Prop}(s:List UInt8)(hlen:s.length<2^62):∀ (m c:Nat),c+m=256→(∀ j,j<c→hasPrefix s (eB (UInt8.ofNat j))=false) →
  ((∀ j,j<256→hasPrefix s (eB (UInt8.ofNat j))=false)→(∀ j0 j1 j3 j4 j5 j6 j7 j8 j9 cT cS cX cR cN cM cL cW df dn dx dy dD dI dH dG dX ez eA eH eW fg fi ft fw fG fM fL fK fX gi gF gR gQ il ix iV iU iT iS iR jo jn jm jK jY kx ku kt kH lB l9 mD nr nH nG nF pw pt pq po pn pk qD,K (.exit 3) ⟨[j0,j1,.ptr σ.length 0,j3,j4,j5,j6,j7,j8,j9,cT,cS,cX,cR,cN,cM,cL,cW,df,dn,dx,dy,dD,dI,dH,dG,dX,ez,eA,eH,eW,fg,fi,ft,fw,fG,fM,fL,fK,fX,gi,gF,gR,gQ,il,ix,iV,iU,iT,iS,iR,jo,jn,jm,jK,jY,kx,ku,kt,kH,lB,l9,mD,nr,nH,nG,nF,pw,pt,pq,po,pn,pk,qD],σ++[.box 76 [.i .i64 0,.s [],.i .i64 0]]⟩)) →
  (∀ b:UInt8,hasPrefix s (eB b)=true→(∀ j0 j1 j4 j5 j6 j7 j8 j9 cT cS cX cR cN cM cL cW df dn dx dy dD dI dH dG dX ez eA eH eW fg fi ft fw fG fM fL fK fX gi gF gR gQ il ix iV iU iT iS iR jo jn jm jK jY kx ku kt kH lB l9 mD nr nH nG nF pw pt pq po pn pk qD,K .ret ⟨[j0,j1,.ptr σ.length 0,.i .i64 (eB b).length,j4,j5,j6,j7,j8,j9,cT,cS,cX,cR,cN,cM,cL,cW,df,dn,dx,dy,dD,dI,dH,dG,dX,ez,eA,eH,eW,fg,fi,ft,fw,fG,fM,fL,fK,fX,gi,gF,gR,gQ,il,ix,iV,iU,iT,iS,iR,jo,jn,jm,jK,jY,kx,ku,kt,kH,lB,l9,mD,nr,nH,nG,nF,pw,pt,pq,po,pn,pk,qD],σ++[.box 76 [.i .i64 1,.s [b],.i .i64 0]]⟩)) →
  fO σ.length prog Hf K (m+1) ⟨[.s s,u,.ptr σ.length 0,u,u,.i .i64 c,u,u,u,u,u,u,u,u,u,u,u,u,u,u,u,u,u,u,u,u,u,u,u,u,u,u,u,u,u,u,u,u,u,u,u,u,u,u,u,u,u,u,u,u,u,u,u,u,u,u,u,u,u,u,u,u,u,u,u,u,u,u,u,u,u,u,u,u],σ++[.box 76 [.i .i64 0,.s [],.i .i64 0]]⟩:=by
 intro m
 induction m with
 | zero =>
  intro c hc qT h1 h2;have hc:c=256:=by omega
  subst hc;refine ax fun R hR=>?_;simp only[Hf,VV,seval];exact⟨fun h=>by simp at h,fun _=>h1 qT ..⟩
 | succ m ih =>
  intro c hc qT h1 h2;have hw:IntKind.i64.wrap ((c:Int)+1)=((c+1:Nat):Int):=by rw[IntWalk.i64_in _ (by omega)];omega
  have hb:IntKind.u8.wrap (c:Int)=((UInt8.ofNat c).toNat:Int):=by rw[IntWalk.u8_in _ (by omega)];simp;omega
  have e1:decide ((c:Int)<256)=true:=by simp;omega
  refine ax fun R hR=>?_;simp only[Hf,e1,hb,VV,seval];refine ai (yL (UInt8.ofNat c) _) rfl ?_;simp only[hb,hw,an,VV,seval]
  have hP:(decide (((eB (UInt8.ofNat c)).length:Int)≤(s.length:Int))&&List.take (eB (UInt8.ofNat c)).length s==eB (UInt8.ofNat c))=hasPrefix s (eB (UInt8.ofNat c)):=by
   simp only[hasPrefix,Int.ofNat_le]
  rw[hP];refine⟨fun h=>by simp at h;omega,fun h=>h2 _ h ..,fun h=>?_⟩;refine hR _ (aW ?_ (ih (c+1) (by omega) (fun j hj=>?_) h1 h2))
  ·repeat' constructor
  ·by_cases hjc:j=c
   ·subst hjc;exact h
   ·exact qT j (by omega)
theorem Pq(s:List UInt8)(hs:s≠[])(hlen:s.length<2^62)(σ:ag):PC prog 189 [.s s] σ (fun r σ'=>r=.iK [.agg (kC s).1.cells,.i .i64 (kC s).2]∧σ'=σ):=by
 refine PC.intro func189 ajP fun aQ cz=>aj ?_;have Qi:0<s.length:=dK.2 hs
 have u123:(((s.getD 0 0).toNat:Int)==123)=(s.getD 0 0==123):=by
  generalize s.getD 0 0=a;revert a;exact iw (by decide +kernel)
 have u60:(((s.getD 0 0).toNat:Int)==60)=(s.getD 0 0==60):=by
  generalize s.getD 0 0=a;revert a;exact iw (by decide +kernel)
 have hb:(0:Int)≤0∧(0:Int)<(s.length:Int):=by omega
 simp only[ac0,SS,seval]
 by_cases tL:s.getD 0 0=123
 ·have e1:(s.getD 0 0==123)=true:=by simpa using tL
  simp only[u123,e1,VV,Int.reduceToNat,reduceIte,reduceCtorEq];refine⟨hb,?_⟩;refine bA.aW ?_ 26 (PY s hlen 25 1 rfl (aB _) (fun j j1 j2=>by omega) (fun qT=>?_) (fun k k1 k2 hk=>?_))
  ·simp only[Int.natCast_one]
   repeat' constructor
  ·intros;simp only[VV,seval];refine aG aQ (.inr rfl) (by simp only[RS,seval];rfl) (by simp only[LW]) ⟨?_,rfl⟩;rw[GO tL qT];rfl
  ·intros;simp only[VV,seval];refine aG aQ (.inr rfl) (by simp only[RS,seval];rfl) (by simp only[LW]) ⟨?_,rfl⟩;rw[LS tL k1 k2 hk.1 hk.2];rfl
 have e1:(s.getD 0 0==123)=false:=by simpa using tL
 by_cases h60:s.getD 0 0=60
 ·have e2:(s.getD 0 0==60)=true:=by simpa using h60
  simp only[u123,u60,e1,e2,VV,Int.reduceToNat,reduceIte,reduceCtorEq];refine⟨hb,hb,?_⟩;refine ai (GZ s h60 hlen _) rfl ?_;simp only[It.cells,VV,seval];refine aG aQ (.inr rfl) (by simp only[RS,seval];rfl) (by simp only[LW]) ⟨?_,rfl⟩;rfl
 ·have e2:(s.getD 0 0==60)=false:=by simpa using h60
  simp only[u123,u60,e1,e2,VV,Int.reduceToNat,reduceIte,reduceCtorEq];refine⟨hb,hb,?_⟩;refine bA.aW ?_ 257 (PX s hlen 256 0 rfl (fun j hj=>by omega) (fun qT=>?_) (fun b rl=>?_))
  ·simp only[iI]
   repeat' constructor
  ·intros;simp only[VV,seval];refine aG aQ (.inr rfl) (by simp only[RS,seval];rfl) (by simp only[LW]) ⟨?_,rfl⟩
   rw[LV hs h60 tL (fun c=>by
    have:=qT c.toNat c.toNat_lt
    rwa [UInt8.ofNat_toNat]at this)]
   rfl
  ·intros;simp only[VV,seval];refine aG aQ (.inr rfl) (by simp only[RS,seval];rfl) (by simp only[LW]) ⟨?_,rfl⟩;rw[LX rl];rfl
theorem V0{σ:ag}{K:Exit→St→Prop}(s:List UInt8)(aQ:bP σ)(hlen:s.length<2^30):∀ (n:Nat) (rest pre:List UInt8) (f:List It) (len:Nat),s=pre++rest→rest.length<n→f.length≤512→aM f≤pre.length→len≤1024 →
  ((iW n f len rest pre.length).2.2=0→(∀ j0 j1 j2 j3 j4 j6 j7 j8 j9 cT cS cX cR cN cM cL cW df dn dx dy dD dI dH dG dX ez eA eH eW fg fi ft fw fG fM fL fK fX gi gF gR gQ il ix iV iU iT iS iR jo jn jm jK,K (.exit 0) ⟨[j0,j1,j2,j3,j4,.sl 3 ((iW n f len rest pre.length).1.map It.cells),j6,j7,j8,j9,cT,cS,cX,cR,cN,cM,cL,cW,df,dn,dx,dy,dD,dI,dH,dG,dX,ez,eA,eH,eW,fg,fi,ft,fw,fG,fM,fL,fK,fX,gi,gF,gR,gQ,il,ix,iV,iU,iT,iS,iR,jo,jn,jm,jK],σ⟩)) →
  ((iW n f len rest pre.length).2.2≠0→∀ loc,(∀ j0 j1 j5 j6 j7 j8 j9 cT cS cX cR cN cM cL cW df dn dx dy dD dI dH dG dX ez eA eH eW fg fi ft fw fG fM fL fK fX gi gF gR gQ il ix iV iU iT iS iR jo jn jm jK,K .ret ⟨[j0,j1,.nil,.i .i64 (iW n f len rest pre.length).2.1,.i .i64 (iW n f len rest pre.length).2.2,j5,j6,j7,j8,j9,cT,cS,cX,cR,cN,cM,cL,cW,df,dn,dx,dy,dD,dI,dH,dG,dX,ez,eA,eH,eW,fg,fi,ft,fw,fG,fM,fL,fK,fX,gi,gF,gR,gQ,il,ix,iV,iU,iT,iS,iR,jo,jn,jm,jK],σ++loc⟩)) →
  fO σ.length prog HA K n ⟨[.s s,u,u,u,u,.sl 3 (f.map It.cells),.i .i64 pre.length,.i .i64 len,u,u,u,u,u,u,u,u,u,u,u,u,u,u,u,u,u,u,u,u,u,u,u,u,u,u,u,u,u,u,u,u,u,u,u,u,u,u,u,u,u,u,u,u,u,u,u],σ⟩:=by
 intro n
 induction n with
 | zero=>intro rest pre f len he hn;omega
 | succ n ih =>
  intro rest pre f len he hn hf ht hl h1 h2;cases rest with
  | nil =>
   have he:s=pre:=by simpa using he
   subst he;simp only[iW]at h1;refine ax fun R hR=>?_;simp only[HA,VV,seval];exact⟨fun h=>by simp at h,fun _=>h1 trivial ..⟩
  | cons c rest =>
   subst he;have Ov:=LR (s:=c::rest) (by simp);have hd:List.take ((pre++c::rest).length - pre.length) (List.drop pre.length (pre++c::rest))=c::rest:=by simp
   simp only[iW]at h1 h2;refine ax fun R hR=>?_;simp only[HA,hd,an,VV,seval];refine⟨fun _=>⟨by simp;omega,?_⟩,fun h=>by simp at h<;>omega⟩;refine ai (Pq (c::rest) (by simp) (by simp at hlen ⊢;omega) _) rfl ?_;generalize hx:kC (c::rest)=xm at *;obtain⟨x,m⟩:=xm;simp only at Ov h1 h2;simp only[It.cells,VV,seval];refine⟨fun hm=>?_,fun hm=>?_⟩
   ·have hm:m=0:=by simpa using hm
    simp only[hm,if_true]at h2;exact h2 (by simp) [_] ..
   have hm:m≠0:=by simpa using hm
   obtain⟨m1,m2,m3⟩:=Ov hm;rw[if_neg hm]at h1 h2;have hg:=Mn (f++[x]);simp only[eK,aM,List.length_append,ab,ah]at hg;have X3:pre.length+(rest.length+1)<2^30:=by simpa using hlen
   simp only[ab]at m2 hn
   have rV:(pre++(c::rest).take m.toNat).length=pre.length+m.toNat:=by
    rw[List.length_append,aR,ab];omega
   have hwl:IntKind.i64.wrap ((len:Int)+1)=((len+1:Nat):Int):=by rw[IntWalk.i64_in _ (by omega)];omega
   have hwa:IntKind.i64.wrap ((pre.length:Int)+m)=(pre.length:Int)+m:=IntWalk.i64_in _ (by omega);have el:(len:Int)+1=((len+1:Nat):Int):=by omega
   have ea:(pre.length:Int)+m=(((pre++(c::rest).take m.toNat).length:Nat):Int):=by rw[rV];omega
   refine⟨fun hk=>?_,fun hk=>?_⟩
   ·have hk:x.kind≠1:=by simpa using hk
    refine ai (CL f x _) rfl ?_;simp only[VV,seval];refine⟨fun he=>?_,fun he=>?_⟩
    ·have he:fE f x≠0:=by simpa using he
     rw[if_pos ⟨hk,he⟩]at h2;exact h2 he [_] ..
    have he:fE f x=0:=by simpa using he
    rw[if_neg (fun h=>h.2 he)]at h1 h2;refine ic (zs:=[.sl 3 (f.map It.cells),.sl 3 ([x].map It.cells)]) (.cons (.refl _) (.cons (.lit _ _) .nil)) (mN f [x] (by omega) (by simp) (by omega) (by simp only[aM];omega) _) ?_;simp only[hwl,hwa,List.length_map,VV,seval];refine⟨fun hc=>?_,fun hc=>?_⟩
    ·have hc:512<(normalize (f++[x])).length∨(1024:Int)<(len:Int)+1:=by simp at hc;omega
     rw[if_pos hc]at h2;exact h2 (by simp) [_] ..
    ·have hc:¬ (512<(normalize (f++[x])).length∨(1024:Int)<(len:Int)+1):=by simp at hc;omega
     rw[if_neg hc,el,ea]at h1 h2;refine hR _ (rF (aB _) aQ ?_ ?_ (ih ((c::rest).drop m.toNat) (pre++(c::rest).take m.toNat) (normalize (f++[x])) (len+1) (by simp) (by rw[bH,ab];omega) (by omega) (by rw[rV];omega) (by omega) h1 h2))
     ·rw[← ea]
      repeat' constructor
     ·simp only[LW]
   ·have hk:x.kind=1:=by simpa using hk
    rw[if_neg (fun h=>h.1 hk)]at h1 h2;refine ic (zs:=[.sl 3 (f.map It.cells),.sl 3 ([x].map It.cells)]) (.cons (.refl _) (.cons (.lit _ _) .nil)) (mN f [x] (by omega) (by simp) (by omega) (by simp only[aM];omega) _) ?_;simp only[hwl,hwa,List.length_map,VV,seval];refine⟨fun hc=>?_,fun hc=>?_⟩
    ·have hc:512<(normalize (f++[x])).length∨(1024:Int)<(len:Int)+1:=by simp at hc;omega
     rw[if_pos hc]at h2;exact h2 (by simp) [_] ..
    ·have hc:¬ (512<(normalize (f++[x])).length∨(1024:Int)<(len:Int)+1):=by simp at hc;omega
     rw[if_neg hc,el,ea]at h1 h2;refine hR _ (rF (aB _) aQ ?_ ?_ (ih ((c::rest).drop m.toNat) (pre++(c::rest).take m.toNat) (normalize (f++[x])) (len+1) (by simp) (by rw[bH,ab];omega) (by omega) (by rw[rV];omega) (by omega) h1 h2))
     ·rw[← ea]
      repeat' constructor
     ·simp only[LW]
theorem w7(s:List UInt8)(hlen:s.length<2^30)(σ:ag):PC prog 127 [.s s] σ (fun r σ'=>r=.iK [.sl 3 ((parse s).1.map It.cells),.i .i64 (parse s).2.1,.i .i64 (parse s).2.2]∧σ'=σ):=by
 refine PC.intro func127 akx fun aQ cz=>aj ?_;rw[← yy];simp only[adI,SS,seval];simp only[VV,seval];refine bA.wk (Wk.ej ?_) (bA.pd (s.length+1) (V0 s aQ hlen (s.length+1) s [] [] 0 rfl (by omega) (by simp) (by simp[aM]) (by omega) (fun h=>?_) (fun h=>?_)))
 ·simp only[ah,iI,az,seval]
  repeat' constructor
 ·have e:=CB _ _ _ _ _ h;intros;simp only[VV,seval];refine aO (.inr rfl) (by simp only[RS,seval];rfl) ⟨?_,rfl⟩;have h':(Ad s).2.2=0:=h;have e':(Ad s).2.1=0:=e;rw[h',e'];rfl
 ·intros;simp only[VV,seval];refine dv (ys:=[.sl 3 [],.i .i64 (Ad s).2.1,.i .i64 (Ad s).2.2]) aQ (.inr rfl) (by simp only[RS,seval];rfl) ?_ (by simp only[LW]) ⟨?_,rfl⟩
  ·exact .cons (.nil _) (.cons (.refl _) (.cons (.refl _) .nil))
  ·have hz:=ue _ _ _ _ _ h;have hz':(Ad s).1=[]:=hz;rw[hz'];rfl
def R8(out:List It)(x:It)(o:Option Int):List It:=match o with
 | some b=>out++[⟨x.kind,x.text,b⟩]
 | none=>out
theorem P0{σ:ag}{K:Exit→St→Prop}(F L I:V)(fr to:List Int)(out:List It)(x:It)(g:Nat)(Qn:fr.length<2^62)(okA:(out.length+1)*32≤2^47∧out.length+1≤maxLen):
  ∀ (m k:Nat),k+m=min fr.length to.length →
  (∀ g,(∀ j3 j4 j5 j6 j8 j9 cT cS cN cM cL cW df dn dx dy dD dI dH dG dX ez eA eH eW fg fi ft fw fG fM fL fK fX gi gF gR gQ il ix iV iU iT iS iR jo jn jm jK jY kx ku kt kH lB,K (.exit 2) ⟨[F,.sl 1 (fr.map bj),.sl 1 (to.map bj),j3,j4,j5,j6,.own σ.length g,j8,j9,cT,cS,L,I,cN,cM,cL,cW,df,dn,dx,dy,dD,dI,dH,dG,dX,ez,eA,eH,eW,fg,fi,ft,fw,fG,fM,fL,fK,fX,gi,gF,gR,gQ,il,ix,iV,iU,iT,iS,iR,jo,jn,jm,jK,jY,kx,ku,kt,kH,lB],σ++[.row 76 3 32 g false ((R8 out x (Eu (fr.drop k) (to.drop k) x.id)).map It.cells),.box 76 x.cells]⟩)) →
  fO σ.length prog C0 K (m+1) ⟨[F,.sl 1 (fr.map bj),.sl 1 (to.map bj),u,u,u,u,.own σ.length g,u,.ptr (σ.length+1) 0,.i .i64 k,u,L,I,u,u,u,u,u,u,u,u,u,u,u,u,u,u,u,u,u,u,u,u,u,u,u,u,u,u,u,u,u,u,u,u,u,u,u,u,u,u,u,u,u,u,u,u,u,u,u],σ++[.row 76 3 32 g false (out.map It.cells),.box 76 x.cells]⟩:=by
 intro m
 induction m with
 | zero =>
  intro k hk h1;rw[Nw (by omega)]at h1
  have fk:((decide ((k:Int)<(fr.length:Int)))&&decide ((k:Int)<(to.length:Int)))=false:=by
   rw[Bool.and_eq_false_iff];simp;omega
  refine ax fun R hR=>?_;simp only[C0,List.length_map,fk,VV,seval];exact h1 g ..
 | succ m ih =>
  intro k hk h1;have k1:k<fr.length:=by omega
  have k2:k<to.length:=by omega
  rw[Jh k1 k2]at h1;have e1:decide ((k:Int)<(fr.length:Int))=true:=by simp;omega
  have e2:decide ((k:Int)<(to.length:Int))=true:=by simp;omega
  have hw:IntKind.i64.wrap ((k:Int)+1)=((k+1:Nat):Int):=by rw[IntWalk.i64_in _ (by omega)];omega
  refine ax fun R hR=>?_;simp only[C0,It.cells,List.length_map,e1,e2,hw,an,qv k1,qv k2,VV,seval];have Tw:(0:Int)≤(k:Int)∧(k:Int)<(fr.length:Int):=by omega
  have rl:(0:Int)≤(k:Int)∧(k:Int)<(to.length:Int):=by omega
  refine⟨Tw,fun h=>⟨rl,okA,?_⟩,fun h=>?_⟩
  ·have h:x.id=fr.getD k 0:=by rw[beq_iff_eq]at h;exact h.symm
   rw[if_pos h]at h1;have cP:out.map It.cells++[[.i .i64 x.kind,.s x.text,.i .i64 (to.getD k 0)]]=(R8 out x (some (to.getD k 0))).map It.cells:=by simp[R8,It.cells]
   rw[cP];exact h1 (g+1) ..
  ·have h:¬ x.id=fr.getD k 0:=by rw[beq_eq_false_iff_ne]at h;exact fun e=>h e.symm
   rw[if_neg h]at h1;refine hR _ (aW ?_ (ih (k+1) (by omega) h1))
   repeat' constructor
theorem PZ{σ:ag}{K:Exit→St→Prop}(its:List It)(fr to:List Int)(aQ:bP σ)(hlen:its.length<2^40)(Qn:fr.length<2^62):∀ (rest pre out:List It) (g:Nat),its=pre++rest→out.length≤pre.length →
  (∀ g,(∀ j0 j1 j2 j3 j4 j5 j6 j8 j9 cT cS cX cR cN cM cL cW df dn dx dy dD dI dH dG dX ez eA eH eW fg fi ft fw fG fM fL fK fX gi gF gR gQ il ix iV iU iT iS iR jo jn jm jK jY kx ku kt kH lB,K (.exit 0) ⟨[j0,j1,j2,j3,j4,j5,j6,.own σ.length g,j8,j9,cT,cS,cX,cR,cN,cM,cL,cW,df,dn,dx,dy,dD,dI,dH,dG,dX,ez,eA,eH,eW,fg,fi,ft,fw,fG,fM,fL,fK,fX,gi,gF,gR,gQ,il,ix,iV,iU,iT,iS,iR,jo,jn,jm,jK,jY,kx,ku,kt,kH,lB],σ++[.row 76 3 32 g false ((out++renamed rest fr to).map It.cells)]⟩)) →
  fO σ.length prog CZ K (rest.length+1) ⟨[.sl 3 (its.map It.cells),.sl 1 (fr.map bj),.sl 1 (to.map bj),u,u,u,u,.own σ.length g,u,u,u,u,.i .i64 its.length,.i .i64 pre.length,u,u,u,u,u,u,u,u,u,u,u,u,u,u,u,u,u,u,u,u,u,u,u,u,u,u,u,u,u,u,u,u,u,u,u,u,u,u,u,u,u,u,u,u,u,u,u],σ++[.row 76 3 32 g false (out.map It.cells)]⟩:=by
 intro rest
 induction rest with
 | nil =>
  intro pre out g he ho h1;have he:its=pre:=by simpa using he
  subst he;have e:out++renamed [] fr to=out:=by simp[renamed]
  rw[e]at h1;refine ax fun R hR=>?_;simp only[CZ,VV,seval];exact⟨fun h=>by simp at h,fun _=>h1 g ..⟩
 | cons x rest ih =>
  intro pre out g he ho h1;subst he
  have next:∀ (out':List It) (g':Nat) {loc:ag},out++renamed (x::rest) fr to=out'++renamed rest fr to→out'.length≤out.length+1→∀ {R:St→Prop} {f0:List V},(∀ st',fO σ.length prog CZ K (rest.length+1) st'→R st') →
    pH f0 [.sl 3 ((pre++x::rest).map It.cells),.sl 1 (fr.map bj),.sl 1 (to.map bj),u,u,u,u,.own σ.length g',u,u,u,u,.i .i64 (pre++x::rest).length,.i .i64 (IntKind.i64.wrap ((pre.length:Int)+1)),u,u,u,u,u,u,u,u,u,u,u,u,u,u,u,u,u,u,u,u,u,u,u,u,u,u,u,u,u,u,u,u,u,u,u,u,u,u,u,u,u,u,u,u,u,u,u]→R ⟨f0,σ++(.row 76 3 32 g' false (out'.map It.cells)::loc)⟩:=by
   intro out' g' loc hw hl R f0 hR hc
   have e1:IntKind.i64.wrap ((pre.length:Int)+1)=(((pre++[x]).length:Nat):Int):=by
    rw[aV (by simp at hlen;omega)];simp
   rw[e1]at hc;rw[hw]at h1;refine hR _ (cH [_] loc (bU aQ (by simp)) hc ?_ (ih (pre++[x]) out' g' (by simp) (by simp;omega) h1));simp only[LW,ab,ah,aK];omega
  have okA:(out.length+1)*32≤2^47∧out.length+1≤maxLen:=by simp at hlen;simp[maxLen];omega
  refine ax fun R hR=>?_;simp only[CZ,It.cells,VV,seval];refine⟨fun _=>⟨by simp;omega,?_⟩,fun h=>by simp at h<;>omega⟩;refine ai (w8 x _) rfl ?_;simp only[VV,seval];refine⟨fun ht=>?_,fun ht=>?_⟩
  ·have ht:cI x=false:=by rw[cm]at ht;exact ht
   have cP:out.map It.cells++[[.i .i64 x.kind,.s x.text,.i .i64 x.id]]=(out++[x]).map It.cells:=by simp[It.cells]
   refine⟨by rw[List.length_map];exact okA,?_⟩;rw[cP];refine next (out++[x]) (g+1) (by simp[renamed,NA,ht]) (by simp) hR ?_
   simp only
   repeat' constructor
  ·have ht:cI x=true:=by rw[dC]at ht;exact ht
   refine bA.aW ?_ (min fr.length to.length+1) (P0 (.sl 3 ((pre++x::rest).map It.cells)) (.i .i64 (pre++x::rest).length) (.i .i64 pre.length) fr to out x g Qn okA (min fr.length to.length) 0 (by omega) ?_)
   ·simp only[iI]
    repeat' constructor
   intro g';intros;simp only[VV,seval];refine next _ g' ?_ ?_ hR ?_
   ·simp only[renamed,kz,NA,ht,if_true,R8];cases Eu fr to x.id<;>simp
   ·simp only[R8];split<;>simp
   ·repeat' constructor
theorem A6(its:List It)(fr to:List Int)(hlen:its.length<2^40)(ht:aM its<2^40)(Qn:fr.length<2^62)(σ:ag):PC prog 183 [.sl 3 (its.map It.cells),.sl 1 (fr.map bj),.sl 1 (to.map bj)] σ (fun r σ'=>r=.sl 3 ((rename its fr to).map It.cells)∧σ'=σ):=by
 refine PC.intro func183 ajT fun aQ cz=>aj ?_;simp only[ac4,SS,seval];simp only[List.length_map,VV,seval];refine bA.wk ((Wk.gZ (k:=7) Ji rfl).trans (Wk.ej ?_)) (bA.pd (its.length+1) (PZ its fr to aQ hlen Qn its [] [] 0 rfl (aB _) ?_))
 ·simp only[VV,seval]
  repeat' constructor
 ·intro g;intros;simp only[ak,VV,seval];refine oD σ.length (by simp only[gr];rfl) (uo (renamed its fr to) (qy (A1 _ _ _) hlen) (qy (yC _ _ _) ht) _) (by simp[fz,kc,ev]) ?_;simp only[VV,seval];exact aG aQ (.inr rfl) (by simp only[RS,seval];rfl) (by simp only[LW]) ⟨rfl,rfl⟩
theorem uq(s t:List It)(hs:s.length<2^38)(ht:t.length<2^38)(EZ:aM s<2^38)(htt:aM t<2^38)(σ:ag):PC prog 119 [.sl 3 (s.map It.cells),.sl 3 (t.map It.cells)] σ (fun r σ'=>r=.iK [.sl 3 ((fZ s t).map It.cells),.sl 3 ((gT s t).map It.cells)]∧σ'=σ):=by
 refine PC.intro func119 akD fun aQ cz=>aj ?_;simp only[adQ,SS,seval];simp only[List.length_map,VV,seval];refine⟨by simp[maxLen];omega,by simp[maxLen];omega,?_⟩;refine oD σ.length (by simp only[gr];rfl) (G1 (s++t) (by simp;omega) _) (by simp[fz,kc,ev]) ?_;have hc:=oM (s++t);rw[qd,List.length_append]at hc;rw[qd];simp only[List.length_map,VV,seval];refine ai (Pr (bG s t).length (by omega) _) rfl ?_;simp only[VV,seval];refine ai (A6 s (bG s t) (cu (bG s t).length) (by omega) (by omega) (by omega) _) rfl ?_;simp only[VV,seval];refine ai (A6 t (bG s t) (cu (bG s t).length) (by omega) (by omega) (by omega) _) rfl ?_;simp only[VV,seval];exact aG aQ (.inr rfl) (by simp only[RS,seval];rfl) (by simp only[LW]) ⟨rfl,rfl⟩
theorem VZ{σ:ag}{K:Exit→St→Prop}(k d:Int)(s:List UInt8)(hlen:s.length<2^40):∀ (rest pre t:List UInt8),s=pre++rest→t.length≤4*pre.length →
  ((∀ j0 j1 j2 j4 j5 j6 j7 j8 j9 cT cS cX cR cN cM cL cW df dn dx dy dD dI dH dG dX ez eA eH eW fg fi ft fw fG fM fL fK fX gi gF gR gQ il ix iV iU iT iS iR jo jn jm jK jY kx ku kt kH lB,K (.exit 1) ⟨[j0,j1,j2,.s (t++rest.flatMap eB),j4,j5,j6,j7,j8,j9,cT,cS,cX,cR,cN,cM,cL,cW,df,dn,dx,dy,dD,dI,dH,dG,dX,ez,eA,eH,eW,fg,fi,ft,fw,fG,fM,fL,fK,fX,gi,gF,gR,gQ,il,ix,iV,iU,iT,iS,iR,jo,jn,jm,jK,jY,kx,ku,kt,kH,lB],σ++[.box 76 [.i .i64 k,.s s,.i .i64 d]]⟩)) →
  fO σ.length prog Hz K (rest.length+1) ⟨[u,.ptr σ.length 0,u,.s t,.i .i64 pre.length,u,u,u,u,u,u,u,u,u,u,u,u,u,u,u,u,u,u,u,u,u,u,u,u,u,u,u,u,u,u,u,u,u,u,u,u,u,u,u,u,u,u,u,u,u,u,u,u,u,u,u,u,u,u,u,u],σ++[.box 76 [.i .i64 k,.s s,.i .i64 d]]⟩:=by
 intro rest
 induction rest with
 | nil =>
  intro pre t he ht h1;have he:s=pre:=by simpa using he
  subst he;rw[jH,bf]at h1;refine ax fun R hR=>?_;simp only[Hz,VV,seval];exact⟨fun h=>by simp at h,fun _=>h1 ..⟩
 | cons c rest ih =>
  intro pre t he ht h1;subst he;rw[cZ,← List.append_assoc]at h1;have hl:pre.length+rest.length+1<2^40:=by simp at hlen;omega
  have hw:=Fq c;refine ax fun R hR=>?_;simp only[Hz,VV,seval];refine⟨fun _=>⟨by simp;omega,?_⟩,fun h=>by simp at h<;>omega⟩;refine ai (yL c _) rfl ?_;simp only[VV,seval];refine⟨by simp only[maxLen];omega,?_⟩;refine hR _ (aW ?_ (ih (pre++[c]) (t++eB c) (by simp) (by simp;omega) h1));rw[aV (by omega)];simp only[List.length_append,ab,ah]
  repeat' constructor
theorem G0(x:It)(hk:1≤x.kind∧x.kind≤5)(hid:0≤x.id∧x.id<2^62)(hlen:x.text.length<2^40)(σ:ag):PC prog 129 [.agg x.cells] σ (fun r σ'=>r=.s (cj x)∧σ'=σ):=by
 refine PC.intro func129 akv fun aQ cz=>aj ?_;obtain⟨k,t,d⟩:=x;simp only at hk hid hlen;obtain⟨n,rfl⟩:∃ n:Nat,d=n:=⟨d.toNat,by omega⟩;have hi:=Lib.itoa_length_le (n:Int) (by omega) (by omega);have Ik:=G6 n (by omega) (σ++[.box 76 [.i .i64 k,.s t,.i .i64 n]]);simp only[adG,SS,seval]
 by_cases k1:k=1
 ·subst k1;simp only[It.cells,VV,seval];refine bA.aW ?_ (t.length+1) (VZ 1 n t hlen t [] [] rfl (aB _) ?_)
  ·simp only[ah,iI]
   repeat' constructor
  ·intros;simp only[ak,VV,seval];exact aG aQ (.inr rfl) (by simp only[RS,seval];rfl) (by simp only[LW]) ⟨by simp[Pm.one,cj],rfl⟩
 by_cases k2:k=2
 ·subst k2;simp only[It.cells,VV,seval];refine ai Ik rfl ?_;simp only[VV,seval];refine⟨by simp only[maxLen];omega,by simp only[maxLen];omega,by simp only[maxLen,List.length_append,ab,ah];omega,by simp only[maxLen,List.length_append,ab];omega,?_⟩;exact aG aQ (.inr rfl) (by simp only[RS,seval];rfl) (by simp only[LW]) ⟨by simp[Pm.one,cj],rfl⟩
 by_cases k3:k=3
 ·subst k3;simp only[It.cells,VV,seval];refine ai Ik rfl ?_;simp only[VV,seval];refine⟨by simp only[maxLen];omega,by simp only[maxLen];omega,by simp only[maxLen,List.length_append,ab,ah];omega,by simp only[maxLen,List.length_append,ab];omega,?_⟩;exact aG aQ (.inr rfl) (by simp only[RS,seval];rfl) (by simp only[LW]) ⟨by simp[Pm.one,cj],rfl⟩
 by_cases k4:k=4
 ·subst k4;simp only[It.cells,VV,seval];refine ai Ik rfl ?_;simp only[VV,seval];refine⟨by simp only[maxLen];omega,by simp only[maxLen];omega,by simp only[maxLen,List.length_append,ab,ah];omega,by simp only[maxLen,List.length_append,ab];omega,?_⟩;exact aG aQ (.inr rfl) (by simp only[RS,seval];rfl) (by simp only[LW]) ⟨by simp[Pm.one,cj],rfl⟩
 have k5:k=5:=by omega
 subst k5;simp only[It.cells,VV,seval];refine⟨by simp only[maxLen];omega,by simp only[maxLen];omega,?_⟩;exact aG aQ (.inr rfl) (by simp only[RS,seval];rfl) (by simp only[LW]) ⟨by simp[Pm.one,cj],rfl⟩
theorem Ze{σ:ag}{K:Exit→St→Prop}(f:List It)(hf:f.length≤512)(hx:∀ x∈f,(1≤x.kind∧x.kind≤5)∧(0≤x.id∧x.id<2^62)∧x.text.length≤2^30∧(cj x).length<2^33):∀ (rest pre:List It) (s:List UInt8),f=pre++rest→s.length≤2^33*pre.length →
  ((∀ j0 j1 j2 j3 j4 j6 j7 j8 j9 cT cS cX cR cN cM cL cW df dn dx dy dD dI dH dG,K (.exit 0) ⟨[j0,j1,j2,j3,j4,.s (s++rest.flatMap cj),j6,j7,j8,j9,cT,cS,cX,cR,cN,cM,cL,cW,df,dn,dx,dy,dD,dI,dH,dG],σ⟩)) →
  fO σ.length prog NQ K (rest.length+1) ⟨[.sl 3 (f.map It.cells),u,u,u,u,.s s,u,u,u,u,u,u,u,.i .i64 f.length,.i .i64 pre.length,u,u,u,u,u,u,u,u,u,u,u],σ⟩:=by
 intro rest
 induction rest with
 | nil =>
  intro pre s he hs h1;have he:f=pre:=by simpa using he
  subst he;rw[jH,bf]at h1;refine ax fun R hR=>?_;simp only[NQ,VV,seval];exact⟨fun h=>by simp at h,fun _=>h1 ..⟩
 | cons x rest ih =>
  intro pre s he hs h1;subst he;rw[cZ,← List.append_assoc]at h1;obtain⟨hk,hid,ht,hi⟩:=hx x (by simp);have hl:pre.length+rest.length+1≤512:=by simp at hf;omega
  refine ax fun R hR=>?_;simp only[NQ,It.cells,VV,seval];refine⟨fun _=>⟨by simp;omega,?_⟩,fun h=>by simp at h<;>omega⟩;refine ai (G0 x hk hid (by omega) _) rfl ?_;simp only[VV,seval];refine⟨by simp only[maxLen];omega,?_⟩;refine hR _ (aW ?_ (ih (pre++[x]) (s++cj x) (by simp) (by simp;omega) h1));rw[aV (by omega)];simp only[List.length_append,ab,ah]
  repeat' constructor
theorem I5{f:List It}(ht:aM f<2^30)(h:bO f=0):f.length≤512∧∀ x∈f,(1≤x.kind∧x.kind≤5)∧(0≤x.id∧x.id<2^62)∧x.text.length≤2^30∧(cj x).length<2^33:=by
 have hk:=tp h;simp only[bO]at h;split at h
 ·simp at h
 ·rename_i h1;refine⟨by omega,fun x hx=>?_⟩;have qU:=ly f [] h x hx
  have ZJ:∀ f:List It,x∈f→x.text.length≤aM f:=by
   intro f
   induction f with
   | nil=>simp
   | cons y f ih =>
    intro hm;simp only[aM];rcases aU.1 hm with rfl | hm
    ·omega
    ·have:=ih hm;omega
  have hl:=ZJ f hx
  have hid:0≤x.id∧x.id<2^62:=by
   simp only[bB]at qU;split at qU
   ·simp at qU;omega
   ·split at qU
    ·simp at qU;omega
    ·split at qU
     ·simp at qU;omega
     ·split at qU
      ·simp at qU;omega
      ·simp at qU
  have hi:=px x (by omega);exact⟨hk x hx,hid,by omega,by omega⟩
theorem A7(f:List It)(ht:aM f<2^30)(σ:ag):PC prog 74 [.sl 3 (f.map It.cells)] σ (fun r σ'=>r=.iK [.s (format f).1,.i .i64 (format f).2]∧σ'=σ):=by
 refine PC.intro func74 c74 fun aQ cz=>aj ?_;simp only[p74,SS,seval];simp only[VV,seval];refine ai (re f _) rfl ?_;simp only[List.length_map,VV,seval];refine⟨fun h=>?_,fun h=>?_⟩
 ·have h:bO f≠0:=by simpa using h
  refine aO (.inr rfl) (by simp only[RS,seval];rfl) ⟨?_,rfl⟩;simp only[format,if_pos h];rfl
 ·have h:bO f=0:=by simpa using h
  obtain⟨v1,v2⟩:=I5 ht h;refine bA.aW ?_ (f.length+1) (Ze f v1 v2 f [] [] rfl (iF _) ?_)
  ·simp only[ah,iI]
   repeat' constructor
  ·intros;simp only[ak,VV,seval];refine aO (.inr rfl) (by simp only[RS,seval];rfl) ⟨?_,rfl⟩;simp[format,h,Pm.one]
theorem Kg(s:List UInt8)(σ:ag):PC prog 128 [.s s] σ (fun r σ'=>r=.b (named s)∧σ'=σ):=by
 refine PC.intro func128 akw fun aQ cz=>aj ?_;simp only[adH,SS,seval];simp only[VV,seval];refine bg (by simp only[VV,seval]<;>rfl) (fun _=>mO s _) rfl ?_;simp only[VV,seval];exact aO (.inr rfl) (by simp only[RS,seval];rfl) ⟨rfl,rfl⟩
theorem lO(e:En)(hs:e.small)(σ:ag):PC prog 73 [.agg e.cells] σ (fun r σ'=>r=.i .i64 (cy e)∧σ'=σ):=by
 refine PC.intro func73 c73 fun aQ cz=>aj ?_;simp only[p73,SS,seval];simp only[En.cells,VV,seval];refine ai (re e.source _) rfl ?_;simp only[VV,seval];refine⟨fun h=>?_,fun h=>?_⟩
 ·have h:bO e.source≠0:=by simpa using h
  exact aG aQ (.inr rfl) (by simp only[RS,seval];rfl) (by simp only[LW]) ⟨by simp only[cy,h,if_true,ne_eq,not_false_eq_true];rfl,rfl⟩
 have h1:bO e.source=0:=by simpa using h
 refine ai (re e.target _) rfl ?_;simp only[VV,seval];refine⟨fun h=>?_,fun h=>?_⟩
 ·have h:bO e.target≠0:=by simpa using h
  refine aG aQ (.inr rfl) (by simp only[RS,seval];rfl) (by simp only[LW]) ⟨?_,rfl⟩;simp only[cy,h1,h,if_true,ne_eq,not_false_eq_true,not_true,if_false];rfl
 have h2:bO e.target=0:=by simpa using h
 refine ai (uq e.source e.target (by have:=hs.source;omega) (by have:=hs.target;omega) (by have:=hs.gY;omega) (by have:=hs.o8;omega) _) rfl ?_;simp only[List.length_map,VV,seval];refine bg (by simp only[VV,seval]<;>rfl) (fun _=>vM (fZ e.source e.target) e.source _) rfl ?_;simp only[VV,seval];refine bg (by simp only[VV,seval]<;>rfl) (fun _=>vM (gT e.source e.target) e.target _) rfl ?_;simp only[VV,seval]
 have Ts:mA e=!((((e.source.length:Int)==0)||!gq (fZ e.source e.target) e.source)||!gq (gT e.source e.target) e.target):=by
  have:((e.source.length:Int)==0)=(e.source.length==0):=by rw[du];simp
  simp only[mA,this];cases(e.source.length==0)<;>cases gq (fZ e.source e.target) e.source<;>cases gq (gT e.source e.target) e.target<;>rfl
 refine⟨fun h=>?_,fun h=>?_⟩
 ·rw[h]at Ts;refine aG aQ (.inr rfl) (by simp only[RS,seval];rfl) (by simp only[LW]) ⟨?_,rfl⟩;simp only[cy,h1,h2,Ts,ne_eq,not_true,if_false];rfl
 rw[h]at Ts
 have e1:cy e=if(parse e.bS).2.2≠0 then(parse e.bS).2.2 else if(parse e.next).2.2≠0 then(parse e.next).2.2 else
   if(named e.cQ&&named e.cn)=false then 4 else if e.created<0∨1073741824<e.created∨e.origin<1∨3<e.origin then 1 else 0:=by
  simp only[cy,h1,h2,Ts,ne_eq,not_true,if_false];rfl
 refine ai (w7 e.bS (by have:=hs.bS;omega) _) rfl ?_;simp only[VV,seval];refine⟨fun h=>?_,fun h=>?_⟩
 ·have h:(parse e.bS).2.2≠0:=by simpa using h
  rw[e1,if_pos h];exact aG aQ (.inr rfl) (by simp only[RS,seval];rfl) (by simp only[LW]) ⟨rfl,rfl⟩
 have h3:¬ (parse e.bS).2.2≠0:=by simpa using h
 refine ai (w7 e.next (by have:=hs.next;omega) _) rfl ?_;simp only[VV,seval];refine⟨fun h=>?_,fun h=>?_⟩
 ·have h:(parse e.next).2.2≠0:=by simpa using h
  rw[e1,if_neg h3,if_pos h];exact aG aQ (.inr rfl) (by simp only[RS,seval];rfl) (by simp only[LW]) ⟨rfl,rfl⟩
 have h4:¬ (parse e.next).2.2≠0:=by simpa using h
 rw[if_neg h3,if_neg h4]at e1;refine ai (Kg e.cQ _) rfl ?_;simp only[VV,seval];refine bg (by simp only[VV,seval]<;>rfl) (fun _=>Kg e.cn _) rfl ?_;simp only[VV,seval]
 have ZR:(!named e.cQ||!named e.cn)=!(named e.cQ&&named e.cn):=by
  cases named e.cQ<;>cases named e.cn<;>rfl
 rw[ZR];refine⟨fun h=>?_,fun h=>⟨fun h5=>?_,fun h5=>?_⟩⟩
 ·have h:(named e.cQ&&named e.cn)=false:=by rw[cm]at h;exact h
  rw[e1,if_pos h];exact aG aQ (.inr rfl) (by simp only[RS,seval];rfl) (by simp only[LW]) ⟨rfl,rfl⟩
 ·have h:¬ (named e.cQ&&named e.cn)=false:=by rw[dC]at h;rw[h];simp
  have h5:e.created<0∨1073741824<e.created∨e.origin<1∨3<e.origin:=by
   simp at h5;omega
  rw[e1,if_neg h,if_pos h5];exact aG aQ (.inr rfl) (by simp only[RS,seval];rfl) (by simp only[LW]) ⟨rfl,rfl⟩
 ·have h:¬ (named e.cQ&&named e.cn)=false:=by rw[dC]at h;rw[h];simp
  have h5:¬ (e.created<0∨1073741824<e.created∨e.origin<1∨3<e.origin):=by
   simp at h5;omega
  rw[e1,if_neg h,if_neg h5];exact aG aQ (.inr rfl) (by simp only[RS,seval];rfl) (by simp only[LW]) ⟨rfl,rfl⟩
theorem pM(e:En)(hs:e.small)(σ:ag):PC prog 33 [.agg e.cells] σ (fun r σ'=>r=.s (dL e)∧σ'=σ):=by
 refine PC.intro func33 c33 fun aQ cz=>aj ?_;simp only[p33,SS,seval];simp only[En.cells,VV,seval];refine ai (lO e hs _) rfl ?_;simp only[VV,seval];refine⟨fun h=>?_,fun h=>?_⟩
 ·have h:cy e≠0:=by simpa using h
  exact aG aQ (.inr rfl) (by simp only[RS,seval];rfl) (by simp only[LW]) ⟨by simp only[dL,h,if_true,ne_eq,not_false_eq_true];rfl,rfl⟩
 ·have h:¬ cy e≠0:=by simpa using h
  refine ai (A7 e.source (by have:=hs.gY;omega) _) rfl ?_;simp only[VV,seval];have hf:=mG e.source hs.source hs.gY (fun x hx=>hs.ids x (by simp[hx]));have h1:=hs.bS;have h2:=hs.next;refine⟨by simp[maxLen];omega,by simp[maxLen];omega,by simp[maxLen];omega,by simp[maxLen];omega,?_⟩;refine aG aQ (.inr rfl) (by simp only[RS,seval];rfl) (by simp only[LW]) ⟨?_,rfl⟩;simp[Pm.one,dL,if_neg h,cf]
def Gv(v:List Int)(n:Nat):List Int:=(List.range n).map fun(i:Nat)=>je v i
def Ls(v:List Int):Nat→Nat
 | 0=>0
 | n+1=>if 0<je v n then n+1 else Ls v n
theorem Ci(v:List Int)(o:Int):0≤je v o:=by
 simp only[je];split
 ·omega
 ·split<;>omega
theorem Ja(o:Int):je [] o=0:=by
 simp only[je];split
 ·rfl
 ·simp
theorem Ee(v:List Int)(n:Nat):Gv v (n+1)=Gv v n++[je v n]:=by simp[Gv,vy]
theorem Lk(v:List Int):∀ n,jh v [] n=Gv v n
 | 0=>rfl
 | n+1=>by
  have:=Ci v n;rw[wF,Ee,Lk v n,Ja,if_neg (by omega)]
theorem Dj(v:List Int):∀ n,fq v [] n=Ls v n
 | 0=>rfl
 | n+1=>by
  have:=Ci v n;have e0:(if je v n<0 then(0:Int)else je v n)=je v n:=if_neg (by omega);simp only[fq,Ls,Ja,e0,Dj v n]
  by_cases h:0<je v n
  ·rw[if_pos (by omega),if_pos h]
  ·rw[if_neg (by omega),if_neg h]
theorem Sy(v:List Int)(n:Nat):Ls v n≤n:=by rw[← Dj];exact lP v [] n
theorem OS(v:List Int):eJ v=Gv v (Ls v 8):=by
 have h:=Sy v 8;simp only[eJ,nc,Lk,Dj];simp only[Gv,← List.map_take,List.take_range];congr 2;omega
theorem tIr:Ti prog 3 1 8:=nR (by kernel_rfl)
theorem SB{σ:ag}{K:Exit→St→Prop}(v:List Int)(i:Nat)(hi:i<8):∀ (m k g:Nat),k+m=i →
  (∀ g,(∀ j1 j2 j5 j6 j7 j8 j9 cT cS cX cR cN cM cL cW df dn dx dy dD dI dH dG dX ez eA eH eW,K (.exit 2) ⟨[.sl 1 (v.map bj),j1,j2,.own σ.length g,.i .i64 i,j5,j6,j7,j8,j9,cT,cS,cX,cR,cN,cM,cL,cW,df,dn,dx,dy,dD,dI,dH,dG,dX,ez,eA,eH,eW],σ++[.row 3 1 8 g false ((Gv v i).map bj)]⟩)) →
  fO σ.length prog JX K (m+1) ⟨[.sl 1 (v.map bj),u,u,.own σ.length g,.i .i64 i,u,u,u,u,u,u,u,u,u,u,u,u,u,u,u,u,u,u,u,u,u,u,u,u,u,u],σ++[.row 3 1 8 g false ((Gv v k).map bj)]⟩:=by
 intro m
 induction m with
 | zero =>
  intro k g hk h1;have hk:k=i:=by omega
  subst hk;have e:(Gv v k).length=k:=by simp[Gv]
  refine ax fun R hR=>?_;simp only[JX,List.length_map,e,VV,seval];exact⟨fun h=>by simp at h,fun _=>h1 g ..⟩
 | succ m ih =>
  intro k g hk h1;have e:(Gv v k).length=k:=by simp[Gv]
  refine ax fun R hR=>?_;simp only[JX,List.length_map,e,VV,seval];refine⟨fun _=>?_,fun h=>by simp at h;omega⟩;refine ai (uw v k _) rfl ?_;simp only[List.length_map,e,VV,seval];have cP:(Gv v k).map bj++[[.i .i64 (je v k)]]=(Gv v (k+1)).map bj:=by rw[Ee];simp[bj]
  rw[cP];refine⟨by simp[maxLen];omega,?_⟩;refine hR _ (aW ?_ (ih (k+1) (g+1) (by omega) h1))
  repeat' constructor
theorem SA{σ:ag}{K:Exit→St→Prop}(v:List Int):∀ (m i g:Nat),i+m=8 →
  (∀ g,(∀ j0 j1 j2 j4 j5 j6 j7 j8 j9 cT cS cX cR cN cM cL cW df dn dx dy dD dI dH dG dX ez eA eH eW,K (.exit 0) ⟨[j0,j1,j2,.own σ.length g,j4,j5,j6,j7,j8,j9,cT,cS,cX,cR,cN,cM,cL,cW,df,dn,dx,dy,dD,dI,dH,dG,dX,ez,eA,eH,eW],σ++[.row 3 1 8 g false ((Gv v (Ls v 8)).map bj)]⟩)) →
  fO σ.length prog NU K (m+1) ⟨[.sl 1 (v.map bj),u,u,.own σ.length g,.i .i64 i,u,u,u,u,u,u,u,u,u,u,u,u,u,u,u,u,u,u,u,u,u,u,u,u,u,u],σ++[.row 3 1 8 g false ((Gv v (Ls v i)).map bj)]⟩:=by
 intro m
 induction m with
 | zero =>
  intro i g hi h1;have hi:i=8:=by omega
  subst hi;refine ax fun R hR=>?_;simp only[NU,VV,seval];exact⟨fun h=>by simp at h,fun _=>h1 g ..⟩
 | succ m ih =>
  intro i g hi h1;have hw:IntKind.i64.wrap ((i:Int)+1)=((i+1:Nat):Int):=by rw[IntWalk.i64_in _ (by omega)];omega
  have hl:=Sy v i;refine ax fun R hR=>?_;simp only[NU,VV,seval];refine⟨fun _=>?_,fun h=>by simp at h;omega⟩;refine ai (uw v i _) rfl ?_;simp only[hw,VV,seval];refine⟨fun h=>?_,fun h=>?_⟩
  ·have h:0<je v i:=by simpa using h
   have e:Ls v (i+1)=i+1:=by simp only[Ls,if_pos h]
   refine bA.aW ?_ (i - Ls v i+1) (SB v i (by omega) (i - Ls v i) (Ls v i) g (by omega) ?_)
   ·repeat' constructor
   intro g';intros;simp only[VV,seval];refine ai (uw v i _) rfl ?_;have el:(Gv v i).length=i:=by simp[Gv]
   simp only[List.length_map,el,hw,VV,seval];have cP:(Gv v i).map bj++[[.i .i64 (je v i)]]=(Gv v (Ls v (i+1))).map bj:=by rw[e,Ee];simp[bj]
   rw[cP];refine⟨by simp[maxLen];omega,?_⟩;refine hR _ (aW ?_ (ih (i+1) (g'+1) (by omega) h1))
   repeat' constructor
  ·have h:¬ 0<je v i:=by simpa using h
   have e:Ls v (i+1)=Ls v i:=by simp only[Ls,if_neg h]
   rw[← e];refine hR _ (aW ?_ (ih (i+1) g (by omega) h1))
   repeat' constructor
theorem w9(v:List Int)(σ:ag):PC prog 65 [.sl 1 (v.map bj)] σ (fun r σ'=>r=.sl 1 ((eJ v).map bj)∧σ'=σ):=by
 refine PC.intro func65 c65 fun aQ cz=>aj ?_;rw[OS];simp only[p65,SS,seval];simp only[VV,seval];refine bA.wk ((Wk.gZ (k:=3) tIr rfl).trans (Wk.ej ?_)) (bA.pd 9 (SA v 8 0 0 rfl ?_))
 ·simp only[iI,VV,seval]
  repeat' constructor
 ·intro g;intros;simp only[VV,seval];refine gg 0 aQ (.inr rfl) rfl rfl ?_ ?_
  ·simp[fz,kc,gM,uG]
  ·simp[fz,kc,Pm.one]
theorem Zq{n:Nat}{σ:ag}{K:Exit→St→Prop}(a b:List Int)(hlen:a.length<2^63)(tD:a.length=b.length):∀ (ra rb pa pb:List Int),a=pa++ra→b=pb++rb→pa.length=pb.length →
  (ra=rb→(∀ j0 j1 j2 j3 j4 j5 j6 j7 j8 j9 cT cS cX cR cN cM cL cW df dn dx dy dD dI dH dG,K (.exit 0) ⟨[j0,j1,j2,j3,j4,j5,j6,j7,j8,j9,cT,cS,cX,cR,cN,cM,cL,cW,df,dn,dx,dy,dD,dI,dH,dG],σ⟩))→(ra≠rb→(∀ j0 j1 j2 j3 j5 j6 j7 j8 j9 cT cS cX cR cN cM cL cW df dn dx dy dD dI dH dG,K .ret ⟨[j0,j1,j2,j3,.b false,j5,j6,j7,j8,j9,cT,cS,cX,cR,cN,cM,cL,cW,df,dn,dx,dy,dD,dI,dH,dG],σ⟩)) →
  fO n prog N2 K (ra.length+1) ⟨[.sl 1 (a.map bj),.sl 1 (b.map bj),u,u,u,u,u,u,u,u,u,u,.i .i64 a.length,.i .i64 pa.length,u,u,u,u,u,u,u,u,u,u,u,u],σ⟩:=by
 intro ra
 induction ra with
 | nil =>
  intro rb pa pb ha hb hp h1 h2
  have:rb=[]:=by
   subst ha;subst hb;simp at tD;exact bL (by omega)
  subst this;have ha:a=pa:=by simpa using ha
  subst ha;refine ax fun R hR=>?_;simp only[N2,VV,seval];exact⟨fun h=>by simp at h,fun _=>h1 rfl ..⟩
 | cons x ra ih =>
  intro rb pa pb ha hb hp h1 h2;cases rb with
  | nil=>subst ha;subst hb;simp at tD;omega
  | cons y rb =>
   subst ha;subst hb;have e2:fe (List.map bj (pb++y::rb)) pa.length 0=some (.i .i64 y):=by rw[hp,lU];rfl
   have hw:IntKind.i64.wrap ((pa.length:Int)+1)=(((pa++[x]).length:Nat):Int):=by
    rw[aV (by simp at hlen;omega)];simp
   refine ax fun R hR=>?_;have e1:fe (List.map bj (pa++x::ra)) pa.length 0=some (.i .i64 x):=by rw[lU];rfl
   simp only[N2,an,e1,e2,VV,seval];have Q8:(0:Int)≤pa.length∧(pa.length:Int)<(List.map bj (pa++x::ra)).length:=by simp;omega
   have ZT:(0:Int)≤pa.length∧(pa.length:Int)<(List.map bj (pb++y::rb)).length:=by simp at tD ⊢;omega
   refine⟨fun _=>⟨Q8,ZT,fun h=>?_,fun h=>?_⟩,fun h=>by simp at h<;>omega⟩
   ·have h:¬ x=y:=by simpa using h
    exact h2 (by simp[h]) ..
   ·have h:x=y:=by simpa using h
    subst h;refine hR _ (aW ?_ (ih rb (pa++[x]) (pb++[x]) (by simp) (by simp) (by simp[hp]) (fun e=>h1 (by rw[e])) (fun e=>h2 (by simpa using e))));rw[hw];repeat' constructor
theorem ov(a b:List Int)(σ:ag):PC prog 35 [.sl 1 (a.map bj),.sl 1 (b.map bj)] σ (fun r σ'=>r=.b (a==b)∧σ'=σ):=by
 refine PC.intro func35 c35 fun aQ cz=>aj ?_;have hlen:=lD (cz 0 _ rfl).1;rw[List.length_map]at hlen;simp only[p35,SS,seval];simp only[List.length_map,VV,seval];refine⟨fun h=>?_,fun h=>?_⟩
 ·refine aO (.inr rfl) rfl ⟨?_,rfl⟩;have:a≠b:=fun e=>by subst e;simp at h
  simp[Pm.one,this]
 ·have tD:a.length=b.length:=by simp at h;omega
  refine bA.aW ?_ (a.length+1) (Zq a b hlen tD a b [] [] rfl rfl rfl (fun h=>?_) (fun h=>?_))
  ·repeat' constructor
  ·intros;simp only[VV,seval];exact aO (.inr rfl) rfl ⟨by simp[Pm.one,h],rfl⟩
  ·intros;exact aO (.inr rfl) rfl ⟨by simp[Pm.one,h],rfl⟩
theorem Za{n:Nat}{σ:ag}{K:Exit→St→Prop}(q:V)(l:List Int)(hlen:l.length<2^63):∀ (rest pre:List Int),l=pre++rest →
  (rest.any (fun n=>decide (128<n))=false→(∀ j0 j2 j3 j4 j5 j6 j7 j8 j9 cT cS cX cR cN cM cL cW df dn dx dy dD dI dH dG dX ez eA eH eW fg fi ft fw fG fM fL fK fX gi gF gR gQ il ix iV iU iT iS iR jo jn jm jK jY kx ku kt kH lB l9 mD nr nH nG nF pw pt pq po pn pk qD tH uT uS uR uQ uP uO uN uM uL uK uJ,K (.exit 0) ⟨[j0,q,j2,j3,j4,j5,j6,j7,j8,j9,cT,cS,cX,cR,cN,cM,cL,cW,df,dn,dx,dy,dD,dI,dH,dG,dX,ez,eA,eH,eW,fg,fi,ft,fw,fG,fM,fL,fK,fX,gi,gF,gR,gQ,il,ix,iV,iU,iT,iS,iR,jo,jn,jm,jK,jY,kx,ku,kt,kH,lB,l9,mD,nr,nH,nG,nF,pw,pt,pq,po,pn,pk,qD,tH,uT,uS,uR,uQ,uP,uO,uN,uM,uL,uK,uJ],σ⟩))→(rest.any (fun n=>decide (128<n))=true→(∀ j0 j3 j4 j5 j6 j7 j8 j9 cT cS cX cR cN cM cL cW df dn dx dy dD dI dH dG dX ez eA eH eW fg fi ft fw fG fM fL fK fX gi gF gR gQ il ix iV iU iT iS iR jo jn jm jK jY kx ku kt kH lB l9 mD nr nH nG nF pw pt pq po pn pk qD tH uT uS uR uQ uP uO uN uM uL uK uJ,K .ret ⟨[j0,q,.i .i64 1,j3,j4,j5,j6,j7,j8,j9,cT,cS,cX,cR,cN,cM,cL,cW,df,dn,dx,dy,dD,dI,dH,dG,dX,ez,eA,eH,eW,fg,fi,ft,fw,fG,fM,fL,fK,fX,gi,gF,gR,gQ,il,ix,iV,iU,iT,iS,iR,jo,jn,jm,jK,jY,kx,ku,kt,kH,lB,l9,mD,nr,nH,nG,nF,pw,pt,pq,po,pn,pk,qD,tH,uT,uS,uR,uQ,uP,uO,uN,uM,uL,uK,uJ],σ⟩)) →
  fO n prog NN K (rest.length+1) ⟨[u,q,u,u,u,u,u,u,u,u,u,u,u,u,u,u,u,u,u,u,u,u,u,u,u,u,u,u,u,u,u,.sl 1 (l.map bj),.i .i64 l.length,.i .i64 pre.length,u,u,u,u,u,u,u,u,u,u,u,u,u,u,u,u,u,u,u,u,u,u,u,u,u,u,u,u,u,u,u,u,u,u,u,u,u,u,u,u,u,u,u,u,u,u,u,u,u,u,u,u],σ⟩:=by
 intro rest
 induction rest with
 | nil =>
  intro pre he h1 h2;have he:l=pre:=by simpa using he
  subst he;refine ax fun R hR=>?_;simp only[NN,VV,seval];exact⟨fun h=>by simp at h,fun _=>h1 rfl ..⟩
 | cons c rest ih =>
  intro pre he h1 h2;subst he;refine ax fun R hR=>?_;simp only[NN,bj,VV,seval];refine⟨fun _=>⟨by simp;omega,fun h=>?_,fun h=>?_⟩,fun h=>by simp at h<;>omega⟩
  ·have h:128<c:=by simpa using h
   exact h2 (by simp[h]) ..
  ·have h:¬ 128<c:=by simpa using h
   have e:(c::rest).any (fun n=>decide (128<n))=rest.any (fun n=>decide (128<n)):=by simp[h]
   rw[e]at h1 h2;refine hR _ (aW ?_ (ih (pre++[c]) (by simp) h1 h2));rw[aV (by simp at hlen;omega)];simp only[List.length_append,ab,ah]
   repeat' constructor
theorem gp(o:aJ)(hs:o.small)(σ:ag):PC prog 85 [.agg o.cells] σ (fun r σ'=>r=.i .i64 (cw o)∧σ'=σ):=by
 refine PC.intro func85 c85 fun aQ cz=>aj ?_;have IN:=hs.seen;simp only[p85,SS,seval];simp only[aJ.cells,bc.cells,En.cells,VV,seval];refine ai (JL o.aA _) rfl ?_;simp only[VV,seval];refine⟨fun h=>?_,fun h=>?_⟩
 ·have h:gf o.aA=false:=by
   cases hk:gf o.aA with
   | false=>rfl
   | true=>rw[hk]at h;simp at h
  refine aG aQ (.inr rfl) (by simp only[RS,seval];rfl) (by simp only[LW]) ⟨?_,rfl⟩;simp only[cw,h,if_true];rfl
 have h0:¬ gf o.aA=false:=by
  intro hk;rw[hk]at h;simp at h
 have e0:cw o=if(o.kind≠1∧o.kind≠2)∨eJ o.seen≠o.seen then 1 else
   if o.seen.any (fun n=>decide (128<n))then 1 else
   if je o.seen o.aA.aS≠o.aA.number - 1 then 11 else
   if o.kind=2∧lT o.entry=false then 1 else cy (looked o):=by simp only[cw,if_neg h0]
 have S9:1≤o.aA.number∧o.aA.number≤128:=by
  have:gf o.aA=true:=by simpa using h0
  simp only[gf,decide_eq_true_eq]at this;omega
 rw[e0]
 have X4:(bif (o.kind != 1)then(o.kind != 2)else false)=decide (o.kind≠1∧o.kind≠2):=by
  rw[du];by_cases h1:o.kind=1<;>by_cases h2:o.kind=2<;>simp[h1,h2]
 refine bg (by simp only[VV,seval]<;>rfl) (fun _=>w9 o.seen _) rfl ?_;simp only[VV,seval];refine bg (by simp only[VV,seval]<;>rfl) (fun _=>ov (eJ o.seen) o.seen _) rfl ?_;simp only[VV,seval];have ZU:o.seen.length<2^63:=by omega
 refine⟨fun h=>?_,fun h=>bA.aW ?_ (o.seen.length+1) (Za (.ptr σ.length 0) o.seen ZU o.seen [] rfl (fun ha=>?_) (fun ha=>?_))⟩
 ·have h:(o.kind≠1∧o.kind≠2)∨eJ o.seen≠o.seen:=by
   simpa[eJ]using h
  refine aG aQ (.inr rfl) (by simp only[RS,seval];rfl) (by simp only[LW]) ⟨?_,rfl⟩;rw[if_pos h];rfl
 ·simp only[List.length_map,ah,seval]
  repeat' constructor
 ·have h:¬ ((o.kind≠1∧o.kind≠2)∨eJ o.seen≠o.seen):=by
   intro h2;have:(o.kind != 1&&o.kind != 2||!eJ o.seen==o.seen)=true:=by simpa using h2
   rw[h]at this;simp at this
  have Qm:=h;rw[if_neg h,if_neg (show ¬ (o.seen.any fun n=>decide (128<n))=true by rw[ha];simp)];intros;simp only[VV,seval];refine ai (uw o.seen o.aA.aS _) rfl ?_;simp only[VV,seval];have hw:IntKind.i64.wrap (o.aA.number - 1)=o.aA.number - 1:=IntWalk.i64_in _ (by omega);rw[hw];refine⟨fun h=>?_,fun h=>?_⟩
  ·have h:je o.seen o.aA.aS≠o.aA.number - 1:=by simpa using h
   refine aG aQ (.inr rfl) (by simp only[RS,seval];rfl) (by simp only[LW]) ⟨?_,rfl⟩;rw[if_pos h];rfl
  have h:¬ je o.seen o.aA.aS≠o.aA.number - 1:=by simpa using h
  rw[if_neg h];refine⟨fun h1=>?_,fun h1=>?_⟩
  ·have h1:o.kind=1:=by simpa using h1
   have hl:looked o=o.entry:=by simp only[looked,h1];rfl
   rw[if_neg (by rw[h1];simp),hl];refine ai (lO o.entry hs.entry _) rfl ?_;simp only[VV,seval];exact aG aQ (.inr rfl) (by simp only[RS,seval];rfl) (by simp only[LW]) ⟨rfl,rfl⟩
  have h1:o.kind=2:=by
   simp only[not_or]at Qm;have h1:¬ o.kind=1:=by simpa using h1
   have:=Qm.1;omega
  have hl:looked o=asked o.entry:=by simp only[looked,h1];rfl
  have ae7:(decide ((0:Int)<(o.entry.target.length:Int))||!o.entry.cQ==[]||!o.entry.cn==[]||o.entry.created != 0||o.entry.origin != 0)=!lT o.entry:=by
   have e:decide ((0:Int)<(o.entry.target.length:Int))=!(o.entry.target.length==0):=by
    rw[du];simp only[decide_eq_true_eq,cm,beq_eq_false_iff_ne];omega
   rw[e];simp only[lT,bne];cases o.entry.target.length==0<;>cases o.entry.cQ==[]<;>cases o.entry.cn==[]<;>cases o.entry.created==0<;>cases o.entry.origin==0<;>rfl
  simp only[List.length_map,seval];rw[ae7];refine⟨fun h2=>?_,fun h2=>?_⟩
  ·have h2:lT o.entry=false:=by rw[cm]at h2;exact h2
   refine aG aQ (.inr rfl) (by simp only[RS,seval];rfl) (by simp only[LW]) ⟨?_,rfl⟩;rw[if_pos ⟨h1,h2⟩];rfl
  have h2:lT o.entry=true:=by rw[dC]at h2;exact h2
  rw[if_neg (by rw[h2];simp)];refine ai (ux o.entry _) rfl ?_;simp only[VV,seval];have aex:=sB hs;rw[hl]at aex ⊢;refine ai (lO (asked o.entry) aex _) rfl ?_;simp only[VV,seval];exact aG aQ (.inr rfl) (by simp only[RS,seval];rfl) (by simp only[LW]) ⟨rfl,rfl⟩
 ·have h:¬ ((o.kind≠1∧o.kind≠2)∨eJ o.seen≠o.seen):=by
   intro h2;have:(o.kind != 1&&o.kind != 2||!eJ o.seen==o.seen)=true:=by simpa using h2
   rw[h]at this;simp at this
  rw[if_neg h,if_pos ha];intros;simp only[VV,seval];exact aG aQ (.inr rfl) (by simp only[RS,seval];rfl) (by simp only[LW]) ⟨rfl,rfl⟩
theorem uz(x n:Int)(hn:0<n)(h2:n<2^62)(σ:ag):PC prog 25 [.i .i64 x,.i .i64 n] σ (fun r σ'=>r=.i .i64 (place x n)∧σ'=σ):=by
 refine PC.intro func25 c25 fun aQ cz=>aj ?_;simp only[p25,SS,seval];simp only[VV,seval];refine⟨by omega,fun h=>?_,fun h=>?_⟩
 ·have h:x.tmod n<0:=by simpa using h
  have hr:=kP (x:=x) hn;have e:place x n=x.tmod n+n:=by simp only[place,if_pos h]
  refine aO (.inr rfl) rfl ⟨?_,rfl⟩;rw[e]at hr ⊢;simp only[Pm.one,aE,aT];rw[IntWalk.i64_in _ (by omega)]
 ·have h:¬ x.tmod n<0:=by simpa using h
  have e:place x n=x.tmod n:=by simp only[place,if_neg h]
  exact aO (.inr rfl) rfl ⟨by rw[e];rfl,rfl⟩
theorem qb(s:List UInt8)(hs:s.length<2^40)(σ:ag):PC prog 140 [.s s] σ (fun r σ'=>r=.sl 1 (al (de s))∧σ'=σ):=by
 refine PC.intro func140 akm fun aQ cz=>aj ?_;simp only[adx,SS,seval];simp only[VV,seval];refine ai (wC (s.length:Int) 4 (by decide) _) rfl ?_;simp only[VV,seval];have e:al (qe (s.length:Int) 4)++al s=al (de s):=by rw[HT];simp[al,de]
 have l4:(al (qe (s.length:Int) 4)).length=4:=by rw[HT];simp[al,dF]
 have ls:(al s).length=s.length:=by simp[al]
 rw[e,l4,ls];refine⟨⟨by omega,by simp only[maxLen];omega⟩,?_⟩;refine gg 0 aQ (.inr rfl) (by simp only[RS,seval];rfl) rfl ?_ ⟨?_,rfl⟩
 ·simp[fz,kc,gM,uG]
 ·simp[fz,kc,Pm.one]
theorem ur(f:List It)(hf:f.length<2^30)(ht:aM f<2^30)(hid:∀ x∈f,-9223372036854775808≤x.id∧x.id≤9223372036854775807)(σ:ag):PC prog 139 [.sl 3 (f.map It.cells)] σ (fun r σ'=>r=.sl 1 (al (de (format f).1))∧σ'=σ):=by
 refine PC.intro func139 akn fun aQ cz=>aj ?_;have hl:=mG f hf ht hid;simp only[ady,SS,seval];simp only[VV,seval];refine ai (A7 f ht _) rfl ?_;simp only[VV,seval];refine ai (qb (format f).1 (by omega) _) rfl ?_;simp only[VV,seval];exact aO (.inr rfl) (by simp only[RS,seval];rfl) ⟨rfl,rfl⟩
def lA(S:ag)(a:Nat)(l:List Int)(k:Nat):ag:=S.set a (.box 79 [.sl 1 (l.map bj),.i .i64 k])
theorem cF(S:ag)(a:Nat)(l:List Int)(k:Nat):(lA S a l k).length=S.length:=by simp[lA]
theorem ow{S:ag}{a:Nat}{l:List Int}{k:Nat}{loc:ag}(h:a<S.length):lA S a l k++loc=lA (S++loc) a l k:=by
 simp only[lA];rw[IL _ _ h]
theorem Oc{S:ag}{a:Nat}{l:List Int}{k:Nat}(h:a<S.length):(lA S a l k)[a]?=some (.box 79 [.sl 1 (l.map bj),.i .i64 k]):=by
 simp[lA,h]
theorem Oa{S:ag}{a:Nat}{l:List Int}{k k':Nat}:(lA S a l k).set a (.box 79 [.sl 1 (l.map bj),.i .i64 (k':Int)])=lA S a l k':=by
 simp[lA]
theorem vN(S:ag)(a:Nat)(ha:a<S.length)(l:List Int)(k:Nat)(hk:k<2^60)(n:Int)(hn:0<n)(Wy:n<2^62):
  PC prog 42 [.ptr a 0,.i .i64 n] (lA S a l k) (fun r σ'=>∃ v:Int,r=.i .i64 v∧(0≤v∧v<n)∧σ'=lA S a l (k+1)):=by
 refine PC.intro func42 c42 fun aQ cz=>aj ?_;simp only[p42,SS,seval];have hw:IntKind.i64.wrap ((k:Int)+1)=((k+1:Nat):Int):=aV (by omega)
 by_cases h:k<l.length
 ·have hd:decide ((k:Int)<(l.length:Int))=true:=by simp;omega
  simp only[Oc ha,List.length_map,hd,hw,Oa,an,qv h,VV,seval];refine⟨by omega,?_⟩;refine ai (uz (l.getD k 0) n hn Wy _) rfl ?_;simp only[VV,seval];exact ed (.inr rfl) rfl (Wk.refl _ _) rfl ⟨_,rfl,kP hn,rfl⟩
 ·have hd:decide ((k:Int)<(l.length:Int))=false:=by simp;omega
  simp only[Oc ha,List.length_map,hd,hw,Oa,VV,seval];refine ai (uz 0 n hn Wy _) rfl ?_;simp only[VV,seval];exact ed (.inr rfl) rfl (Wk.refl _ _) rfl ⟨_,rfl,kP hn,rfl⟩
def u4:List (List UInt8):=[[114,101,100],[99,97,114],[82,101,100],[97],[99,97,114,115],[49,44,53],[50,50],[100,111,110,39,116],[46],[33],[32],[32,32],[60],[38],[123],[34],[92],[120,45,121],[10],[61],[125],[62],[9],[98]]
theorem mu{ws:List (List UInt8)}{n:Nat}(h:n<ws.length):∃ w∈ws,fe (ws.map fun s=>[V.s s]) n 0=some (V.s w):=by
 refine⟨ws[n],cK h,?_⟩;simp[fe,h]
theorem UQ(S:ag)(a:Nat)(ha:a<S.length)(l:List Int)(k:Nat)(hk:k<2^60):
  PC prog 215 [.ptr a 0] (lA S a l k) (fun r σ'=>∃ w:List UInt8,r=.s w∧w∈u4∧σ'=lA S a l (k+1)):=by
 refine PC.intro func215 ajz fun aQ cz=>aj ?_;simp only[acK,SS,seval];simp only[VV,seval];refine cG (vN S a ha l k hk 24 (by decide) (by decide)) rfl ?_;rintro _ _ ⟨v,rfl,hv,rfl⟩;obtain⟨w,hw,e⟩:=mu (ws:=u4) (n:=v.toNat) (by simp[u4];omega);simp only[u4,ay,az]at e;simp only[e,VV,seval];refine⟨by omega,?_⟩;exact ed (.inr rfl) rfl (Wk.refl _ _) rfl ⟨w,rfl,hw,rfl⟩
theorem Rm{w:List UInt8}(h:w∈u4):w.length≤5:=by
 revert w;decide
theorem VN(S:ag)(a:Nat)(ha:a<S.length)(l:List Int){K:Exit→St→Prop}(k0:Nat)(hk0:k0<2^59)(n:Nat)(hn:n<2^20):∀ (m k:Nat) (out:List UInt8),m≤n→(k0≤k∧k≤k0+2*(n - m))→out.length≤6*(n - m) →
  (∀ (k:Nat) (out:List UInt8),(k0≤k∧k≤k0+2*n)→out.length≤6*n→(∀ j0 j1 j2 j3 j4 j6 j7 j8 j9 cT cS cX cR cN cM cL cW df dn dx dy dD dI dH dG dX ez eA eH eW,K (.exit 0) ⟨[j0,j1,j2,j3,j4,.s out,j6,j7,j8,j9,cT,cS,cX,cR,cN,cM,cL,cW,df,dn,dx,dy,dD,dI,dH,dG,dX,ez,eA,eH,eW],lA S a l k⟩)) →
  fO S.length prog Hk K (m+1) ⟨[.ptr a 0,u,u,u,u,.s out,.i .i64 m,u,u,u,u,u,u,u,u,u,u,u,u,u,u,u,u,u,u,u,u,u,u,u,u],lA S a l k⟩:=by
 intro m
 induction m with
 | zero =>
  intro k out hm hk ho h1;refine ax fun R hR=>?_;simp only[Hk,VV,seval];exact⟨fun h=>by simp at h,fun _=>h1 k out (by omega) (by omega) ..⟩
 | succ m ih =>
  intro k out hm hk ho h1;have hw:IntKind.i64.wrap (((m+1:Nat):Int) - 1)=(m:Int):=by rw[IntWalk.i64_in _ (by omega)];omega
  refine ax fun R hR=>?_;simp only[Hk,VV,seval];refine⟨fun _=>?_,fun h=>by simp at h<;>omega⟩;refine cG (UQ S a ha l k (by omega)) rfl ?_;rintro _ _ ⟨w,rfl,MI,rfl⟩;have hwl:=Rm MI;simp only[VV,seval]
  by_cases iQ:out=[]
  ·have e1:(!out==[])=false:=by simp[iQ]
   refine Lb (Q:=fun _ _=>True) (c:=false) (by simp only[e1,VV,seval]<;>rfl) (fun h=>by simp at h) rfl (fun h=>by simp at h) fun _=>⟨.i .i64 0,?_⟩;simp only[e1,hw,VV,seval];refine⟨by simp only[maxLen];omega,?_⟩;refine hR _ (aW ?_ (ih (k+1) (out++w) (by omega) (by omega) (by rw[List.length_append];omega) h1))
   repeat' constructor
  ·have e1:(!out==[])=true:=by simp[iQ]
   refine Lb (c:=true) (by simp only[e1,VV,seval]<;>rfl) (fun _=>vN S a ha l (k+1) (by omega) 3 (by decide) (by decide)) rfl ?_ (fun h=>by simp at h);rintro _ _ _ ⟨v,rfl,hv,rfl⟩;simp only[e1,hw,VV,seval];refine⟨fun h=>⟨by simp only[maxLen];omega,by simp only[maxLen,List.length_append,ab,ah];omega,?_⟩,fun h=>⟨by simp only[maxLen];omega,?_⟩⟩
   ·refine hR _ (aW ?_ (ih (k+1+1) (out++32::w) (by omega) (by omega) (by rw[List.length_append,ab];omega) h1))
    repeat' constructor
   ·refine hR _ (aW ?_ (ih (k+1+1) (out++w) (by omega) (by omega) (by rw[List.length_append];omega) h1))
    repeat' constructor
theorem Wb(S:ag)(a:Nat)(ha:a<S.length)(l:List Int)(k:Nat)(hk:k<2^58)(n:Nat)(hn:n<2^20):
  PC prog 178 [.ptr a 0,.i .i64 n] (lA S a l k) (fun r σ'=>∃ (s:List UInt8) (k':Nat),r=.s s∧s.length≤6*n∧(k≤k'∧k'≤k+2*n+1)∧σ'=lA S a l k'):=by
 refine PC.intro func178 ajX fun aQ cz=>aj ?_;have hw:IntKind.i64.wrap ((n:Int)+1)=((n+1:Nat):Int):=aV (by omega);simp only[ac8,SS,seval];simp only[hw,VV,seval];refine cG (vN S a ha l k (by omega) ((n+1:Nat):Int) (by omega) (by omega)) rfl ?_;rintro _ _ ⟨v,rfl,hv,rfl⟩;obtain⟨m,rfl⟩:∃ m:Nat,v=m:=⟨v.toNat,by omega⟩;simp only[cF,VV,seval];refine bA.aW ?_ (m+1) (VN S a ha l (k+1) (by omega) m (by omega) m (k+1) [] (aB _) (by omega) (by simp) ?_)
 ·repeat' constructor
 intro k' out h1 h2;intros;simp only[VV,seval];exact ed (.inr rfl) rfl (Wk.refl _ _) (by simp[cF]) ⟨out,k',rfl,by omega,by omega,rfl⟩
theorem Oe{S:ag}{a:Nat}{l:List Int}{k:Nat}{loc:ag}:(lA S a l k++loc)[S.length]?=loc[0]?:=by
 rw[aN (by rw[cF];exact aB _),cF,iu]
theorem nb{S:ag}{a:Nat}{l:List Int}{k j:Nat}{loc:ag}:(lA S a l k++loc)[S.length+j]?=loc[j]?:=by
 rw[aN (by rw[cF];omega),cF,cx]
theorem Kf{S:ag}{a:Nat}{l:List Int}{k:Nat}{loc:ag}{o:Ob}:(lA S a l k++loc).set S.length o=lA S a l k++loc.set 0 o:=by
 rw[fT _ _ (by rw[cF];exact aB _),cF,iu]
theorem BP{S:ag}{a:Nat}{l:List Int}{k j:Nat}{loc:ag}{o:Ob}:(lA S a l k++loc).set (S.length+j) o=lA S a l k++loc.set j o:=by
 rw[fT _ _ (by rw[cF];omega),cF,cx]
theorem nW{S:ag}{a:Nat}{l:List Int}{k k':Nat}(h:bP (lA S a l k)):bP (lA S a l k'):=by
 intro id T cs hid j x hx
 by_cases e:a=id
 ·subst e;simp only[lA]at hid;rw[List.getElem?_set]at hid;simp only[if_true]at hid;split at hid
  ·simp only[aa,Ob.box.injEq]at hid;obtain⟨_,rfl⟩:=hid;rcases j with _ | _ | j
   ·simp only[ao,aa]at hx;subst hx;exact .sl _ _
   ·simp only[bQ,ao,aa]at hx;subst hx;exact .i _ _
   ·simp at hx
  ·simp at hid
 ·have e1:(lA S a l k)[id]?=some (.box T cs):=by
   simp only[lA]at hid ⊢;rw[bn e]at hid ⊢;exact hid
  have:=h id T cs e1 j x hx;rw[cF]at this ⊢;exact this
theorem hZ(S:ag)(a:Nat)(ha:a<S.length)(l:List Int)(k:Nat)(hk:k<2^60)(n:Int)(hn:0<n)(Wy:n<2^62)(loc:ag):
  PC prog 42 [.ptr a 0,.i .i64 n] (lA S a l k++loc) (fun r σ'=>∃ v:Int,r=.i .i64 v∧(0≤v∧v<n)∧σ'=lA S a l (k+1)++loc):=by
 rw[ow ha];refine(vN (S++loc) a (by rw[List.length_append];omega) l k hk n hn Wy).mono ?_;rintro r σ' ⟨v,h1,h2,h3⟩;exact⟨v,h1,h2,by rw[h3,ow ha]⟩
theorem Om(S:ag)(a:Nat)(ha:a<S.length)(l:List Int)(k:Nat)(hk:k<2^58)(n:Nat)(hn:n<2^20)(loc:ag):
  PC prog 178 [.ptr a 0,.i .i64 n] (lA S a l k++loc) (fun r σ'=>∃ (s:List UInt8) (k':Nat),r=.s s∧s.length≤6*n∧(k≤k'∧k'≤k+2*n+1)∧σ'=lA S a l k'++loc):=by
 rw[ow ha];refine(Wb (S++loc) a (by rw[List.length_append];omega) l k hk n hn).mono ?_;rintro r σ' ⟨s,k',h1,h2,h3,h4⟩;exact⟨s,k',h1,h2,h3,by rw[h4,ow ha]⟩
theorem ml{f:List It}(x:It)(h:bt [] f=0):aM (normalize (f++[x]))≤aM f+x.text.length∧(normalize (f++[x])).length≤f.length+1:=by
 rw[iN (qg h)];exact qh f x
def tT(t:List UInt8):List (List UInt8):=[[114,111,116],[100,97,115,32,65,117,116,111],[],[101,105,110,32]++t,t]
theorem GF{t w:List UInt8}(h:w∈tT t):w.length≤t.length+8:=by
 simp only[tT,aU,bD,or_false]at h;rcases h with rfl | rfl | rfl | rfl | rfl<;>simp
theorem V5(S:ag)(a:Nat)(ha:a<S.length)(l:List Int){K:Exit→St→Prop}(k0:Nat)(hk0:k0<2^50)(aQ:bP (lA S a l k0))(src:List It)(rk:bt [] src=0)(hlen:src.length≤100)(ZJ:aM src≤10000):
  ∀ (rest pre f:List It) (k:Nat),src=pre++rest→Nk pre f→f.length≤2*pre.length→aM f≤aM pre+20*pre.length→(k0≤k∧k≤k0+10*pre.length) →
  (∀ (k:Nat) (f:List It),Nk src f→f.length≤2*src.length→aM f≤aM src+20*src.length→(k0≤k∧k≤k0+10*src.length)→(∀ j0 j1 j2 j3 j4 j6 j7 j8 j9 cT cS cX cR cN cM cL cW df dn dx dy dD dI dH dG dX ez eA eH eW fg fi ft fw fG fM fL fK fX gi gF gR gQ il ix,K (.exit 0) ⟨[j0,j1,j2,j3,j4,.sl 3 (f.map It.cells),j6,j7,j8,j9,cT,cS,cX,cR,cN,cM,cL,cW,df,dn,dx,dy,dD,dI,dH,dG,dX,ez,eA,eH,eW,fg,fi,ft,fw,fG,fM,fL,fK,fX,gi,gF,gR,gQ,il,ix],lA S a l k⟩)) →
  fO S.length prog C5 K (rest.length+1) ⟨[.ptr a 0,.sl 3 (src.map It.cells),u,u,u,.sl 3 (f.map It.cells),u,u,u,.i .i64 src.length,.i .i64 pre.length,u,u,u,u,u,u,u,u,u,u,u,u,u,u,u,u,u,u,u,u,u,u,u,u,u,u,u,u,u,u,u,u,u,u,u],lA S a l k⟩:=by
 intro rest
 induction rest with
 | nil =>
  intro pre f k he hT u0 hft hk h1;have he:src=pre:=by simpa using he
  subst he;refine ax fun R hR=>?_;simp only[C5,VV,seval];exact⟨fun h=>by simp at h,fun _=>h1 k f hT u0 hft hk ..⟩
 | cons x rest ih =>
  intro pre f k he hT u0 hft hk h1;subst he;have S1:aM (pre++x::rest)=aM pre+(x.text.length+aM rest):=by rw[eK];rfl
  have hpt:aM (pre++[x])=aM pre+x.text.length:=by rw[eK];simp[aM]
  have rV:(pre++[x]).length=pre.length+1:=by simp
  have IN:(pre++x::rest).length=pre.length+(rest.length+1):=by simp
  have hw:IntKind.i64.wrap ((pre.length:Int)+1)=(((pre++[x]).length:Nat):Int):=by
   rw[aV (by omega),rV]
  have Q8:(0:Int)≤pre.length∧(pre.length:Int)<(List.map It.cells (pre++x::rest)).length:=by simp;omega
  refine ax fun R hR=>?_
  have fin:∀ (g:List It) (k':Nat) (fr:List V) (loc:ag),Nk (pre++[x]) g→g.length≤f.length+2→aM g≤aM f+x.text.length+20→(k≤k'∧k'≤k+10) →
    pH fr [.ptr a 0,.sl 3 ((pre++x::rest).map It.cells),u,u,u,.sl 3 (g.map It.cells),u,u,u,.i .i64 (pre++x::rest).length,.i .i64 (pre++[x]).length,u,u,u,u,u,u,u,u,u,u,u,u,u,u,u,u,u,u,u,u,u,u,u,u,u,u,u,u,u,u,u,u,u,u,u]→R ⟨fr,lA S a l k'++loc⟩:=by
   intro g k' fr loc g1 g2 g3 g4 hc;refine hR _ (rF (by rw[cF];exact aB _) (nW aQ) hc ?_ (ih (pre++[x]) g k' (by simp) g1 (by omega) (by omega) (by omega) h1));simp only[cF,ha,LW]
  by_cases qA:x.kind=1
  ·have e1:(x.kind==1)=true:=by simp[qA]
   simp only[C5,an,It.cells,e1,cF,Oe,Kf,VV,seval];refine⟨fun _=>⟨Q8,by simp only[maxLen];omega,?_⟩,fun h=>by simp at h<;>omega⟩;refine cG (hZ S a ha l k (by omega) 5 (by decide) (by decide) _) rfl ?_;rintro _ _ ⟨v,rfl,hv,rfl⟩;obtain⟨w,MI,ew⟩:=mu (ws:=tT x.text) (n:=v.toNat) (by simp[tT];omega);have hwl:=GF MI;simp only[tT,ay,az,aq,ak]at ew;simp only[ew,Oe,Kf,VV,seval];refine⟨by omega,?_⟩
   have hx0:x.id=0:=by
    rw[oW,ri]at rk;exact(vY qA rk.2.1).2.1
   have hb:=ml ⟨1,w,0⟩ hT.err;refine ic (zs:=[.sl 3 (f.map It.cells),.sl 3 ([(⟨1,w,0⟩:It)].map It.cells)]) ?_ (mN f [⟨1,w,0⟩] (by omega) (by simp) (by omega) (by simp[aM];omega) _) ?_
   ·simp only[qA,hx0];exact .cons (.refl _) (.cons (.lit _ _) .nil)
   ·simp only[hw,VV,seval];refine fin _ _ _ _ (hT.text qA w) (by omega) (by simp only at hb;omega) (by omega) ?_
    repeat' constructor
  ·have e1:(x.kind==1)=false:=by simpa using qA
   simp only[C5,an,It.cells,e1,cF,Oe,Kf,VV,seval];refine⟨fun _=>⟨Q8,?_⟩,fun h=>by simp at h<;>omega⟩;refine cG (hZ S a ha l k (by omega) 3 (by decide) (by decide) _) rfl ?_;rintro _ _ ⟨v,rfl,hv,rfl⟩;have hex:(⟨x.kind,x.text,x.id⟩:It)=x:=rfl
   by_cases zM:v=0
   ·have e2:(v==0)=true:=by simp[zM]
    simp only[e2,Oe,VV,seval];refine cG (Om S a ha l (k+1) (by omega) 2 (by decide) _) rfl ?_;rintro _ _ ⟨t,k',rfl,ht,hk',rfl⟩;have hb:=ml ⟨1,t,0⟩ hT.err;simp only at hb;have hT2:=hT.more t;have rl:=ml x hT2.err;simp only[VV,seval];refine ic (zs:=[.sl 3 (f.map It.cells),.sl 3 ([(⟨1,t,0⟩:It)].map It.cells)]) (.cons (.refl _) (.cons (.lit _ _) .nil)) (mN f [⟨1,t,0⟩] (by omega) (by simp) (by omega) (by simp[aM];omega) _) ?_;simp only[Oe,VV,seval];refine ic (zs:=[.sl 3 ((normalize (f++[(⟨1,t,0⟩:It)])).map It.cells),.sl 3 ([x].map It.cells)]) (.cons (.refl _) (.cons (.lit _ _) .nil)) (mN _ [x] (by omega) (by simp) (by omega) (by simp[aM];omega) _) ?_;simp only[hw,VV,seval];refine fin _ _ _ _ (hT2.item rk qA) (by omega) (by omega) (by omega) ?_
    repeat' constructor
   ·have e2:(v==0)=false:=by simpa using zM
    have rl:=ml x hT.err;simp only[e2,Oe,VV,seval];refine ic (zs:=[.sl 3 (f.map It.cells),.sl 3 ([x].map It.cells)]) (.cons (.refl _) (.cons (.lit _ _) .nil)) (mN f [x] (by omega) (by simp) (by omega) (by simp[aM];omega) _) ?_;simp only[hw,VV,seval];refine fin _ _ _ _ (hT.item rk qA) (by omega) (by omega) (by omega) ?_
    repeat' constructor
theorem OY(S:ag)(a:Nat)(ha:a<S.length)(l:List Int)(k:Nat)(hk:k<2^50)(src:List It)(rk:bt [] src=0)(hlen:src.length≤100)(ZJ:aM src≤10000):
  PC prog 118 [.ptr a 0,.sl 3 (src.map It.cells)] (lA S a l k) (fun r σ'=>∃ (f:List It) (k':Nat),r=.sl 3 (f.map It.cells)∧bt [] f=0∧f.length≤2*src.length∧aM f≤aM src+20*src.length∧(k≤k'∧k'≤k+10*src.length)∧σ'=lA S a l k'):=by
 refine PC.intro func118 akE fun aQ cz=>aj ?_;simp only[adR,SS,seval];simp only[List.length_map,cF,VV,seval];refine bA.aW (fr':=[.ptr a 0,.sl 3 (src.map It.cells),u,u,u,.sl 3 (([]:List It).map It.cells),u,u,u,.i .i64 src.length,.i .i64 (([]:List It).length:Nat),u,u,u,u,u,u,u,u,u,u,u,u,u,u,u,u,u,u,u,u,u,u,u,u,u,u,u,u,u,u,u,u,u,u,u]) ?_ (src.length+1) (V5 S a ha l k hk aQ src rk hlen ZJ src [] [] k rfl Nk.nil (by simp) (by simp[aM]) (by simp) ?_)
 ·simp only[az,ah]
  repeat first | exact .nil | refine .cons (.refl _) ?_ | refine .cons (.nil _) ?_ | refine .cons (.forget _) ?_
 intro k' f hT h1 h2 h3;intros;simp only[VV,seval];exact ed (.inr rfl) rfl (Wk.refl _ _) (by simp[cF]) ⟨f,k',rfl,hT.err,h1,h2,h3,rfl⟩
theorem BL(its:List It)(hlen:its.length<2^40)(ht:aM its<2^40)(σ:ag):PC prog 216 [.sl 3 (its.map It.cells)] σ (fun r σ'=>r=.own σ.length 0∧σ'=σ++[.row 76 3 32 0 false ((normalize its).map It.cells)]):=by
 refine PC.intro func216 afm fun aQ cz=>aj ?_;simp only[YK,SS,seval];simp only[List.length_map,VV,seval];refine bA.wk ((Wk.gZ (k:=3) Ji rfl).trans (Wk.ej ?_)) (bA.pd (its.length+1) (Og its aQ hlen ht its [] [] 0 rfl (aB _) (aB _) ?_))
 ·simp only[VV,seval]
  repeat' constructor
 ·intro g;intros;simp only[VV,seval];have e:its.foldl cD []=normalize its:=oO its;rw[e];exact yz 0 aQ (.inr rfl) rfl rfl rfl (by simp[ES,Ob.gen]) (by simp[Pm.one,Vp,Ob.fresh])
theorem G2(a b:List It)(ha:a.length<2^39)(hb:b.length<2^39)(dY:aM a<2^39)(hbt:aM b<2^39)(σ:ag):PC prog 180 [.sl 3 (a.map It.cells),.sl 3 (b.map It.cells)] σ (fun r σ'=>r=.own σ.length 0∧σ'=σ++[.row 76 3 32 0 false ((normalize (a++b)).map It.cells)]):=by
 refine PC.intro func180 afn fun aQ cz=>aj ?_;simp only[YM,SS,seval];simp only[List.length_map,VV,seval];refine⟨by simp[maxLen];omega,by simp[maxLen];omega,?_⟩;refine oD σ.length (by simp only[gr];rfl) (BL (a++b) (by simp;omega) (by rw[eK];omega) _) (by simp[fz,kc,ev]) ?_;simp only[VV,seval];exact yz 1 aQ (.inr rfl) rfl rfl rfl (by simp[ES,Ob.gen]) (by simp[Pm.one,Vp,Ob.fresh])
theorem tX(s:List UInt8):(dm s).length≤s.length:=(wa s 32).1
def oQ:List (List UInt8):=[[110],[110,97,109,101],[120,49]]
def sS:List (List UInt8):=[[98,114],[105,109,103,32,97]]
def qq:List (List UInt8):=[[98],[105],[97,32,104,61,49]]
theorem u5:∀ s∈oQ,isName s=true∧s.length≤5:=by decide +kernel
theorem E9:∀ s∈sS,db s=true∧s.length≤5:=by decide +kernel
theorem Bo:∀ s∈qq,db s=true∧isName (dm s)=true∧s.length≤5:=by decide +kernel
def gG(g:Nat)(sh:Bool)(f:List It):Ob:=.row 76 3 32 g sh (f.map It.cells)
theorem Qz{S:ag}{a:Nat}{l:List Int}{k:Nat}{loc:ag}(aQ:bP (lA S a l k)){i j g1 g2:Nat}{sh1 sh2:Bool}{f o:List It}(Lu:i≠j)(h1:loc[i]?=some (gG g1 sh1 f))(h2:loc[j]?=some (gG g2 sh2 o))
  {xs ys:List V} (hx:Yi S.length loc [i,j] xs ys):Wk prog S.length xs (lA S a l k++loc) ys (lA S a l k++[gG 0 sh1 f,gG 0 sh2 o]):=by
 have:=Wk.SN (P:=prog) (xs:=xs) (ys:=ys) (σ:=lA S a l k) (loc:=loc) (os:=[gG 0 sh1 f,gG 0 sh2 o]) [i,j] aQ (by simpa using Lu) rfl (fun q k' hq=>by
  rcases q with _ | _ | q
  ·simp only[ao,aa]at hq;subst hq;exact⟨_,h1,rfl,rfl⟩
  ·simp only[bQ,ao,aa]at hq;subst hq;exact⟨_,h2,rfl,rfl⟩
  ·simp at hq) (by rw[cF];exact hx)
 rwa [cF]at this
set_option maxRecDepth 20000 in
theorem P6(S:ag)(a:Nat)(l:List Int)(k:Nat){K:Exit→St→Prop}(opn:List It)(Oy:opn.length≤100)(Ox:∀ y∈opn,y.text.length≤5)(id:Nat)(hid:id≤100)(g2:Nat):∀ (m:Nat) (cur f:List It) (g1:Nat),cur.length=m→(∃ d,opn=cur++d)→BD f cur id→f.length+m≤1000 →
  (∀ (f':List It) (g1:Nat),bt [] f'=0→f'.length=f.length+m→aM f'≤aM f+5*m→(∀ j0 j1 j2 j3 j4 j5 j6 j7 j8 cT cS cX cR cN cM cL cW df dn dx dy dD dI dH dG dX ez eA eH eW fg fi ft fw fG fM fL fK fX gi gF gR gQ il ix iV iU iT iS iR jo jn jm jK jY kx ku kt kH lB l9 mD nr nH nG nF pw pt pq po pn pk qD tH uT uS uR uQ uP uO uN uM uL uK uJ xu xt xr xq xp xo xn xl xk xj xi xh xg zb nZ nY qm ql rh sL sK sJ sI sH sG sF sE sD xM xL xK xJ xH xG xF xE xD xC xB xA xz xy xx xw Aw Av Au As Ar H5 H4 H3 H2 SR SQ,K (.exit 3) ⟨[j0,j1,j2,j3,j4,j5,j6,j7,j8,.own S.length g1,cT,cS,cX,cR,cN,cM,cL,cW,df,dn,dx,dy,dD,dI,dH,dG,dX,ez,eA,eH,eW,fg,fi,ft,fw,fG,fM,fL,fK,fX,gi,gF,gR,gQ,il,ix,iV,iU,iT,iS,iR,jo,jn,jm,jK,jY,kx,ku,kt,kH,lB,l9,mD,nr,nH,nG,nF,pw,pt,pq,po,pn,pk,qD,tH,uT,uS,uR,uQ,uP,uO,uN,uM,uL,uK,uJ,xu,xt,xr,xq,xp,xo,xn,xl,xk,xj,xi,xh,xg,zb,nZ,nY,qm,ql,rh,sL,sK,sJ,sI,sH,sG,sF,sE,sD,xM,xL,xK,xJ,xH,xG,xF,xE,xD,xC,xB,xA,xz,xy,xx,xw,Aw,Av,Au,As,Ar,H5,H4,H3,H2,SR,SQ],lA S a l k++[gG g1 false f',gG g2 false opn]⟩)) →
  fO S.length prog HG K (m+1) ⟨[u,u,u,.b true,u,u,u,u,u,.own S.length g1,.own (S.length+1) g2,u,u,u,u,.i .i64 ((m:Int) - 1),u,u,u,u,u,u,u,u,u,u,u,u,u,u,u,u,u,u,u,u,u,u,u,u,u,u,u,u,u,u,u,u,u,u,u,u,u,u,u,u,u,u,u,u,u,u,u,u,u,u,u,u,u,u,u,u,u,u,u,u,u,u,u,u,u,u,u,u,u,u,u,u,u,u,u,u,u,u,u,u,u,u,u,u,u,u,u,u,u,u,u,u,u,u,u,u,u,u,u,u,u,u,u,u,u,u,u,u,u,u,u,u,u,u,u,u,u,u,u,u,u,u,u,u,u],lA S a l k++[gG g1 false f,gG g2 false opn]⟩:=by
 intro m
 induction m with
 | zero =>
  intro cur f g1 hc _ hG hf h1;have e1:decide ((0:Int)≤((0:Nat):Int) - 1)=false:=rfl;refine ax fun R hR=>?_;simp only[HG,e1,VV,reduceIte,reduceCtorEq];exact h1 f g1 hG.err (by omega) (by omega) ..
 | succ m ih =>
  intro cur f g1 hc air hG hf h1;obtain⟨d,S8⟩:=air;rcases dQ cur with h0 | ⟨cur',y,h0⟩
  ·subst h0;simp at hc
  rw[dt]at h0;subst h0;have hc':cur'.length=m:=by simpa using hc
  subst hc';rw[List.append_assoc,r8]at S8;have e0:((cur'.length+1:Nat):Int) - 1=(cur'.length:Int):=by omega
  have Tk:opn.length=cur'.length+(d.length+1):=by rw[S8];simp
  have hw:IntKind.i64.wrap ((cur'.length:Int) - 1)=(cur'.length:Int) - 1:=IntWalk.i64_in _ (by omega);have dY:∀ j,fe (List.map It.cells opn) cur'.length j=y.cells[j]?:=fun j=>by rw[S8];exact lU
  have ZC:=Ox y (by rw[S8];simp);have Wr:=tX y.text;have hd:decide ((0:Int)≤(cur'.length:Int))=true:=by simp
  have F0:(0:Int)≤(cur'.length:Int)∧(cur'.length:Int)<((List.map It.cells opn).length:Int):=⟨by omega,by rw[List.length_map];omega⟩;obtain⟨OE,_⟩:=hG.close (by omega);rw[e0];refine ax fun R hR=>?_;simp only[HG,gG,hd,an,nb,dY,It.cells,VV,seval];refine⟨F0,F0,?_⟩;refine ai (rH y.text _) rfl ?_;simp only[Oe,nb,Kf,dY,It.cells,hw,List.length_map,VV,seval];refine⟨by omega,⟨by omega,by simp only[maxLen];omega⟩,?_⟩;have e3:f.map It.cells++[[V.i .i64 3,.s (dm y.text),.i .i64 y.id]]=(f++[(⟨3,dm y.text,y.id⟩:It)]).map It.cells:=by simp[It.cells]
  rw[e3];have ht3:aM (f++[⟨3,dm y.text,y.id⟩])=aM f+(dm y.text).length:=by simp[eK,aM]
  have hl3:(f++[(⟨3,dm y.text,y.id⟩:It)]).length=f.length+1:=by simp
  refine hR _ (aW ?_ (ih cur' _ (g1+1) rfl ⟨y::d,S8⟩ OE (by omega) fun f' g' q1 q2 q3=>h1 f' g' q1 (by omega) (by omega)))
  repeat' constructor
end Go.Proofs.Tryz
