/- A part of the proof of the statement of the last text of this claim; its conditions stand there. -/
import Derived.Test.YtkkjfegefckehaaGreatDoorB25
import Derived.Test.YtkkjfegefckehaaGreatDoorB30
import Derived.Test.YtkkjfegefckehaaGreatDoorB33
set_option linter.all false

namespace Go.Proofs.Tryz
open Go Go.Pm Go.Bt
open Go.Pm.V(u)
theorem C7{a b:aJ}(h:rz [eV a.aA.aS b.aA.aS,eV a.aA.number b.aA.number,eV a.aA.time b.aA.time,eV a.kind b.kind]=0):mP a b=fS (encode a).1 (encode b).1:=by
 simp only[mP,h,ne_eq,not_true,if_false]
theorem C8{a b:aJ}(h:rz [eV a.aA.aS b.aA.aS,eV a.aA.number b.aA.number,eV a.aA.time b.aA.time,eV a.kind b.kind]≠0):
  mP a b=rz [eV a.aA.aS b.aA.aS,eV a.aA.number b.aA.number,eV a.aA.time b.aA.time,eV a.kind b.kind]:=by
 simp only[mP,if_pos h]
set_option maxHeartbeats 1000000 in
theorem su(a b:aJ)(ha:a.small)(hb:b.small)(σ:ag):PC prog 62 [.agg a.cells,.agg b.cells] σ (fun r σ'=>r=.i .i64 (mP a b)∧σ'=σ):=by
 refine PC.intro func62 c62 fun aQ cz=>aj ?_;simp only[p62,SS,seval];simp only[aJ.cells,bc.cells,En.cells,VV,seval];refine⟨?_,?_⟩
 all_goals
  refine ai (pD _ _ _) rfl ?_;simp only[VV,seval];refine ai (pD _ _ _) rfl ?_;simp only[VV,seval];refine ai (pD _ _ _) rfl ?_;simp only[VV,seval];refine ai (pD _ _ _) rfl ?_;simp only[VV,seval];refine ic (zs:=[.sl 1 ([eV a.aA.aS b.aA.aS,eV a.aA.number b.aA.number,eV a.aA.time b.aA.time,eV a.kind b.kind].map bj)]) (.cons (.lit _ _) .nil) (Mi _ _) ?_;simp only[VV,seval];refine⟨fun h=>?_,fun h=>?_⟩
  ·have h:rz [eV a.aA.aS b.aA.aS,eV a.aA.number b.aA.number,eV a.aA.time b.aA.time,eV a.kind b.kind]≠0:=by simpa using h
   rw[C8 h];exact aG aQ (.inr rfl) (by simp only[RS,seval];rfl) (by simp only[LW]) ⟨rfl,rfl⟩
  ·have h:rz [eV a.aA.aS b.aA.aS,eV a.aA.number b.aA.number,eV a.aA.time b.aA.time,eV a.kind b.kind]=0:=by simpa using h
   rw[C7 h];refine ai (v8 a ha _) rfl ?_;simp only[VV,seval];refine ai (v8 b hb _) rfl ?_;simp only[VV,seval];refine ai (BX (encode a).1 (encode b).1 _) rfl ?_;simp only[VV,seval];exact aG aQ (.inr rfl) (by simp only[RS,seval];rfl) (by simp only[LW]) ⟨rfl,rfl⟩
theorem PJ(a b:aJ)(ha:a.small)(hb:b.small)(σ:ag):PC prog 220 [.agg a.cells,.agg b.cells] σ (fun r σ'=>r=.b (l8 a b)∧σ'=σ):=by
 refine PC.intro func220 ajv fun aQ cz=>aj ?_;simp only[acG,SS,seval];simp only[aJ.cells,bc.cells,En.cells,VV,seval];refine ai (BF a.aA b.aA _) rfl ?_;simp only[VV,seval];refine bg (by simp only[VV,seval]<;>rfl) (fun _=>su a b ha hb _) rfl ?_;simp only[VV,seval];refine aG aQ (.inr rfl) (by simp only[RS,seval];rfl) (by simp only[LW]) ⟨?_,rfl⟩;simp only[Pm.one,l8,V.b.injEq]
 by_cases h1:0<iq a.aA b.aA<;>by_cases h2:iq a.aA b.aA=0<;>simp[h1,h2]
theorem Zh{n:Nat}{σ:ag}{K:Exit→St→Prop}(q2 q3:V)(l:List Int)(hlen:l.length<2^62):∀ (rest pre:List Int),l=pre++rest →
  (rz rest=0→(∀ j0 j1 j4 j5 j6 j7 j8 j9 cT cS cX cR cN cM cL cW df dn dx dy dD dI dH dG dX ez eA eH eW fg fi ft fw fG fM fL fK fX gi gF gR gQ il ix iV iU iT iS iR jo jn jm jK jY kx ku kt kH lB l9 mD nr nH nG nF,K (.exit 0) ⟨[j0,j1,q2,q3,j4,j5,j6,j7,j8,j9,cT,cS,cX,cR,cN,cM,cL,cW,df,dn,dx,dy,dD,dI,dH,dG,dX,ez,eA,eH,eW,fg,fi,ft,fw,fG,fM,fL,fK,fX,gi,gF,gR,gQ,il,ix,iV,iU,iT,iS,iR,jo,jn,jm,jK,jY,kx,ku,kt,kH,lB,l9,mD,nr,nH,nG,nF],σ⟩))→(rz rest≠0→(∀ j0 j1 j2 j3 j5 j6 j7 j8 j9 cT cS cX cR cN cM cL cW df dn dx dy dD dI dH dG dX ez eA eH eW fg fi ft fw fG fM fL fK fX gi gF gR gQ il ix iV iU iT iS iR jo jn jm jK jY kx ku kt kH lB l9 mD nr nH nG nF,K .ret ⟨[j0,j1,j2,j3,.i .i64 (rz rest),j5,j6,j7,j8,j9,cT,cS,cX,cR,cN,cM,cL,cW,df,dn,dx,dy,dD,dI,dH,dG,dX,ez,eA,eH,eW,fg,fi,ft,fw,fG,fM,fL,fK,fX,gi,gF,gR,gQ,il,ix,iV,iU,iT,iS,iR,jo,jn,jm,jK,jY,kx,ku,kt,kH,lB,l9,mD,nr,nH,nG,nF],σ⟩)) →
  fO n prog NT K (rest.length+1) ⟨[u,u,q2,q3,u,u,u,u,u,u,u,u,u,u,u,u,u,u,u,u,u,u,u,u,u,u,u,u,u,u,u,u,u,u,u,u,u,.sl 1 (l.map bj),.i .i64 l.length,.i .i64 pre.length,u,u,u,u,u,u,u,u,u,u,u,u,u,u,u,u,u,u,u,u,u,u,u,u,u,u,u],σ⟩:=by
 intro rest
 induction rest with
 | nil =>
  intro pre he h1 _;have he:l=pre:=by simpa using he
  subst he;refine ax fun R hR=>?_;simp only[NT,VV,seval];exact⟨fun h=>by simp at h,fun _=>h1 rfl ..⟩
 | cons c rest ih =>
  intro pre he h1 h2;subst he;have dY:fe (List.map bj (pre++c::rest)) pre.length 0=some (.i .i64 c):=lU
  have hw:IntKind.i64.wrap ((pre.length:Int)+1)=(((pre++[c]).length:Nat):Int):=by
   rw[aV (by simp at hlen;omega)];simp
  refine ax fun R hR=>?_;simp only[NT,an,dY,hw,List.length_map,VV,seval];refine⟨fun _=>⟨by simp;omega,fun h=>?_,fun h=>?_⟩,fun h=>by simp at h<;>omega⟩
  ·have h:c≠0:=by simpa using h
   have e:rz (c::rest)=c:=by simp only[rz,if_pos h]
   rw[e]at h2;exact h2 h ..
  ·have h:c=0:=by simpa using h
   have e:rz (c::rest)=rz rest:=by simp only[rz,h,ne_eq,not_true,if_false]
   rw[e]at h1 h2;refine hR _ (aW ?_ (ih (pre++[c]) (by simp) h1 h2))
   repeat' constructor
theorem rI(a b:aJ)(ha:a.small)(hb:b.small)(σ:ag):PC prog 70 [.agg a.cells,.agg b.cells] σ (fun r σ'=>r=.i .i64 (mP a b)∧σ'=σ):=by
 refine PC.intro func70 c70 fun aQ cz=>aj ?_;simp only[p70,SS,seval];simp only[aJ.cells,bc.cells,En.cells,VV,seval];refine ai (lN _ _ _) rfl ?_;simp only[VV,seval];refine ai (lN _ _ _) rfl ?_;simp only[VV,seval];refine ai (lN _ _ _) rfl ?_;simp only[VV,seval];refine ai (lN _ _ _) rfl ?_;simp only[V.pure,VV,seval]
 refine bA.aW (fr':=[u,u,.ptr σ.length 0,.ptr (σ.length+1) 0,u,u,u,u,u,u,u,u,u,u,u,u,u,u,u,u,u,u,u,u,u,u,u,u,u,u,u,u,u,u,u,u,u,.sl 1 ([eV a.aA.aS b.aA.aS,eV a.aA.number b.aA.number,eV a.aA.time b.aA.time,eV a.kind b.kind].map bj),.i .i64 (4:Nat),.i .i64 (([]:List Int).length:Nat),u,u,u,u,u,u,u,u,u,u,u,u,u,u,u,u,u,u,u,u,u,u,u,u,u,u,u]) ?_ 5
  (Zh (.ptr σ.length 0) (.ptr (σ.length+1) 0) [eV a.aA.aS b.aA.aS,eV a.aA.number b.aA.number,eV a.aA.time b.aA.time,eV a.kind b.kind] (by simp) _ [] rfl (fun h=>?_) (fun h=>?_))
 ·repeat first | exact .nil | refine .cons (.refl _) ?_ | refine .cons (.lit _ _) ?_ | refine .cons (.forget _) ?_
 ·intros;simp only[VV,seval];refine ai (pe a ha _) rfl ?_;simp only[VV,seval];refine ai (pe b hb _) rfl ?_;simp only[gK,gL,VV,seval];rw[C7 h];have hv:=Gk (encode a).1 (encode b).1;have hz:=lZ (a:=(encode a).1) (b:=(encode b).1);refine⟨fun h1=>?_,fun h1=>⟨fun h2=>?_,fun h2=>?_⟩⟩
  ·have e:fS (encode a).1 (encode b).1 = -1:=by have:=of_decide_eq_true h1;omega
   rw[e];exact aG aQ (.inr rfl) (by simp only[RS,seval];rfl) (by simp only[LW]) ⟨rfl,rfl⟩
  ·have n1:=of_decide_eq_false h1;have n2:fS (encode a).1 (encode b).1≠0:=fun h0=>by rw[hz.1 h0]at h2;simp at h2
   have e:fS (encode a).1 (encode b).1=1:=by omega
   rw[e];exact aG aQ (.inr rfl) (by simp only[RS,seval];rfl) (by simp only[LW]) ⟨rfl,rfl⟩
  ·have e:fS (encode a).1 (encode b).1=0:=by
    rw[h1]at h2;exact hz.2 (by simpa using h2)
   rw[e];exact aG aQ (.inr rfl) (by simp only[RS,seval];rfl) (by simp only[LW]) ⟨rfl,rfl⟩
 ·intros;rw[C8 h];exact aG aQ (.inr rfl) (by simp only[RS,seval];rfl) (by simp only[LW]) ⟨rfl,rfl⟩
theorem CM(a b:aJ)(ha:a.small)(hb:b.small)(σ:ag):PC prog 31 [.agg a.cells,.agg b.cells] σ (fun r σ'=>r=.b (l8 a b)∧σ'=σ):=by
 refine PC.intro func31 c31 fun aQ cz=>aj ?_;simp only[p31,SS,seval];simp only[aJ.cells,bc.cells,En.cells,VV,seval];refine ai (wg a.aA b.aA _) rfl ?_;simp only[VV,seval];refine bg (by simp only[VV,seval]<;>rfl) (fun _=>rI a b ha hb _) rfl ?_;simp only[VV,seval];refine aG aQ (.inr rfl) (by simp only[RS,seval];rfl) (by simp only[LW]) ⟨?_,rfl⟩;simp only[Pm.one,l8,V.b.injEq]
 by_cases h1:0<iq a.aA b.aA<;>by_cases h2:iq a.aA b.aA=0<;>simp[h1,h2]
theorem P5{σ:ag}{K:Exit→St→Prop}(out:List aJ)(hlen:out.length≤1024)(hs:∀ o∈out,o.small)(x:aJ)(l:List (List V))(n i:Int)(g:Nat):∀ (rest pre:List aJ),out=pre++rest →
  (∀ j0 j1 j2 j4 j8 j9 cT cN cM cL cW df dn dx dy dD dI dH dG dX ez eA eH eW fg fi ft fw fG fM fL fK fX gi gF gR gQ il ix iV iU iT iS iR jo jn jm jK jY kx ku kt kH lB l9 mD nr nH nG nF pw pt pq po pn pk,K (.exit 2) ⟨[j0,j1,j2,.own σ.length g,j4,.ptr (σ.length+1) 0,.s (bE x),.i .i64 (pre.length+k8 (bE x) rest:Nat),j8,j9,cT,.sl 13 l,.i .i64 n,.i .i64 i,cN,cM,cL,cW,df,dn,dx,dy,dD,dI,dH,dG,dX,ez,eA,eH,eW,fg,fi,ft,fw,fG,fM,fL,fK,fX,gi,gF,gR,gQ,il,ix,iV,iU,iT,iS,iR,jo,jn,jm,jK,jY,kx,ku,kt,kH,lB,l9,mD,nr,nH,nG,nF,pw,pt,pq,po,pn,pk],σ++[dR g false out,.box 29 x.cells]⟩) →
  fO σ.length prog C4 K (rest.length+1) ⟨[u,u,u,.own σ.length g,u,.ptr (σ.length+1) 0,.s (bE x),.i .i64 pre.length,u,u,u,.sl 13 l,.i .i64 n,.i .i64 i,u,u,u,u,u,u,u,u,u,u,u,u,u,u,u,u,u,u,u,u,u,u,u,u,u,u,u,u,u,u,u,u,u,u,u,u,u,u,u,u,u,u,u,u,u,u,u,u,u,u,u,u,u,u,u,u,u,u,u],σ++[dR g false out,.box 29 x.cells]⟩:=by
 intro rest
 induction rest with
 | nil =>
  intro pre he h1;have he:out=pre:=by simpa using he
  subst he;have hd:decide ((out.length:Int)<(out.length:Int))=false:=by simp
  simp only[k8,bC]at h1;refine ax fun R hR=>?_;simp only[C4,dR,hd,List.length_map,VV,seval];refine⟨by simp,u,by simp,?_⟩;refine bg (c:=false) (v:=.s []) (by simp only[VV,seval]<;>rfl) (fun h=>by simp at h) rfl ?_;simp only[VV,seval];exact h1 ..
 | cons y rest ih =>
  intro pre he h1;have hy:=hs y (by rw[he];simp);have E1:out.length=pre.length+(rest.length+1):=by rw[he];simp
  have hw:IntKind.i64.wrap ((pre.length:Int)+1)=(((pre++[y]).length:Nat):Int):=by
   rw[aV (by omega)];simp
  have dY:(List.map aJ.cells out).getD pre.length []=y.cells:=by rw[he];exact ki
  have hd:decide ((pre.length:Int)<(out.length:Int))=true:=by simp;omega
  refine ax fun R hR=>?_;simp only[C4,dR,an,dY,hd,aJ.cells,bc.cells,En.cells,List.length_map,VV,seval];refine⟨by omega,_,rfl,?_⟩;refine bg (by simp only[VV,seval]<;>rfl) (fun _=>uv y hy _) rfl ?_;simp only[hw,VV,seval];simp only[k8]at h1;refine⟨fun h=>?_,fun h=>?_⟩
  ·rw[if_pos h]at h1;have e:pre.length+(k8 (bE x) rest+1)=(pre++[y]).length+k8 (bE x) rest:=by simp;omega
   rw[e]at h1;refine hR _ (aW ?_ (ih (pre++[y]) (by rw[he];simp) h1))
   repeat' constructor
  ·rw[h]at h1;simp only[aD,if_false,bC]at h1;exact h1 ..
theorem P4{σ:ag}{K:Exit→St→Prop}(aQ:bP σ)(l:List aJ)(hlen:l.length≤1024)(hs:∀ o∈l,o.small):∀ (rest pre out:List aJ) (g:Nat),l=pre++rest→out.length≤pre.length→(∀ o∈out,o∈l) →
  (∀ g,(∀ j0 j1 j2 j4 j5 j6 j7 j8 j9 cT cS cX cR cN cM cL cW df dn dx dy dD dI dH dG dX ez eA eH eW fg fi ft fw fG fM fL fK fX gi gF gR gQ il ix iV iU iT iS iR jo jn jm jK jY kx ku kt kH lB l9 mD nr nH nG nF pw pt pq po pn pk,K (.exit 0) ⟨[j0,j1,j2,.own σ.length g,j4,j5,j6,j7,j8,j9,cT,cS,cX,cR,cN,cM,cL,cW,df,dn,dx,dy,dD,dI,dH,dG,dX,ez,eA,eH,eW,fg,fi,ft,fw,fG,fM,fL,fK,fX,gi,gF,gR,gQ,il,ix,iV,iU,iT,iS,iR,jo,jn,jm,jK,jY,kx,ku,kt,kH,lB,l9,mD,nr,nH,nG,nF,pw,pt,pq,po,pn,pk],σ++[dR g false (rest.foldl qK out)]⟩)) →
  fO σ.length prog Hy K (rest.length+1) ⟨[u,u,u,.own σ.length g,u,u,u,u,u,u,u,.sl 13 (l.map aJ.cells),.i .i64 l.length,.i .i64 pre.length,u,u,u,u,u,u,u,u,u,u,u,u,u,u,u,u,u,u,u,u,u,u,u,u,u,u,u,u,u,u,u,u,u,u,u,u,u,u,u,u,u,u,u,u,u,u,u,u,u,u,u,u,u,u,u,u,u,u,u],σ++[dR g false out]⟩:=by
 intro rest
 induction rest with
 | nil =>
  intro pre out g he ho hm h1;have he:l=pre:=by simpa using he
  subst he;refine ax fun R hR=>?_;simp only[Hy,VV,seval];exact⟨fun h=>by simp at h,fun _=>h1 g ..⟩
 | cons x rest ih =>
  intro pre out g he ho hm h1;have hx:x∈l:=by rw[he];simp
  have sx:=hs x hx;have E1:l.length=pre.length+(rest.length+1):=by rw[he];simp
  have hw:IntKind.i64.wrap ((pre.length:Int)+1)=(((pre++[x]).length:Nat):Int):=by
   rw[aV (by omega)];simp
  have dY:(List.map aJ.cells l).getD pre.length []=x.cells:=by rw[he];exact ki
  have hd:decide ((pre.length:Int)<(l.length:Int))=true:=by simp;omega
  refine Af fun R hR=>?_;simp only[Hy];refine bA.cut fun R1 Ir=>?_;simp only[hd,VV,seval];refine Ir _ (bA.ej (fr':=[u,u,u,.own σ.length g,u,u,u,u,u,u,u,.sl 13 (l.map aJ.cells),.i .i64 l.length,.i .i64 pre.length,.b true,u,u,u,u,u,u,u,u,u,u,u,u,u,u,u,u,u,u,u,u,u,u,u,u,u,u,u,u,u,u,u,u,u,u,u,u,u,u,u,u,u,u,u,u,u,u,u,u,u,u,u,u,u,u,u,u,u,u]) ?_ (by repeat' constructor));clear Ir R1;refine bA.cut fun R1 Ir=>?_;simp only[VV,seval];refine Ir _ ?_;clear Ir R1;refine bA.T0 fun R1 Ir=>?_
  have next:∀ (out':List aJ) (k g':Nat) {loc:ag} {fr:List V},qK out x=out'→loc[k]?=some (dR g' false out') →
    pH fr [u,u,u,.own (σ.length+k) g',u,u,u,u,u,u,u,.sl 13 (l.map aJ.cells),.i .i64 l.length,.i .i64 pre.length,u,u,u,u,u,u,u,u,u,u,u,u,u,u,u,u,u,u,u,u,u,u,u,u,u,u,u,u,u,u,u,u,u,u,u,u,u,u,u,u,u,u,u,u,u,u,u,u,u,u,u,u,u,u,u,u,u,u,u]→R1 ⟨fr,σ++loc⟩:=by
   intro out' k g' loc fr hr hk hc;have hl:=Pk out x;refine Ir _ (bA.wk ((Wk.ej hc).trans (Wk.SN (ys:=[u,u,u,.own σ.length 0,u,u,u,u,u,u,u,.sl 13 (l.map aJ.cells),.i .i64 l.length,.i .i64 pre.length,u,u,u,u,u,u,u,u,u,u,u,u,u,u,u,u,u,u,u,u,u,u,u,u,u,u,u,u,u,u,u,u,u,u,u,u,u,u,u,u,u,u,u,u,u,u,u,u,u,u,u,u,u,u,u,u,u,u,u]) (os:=[dR 0 false out']) [k] aQ (by simp) rfl (fun i k' hk'=>?_) ?_)) (aj ?_))
   ·rcases i with _ | i
    ·simp only[ao,aa]at hk';subst hk';exact⟨_,hk,rfl,rfl⟩
    ·simp at hk'
   ·repeat first | exact .nil | refine .cons (.bY _ (by constructor)) ?_ | refine .cons (.own 0 k _ _ _ g' _ _ rfl hk) ?_
   simp only[hw,VV,seval];refine hR _ (aW ?_ (ih (pre++[x]) out' 0 (by rw[he];simp) (by rw[← hr];simp;omega) (fun o ho=>?_) ?_))
   ·repeat' constructor
   ·rw[← hr]at ho;rcases Pj ho with rfl | ho
    ·exact hx
    ·exact hm o ho
   ·rw[← hr];exact h1
  clear Ir;refine bA.lf ?_;refine bA.cut fun R2 Ek=>?_;simp only[dR,an,dY,aJ.cells,bc.cells,En.cells,List.length_map,VV,seval];refine⟨⟨by omega,by omega⟩,?_⟩;refine Ek _ (bA.ej (fr':=[u,u,u,.own σ.length g,u,.ptr (σ.length+1) 0,u,u,u,u,u,.sl 13 (l.map aJ.cells),.i .i64 l.length,.i .i64 pre.length,u,u,u,u,u,u,u,u,u,u,u,u,u,u,u,u,u,u,u,u,u,u,u,u,u,u,u,u,u,u,u,u,u,u,u,u,u,u,u,u,u,u,u,u,u,u,u,u,u,u,u,u,u,u,u,u,u,u,u]) ?_ (by repeat' constructor));clear Ek R2;refine bA.cut fun R2 Ek=>?_;simp only[VV,seval];refine ai (uv x sx _) rfl ?_;simp only[VV,seval];refine Ek _ (bA.ej (fr':=[u,u,u,.own σ.length g,u,.ptr (σ.length+1) 0,.s (bE x),u,u,u,u,.sl 13 (l.map aJ.cells),.i .i64 l.length,.i .i64 pre.length,u,u,u,u,u,u,u,u,u,u,u,u,u,u,u,u,u,u,u,u,u,u,u,u,u,u,u,u,u,u,u,u,u,u,u,u,u,u,u,u,u,u,u,u,u,u,u,u,u,u,u,u,u,u,u,u,u,u,u]) ?_ (by repeat' constructor));clear Ek R2;refine bA.cut fun R2 Ek=>?_;simp only[VV,seval];refine⟨fun h=>next out 0 g (by simp only[qK,if_pos (show bE x=[]by simpa using h)]) rfl (by repeat' constructor),fun h=>?_⟩;have iQ:¬ bE x=[]:=by simpa using h
  refine Ek _ ?_;clear Ek R2;refine bA.cut fun R2 Ek=>?_;simp only[VV,seval];refine Ek _ (bA.ej (fr':=[u,u,u,.own σ.length g,u,.ptr (σ.length+1) 0,.s (bE x),.i .i64 (([]:List aJ).length:Nat),u,u,u,.sl 13 (l.map aJ.cells),.i .i64 l.length,.i .i64 pre.length,u,u,u,u,u,u,u,u,u,u,u,u,u,u,u,u,u,u,u,u,u,u,u,u,u,u,u,u,u,u,u,u,u,u,u,u,u,u,u,u,u,u,u,u,u,u,u,u,u,u,u,u,u,u,u,u,u,u,u]) ?_ (by repeat' constructor));clear Ek R2;have XY:∀ o∈out,o.small:=fun o ho=>hs o (hm o ho);have hkp:=FU (bE x) out;refine bA.T0 fun R2 Ek=>?_;refine bA.lf (bA.pd (out.length+1) (P5 out (by omega) XY x (l.map aJ.cells) l.length pre.length g out [] rfl ?_));intros;simp only[ah,aK,VV,seval];refine Ek _ (bA.ej (fr':=[u,u,u,.own σ.length g,u,.ptr (σ.length+1) 0,.s (bE x),.i .i64 (k8 (bE x) out:Nat),u,u,u,.sl 13 (l.map aJ.cells),.i .i64 l.length,.i .i64 pre.length,u,u,u,u,u,u,u,u,u,u,u,u,u,u,u,u,u,u,u,u,u,u,u,u,u,u,u,u,u,u,u,u,u,u,u,u,u,u,u,u,u,u,u,u,u,u,u,u,u,u,u,u,u,u,u,u,u,u,u]) ?_ (by repeat' constructor));clear Ek R2;have lQ:=Ky (o:=x) (l:=out);have hold:=fun y=>Kx (o:=x) (l:=out) (y:=y);have Ov:qK out x=rU x out:=by simp only[qK,if_neg iQ]
  generalize k8 (bE x) out=k at hkp lQ hold ⊢;refine bA.cut fun R2 Ek=>?_
  have ins:(∀ y,out[k]?=some y→bE y≠bE x)→∀ {fr:List V},pH fr [u,u,u,.own σ.length g,u,.ptr (σ.length+1) 0,.s (bE x),.i .i64 k,u,u,u,.sl 13 (l.map aJ.cells),.i .i64 l.length,.i .i64 pre.length,u,u,u,u,u,u,u,u,u,u,u,u,u,u,u,u,u,u,u,u,u,u,u,u,u,u,u,u,u,u,u,u,u,u,.b true,u,u,u,u,u,u,u,u,u,u,u,u,u,u,u,u,u,u,u,u,u,u,u,u]→R2 ⟨fr,σ++[dR g false out,.box 29 x.cells]⟩:=by
   intro hn fr hc;have hn:=lQ hn;rw[← Ov]at hn;refine Ek _ (bA.ej (bA.ahZ rfl (aj ?_)) hc);have ht:(out.map aJ.cells).take k=(out.take k).map aJ.cells:=List.map_take.symm;have Z1:((out.map aJ.cells).drop k).take (out.length - k)=(out.drop k).map aJ.cells:=by rw[← List.map_drop];exact bJ (by simp)
   have fk:(out.take k).length=k:=by simp;omega
   cases ZV:((out.take k).map aJ.cells).isEmpty with
   | true =>
    have hk0:out.take k=[]:=by simpa using ZV
    simp only[dR,ht,ZV,an,aJ.cells,bc.cells,En.cells,List.length_map,rv,aD,if_false,V.pure,maxLen,VV,Nat.reduceAdd,Int.reduceToNat,reduceIte];simp only[Z1,fk,List.length_map,bH];refine⟨by omega,by omega,by omega,by omega,by omega,by omega,by omega,?_⟩;rw[hk0]at hn;exact next _ 2 1 hn (by simp[dR,aJ.cells,bc.cells,En.cells]) (by repeat' constructor)
   | false =>
    simp only[dR,ht,ZV,an,aJ.cells,bc.cells,En.cells,List.length_map,aD,V.pure,maxLen,VV,seval];simp only[Z1,fk,List.length_append,List.length_map,bH,VV,seval];refine⟨by omega,by omega,by omega,by omega,by omega,by omega,by omega,?_⟩;exact next _ 2 2 hn (by simp[dR,aJ.cells,bc.cells,En.cells]) (by repeat' constructor)
  have els:∀ y,out[k]?=some y→bE y=bE x→∀ {fr:List V},pH fr [u,u,u,.own σ.length g,u,.ptr (σ.length+1) 0,.s (bE x),.i .i64 k,u,u,u,.sl 13 (l.map aJ.cells),.i .i64 l.length,.i .i64 pre.length,u,u,u,u,u,u,u,u,u,u,u,u,u,u,u,u,u,u,u,u,u,u,u,u,u,u,u,u,u,u,u,u,u,u,.b false,u,u,u,u,u,u,u,u,u,u,u,u,u,u,u,u,u,u,u,u,u,u,u,u]→R2 ⟨fr,σ++[dR g false out,.box 29 x.cells]⟩:=by
   intro y hy XX fr hc;have hn:=hold y hy XX;rw[← Ov]at hn;refine Ek _ (bA.ej (bA.ah0 rfl (aj ?_)) hc);have tJ:=(ae.1 hy).1;have WL:(List.map aJ.cells out).getD k []=y.cells:=by rw[List.getD_eq_getElem?_getD,aZ,hy];rfl
   simp only[dR,an,WL,aJ.cells,bc.cells,En.cells,List.length_map,VV,seval];refine⟨by omega,?_⟩;refine ai (CM x y sx (XY y (bh hy)) _) rfl ?_;simp only[an,WL,aJ.cells,bc.cells,En.cells,List.length_map,V.pure,VV,seval];refine⟨fun h=>⟨by omega,tJ,next (out.set k x) 0 g (by rw[hn,if_pos h]) ?_ (by repeat' constructor)⟩,fun h=>next out 0 g (by rw[hn,if_neg (by rw[h];simp)]) rfl (by repeat' constructor)⟩;simp[dR,List.map_set,aJ.cells,bc.cells,En.cells]
  clear Ek
  by_cases hk:k=out.length
  ·simp only[hk]at ins;simp only[hk,dR,an,List.length_map,VV,seval];refine⟨by simp,u,by simp,?_⟩;refine bg (c:=false) (v:=.s []) (by simp only[VV,seval]<;>rfl) (fun h=>by simp at h) rfl ?_;simp only[VV,seval];exact ins (by simp) (by repeat' constructor)
  ·have tJ:k<out.length:=by omega
   obtain⟨y,hy⟩:∃ y,out[k]?=some y:=⟨_,aw tJ⟩;have WL:(List.map aJ.cells out).getD k []=y.cells:=by rw[List.getD_eq_getElem?_getD,aZ,hy];rfl
   have Az:((k:Int)==(out.length:Int))=false:=by simp;omega
   simp only[Az,WL,dR,an,aJ.cells,bc.cells,En.cells,List.length_map,VV,seval];refine⟨by omega,_,rfl,?_⟩;refine bg (by simp only[VV,seval]<;>rfl) (fun _=>uv y (XY y (bh hy)) _) rfl ?_;simp only[VV,seval]
   by_cases XX:bE y=bE x
   ·have e:(!bE y==bE x)=false:=by simp[XX]
    simp only[e];exact els y hy XX (by repeat' constructor)
   ·have e:(!bE y==bE x)=true:=by simp[XX]
    simp only[e];refine ins (fun z hz=>?_) (by repeat' constructor);rw[hy]at hz;simp only[aa]at hz;rw[← hz];exact XX
theorem EK(l:List aJ)(hs:∀ o∈l,o.small)(σ:ag):PC prog 130 [.sl 13 (l.map aJ.cells)] σ (fun r σ'=>r=.sl 13 ((current l).map aJ.cells)∧σ'=σ):=by
 refine PC.intro func130 aku fun aQ cz=>aj ?_;rw[← JG];simp only[adF,SS,seval];simp only[List.length_map,VV,seval];refine⟨fun h=>?_,fun h=>?_⟩
 ·have h:1024<l.length:=by simp at h;omega
  refine ed (xs':=[.sl 13 []]) (.inr rfl) (by simp only[kO,sj,VV,seval]) (Wk.ej (.cons (.nil _) .nil)) rfl ?_;simp only[uh,if_pos h];exact⟨rfl,by trivial⟩
 ·have h:¬ 1024<l.length:=by simp at h;omega
  refine bA.wk ((Wk.gZ (P:=prog) (σ:=σ) (k:=3) Cm rfl).trans (Wk.ej ?_)) (bA.pd (l.length+1) (P4 aQ l (by omega) hs l [] [] 0 rfl (by simp) (by simp) ?_))
  ·simp only[VV,seval]
   repeat' constructor
  ·intro g;intros;simp only[VV,seval];refine gg 0 aQ (.inr rfl) (by simp only[RS,seval];rfl) rfl ?_ ?_
   ·simp only[ay,az,bC,fz,kc,and_self,if_true,LW]
   ·simp only[ay,az,bC,fz,kc,and_self,if_true,uh,if_neg h];exact⟨rfl,trivial⟩
theorem Zb{σ:ag}{K:Exit→St→Prop}(l:List aJ)(aQ:bP σ)(hlen:l.length≤1024):∀ (rest pre:List aJ) (out:List En) (g:Nat),l=pre++rest→out.length+rest.length≤l.length →
  (∀ g,(∀ j0 j1 j2 j4 j5 j6 j7 j8 j9 cT cS cX cR cN cM cL cW df dn dx dy dD,K (.exit 0) ⟨[j0,j1,j2,.own σ.length g,j4,j5,j6,j7,j8,j9,cT,cS,cX,cR,cN,cM,cL,cW,df,dn,dx,dy,dD],σ++[.row 27 8 128 g false ((out++(rest.filter fun o=>o.kind==1).map (·.entry)).map En.cells)]⟩)) →
  fO σ.length prog JV K (rest.length+1) ⟨[u,u,u,.own σ.length g,u,u,u,.sl 13 (l.map aJ.cells),.i .i64 l.length,.i .i64 pre.length,u,u,u,u,u,u,u,u,u,u,u,u,u],σ++[.row 27 8 128 g false (out.map En.cells)]⟩:=by
 intro rest
 induction rest with
 | nil =>
  intro pre out g he ho h1;have he:l=pre:=by simpa using he
  subst he;refine ax fun R hR=>?_;simp only[JV,VV,seval];simp only[mZ,az,bf]at h1;exact⟨fun h=>by simp at h,fun _=>h1 g ..⟩
 | cons x rest ih =>
  intro pre out g he ho h1;subst he;simp only[ab]at ho
  have next:∀ (out':List En) (g':Nat) {loc:ag},out'.length≤out.length+1→out++((x::rest).filter fun o=>o.kind==1).map (·.entry)=out'++(rest.filter fun o=>o.kind==1).map (·.entry)→∀ {R:St→Prop} {fr:List V},(∀ st',fO σ.length prog JV K (rest.length+1) st'→R st') →
    pH fr [u,u,u,.own σ.length g',u,u,u,.sl 13 ((pre++x::rest).map aJ.cells),.i .i64 (pre++x::rest).length,.i .i64 (IntKind.i64.wrap ((pre.length:Int)+1)),u,u,u,u,u,u,u,u,u,u,u,u,u]→R ⟨fr,σ++(.row 27 8 128 g' false (out'.map En.cells)::loc)⟩:=by
   intro out' g' loc hl hw R fr hR hc
   have e1:IntKind.i64.wrap ((pre.length:Int)+1)=(((pre++[x]).length:Nat):Int):=by
    rw[aV (by simp at hlen;omega)];simp
   rw[e1]at hc;rw[hw]at h1;refine hR _ (cH [_] loc (bU aQ (by simp)) hc ?_ (ih (pre++[x]) out' g' (by simp) (by omega) h1));simp only[LW,ab,ah,aK];omega
  refine ax fun R hR=>?_;simp only[JV,aJ.cells,bc.cells,En.cells,VV,seval];refine⟨fun _=>⟨by simp;omega,?_⟩,fun h=>by simp at h<;>omega⟩;refine⟨fun h=>?_,fun h=>?_⟩
  ·simp only[List.length_map,maxLen,seval];refine⟨by simp at ho hlen;omega,?_⟩
   have e0:(out.map En.cells++[[.sl 3 (x.entry.source.map It.cells),.sl 3 (x.entry.target.map It.cells),.s x.entry.bS,.s x.entry.next,.s x.entry.cQ,.s x.entry.cn,.i .i64 x.entry.created,.i .i64 x.entry.origin]])=(out++[x.entry]).map En.cells:=by
    simp[En.cells]
   rw[e0];refine next (out++[x.entry]) (g+1) (by simp) (by simp[h]) hR ?_
   repeat' constructor
  ·refine next out g (by omega) (by simp[h]) hR ?_
   repeat' constructor
theorem uu(l:List aJ)(hs:∀ o∈l,o.small)(σ:ag):PC prog 77 [.sl 13 (l.map aJ.cells)] σ (fun r σ'=>r=.sl 8 ((cq l).map En.cells)∧σ'=σ):=by
 refine PC.intro func77 c77 fun aQ cz=>aj ?_;simp only[p77,SS,seval];simp only[VV,seval];refine ai (EK l hs _) rfl ?_;simp only[List.length_map,VV,seval];have hlen:=vh l;refine bA.wk ((Wk.gZ (σ:=σ) (k:=3) (P:=prog) (E:=27) (nR (by kernel_rfl)) rfl).trans (Wk.ej ?_)) (bA.pd ((current l).length+1) (Zb (current l) aQ (by omega) (current l) [] [] 0 rfl (by simp) ?_))
 ·simp only[W,seval]
  repeat' constructor
 ·intro g;intros;simp only[VV,seval];refine gg 0 aQ (.inr rfl) rfl rfl ?_ ?_
  ·simp only[aE,aT,ay,az,bC,fz,kc,and_self,if_true,LW]
  ·simp only[aE,aT,ay,az,bC,fz,kc,and_self,if_true];exact⟨rfl,trivial⟩
end Go.Proofs.Tryz
