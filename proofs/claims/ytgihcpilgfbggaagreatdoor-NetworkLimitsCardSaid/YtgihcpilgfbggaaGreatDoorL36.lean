/- A part of the proof that for every input the law NetworkLimits returns true and leaves its argument as it was. -/
import Derived.Test.YtgihcpilgfbggaaGreatDoorL14
import Derived.Test.YtgihcpilgfbggaaGreatDoorL18
import Derived.Test.YtgihcpilgfbggaaGreatDoorL20
import Derived.Test.YtgihcpilgfbggaaGreatDoorL21
import Derived.Test.YtgihcpilgfbggaaGreatDoorL24
import Derived.Test.YtgihcpilgfbggaaGreatDoorL30
import Derived.Test.YtgihcpilgfbggaaGreatDoorL32
import Derived.Test.YtgihcpilgfbggaaGreatDoorL34
set_option linter.all false

namespace Go.Proofs.Tryz
open Go Go.Pm Go.Bt
open Go.Pm.V(u)
theorem xq{a b:bc}(h:qN [eT a.aT.bP b.aT.bP,eT a.aT.number b.aT.number,eT a.aT.time b.aT.time,eT a.kind b.kind]=0):jo a b=fa (encode a).1 (encode b).1:=by
 simp only[jo,h,ne_eq,not_true,if_false]
theorem xr{a b:bc}(h:qN [eT a.aT.bP b.aT.bP,eT a.aT.number b.aT.number,eT a.aT.time b.aT.time,eT a.kind b.kind]≠0):
  jo a b=qN [eT a.aT.bP b.aT.bP,eT a.aT.number b.aT.number,eT a.aT.time b.aT.time,eT a.kind b.kind]:=by
 simp only[jo,if_pos h]
set_option maxHeartbeats 1000000 in
theorem lZ(a b:bc)(ha:a.small)(hb:b.small)(σ:ah):PC prog 65 [.agg a.cells,.agg b.cells] σ (fun r σ'=>r=.i .i64 (jo a b)∧σ'=σ):=by
 refine PC.intro func65 c65 fun aU da=>al ?_;simp only[p65,SS,seval];simp only[bc.cells,bY.cells,En.cells,VV,seval];refine⟨?_,?_⟩
 all_goals
  refine an (mf _ _ _) rfl ?_;simp only[VV,seval];refine an (mf _ _ _) rfl ?_;simp only[VV,seval];refine an (mf _ _ _) rfl ?_;simp only[VV,seval];refine an (mf _ _ _) rfl ?_;simp only[VV,seval];refine iv (zs:=[.sl 1 ([eT a.aT.bP b.aT.bP,eT a.aT.number b.aT.number,eT a.aT.time b.aT.time,eT a.kind b.kind].map bW)]) (.cons (.lit _ _) .nil) (F4 _ _) ?_;simp only[VV,seval];refine⟨fun h=>?_,fun h=>?_⟩
  ·have h:qN [eT a.aT.bP b.aT.bP,eT a.aT.number b.aT.number,eT a.aT.time b.aT.time,eT a.kind b.kind]≠0:=by simpa using h
   rw[xr h];exact aD aU (.inr rfl) (by simp only[RS,seval];rfl) (by simp only[LW]) ⟨rfl,rfl⟩
  ·have h:qN [eT a.aT.bP b.aT.bP,eT a.aT.number b.aT.number,eT a.aT.time b.aT.time,eT a.kind b.kind]=0:=by simpa using h
   rw[xq h];refine an (uP a ha _) rfl ?_;simp only[VV,seval];refine an (uP b hb _) rfl ?_;simp only[VV,seval];refine an (wc (encode a).1 (encode b).1 _) rfl ?_;simp only[VV,seval];exact aD aU (.inr rfl) (by simp only[RS,seval];rfl) (by simp only[LW]) ⟨rfl,rfl⟩
theorem Je(a b:bc)(ha:a.small)(hb:b.small)(σ:ah):PC prog 173 [.agg a.cells,.agg b.cells] σ (fun r σ'=>r=.b (Dk a b)∧σ'=σ):=by
 refine PC.intro func173 aag fun aU da=>al ?_;simp only[Vq,SS,seval];simp only[bc.cells,bY.cells,En.cells,VV,seval];refine an (vK a.aT b.aT _) rfl ?_;simp only[VV,seval];refine br (by simp only[VV,seval]<;>rfl) (fun _=>lZ a b ha hb _) rfl ?_;simp only[VV,seval];refine aD aU (.inr rfl) (by simp only[RS,seval];rfl) (by simp only[LW]) ⟨?_,rfl⟩;simp only[Pm.one,ar,aC,Dk,V.b.injEq]
 by_cases h1:0<jh a.aT b.aT<;>by_cases h2:jh a.aT b.aT=0<;>simp[h1,h2]
theorem O3{n:Nat}{σ:ah}{K:Exit→St→Prop}(q2 q3:V)(l:List Int)(hlen:l.length<2^62):∀ (rest pre:List Int),l=pre++rest →
  (qN rest=0→(∀ j0 j1 j4 j5 j6 j7 j8 j9 cC cH cG cF cB cE cD cI cQ db de dh dm dv du dt dN dR dU dX ej eD eL eQ eP fb fi fh fg fw fG fF fK fW gj gi gB gA gz gy gx gY gW gU iq iD iN iM iL iK jf jD jP kt kr kq k8,K (.exit 0) ⟨[j0,j1,q2,q3,j4,j5,j6,j7,j8,j9,cC,cH,cG,cF,cB,cE,cD,cI,cQ,db,de,dh,dm,dv,du,dt,dN,dR,dU,dX,ej,eD,eL,eQ,eP,fb,fi,fh,fg,fw,fG,fF,fK,fW,gj,gi,gB,gA,gz,gy,gx,gY,gW,gU,iq,iD,iN,iM,iL,iK,jf,jD,jP,kt,kr,kq,k8],σ⟩))→(qN rest≠0→(∀ j0 j1 j2 j3 j5 j6 j7 j8 j9 cC cH cG cF cB cE cD cI cQ db de dh dm dv du dt dN dR dU dX ej eD eL eQ eP fb fi fh fg fw fG fF fK fW gj gi gB gA gz gy gx gY gW gU iq iD iN iM iL iK jf jD jP kt kr kq k8,K .ret ⟨[j0,j1,j2,j3,.i .i64 (qN rest),j5,j6,j7,j8,j9,cC,cH,cG,cF,cB,cE,cD,cI,cQ,db,de,dh,dm,dv,du,dt,dN,dR,dU,dX,ej,eD,eL,eQ,eP,fb,fi,fh,fg,fw,fG,fF,fK,fW,gj,gi,gB,gA,gz,gy,gx,gY,gW,gU,iq,iD,iN,iM,iL,iK,jf,jD,jP,kt,kr,kq,k8],σ⟩)) →
  fp n prog BT K (rest.length+1) ⟨[u,u,q2,q3,u,u,u,u,u,u,u,u,u,u,u,u,u,u,u,u,u,u,u,u,u,u,u,u,u,u,u,u,u,u,u,u,u,.sl 1 (l.map bW),.i .i64 l.length,.i .i64 pre.length,u,u,u,u,u,u,u,u,u,u,u,u,u,u,u,u,u,u,u,u,u,u,u,u,u,u,u],σ⟩:=by
 intro rest
 induction rest with
 | nil =>
  intro pre he h1 _;have he:l=pre:=by simpa using he
  subst he;refine ay fun R hR=>?_;simp only[BT,VV,seval];exact⟨fun h=>by simp at h,fun _=>h1 rfl ..⟩
 | cons c rest ih =>
  intro pre he h1 h2;subst he;have er:ft (List.map bW (pre++c::rest)) pre.length 0=some (.i .i64 c):=o6
  have hw:IntKind.i64.wrap ((pre.length:Int)+1)=(((pre++[c]).length:Nat):Int):=by
   rw[aX (by simp at hlen;omega)];simp
  refine ay fun R hR=>?_;simp only[BT,aH,er,hw,ae,VV,seval];refine⟨fun _=>⟨by simp;omega,fun h=>?_,fun h=>?_⟩,fun h=>by simp at h<;>omega⟩
  ·have h:c≠0:=by simpa using h
   have e:qN (c::rest)=c:=by simp only[qN,if_pos h]
   rw[e]at h2;exact h2 h ..
  ·have h:c=0:=by simpa using h
   have e:qN (c::rest)=qN rest:=by simp only[qN,h,ne_eq,not_true,if_false]
   rw[e]at h1 h2;refine hR _ (bb ?_ (ih (pre++[c]) (by simp) h1 h2))
   repeat' constructor
theorem tW(a b:bc)(ha:a.small)(hb:b.small)(σ:ah):PC prog 150 [.agg a.cells,.agg b.cells] σ (fun r σ'=>r=.i .i64 (jo a b)∧σ'=σ):=by
 refine PC.intro func150 aav fun aU da=>al ?_;simp only[VF,SS,seval];simp only[bc.cells,bY.cells,En.cells,VV,seval];refine an (jw _ _ _) rfl ?_;simp only[VV,seval];refine an (jw _ _ _) rfl ?_;simp only[VV,seval];refine an (jw _ _ _) rfl ?_;simp only[VV,seval];refine an (jw _ _ _) rfl ?_;simp only[V.pure,VV,seval]
 refine bX.bb (fr':=[u,u,.ptr σ.length 0,.ptr (σ.length+1) 0,u,u,u,u,u,u,u,u,u,u,u,u,u,u,u,u,u,u,u,u,u,u,u,u,u,u,u,u,u,u,u,u,u,.sl 1 ([eT a.aT.bP b.aT.bP,eT a.aT.number b.aT.number,eT a.aT.time b.aT.time,eT a.kind b.kind].map bW),.i .i64 (4:Nat),.i .i64 (([]:List Int).length:Nat),u,u,u,u,u,u,u,u,u,u,u,u,u,u,u,u,u,u,u,u,u,u,u,u,u,u,u]) ?_ 5
  (O3 (.ptr σ.length 0) (.ptr (σ.length+1) 0) [eT a.aT.bP b.aT.bP,eT a.aT.number b.aT.number,eT a.aT.time b.aT.time,eT a.kind b.kind] (by simp) _ [] rfl (fun h=>?_) (fun h=>?_))
 ·repeat first | exact .nil | refine .cons (.refl _) ?_ | refine .cons (.lit _ _) ?_ | refine .cons (.forget _) ?_
 ·intros;simp only[VV,seval];refine an (sL a ha _) rfl ?_;simp only[VV,seval];refine an (sL b hb _) rfl ?_;simp only[jz,kK,VV,seval];rw[xq h];have hv:=AN (encode a).1 (encode b).1;have hz:=kn (a:=(encode a).1) (b:=(encode b).1);refine⟨fun h1=>?_,fun h1=>⟨fun h2=>?_,fun h2=>?_⟩⟩
  ·have e:fa (encode a).1 (encode b).1 = -1:=by have:=of_decide_eq_true h1;omega
   rw[e];exact aD aU (.inr rfl) (by simp only[RS,seval];rfl) (by simp only[LW]) ⟨rfl,rfl⟩
  ·have n1:=of_decide_eq_false h1;have n2:fa (encode a).1 (encode b).1≠0:=fun h0=>by rw[hz.1 h0]at h2;simp at h2
   have e:fa (encode a).1 (encode b).1=1:=by omega
   rw[e];exact aD aU (.inr rfl) (by simp only[RS,seval];rfl) (by simp only[LW]) ⟨rfl,rfl⟩
  ·have e:fa (encode a).1 (encode b).1=0:=by
    rw[h1]at h2;exact hz.2 (by simpa using h2)
   rw[e];exact aD aU (.inr rfl) (by simp only[RS,seval];rfl) (by simp only[LW]) ⟨rfl,rfl⟩
 ·intros;rw[xr h];exact aD aU (.inr rfl) (by simp only[RS,seval];rfl) (by simp only[LW]) ⟨rfl,rfl⟩
theorem F1(a b:bc)(ha:a.small)(hb:b.small)(σ:ah):PC prog 101 [.agg a.cells,.agg b.cells] σ (fun r σ'=>r=.b (Dk a b)∧σ'=σ):=by
 refine PC.intro func101 aaT fun aU da=>al ?_;simp only[V9,SS,seval];simp only[bc.cells,bY.cells,En.cells,VV,seval];refine an (qX a.aT b.aT _) rfl ?_;simp only[VV,seval];refine br (by simp only[VV,seval]<;>rfl) (fun _=>tW a b ha hb _) rfl ?_;simp only[VV,seval];refine aD aU (.inr rfl) (by simp only[RS,seval];rfl) (by simp only[LW]) ⟨?_,rfl⟩;simp only[Pm.one,ar,aC,Dk,V.b.injEq]
 by_cases h1:0<jh a.aT b.aT<;>by_cases h2:jh a.aT b.aT=0<;>simp[h1,h2]
theorem LK{σ:ah}{K:Exit→St→Prop}(out:List bc)(hlen:out.length≤1024)(hs:∀ o∈out,o.small)(x:bc)(l:List (List V))(n i:Int)(g:Nat):∀ (rest pre:List bc),out=pre++rest →
  (∀ j0 j1 j2 j4 j8 j9 cC cB cE cD cI cQ db de dh dm dv du dt dN dR dU dX ej eD eL eQ eP fb fi fh fg fw fG fF fK fW gj gi gB gA gz gy gx gY gW gU iq iD iN iM iL iK jf jD jP kt kr kq k8 mP mO mN mM mL mK,K (.exit 2) ⟨[j0,j1,j2,.own σ.length g,j4,.ptr (σ.length+1) 0,.s (bE x),.i .i64 (pre.length+ja (bE x) rest:Nat),j8,j9,cC,.sl 13 l,.i .i64 n,.i .i64 i,cB,cE,cD,cI,cQ,db,de,dh,dm,dv,du,dt,dN,dR,dU,dX,ej,eD,eL,eQ,eP,fb,fi,fh,fg,fw,fG,fF,fK,fW,gj,gi,gB,gA,gz,gy,gx,gY,gW,gU,iq,iD,iN,iM,iL,iK,jf,jD,jP,kt,kr,kq,k8,mP,mO,mN,mM,mL,mK],σ++[dY g false out,.box 65 x.cells]⟩) →
  fp σ.length prog Hs K (rest.length+1) ⟨[u,u,u,.own σ.length g,u,.ptr (σ.length+1) 0,.s (bE x),.i .i64 pre.length,u,u,u,.sl 13 l,.i .i64 n,.i .i64 i,u,u,u,u,u,u,u,u,u,u,u,u,u,u,u,u,u,u,u,u,u,u,u,u,u,u,u,u,u,u,u,u,u,u,u,u,u,u,u,u,u,u,u,u,u,u,u,u,u,u,u,u,u,u,u,u,u,u,u],σ++[dY g false out,.box 65 x.cells]⟩:=by
 intro rest
 induction rest with
 | nil =>
  intro pre he h1;have he:out=pre:=by simpa using he
  subst he;have hd:decide ((out.length:Int)<(out.length:Int))=false:=by simp
  simp only[ja,cn]at h1;refine ay fun R hR=>?_;simp only[Hs,dY,hd,ae,V.pure,VV,seval];refine⟨by simp,u,by simp,?_⟩;refine br (c:=false) (v:=.s []) (by simp only[VV,seval]<;>rfl) (fun h=>by simp at h) rfl ?_;simp only[VV,seval];exact h1 ..
 | cons y rest ih =>
  intro pre he h1;have hy:=hs y (by rw[he];simp);have H9:out.length=pre.length+(rest.length+1):=by rw[he];simp
  have hw:IntKind.i64.wrap ((pre.length:Int)+1)=(((pre++[y]).length:Nat):Int):=by
   rw[aX (by omega)];simp
  have er:(List.map bc.cells out).getD pre.length []=y.cells:=by rw[he];exact jj
  have hd:decide ((pre.length:Int)<(out.length:Int))=true:=by simp;omega
  refine ay fun R hR=>?_;simp only[Hs,dY,aH,er,hd,bc.cells,bY.cells,En.cells,ae,V.pure,VV,seval];refine⟨by omega,_,rfl,?_⟩;refine br (by simp only[VV,seval]<;>rfl) (fun _=>pT y hy _) rfl ?_;simp only[hw,VV,seval];simp only[ja]at h1;refine⟨fun h=>?_,fun h=>?_⟩
  ·rw[if_pos h]at h1;have e:pre.length+(ja (bE x) rest+1)=(pre++[y]).length+ja (bE x) rest:=by simp;omega
   rw[e]at h1;refine hR _ (bb ?_ (ih (pre++[y]) (by rw[he];simp) h1))
   repeat' constructor
  ·rw[h]at h1;simp only[aF,if_false,cn]at h1;exact h1 ..
theorem LJ{σ:ah}{K:Exit→St→Prop}(aU:bG σ)(l:List bc)(hlen:l.length≤1024)(hs:∀ o∈l,o.small):∀ (rest pre out:List bc) (g:Nat),l=pre++rest→out.length≤pre.length→(∀ o∈out,o∈l) →
  (∀ g,(∀ j0 j1 j2 j4 j5 j6 j7 j8 j9 cC cH cG cF cB cE cD cI cQ db de dh dm dv du dt dN dR dU dX ej eD eL eQ eP fb fi fh fg fw fG fF fK fW gj gi gB gA gz gy gx gY gW gU iq iD iN iM iL iK jf jD jP kt kr kq k8 mP mO mN mM mL mK,K (.exit 0) ⟨[j0,j1,j2,.own σ.length g,j4,j5,j6,j7,j8,j9,cC,cH,cG,cF,cB,cE,cD,cI,cQ,db,de,dh,dm,dv,du,dt,dN,dR,dU,dX,ej,eD,eL,eQ,eP,fb,fi,fh,fg,fw,fG,fF,fK,fW,gj,gi,gB,gA,gz,gy,gx,gY,gW,gU,iq,iD,iN,iM,iL,iK,jf,jD,jP,kt,kr,kq,k8,mP,mO,mN,mM,mL,mK],σ++[dY g false (rest.foldl nj out)]⟩)) →
  fp σ.length prog Hr K (rest.length+1) ⟨[u,u,u,.own σ.length g,u,u,u,u,u,u,u,.sl 13 (l.map bc.cells),.i .i64 l.length,.i .i64 pre.length,u,u,u,u,u,u,u,u,u,u,u,u,u,u,u,u,u,u,u,u,u,u,u,u,u,u,u,u,u,u,u,u,u,u,u,u,u,u,u,u,u,u,u,u,u,u,u,u,u,u,u,u,u,u,u,u,u,u,u],σ++[dY g false out]⟩:=by
 intro rest
 induction rest with
 | nil =>
  intro pre out g he ho hm h1;have he:l=pre:=by simpa using he
  subst he;refine ay fun R hR=>?_;simp only[Hr,VV,seval];exact⟨fun h=>by simp at h,fun _=>h1 g ..⟩
 | cons x rest ih =>
  intro pre out g he ho hm h1;have hx:x∈l:=by rw[he];simp
  have sx:=hs x hx;have H9:l.length=pre.length+(rest.length+1):=by rw[he];simp
  have hw:IntKind.i64.wrap ((pre.length:Int)+1)=(((pre++[x]).length:Nat):Int):=by
   rw[aX (by omega)];simp
  have er:(List.map bc.cells l).getD pre.length []=x.cells:=by rw[he];exact jj
  have hd:decide ((pre.length:Int)<(l.length:Int))=true:=by simp;omega
  refine IV fun R hR=>?_;simp only[Hr];refine bX.cut fun R1 Q5=>?_;simp only[hd,VV,seval];refine Q5 _ (bX.ic (fr':=[u,u,u,.own σ.length g,u,u,u,u,u,u,u,.sl 13 (l.map bc.cells),.i .i64 l.length,.i .i64 pre.length,.b true,u,u,u,u,u,u,u,u,u,u,u,u,u,u,u,u,u,u,u,u,u,u,u,u,u,u,u,u,u,u,u,u,u,u,u,u,u,u,u,u,u,u,u,u,u,u,u,u,u,u,u,u,u,u,u,u,u,u]) ?_ (by repeat' constructor));clear Q5 R1;refine bX.cut fun R1 Q5=>?_;simp only[VV,seval];refine Q5 _ ?_;clear Q5 R1;refine bX.XA fun R1 Q5=>?_
  have next:∀ (out':List bc) (k g':Nat) {loc:ah} {fr:List V},nj out x=out'→loc[k]?=some (dY g' false out') →
    nP fr [u,u,u,.own (σ.length+k) g',u,u,u,u,u,u,u,.sl 13 (l.map bc.cells),.i .i64 l.length,.i .i64 pre.length,u,u,u,u,u,u,u,u,u,u,u,u,u,u,u,u,u,u,u,u,u,u,u,u,u,u,u,u,u,u,u,u,u,u,u,u,u,u,u,u,u,u,u,u,u,u,u,u,u,u,u,u,u,u,u,u,u,u,u]→R1 ⟨fr,σ++loc⟩:=by
   intro out' k g' loc fr hr hk hc;have hl:=I0 out x;refine Q5 _ (bX.wk ((Wk.ic hc).trans (Wk.L7 (ys:=[u,u,u,.own σ.length 0,u,u,u,u,u,u,u,.sl 13 (l.map bc.cells),.i .i64 l.length,.i .i64 pre.length,u,u,u,u,u,u,u,u,u,u,u,u,u,u,u,u,u,u,u,u,u,u,u,u,u,u,u,u,u,u,u,u,u,u,u,u,u,u,u,u,u,u,u,u,u,u,u,u,u,u,u,u,u,u,u,u,u,u,u]) (os:=[dY 0 false out']) [k] aU (by simp) rfl (fun i k' hk'=>?_) ?_)) (al ?_))
   ·rcases i with _ | i
    ·simp only[ax,aa]at hk';subst hk';exact⟨_,hk,rfl,rfl⟩
    ·simp at hk'
   ·repeat first | exact .nil | refine .cons (.eO _ (by constructor)) ?_ | refine .cons (.own 0 k _ _ _ g' _ _ rfl hk) ?_
   simp only[hw,VV,seval];refine hR _ (bb ?_ (ih (pre++[x]) out' 0 (by rw[he];simp) (by rw[← hr];simp;omega) (fun o ho=>?_) ?_))
   ·repeat' constructor
   ·rw[← hr]at ho;rcases IZ ho with rfl | ho
    ·exact hx
    ·exact hm o ho
   ·rw[← hr];exact h1
  clear Q5;refine bX.iT ?_;refine bX.cut fun R2 Ay=>?_;simp only[dY,aH,er,hd,bc.cells,bY.cells,En.cells,ae,V.pure,VV,seval];refine⟨⟨by omega,by omega⟩,?_⟩;refine Ay _ (bX.ic (fr':=[u,u,u,.own σ.length g,u,.ptr (σ.length+1) 0,u,u,u,u,u,.sl 13 (l.map bc.cells),.i .i64 l.length,.i .i64 pre.length,u,u,u,u,u,u,u,u,u,u,u,u,u,u,u,u,u,u,u,u,u,u,u,u,u,u,u,u,u,u,u,u,u,u,u,u,u,u,u,u,u,u,u,u,u,u,u,u,u,u,u,u,u,u,u,u,u,u,u]) ?_ (by repeat' constructor));clear Ay R2;refine bX.cut fun R2 Ay=>?_;simp only[V.pure,VV,seval];refine an (pT x sx _) rfl ?_;simp only[VV,seval];refine Ay _ (bX.ic (fr':=[u,u,u,.own σ.length g,u,.ptr (σ.length+1) 0,.s (bE x),u,u,u,u,.sl 13 (l.map bc.cells),.i .i64 l.length,.i .i64 pre.length,u,u,u,u,u,u,u,u,u,u,u,u,u,u,u,u,u,u,u,u,u,u,u,u,u,u,u,u,u,u,u,u,u,u,u,u,u,u,u,u,u,u,u,u,u,u,u,u,u,u,u,u,u,u,u,u,u,u,u]) ?_ (by repeat' constructor));clear Ay R2;refine bX.cut fun R2 Ay=>?_;simp only[VV,seval];refine⟨fun h=>next out 0 g (by simp only[nj,if_pos (show bE x=[]by simpa using h)]) rfl (by repeat' constructor),fun h=>?_⟩;have js:¬ bE x=[]:=by simpa using h
  refine Ay _ ?_;clear Ay R2;refine bX.cut fun R2 Ay=>?_;simp only[VV,seval];refine Ay _ (bX.ic (fr':=[u,u,u,.own σ.length g,u,.ptr (σ.length+1) 0,.s (bE x),.i .i64 (([]:List bc).length:Nat),u,u,u,.sl 13 (l.map bc.cells),.i .i64 l.length,.i .i64 pre.length,u,u,u,u,u,u,u,u,u,u,u,u,u,u,u,u,u,u,u,u,u,u,u,u,u,u,u,u,u,u,u,u,u,u,u,u,u,u,u,u,u,u,u,u,u,u,u,u,u,u,u,u,u,u,u,u,u,u,u]) ?_ (by repeat' constructor));clear Ay R2;have WE:∀ o∈out,o.small:=fun o ho=>hs o (hm o ho);have hkp:=Aq (bE x) out;refine bX.XA fun R2 Ay=>?_;refine bX.iT (bX.ml (out.length+1) (LK out (by omega) WE x (l.map bc.cells) l.length pre.length g out [] rfl ?_));intros;simp only[ai,aI,VV,seval];refine Ay _ (bX.ic (fr':=[u,u,u,.own σ.length g,u,.ptr (σ.length+1) 0,.s (bE x),.i .i64 (ja (bE x) out:Nat),u,u,u,.sl 13 (l.map bc.cells),.i .i64 l.length,.i .i64 pre.length,u,u,u,u,u,u,u,u,u,u,u,u,u,u,u,u,u,u,u,u,u,u,u,u,u,u,u,u,u,u,u,u,u,u,u,u,u,u,u,u,u,u,u,u,u,u,u,u,u,u,u,u,u,u,u,u,u,u,u]) ?_ (by repeat' constructor));clear Ay R2;have jQ:=Ey (o:=x) (l:=out);have hold:=fun y=>Ex (o:=x) (l:=out) (y:=y);have H6:nj out x=ox x out:=by simp only[nj,if_neg js]
  generalize ja (bE x) out=k at hkp jQ hold ⊢;refine bX.cut fun R2 Ay=>?_
  have ins:(∀ y,out[k]?=some y→bE y≠bE x)→∀ {fr:List V},nP fr [u,u,u,.own σ.length g,u,.ptr (σ.length+1) 0,.s (bE x),.i .i64 k,u,u,u,.sl 13 (l.map bc.cells),.i .i64 l.length,.i .i64 pre.length,u,u,u,u,u,u,u,u,u,u,u,u,u,u,u,u,u,u,u,u,u,u,u,u,u,u,u,u,u,u,u,u,u,u,.b true,u,u,u,u,u,u,u,u,u,u,u,u,u,u,u,u,u,u,u,u,u,u,u,u]→R2 ⟨fr,σ++[dY g false out,.box 65 x.cells]⟩:=by
   intro hn fr hc;have hn:=jQ hn;rw[← H6]at hn;refine Ay _ (bX.ic (bX.Yw rfl (al ?_)) hc);have ht:(out.map bc.cells).take k=(out.take k).map bc.cells:=List.map_take.symm;have X9:((out.map bc.cells).drop k).take (out.length - k)=(out.drop k).map bc.cells:=by rw[← List.map_drop];exact cJ (by simp)
   have eC:(out.take k).length=k:=by simp;omega
   cases Y5:((out.take k).map bc.cells).isEmpty with
   | true =>
    have Ua:out.take k=[]:=by simpa using Y5
    simp only[dY,ht,Y5,aH,bc.cells,bY.cells,En.cells,ae,List.isEmpty_cons,aF,if_false,V.pure,maxLen,VV,Int.reduceBEq,Int.reduceBNe,Nat.reduceAdd,Nat.reduceSub,Nat.reduceLeDiff,Nat.reduceEqDiff,Int.reduceToNat,reduceIte,reduceCtorEq];simp only[X9,eC,List.length_append,ae,bB,VV,Int.reduceBEq,Int.reduceBNe,Nat.reduceAdd,Nat.reduceSub,Nat.reduceLeDiff,Nat.reduceEqDiff,Int.reduceToNat,reduceIte,reduceCtorEq];refine⟨by omega,by omega,by omega,by omega,by omega,by omega,by omega,?_⟩;rw[Ua]at hn;exact next _ 2 1 hn (by simp[dY,bc.cells,bY.cells,En.cells]) (by repeat' constructor)
   | false =>
    simp only[dY,ht,Y5,aH,bc.cells,bY.cells,En.cells,ae,aF,if_false,V.pure,maxLen,VV,seval];simp only[X9,eC,List.length_append,ae,bB,VV,seval];refine⟨by omega,by omega,by omega,by omega,by omega,by omega,by omega,?_⟩;exact next _ 2 2 hn (by simp[dY,bc.cells,bY.cells,En.cells]) (by repeat' constructor)
  have els:∀ y,out[k]?=some y→bE y=bE x→∀ {fr:List V},nP fr [u,u,u,.own σ.length g,u,.ptr (σ.length+1) 0,.s (bE x),.i .i64 k,u,u,u,.sl 13 (l.map bc.cells),.i .i64 l.length,.i .i64 pre.length,u,u,u,u,u,u,u,u,u,u,u,u,u,u,u,u,u,u,u,u,u,u,u,u,u,u,u,u,u,u,u,u,u,u,.b false,u,u,u,u,u,u,u,u,u,u,u,u,u,u,u,u,u,u,u,u,u,u,u,u]→R2 ⟨fr,σ++[dY g false out,.box 65 x.cells]⟩:=by
   intro y hy T3 fr hc;have hn:=hold y hy T3;rw[← H6]at hn;refine Ay _ (bX.ic (bX.Yx rfl (al ?_)) hc);have rG:=(ab.1 hy).1;have PH:(List.map bc.cells out).getD k []=y.cells:=by rw[List.getD_eq_getElem?_getD,bg,hy];rfl
   simp only[dY,aH,PH,bc.cells,bY.cells,En.cells,ae,V.pure,maxLen,VV,seval];refine⟨by omega,?_⟩;refine an (F1 x y sx (WE y (aN hy)) _) rfl ?_;simp only[dY,aH,PH,bc.cells,bY.cells,En.cells,ae,V.pure,maxLen,VV,seval];refine⟨fun h=>⟨by omega,rG,next (out.set k x) 0 g (by rw[hn,if_pos h]) ?_ (by repeat' constructor)⟩,fun h=>next out 0 g (by rw[hn,if_neg (by rw[h];simp)]) rfl (by repeat' constructor)⟩;simp[dY,List.map_set,bc.cells,bY.cells,En.cells]
  clear Ay
  by_cases hk:k=out.length
  ·simp only[hk]at ins;simp only[hk,dY,aH,ae,V.pure,maxLen,VV,seval];refine⟨by simp,u,by simp,?_⟩;refine br (c:=false) (v:=.s []) (by simp only[VV,seval]<;>rfl) (fun h=>by simp at h) rfl ?_;simp only[VV,seval];exact ins (by simp) (by repeat' constructor)
  ·have rG:k<out.length:=by omega
   obtain⟨y,hy⟩:∃ y,out[k]?=some y:=⟨_,ao rG⟩;have PH:(List.map bc.cells out).getD k []=y.cells:=by rw[List.getD_eq_getElem?_getD,bg,hy];rfl
   have uJ:((k:Int)==(out.length:Int))=false:=by simp;omega
   simp only[uJ,PH,dY,aH,bc.cells,bY.cells,En.cells,ae,V.pure,maxLen,VV,seval];refine⟨by omega,_,rfl,?_⟩;refine br (by simp only[VV,seval]<;>rfl) (fun _=>pT y (WE y (aN hy)) _) rfl ?_;simp only[VV,seval]
   by_cases T3:bE y=bE x
   ·have e:(!bE y==bE x)=false:=by simp[T3]
    simp only[e];exact els y hy T3 (by repeat' constructor)
   ·have e:(!bE y==bE x)=true:=by simp[T3]
    simp only[e];refine ins (fun z hz=>?_) (by repeat' constructor);rw[hy]at hz;simp only[aa]at hz;rw[← hz];exact T3
theorem y5(l:List bc)(hs:∀ o∈l,o.small)(σ:ah):PC prog 72 [.sl 13 (l.map bc.cells)] σ (fun r σ'=>r=.sl 13 ((current l).map bc.cells)∧σ'=σ):=by
 refine PC.intro func72 c72 fun aU da=>al ?_;rw[← DO];simp only[p72,SS,seval];simp only[ae,VV,seval];refine⟨fun h=>?_,fun h=>?_⟩
 ·have h:1024<l.length:=by simp at h;omega
  refine ei (xs':=[.sl 13 []]) (.inr rfl) (by simp only[kh,tV,VV,seval]) (Wk.ic (.cons (.nil _) .nil)) rfl ?_;simp only[pO,if_pos h];exact⟨rfl,by trivial⟩
 ·have h:¬ 1024<l.length:=by simp at h;omega
  refine bX.wk ((Wk.iZ (P:=prog) (σ:=σ) (k:=3) FD rfl).trans (Wk.ic ?_)) (bX.ml (l.length+1) (LJ aU l (by omega) hs l [] [] 0 rfl (by simp) (by simp) ?_))
  ·simp only[VV,seval]
   repeat' constructor
  ·intro g;intros;simp only[VV,seval];refine iy 0 aU (.inr rfl) (by simp only[RS,seval];rfl) rfl ?_ ?_
   ·simp only[aW,aZ,cn,fz,kF,and_self,if_true,LW]
   ·simp only[aW,aZ,cn,fz,kF,and_self,if_true,pO,if_neg h];exact⟨rfl,trivial⟩
theorem R9{σ:ah}{K:Exit→St→Prop}(l:List bc)(aU:bG σ)(hlen:l.length≤1024):∀ (rest pre:List bc) (out:List En) (g:Nat),l=pre++rest→out.length+rest.length≤l.length →
  (∀ g,(∀ j0 j1 j2 j4 j5 j6 j7 j8 j9 cC cH cG cF cB cE cD cI cQ db de dh dm,K (.exit 0) ⟨[j0,j1,j2,.own σ.length g,j4,j5,j6,j7,j8,j9,cC,cH,cG,cF,cB,cE,cD,cI,cQ,db,de,dh,dm],σ++[.row 34 8 128 g false ((out++(rest.filter fun o=>o.kind==1).map (·.entry)).map En.cells)]⟩)) →
  fp σ.length prog DZ K (rest.length+1) ⟨[u,u,u,.own σ.length g,u,u,u,.sl 13 (l.map bc.cells),.i .i64 l.length,.i .i64 pre.length,u,u,u,u,u,u,u,u,u,u,u,u,u],σ++[.row 34 8 128 g false (out.map En.cells)]⟩:=by
 intro rest
 induction rest with
 | nil =>
  intro pre out g he ho h1;have he:l=pre:=by simpa using he
  subst he;refine ay fun R hR=>?_;simp only[DZ,VV,seval];simp only[Qz,aZ,bt]at h1;exact⟨fun h=>by simp at h,fun _=>h1 g ..⟩
 | cons x rest ih =>
  intro pre out g he ho h1;subst he;simp only[ag]at ho
  have next:∀ (out':List En) (g':Nat) {loc:ah},out'.length≤out.length+1→out++((x::rest).filter fun o=>o.kind==1).map (·.entry)=out'++(rest.filter fun o=>o.kind==1).map (·.entry)→∀ {R:St→Prop} {fr:List V},(∀ st',fp σ.length prog DZ K (rest.length+1) st'→R st') →
    nP fr [u,u,u,.own σ.length g',u,u,u,.sl 13 ((pre++x::rest).map bc.cells),.i .i64 (pre++x::rest).length,.i .i64 (IntKind.i64.wrap ((pre.length:Int)+1)),u,u,u,u,u,u,u,u,u,u,u,u,u]→R ⟨fr,σ++(.row 34 8 128 g' false (out'.map En.cells)::loc)⟩:=by
   intro out' g' loc hl hw R fr hR hc
   have e1:IntKind.i64.wrap ((pre.length:Int)+1)=(((pre++[x]).length:Nat):Int):=by
    rw[aX (by simp at hlen;omega)];simp
   rw[e1]at hc;rw[hw]at h1;refine hR _ (cy [_] loc (b9 aU (by simp)) hc ?_ (ih (pre++[x]) out' g' (by simp) (by omega) h1));simp only[LW,ag,ai,aI];omega
  refine ay fun R hR=>?_;simp only[DZ,bc.cells,bY.cells,En.cells,VV,seval];refine⟨fun _=>⟨by simp;omega,?_⟩,fun h=>by simp at h<;>omega⟩;refine⟨fun h=>?_,fun h=>?_⟩
  ·simp only[ae,maxLen,V.pure,VV,seval];refine⟨by simp at ho hlen;omega,?_⟩
   have e0:(out.map En.cells++[[.sl 3 (x.entry.source.map It.cells),.sl 3 (x.entry.target.map It.cells),.s x.entry.bN,.s x.entry.next,.s x.entry.cw,.s x.entry.bV,.i .i64 x.entry.created,.i .i64 x.entry.origin]])=(out++[x.entry]).map En.cells:=by
    simp[En.cells]
   rw[e0];refine next (out++[x.entry]) (g+1) (by simp) (by simp[h]) hR ?_
   repeat' constructor
  ·refine next out g (by omega) (by simp[h]) hR ?_
   repeat' constructor
theorem w9(l:List bc)(hs:∀ o∈l,o.small)(σ:ah):PC prog 45 [.sl 13 (l.map bc.cells)] σ (fun r σ'=>r=.sl 8 ((eK l).map En.cells)∧σ'=σ):=by
 refine PC.intro func45 c45 fun aU da=>al ?_;simp only[p45,SS,seval];simp only[VV,seval];refine an (y5 l hs _) rfl ?_;simp only[ae,VV,seval];have hlen:=qx l;refine bX.wk ((Wk.iZ (σ:=σ) (k:=3) (P:=prog) (E:=34) (kY (by kernel_rfl)) rfl).trans (Wk.ic ?_)) (bX.ml ((current l).length+1) (R9 (current l) aU (by omega) (current l) [] [] 0 rfl (by simp) ?_))
 ·simp only[W,seval]
  repeat' constructor
 ·intro g;intros;simp only[VV,seval];refine iy 0 aU (.inr rfl) rfl rfl ?_ ?_
  ·simp only[ar,aC,aW,aZ,cn,fz,kF,and_self,if_true,LW]
  ·simp only[ar,aC,aW,aZ,cn,fz,kF,and_self,if_true];exact⟨rfl,trivial⟩
end Go.Proofs.Tryz
