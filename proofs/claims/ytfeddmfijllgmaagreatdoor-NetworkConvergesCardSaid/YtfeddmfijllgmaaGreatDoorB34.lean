/- A part of a proof; the claim's last text says of what. -/
import Derived.Test.YtfeddmfijllgmaaGreatDoorB33
set_option linter.all false
set_option maxHeartbeats 2000000
open Option renaming some->S
open Bool renaming true->θ,false->G
open Go.Proofs.Tryz renaming prog->κ
open List renaming length->Y

namespace Go.Proofs.Tryz
open Go Go.Pm Go.Bt Go.Sort Go.Shelf
variable(R:Int)(n:Nat)(X:Net)(l:List aV)(T:aj)(U:gh){k:Nat}{Q:V}{x:aV}{J:aj}{K:bL}{o:bO}
def Zb:SWO (ltOf λ(i j:Fin l.length)=>iq l[i] l[j]):=by
 refine⟨λx=>?_,λx y z c e=>?_,λx y z c e=>?_⟩;.simp only[ltOf,iX,lu.self];omega
 .simp only[ltOf,bE]at *;have g:=lu.mY l[x] l[y];have f:=lu.mY l[y] l[z];have h:=lu.mY l[x] l[z];have:=lu.gt (a:=l[z]) (b:=l[y]) (d:=l[x]) (by omega) (by omega);omega
 simp only[ltOf,iX]at *;have:=lu.trans l[x] l[y] l[z] (by omega) (by omega);omega
def abj(b:∀x∈l,fc x=0/\x.azU)(f:Y l<2^30)(id g:Nat)(J:aj)(h1:J[id]?=S (gl g G l)): PC κ 114 [.own id g,.fn 117 []] J (λr a=>r=.jg []/\a=J.set id (gl g G (qf l))):=by refine PC.mono (PC.abh Tryz.abe (k:=13) Tryz.isAgg57 Tryz.sizeOf57 aV.azR (λx=>by simp[aV.azR,cL.azR,En.azR]) (by omega) iq (enters_of func117 (by kernel_rfl) rfl) l (λx c y i=>(uD x y (b x c).2 (b y i).2 _).mono λr a h=>h.1) (Zb l) f h1) ?_;rintro r a ⟨j,e,d,rfl,rfl⟩;exact⟨rfl,by rw[yu b e d];rfl⟩
def akw(y:bT J)(b:Ob)(r:bT (J++[b]))(a k:Nat)(e:List bO)(m:J[a]?=S (bC k e))(p:Y e<2^30)(x:Y (cI e)<2^30):∀(d c:List bO) (g:Nat),e=c++d ->(∀g,((fj 3 (fh (.own (Y J+1) g) (fj 18 fo))) λs=>K (.exit 0) ⟨s,J++[b,gl g G (cI e)]⟩)) ->gw (Y J) κ Xe K (Y d+1) ⟨(uu 3 (.own (Y J+1) g::uu 3 (.own a k::.I (Y e)::.I (Y c)::uu 12 []))),J++[b,gl g G (cI c)]⟩:=by
 have i:∀l:aj,(J++l)[a]?=S (.row 61 6 80 k G (e.map bO.azR)):=λl=>zb m;intro d;induction d with
 |nil =>intro c g f j;have f:=dL f;subst f;refine az λR q=>?_;simp only[Xe,VV,seval];exact⟨λh=>by simp at h,λ_=>j g ..⟩
 |cons o d ih =>
 intro c g f j;have A:=gY f;have u:=dD c o (by omega);have n:(e.map bO.azR).getD c.length []=o.azR:=by rw[f];exact dR
 have z:Y (cI c)+Y o.azS<=Y (cI e):=by rw[f];simp[cI]
 have v:(0:Int)<=(Y c:Int):=by omega
 have t:(Y c:Int)<(Y e:Int):=by omega
 simp only[bO.azR]at n;refine az λR q=>?_;simp only[Xe,gl,i,n,v,t,u,bt,aa,ak,V.pure,maxLen,VV,seval];have w:(cI c).map aV.azR++o.azS.map aV.azR=(cI (c++[o])).map aV.azR:=by simp[cI]
 rw[w];refine⟨⟨by omega,by omega⟩,q _ (cn [b,gl (g+1) G (cI (c++[o]))] [_] ?_ ?_ ?_ (ih (c++[o]) (g+1) (by rw[f];simp) j))⟩;.have:=cj r (l:=[gl (g+1) G (cI (c++[o]))]) (by simp[gl]);simpa using this
 .repeat' constructor
 simp only[LW,ae,ai,aG];have:=(ag.1 m).1;omega
def Sw(b:List bO)(q:∀o∈b,∀x∈o.azS,fc x=0/\x.azU)(f:Y b<2^30)(j:Y (cI b)<2^30)(a d:Nat)(J:aj)(h:J[a]?=S (bC d b)): bh κ 61 [.agg [.own a d,.nil,.nil]] J (.sl 13 ((ff b).map aV.azR)):=by
 refine aW func61 p61.2 λm u=>aq ?_;have w:=(ag.1 h).1;have i:∀l:aj,(J++l)[a]?=S (.row 61 6 80 d G (b.map bO.azR)):=λl=>zb h;simp only[p61,SS,seval];have n:J[a]?=S (.row 61 6 80 d G (b.map bO.azR)):=h;have p:bT (J++[.box 29 [.own a d,.nil,.nil]]):=cj m (by simp only[bF,bD,cA,cW,cK,LW];omega);simp only[i,n,ao,aa,VV,seval];refine cB.wk (((Wk.fw (ys:=(uu 3 (.nil::uu 3 (.own a d::.I (Y b)::.I (Y ([]:List bO):Nat)::uu 12 [])))) ?_).trans (Wk.ph (P:=κ) (k:=3) [_] NT rfl)).trans (Wk.fw ?_)) (cB.kT (Y b+1) (akw m _ p a d b h f j b [] 0 rfl ?_));.repeat' constructor
 .simp only[VV,seval];repeat' constructor
 intro g;simp only[JE];intros;have e:∀x∈cI b,fc x=0/\x.azU:=λx c=>by simp only[cI,qa]at c;obtain⟨o,t,c⟩:=c;exact q o t x c
 simp only[VV,seval];refine al (abj (cI b) e j _ g _ (by simp only[VV,seval])) rfl ?_;simp only[VV,seval];refine dZ (VP 119 (by kernel_rfl) _ (λx y c s J=>U9 x y c s J) (qf (cI b)) (λx c=>(e x (u0.1 c)).2) (by rw[Ml];exact j) _ g _ (by simp only[VV,seval])) rfl ?_;rintro r v ⟨z,rfl,rfl⟩;simp only[gl,VV,seval];refine iw 1 m (.inr rfl) (by simp only[RS,seval];rfl) rfl ?_ ?_;.simp only[aI,ar,Pm.fz,kE,cG,aU,LW]
 simp only[aI,ar,Pm.fz,kE,cG,aU];exact⟨rfl,trivial⟩
open Go.RowKit
def cAt(a:Nat):Nat->Nat:=λo=>if o=n then a else 0
def aal{l:List aV}{n:Nat}(i:n<2^40)(h1:∀j:Nat,j<n->∃x∈l,oh x=((k:Int),(j:Int)+1))(f:∀x∈l,∃j:Nat,j<n/\oh x=((k:Int),(j:Int)+1)):s9 l (cAt k n):=by
 refine⟨λo _=>?_,λo _ j a=>?_,λo _ x d b=>?_⟩;.unfold cAt;split<;>omega
 .unfold cAt at a;split at a;.rename_i h;subst h;exact h1 j a
  omega
 obtain⟨j,a,c⟩:=f x d;rw[c]at b;simp only[bm]at b;obtain⟨g,e⟩:=b;have:k=o:=by omega
 subst this;simp only[cAt,aU]at e;omega
def Ae(b:Int)(J:aj):bh κ 105 [.I R,.I b] J (.agg (cF (gj R b))):=by refine aW func105 aqj.2 λa c=>aq ?_;simp only[aqj,SS,seval];simp only[VV,seval];exact bA a (.inr rfl) (by simp only[RS,seval];rfl) (by simp[LW]) ⟨rfl,rfl⟩
def abL(a b:Int×Int)(J:aj):bh κ 106 [.agg (cF a),.agg (cF b)] J (.b (uw a b)):=by
 refine aW func106 aqi.2 λh i=>aq ?_;simp only[aqi,SS,seval];obtain⟨d,j⟩:=a;obtain⟨c,k⟩:=b;simp only[cF,uw];cases g:decide (d<c)
 .cases e:(d==c)
  .have f:decide (d=c)=G:=by simpa using e
   simp only[g,e,f,VV,seval];exact bA h (.inr rfl) rfl (by simp[LW]) ⟨rfl,rfl⟩
  have f:decide (d=c)=θ:=by simpa using e
  simp only[g,e,f,VV,seval];exact bA h (.inr rfl) rfl (by simp[LW]) ⟨rfl,rfl⟩
 simp only[g,VV,seval];exact bA h (.inr rfl) rfl (by simp[LW]) ⟨rfl,rfl⟩
def ahb(r:bT J)(l:gh)(a b:Int)(o:Y l<2^62):∀(e d:gh),l=d++e->d.any (λc=>c==gj a b)=G ->(l.any (λc=>c==gj a b)=G->((fj 22 fo) λg=>K (.exit 0) ⟨g,J⟩))->(l.any (λc=>c==gj a b)=θ->∀m,((fj 6 (fh (.b θ) (fj 15 fo))) λg=>K .ret ⟨g,J++m⟩)) ->gw (Y J) κ Pw K (Y e+1) ⟨(uu 1 (.I a::.I b::uu 7 (.sl 2 (l.map cF)::.I (Y l)::.I (Y d)::uu 9 []))),J⟩:=by
 intro e;induction e with
 |nil =>intro d f j k i;have f:=dL f;subst f;refine az λR p=>?_;simp only[Pw,VV,seval];exact⟨λh=>by simp at h,λ_=>k j ..⟩
 |cons y e ih =>
 intro d f j k i;have u:=gY f;have n:=dD d y (by omega);have q:(List.map cF l).getD d.length []=[.I y.1,.I y.2]:=by rw[f];exact dR
 have s:decide ((Y d:Int)<(Y l:Int))=θ:=by simp;omega
 refine az λR p=>?_;simp only[Pw,ak,q,s,n,aa,VV,seval];refine⟨⟨by omega,by omega⟩,?_⟩;refine al (Ae a b _) rfl ?_;have t:((y.1==(gj a b).1)&&(y.2==(gj a b).2))=(y==gj a b):=rfl;simp only[cF,iF,eQ,n,t,dB,VV,seval];refine⟨λh=>?_,λh=>?_⟩;.refine i (by rw[f,List.any_append,List.any_cons,h];simp) [_] ..
 refine p _ (cn [] [_] (by rw[bI];exact r) ?_ ?_ (by rw[bI];exact ih (d++[y]) (by rw[f];simp) (by rw[List.any_append,j];simpa using h) k i));.repeat' constructor
 simp only[LW]
def Bn(x y:V)(a b:Int)(d:Y U<2^62)(J:aj)(f:kZ J x=θ)(i:kZ J y=θ)(k:x.Lt (Y J))(g:y.Lt (Y J)):bh κ 102 [.agg [x,y,.sl 2 (U.map cF)],.I a,.I b] J (.b (U.any λc=>c==gj a b)):=by
 refine aW func102 aqm.2 λe j=>aq ?_;simp only[aqm,SS,seval];simp only[f,i,aa,VV,seval];refine cB.wk ((Wk.fw (ys:=(uu 1 (.I a::.I b::uu 7 (.sl 2 (U.map cF)::.I (Y U)::.I (Y ([]:gh):Nat)::uu 9 [])))) (by repeat' constructor)).trans (Wk.lS (aM _) e (ed.1 (by simp[LW])))) (cB.kT (Y U+1) (ahb e U a b d U [] rfl rfl (λh=>?_) (λh=>?_)));.simp only[JE];intros;simp only[VV,seval];exact bK (.inr rfl) rfl ⟨by rw[h];rfl,rfl⟩
 simp only[JE];intros;exact bA e (.inr rfl) rfl (by simp[LW]) ⟨by rw[h];rfl,rfl⟩
def HM(h:X.azU)(p:X.an≠[])(a:aj){b:V->aj->Prop}(f:b Q J) (d:bT a->∀(q n:Ob) (lv:V) (e:aj),(X.ax=[]/\lv=.lit 15 [])\/(X.ax≠[]/\lv=.own (Y a+3) 0/\∃t,e=dm 0 X.ax::t) ->Wk κ a.length [.agg [.own (Y a+2) 0,lv,.sl 2 (X.cw.map cF)]] (a++(q::n::bC 0 X.an::e)) [Q] J):PC κ 48 [.agg X.azR] a b:=by
 refine aW func48 p48.2 λr u=>aq ?_;have d:=d r;obtain⟨j,azY,g⟩:=X;have k:Y j<2^30:=h.uE;have m:Y azY<2^30:=h.pT;have i:Y g<2^30:=h.um;cases j with
 |nil=>exact absurd rfl p
 |cons o os =>
 simp only[p48,SS,seval];simp only[ae]at k;cases azY with
 |nil =>
  cases g with
  |nil =>simp only[Net.azR,ar,iZ,aI,gq,aP,ae,aa,maxLen,V.pure,↓IT,VV,seval];refine⟨⟨by omega,by omega⟩,dS (xs:=[.agg [.own (Y a+2) 0,.lit 15 [],.lit 2 []]]) (xs':=[Q]) (.inr rfl) (by simp only[RS,seval]) ((Wk.fw (.cons (.iV (.cons (.refl _) (.cons (.refl _) (.cons (.lit _ _) .nil)))) .nil)).trans (d _ _ _ [] (.inl ⟨rfl,rfl⟩))) rfl f⟩
  |cons c s =>simp only[ae]at i;simp only[Net.azR,ar,iZ,aI,gq,aP,ae,aa,maxLen,V.pure,↓IT,VV,seval];refine⟨⟨by omega,by omega⟩,⟨by omega,by omega⟩,dS (xs:=[.agg [.own (Y a+2) 0,.lit 15 [],.own (Y a+3) 0]]) (xs':=[Q]) (.inr rfl) (by simp only[RS,seval]) ((Wk.px 3 rfl).trans ?_) rfl f⟩;simp only[aI,ar,Pm.fz,kE,iY,cG,cK,km,aU,bw,Nat.reduceEqDiff,rq];exact d _ _ _ _ (.inl ⟨rfl,rfl⟩)
 |cons l v =>simp only[ae]at m;cases g with|nil =>simp only[Net.azR,ar,iZ,aI,gq,aP,ae,aa,maxLen,V.pure,↓IT,VV,seval];refine⟨⟨by omega,by omega⟩,⟨by omega,by omega⟩,dS (xs:=[.agg [.own (Y a+2) 0,.own (Y a+3) 0,.lit 2 []]]) (xs':=[Q]) (.inr rfl) (by simp only[RS,seval]) ((Wk.fw (.cons (.iV (.cons (.refl _) (.cons (.refl _) (.cons (.lit _ _) .nil)))) .nil)).trans (d _ _ _ _ (.inr ⟨by simp,rfl,_,rfl⟩))) rfl f⟩|cons c s =>simp only[ae]at i;simp only[Net.azR,ar,iZ,aI,gq,aP,ae,aa,maxLen,V.pure,↓IT,VV,seval];refine⟨⟨by omega,by omega⟩,⟨by omega,by omega⟩,⟨by omega,by omega⟩,dS (xs:=[.agg [.own (Y a+2) 0,.own (Y a+3) 0,.own (Y a+4) 0]]) (xs':=[Q]) (.inr rfl) (by simp only[RS,seval]) ((Wk.px 4 rfl).trans ?_) rfl f⟩;simp only[aI,ar,Pm.fz,kE,iY,cG,cK,km,aU,bw,Nat.reduceEqDiff,rq];exact d _ _ _ _ (.inr ⟨by simp,rfl,_,rfl⟩)
def SH{b:aj}{h:aB}{E f c g k:Nat}{d:Bool}{a:fx}(l:bT J)(m:b[k]?=S (.row E f c g d a))(n:Mvs J.length b [k] h [Q]):Wk κ J.length h (J++b) [Q] (J++[.row E f c 0 d a]):=by
 refine Wk.SI (os:=[.row E f c 0 d a]) [k] l (by simp) rfl (λi j e=>?_) n;rcases i with _|i;.simp only[aC,ab]at e;subst e;exact⟨_,m,rfl,rfl⟩
 simp at e
def qV(g:X.azU)(d:X.an≠[])(J:aj):PC κ 48 [.agg X.azR] J (λr e=>r=.agg [.own J.length 0,.sl 15 (X.ax.map Let.azR),.sl 2 (X.cw.map cF)]/\e=J++[bC 0 X.an]):=by
 refine HM X g d J ⟨rfl,rfl⟩ λf c i lv a j=>?_;have b:∀a:aj,Wk κ J.length [.agg [.own (J.length+2) 0,.sl 15 (X.ax.map Let.azR),.sl 2 (X.cw.map cF)]] (J++(c::i::bC 0 X.an::a)) [.agg [.own J.length 0,.sl 15 (X.ax.map Let.azR),.sl 2 (X.cw.map cF)]] (J++[bC 0 X.an]):=λa =>
  SH (k:=2) f rfl (.cons (Mv.iV (.cons (.own 0 2 _ _ _ _ _ _ rfl rfl) (.cons (.eY _ (.sl ..)) (.cons (.eY _ (.sl ..)) .nil)))) .nil);rcases j with⟨h,rfl⟩|⟨_,rfl,t,rfl⟩;.have:=b a;rw[h]at this |-;exact(Wk.fw (.cons (.iV (.cons (.refl _) (.cons (.lit _ _) (.cons (.refl _) .nil)))) .nil)).trans this
 refine(Wk.px 3 rfl).trans ?_;simp only[aI,ar,Pm.fz,kE,iY,cG,cK,km,aU,bw,Nat.reduceEqDiff,rq];exact b _
def F8(e:X.azU)(a:X.an≠[])(f:X.ax≠[])(J:aj):PC κ 48 [.agg X.azR] J (λr b=>r=.agg [.sl 6 (X.an.map bO.azR),.own J.length 0,.sl 2 (X.cw.map cF)]/\b=J++[dm 0 X.ax]):=by
 refine HM X e a J ⟨rfl,rfl⟩ λd g i lv c h=>?_;rcases h with⟨h,rfl⟩|⟨_,rfl,t,rfl⟩;.exact absurd h f
 refine(Wk.px 2 rfl).trans ?_;simp only[aI,ar,Pm.fz,kE,iY,cG,cK,km,aU,bw,Nat.reduceEqDiff,rq];exact SH (k:=3) d rfl (.cons (Mv.iV (.cons (.eY _ (.sl ..)) (.cons (.own 0 3 _ _ _ _ _ _ rfl rfl) (.cons (.eY _ (.sl ..)) .nil)))) .nil)
def RC(e:X.azU)(c:X.an≠[])(f:X.ax=[])(J:aj):bh κ 48 [.agg X.azR] J (.agg [.sl 6 (X.an.map bO.azR),.lit 15 [],.sl 2 (X.cw.map cF)]):=by
 refine HM X e c J ⟨rfl,rfl⟩ λd i g lv a h=>?_;have b:∀a:aj,Wk κ J.length [.agg [.sl 6 (X.an.map bO.azR),.lit 15 [],.sl 2 (X.cw.map cF)]] (J++a) [.agg [.sl 6 (X.an.map bO.azR),.lit 15 [],.sl 2 (X.cw.map cF)]] J:=λa=>Wk.yQ d (by simp[LW]);rcases h with⟨_,rfl⟩|⟨h,rfl,t,rfl⟩;.refine(Wk.px 2 rfl).trans ?_;simp only[aI,ar,Pm.fz,kE,iY,cG,cK,km,aU,bw,Nat.reduceEqDiff,rq];exact b _
 exact absurd f h
def RE(g:X.azU)(e:X.an≠[])(J:aj):bh κ 48 [.agg X.azR] J (.agg X.azR):=by
 obtain⟨d,azY,c⟩:=X;refine HM _ g e J ⟨rfl,rfl⟩ λf j i lv a h=>?_;have b:∀a:aj,Wk κ J.length [.agg (Net.azR ⟨d,azY,c⟩)] (J++a) [.agg (Net.azR ⟨d,azY,c⟩)] J:=λa=>Wk.yQ f (by simp only[Net.azR,LW]);refine(Wk.px 2 rfl).trans ?_;rcases h with⟨h,rfl⟩|⟨h,rfl,t,rfl⟩;.simp only[aI,ar,Pm.fz,kE,iY,cG,cK,km,aU,bw,Nat.reduceEqDiff,rq];simp only at h;subst h;exact(Wk.fw (.cons (.iV (.cons (.refl _) (.cons (.lit _ _) (.cons (.refl _) .nil)))) .nil)).trans (b _)
 simp only[aI,ar,Pm.fz,kE,iY,cG,cK,km,aU,bw,Nat.reduceEqDiff,rq];refine(Wk.px 3 rfl).trans ?_;simp only[aI,ar,Pm.fz,kE,iY,cG,cK,km,aU,bw,Nat.reduceEqDiff,rq];exact b _
def o2:bO:=⟨2,0,[],[],0,G⟩
def o1:bO:=⟨1,0,[],[],0,G⟩
def Tv:s9 [] (cAt 0 0):=aal (by decide) (λj a=>by omega) (by simp)
def MP(b:o.azU)(c:x.azU)(h1:Y o.azS<1000)(f:Y o.log<1000000)(d:Y (dJ x)<=60000)(e:k<=Y o.azS):(ku o x k).azU:=by
 refine⟨λy a=>?_,?_,?_⟩
 .simp only[ku,bW,bd]at a;rcases a with a|rfl|a;.exact b.azS y (dY a)
  .exact c
  exact b.azS y (eO a)
 .simp only[ku,ah,bj,ae,ca];omega
 simp only[ku,ah,kq];omega
def JK(a:o.azU)(d:x.azU)(h1:Y o.azS<1000)(c:Y o.log<1000000)(b:Y (dJ x)<=60000)(e:k<=Y o.azS):(rR o x k).azU :=
 let h:=MP a d h1 c b e
 ⟨h.azS,h.len,h.log⟩
def as4(h:0<=R)(a:R<8)(J:aj):bh κ 39 [.I R] J (.jg [.agg (bO.azR ⟨R,0,[],[],0,G⟩),.I 0]):=by have:=aj9 R J;rwa [show Fh R=(⟨R,0,[],[],0,G⟩,0)from by rw[Fh,aw (by omega)]]at this
def ach(o:aV):l.map aV.azR++[[.I o.aY.time,.I o.aY.bS,.I o.aY.azW,.I o.azT,.sl 3 (o.azV.azZ.map It.azR),.sl 3 (o.azV.az0.map It.azR),.s o.azV.cM,.s o.azV.next,.s o.azV.eu,.s o.azV.dC,.I o.azV.aAb,.I o.azV.aAc,.sl 1 (o.az1.map cN)]]=(l++[o]).map aV.azR:=by simp[aV.azR,cL.azR,En.azR]
def aha(k:bT J)(l:List aV)(n:l.length<2^39)(v:bU):∀(a c b:List aV) (g:Nat),l=c++a->b.length<=c.length ->(∀g,((fj 1 (fh (.sl 1 (v.map cN)) (fj 3 (fh (.own J.length g) (fj 20 fo))))) λo=>K (.exit 0) ⟨o,J++[gl g G (b++lW a v)]⟩)) ->gw J.length κ Pv K (a.length+1) ⟨(uu 1 (.sl 1 (v.map cN)::uu 3 (.own J.length g::uu 3 (.sl 13 (l.map aV.azR)::.I l.length::.I c.length::uu 14 [])))),J++[gl g G b]⟩:=by
 intro a;induction a with
 |nil =>intro c b g d q f;have d:=dL d;subst d;simp only[lW,u7,bI]at f;refine az λR j=>?_;simp only[Pv,VV,seval];exact⟨λh=>by simp at h,λ_=>f g ..⟩
 |cons x a ih =>
 intro c b g d q f;have t:=gY d;have m:=dD c x (by omega);have p:(List.map aV.azR l).getD c.length []=x.azR:=by rw[d];exact dR
 have r:decide ((c.length:Int)<(l.length:Int))=θ:=by simp;omega
 have i:=Ou v x.aY;simp only[cL.azR]at i;refine az λR j=>?_;simp only[Pv,gl,ak,p,r,aa,aV.azR,cL.azR,En.azR,V.pure,VV,seval];refine⟨⟨by omega,by omega⟩,?_⟩;refine al (i _) rfl ?_;simp only[m,VV,seval];have s:(b.length+1)*184<=2^47/\b.length+1<=maxLen:=by simp only[maxLen];omega
 refine⟨λh=>?_,λh=>?_⟩
 .have e:lW (x::a) v=x::lW a v:=qb (by simpa using h);rw[e]at f;simp only[aa,m,V.pure,VV,seval];refine⟨by simpa using s,?_⟩;rw[ach];refine j _ (cn [gl (g+1) G (b++[x])] [_] (cj k (by simp[gl])) ?_ ?_ (ih (c++[x]) (b++[x]) (g+1) (by rw[d];simp) (by simp;omega) (by simpa using f)));.repeat' constructor
  simp only[LW,ae,ai,aG];omega
 have e:lW (x::a) v=lW a v:=qc (by simpa using h);rw[e]at f;refine j _ (cn [gl g G b] [_] (cj k (by simp[gl])) ?_ ?_ (ih (c++[x]) b g (by rw[d];simp) (by simp;omega) f));.repeat' constructor
 simp only[LW,ae,ai,aG];omega
def YP(o:bO)(d:o.azU)(v:bU)(J:aj):bh κ 103 [.agg o.azR,.sl 1 (v.map cN)] J (.sl 13 ((lW o.azS v).map aV.azR)):=by
 refine aW func103 aql.2 λa e=>aq ?_;have b:=d.len;simp only[aql,SS,seval];simp only[bO.azR,aa,VV,seval];have c:jt J.length (uu 1 (.sl 1 (v.map cN)::uu 3 (.nil::uu 3 (.sl 13 (o.azS.map aV.azR)::.I (Y o.azS)::.I (Y ([]:List aV):Nat)::uu 14 [])))):=by simp only[LW]
 refine cB.wk ((((Wk.fw (ys:=(uu 1 (.sl 1 (v.map cN)::uu 3 (.nil::uu 3 (.sl 13 (o.azS.map aV.azR)::.I (Y o.azS)::.I (Y ([]:List aV):Nat)::uu 14 []))))) (by repeat' constructor)).trans (Wk.lS (aM _) a (ed.1 c))).trans (Wk.k9 (P:=κ) (k:=5) NT rfl)).trans (Wk.fw (ys:=(uu 1 (.sl 1 (v.map cN)::uu 3 (.own J.length 0::uu 3 (.sl 13 (o.azS.map aV.azR)::.I (Y o.azS)::.I (Y ([]:List aV):Nat)::uu 14 []))))) ?_)) (cB.kT (Y o.azS+1) (aha a o.azS (by omega) v o.azS [] [] 0 rfl (aM _) ?_));.simp only[VV,seval];repeat' constructor
 intro g;simp only[JE];intros;simp only[gl,ay,VV,seval];refine iw 0 a (.inr rfl) (by simp only[RS,seval];rfl) rfl ?_ ?_;.simp only[aI,ar,cu,Pm.fz,kE,cG,aU,LW]
 simp only[aI,ar,cu,Pm.fz,kE,cG,aU];exact⟨rfl,trivial⟩
def xb:bO:=⟨n,0,[],[],0,G⟩
def mw:List bO:=(List.range n).map xb
def Jw:(mw n).map bO.azR++[[.I n,.I 0,.sl 13 [],.sl 1 [],.I 0,.b G]]=(mw (n+1)).map bO.azR:=by simp[mw,u6,xb,bO.azR,aN]
def akH{K:bL}(m:bT J)(n:Nat)(o:n<=8):∀(k i:Nat),n=i+k ->(((fj 2 (fh (.ptr J.length 0) (fj 1 (fh (.ptr (Y J+1) 0) (fj 27 fo))))) λg=>K (.exit 0) ⟨g,J++[.box 29 [.nil,.nil,.nil],fE (.own (Y J+2) n) .nil .nil,bC n (mw n)]⟩)) ->gw (Y J) κ Xy K (k+1) ⟨(uu 2 (.ptr J.length 0::uu 1 (.ptr (Y J+1) 0::uu 10 (.I n::.I i::uu 15 [])))),J++[.box 29 [.nil,.nil,.nil],fE (.own (Y J+2) i) .nil .nil,bC i (mw i)]⟩:=by
 intro k;induction k with
 |zero =>
  intro i b c;have b:n=i:=by omega
  subst b;refine az λR f=>?_;simp only[Xy,VV,seval];exact⟨λh=>by simp at h,λ_=>c ..⟩
 |succ k ih =>
 intro i b c;have e:IntKind.i64.wrap ((i:Int)+1)=((i+1:Nat):Int):=by rw[da (by omega)]
 have j:(i:Int)<(n:Int):=by omega
 refine az λR f=>?_;simp only[Xy,fE,bC,j,e,bt,VV,seval];refine al (as4 i (by omega) (by omega) _) rfl ?_;simp only[bO.azR,aN,ar,e,V.pure,aa,maxLen,VV,seval];have a:Y (mw i)=i:=by simp[mw]
 rw[Jw,a];have d:=cj m (l:=[.box 29 [.nil,.nil,.nil],fE (.own (Y J+2) (i+1)) .nil .nil,bC (i+1) (mw (i+1))]) (by simp only[bC,fE,bF,bD,cA,cW,cK,ah,ae,ai,LW];omega);refine⟨⟨by omega,by omega⟩,f _ (cn [.box 29 [.nil,.nil,.nil],fE (.own (Y J+2) (i+1)) .nil .nil,bC (i+1) (mw (i+1))] [_] d ?_ ?_ (ih (i+1) (by omega) c))⟩;.repeat' constructor
 simp only[LW,ae,ai,aG];omega
def XF{n:Nat}{xs:aB}{J:aj}{b:Ob}:Wk κ n xs (J++[b,.box 29 [.nil,.nil,.nil]]) xs (J++[b,.box 29 [.own (Y J+2) 0,.nil,.nil],.row 61 6 80 0 G []]):=by have:=Wk.tV (P:=κ) (n:=n) (xs:=xs) (id:=Y J+1) (j:=0) (T:=29) (cs:=[.nil,.nil,.nil]) (J:=J++[b,.box 29 [.nil,.nil,.nil]]) aa8 (by simp) rfl;simpa only[kf,aO,ah,ae,ai,aF,ay,cC,cT,aG,Nat.reduceAdd]using this
def sW(h1:1<=n)(c:n<=8)(J:aj):bh κ 15 [.I n] J (.jg [.agg (Net.azR ⟨mw n,[],[]⟩),.I 0]):=by
 refine aW func15 p15.2 λa f=>aq ?_;have e:decide ((n:Int)<1)=G:=by simp;omega
 have d:decide (8<(n:Int))=G:=by simp;omega
 simp only[p15,SS,seval];simp only[e,d,VV,seval];have b:=λK=>akH a (K:=K) n c n 0 (by omega);simp only[fE,bC,mw,List.range_zero,ar]at b;refine cB.wk ((Wk.fw (ys:=(uu 2 (.ptr J.length 0::uu 1 (.ptr (Y J+1) 0::uu 10 (.I n::.I ((0:Nat):Int)::uu 15 []))))) ?_).trans XF) (cB.kT (n+1) (b _ ?_));.repeat' constructor
 simp only[JE];intros;simp only[ao,VV,seval];refine dS (xs:=[.agg [.own (Y J+2) n,.nil,.nil],.I 0]) (xs':=[.agg (Net.azR ⟨mw n,[],[]⟩),.I 0]) (.inr rfl) (by simp only[RS,seval]) ?_ rfl ⟨rfl,rfl⟩;refine(Wk.px 2 rfl).trans ((Wk.fw (ys:=[.agg (Net.azR ⟨mw n,[],[]⟩),.I 0]) ?_).trans (Wk.yQ a (by simp only[Net.azR,LW])));simp only[aI,ar,Pm.fz,kE,cG,aU];exact .cons (.iV (.cons (.refl _) (.cons (.nil 15) (.cons (.nil 2) .nil)))) (.cons (.refl _) .nil)
def eA:En:=⟨[⟨1,[97],0⟩],[],[],[],[],[],0,1⟩
def y0:aV:=⟨⟨1,0,1⟩,1,eA,[]⟩
def y1:aV:=⟨⟨2,0,2⟩,1,eA,[1]⟩
def nX:aV:=⟨⟨1,0,1⟩,1,BZ [97] [120],[]⟩
def nY:aV:=⟨⟨1,1,1⟩,1,BZ [97] [121],[]⟩
def Tp:(BZ [97] [120]).azU:=⟨by decide,by decide +kernel,by decide,by decide +kernel,by decide,by decide,by decide⟩
def To:(BZ [97] [121]).azU:=⟨by decide,by decide +kernel,by decide,by decide +kernel,by decide,by decide,by decide⟩
def arO:dx eA=0/\dx (BZ [97] [120])=0/\dx (BZ [97] [121])=0:=by decide +kernel
def JG:nX.azU:=⟨Tp,by decide,by decide,by decide⟩
def JF:nY.azU:=⟨To,by decide,by decide,by decide⟩
def afj:fc y0=0/\fc y1=0/\fc nX=0/\fc nY=0:=by decide +kernel
def FP:Y (dJ y0)<=60000/\Y (dJ y1)<=60000/\Y (dJ nX)<=60000/\Y (dJ nY)<=60000:=by decide +kernel
def qB:(xb n).azU:=⟨by simp[xb],by simp[xb],by simp[xb]⟩
def P0:bO:=rR (xb 0) nX 0
def P1:bO:=rR (xb 1) nY 0
def KW:P0.azU:=JK (qB 0) JG (by decide) (by decide) FP.2.2.1 (by decide)
def TQ:P1.azU:=JK (qB 1) JF (by decide) (by decide) FP.2.2.2 (by decide)
def arV:bh κ 96 [.agg (xb 0).azR,.agg (BZ [97] [120]).azR] T (.jg [.agg P0.azR,.agg nX.azR,.I 0]) :=KI (xb 0) _ Tp arO.2.1 (qB 0) rfl (cAt 0 0) Tv [] (by decide +kernel) (by decide) (by decide) (by decide) 0 JG afj.2.2.1 FP.2.2.1 (by decide) (aM _) (by simp[xb]) T
def arU:bh κ 96 [.agg (xb 1).azR,.agg (BZ [97] [121]).azR] T (.jg [.agg P1.azR,.agg nY.azR,.I 0]) :=KI (xb 1) _ To arO.2.2 (qB 1) rfl (cAt 0 0) Tv [] (by decide +kernel) (by decide) (by decide) (by decide) 0 JF afj.2.2.2 FP.2.2.2 (by decide) (aM _) (by simp[xb]) T
def Tt(a b:Int×Int)(J:aj):bh κ 90 [.agg (cF a),.agg (cF b)] J (.I (aap a b)):=by refine aW func90 p90.2 λc d=>aq ?_;simp only[p90,SS,seval];simp only[cF,VV,seval];refine al (sd a.1 b.1 _) rfl ?_;simp only[VV,seval];refine al (sd a.2 b.2 _) rfl ?_;simp only[VV,seval];refine iN (zs:=[.sl 1 ([gJ a.1 b.1,gJ a.2 b.2].map cN)]) (.cons (.lit _ _) .nil) (Py _ _) ?_;simp only[VV,seval];exact bA c (.inr rfl) rfl (by simp[LW]) ⟨rfl,rfl⟩
def akm{K:bL}(z:wc U)(p:Int×Int)(c g:Nat)(L:Y U<2^30)(o:J[c]?=S (fX g U)):∀(N i j:Nat),j - i<=N->i<=fL U p->fL U p<=j->j<=Y U ->((fh (.own c g) (fj 1 (fh (.fn 90 []) (fj 1 (fh (.ptr J.length 0) (fj 3 (fh (.I (Y U)) (fh (.I (fL U p)) (fj 39 fo))))))))) λw=>K (.exit 0) ⟨w,J++[.box 99 (cF p)]⟩) ->gw (Y J) κ MR K (N+1) ⟨(.own c g::uu 1 (.fn 90 []::uu 1 (.ptr J.length 0::uu 3 (.I (Y U)::.I i::.I j::uu 38 [])))),J++[.box 99 (cF p)]⟩:=by
 have l:∀d:aj,(J++d)[c]?=S (.row 99 2 16 g G (U.map cF)):=λd=>by rw[bg (ag.1 o).1];exact o
 intro N;induction N with
 |zero =>
  intro i j D q r v a;obtain rfl:i=fL U p:=by omega
  have b:decide ((fL U p:Int)<(j:Int))=G:=by simp;omega
  refine az λR e=>?_;simp only[MR,b,VV,seval];exact a ..
 |succ N ih =>
 intro i j D q r v a;by_cases H:i<j
 .have b:decide ((i:Int)<(j:Int))=θ:=by simp;omega
  have E:IntKind.i64.wrap ((i:Int)+(j:Int))=((i+j:Nat):Int):=by rw[show(i:Int)+(j:Int)=((i+j:Nat):Int)by omega,xr (by omega)]
  have y:=X3 (i+j) (by omega);have A:(i+j) / 2<Y U:=by omega
  have f:U[(i+j) / 2]?=S U[(i+j) / 2]:=aD A;generalize k:U[(i+j) / 2]=x at f;have t:(U.map cF).getD ((i+j) / 2) []=cF x:=by simp[aA,f]
  have s:=wT z p _ x f;clear k;generalize B:(i+j) / 2=m at *;have F:(0:Int)<=(m:Int):=by omega
  have C:(m:Int)<(Y U:Int):=by omega
  have u:IntKind.i64.wrap ((m:Int)+1)=((m+1:Nat):Int):=by rw[da (by omega)]
  simp only[cF]at t;refine az λR e=>?_;simp only[MR,cF,l,b,E,y,u,t,F,C,aa,VV,Int.reduceBEq,Int.reduceBNe,Nat.reduceAdd,Nat.reduceSub,Nat.reduceLeDiff,Nat.reduceEqDiff,Int.reduceToNat,reduceIte,reduceCtorEq];refine⟨by decide,?_⟩;refine vY rfl (by kernel_rfl) (Tt x p _) (by simp only[cF,VV,seval]) ?_;simp only[u,VV,seval];refine⟨λh=>?_,λh=>?_⟩;.have h:uw x p=θ:=Tx.1 (by simpa using h);have:=s.1 h;refine e _ (bX ?_ (ih (m+1) j (by omega) (by omega) r v a));repeat' constructor
  have h:¬uw x p=θ:=λn=>by have:=Tx.2 n;simp at h;omega
  have:¬m<fL U p:=λn=>h (s.2 n);refine e _ (bX ?_ (ih i m (by omega) q (by omega) (by omega) a));repeat' constructor
 obtain rfl:i=fL U p:=by omega
 have b:decide ((fL U p:Int)<(j:Int))=G:=by simp;omega
 refine az λR e=>?_;simp only[MR,b,VV,seval];exact a ..
def amm(q:wc U)(p:Int×Int)(c g:Nat)(B:Y U<2^30)(J:aj)(k:J[c]?=S (fX g U)):bh κ 89 [.own c g,.agg (cF p),.fn 90 []] J (.jg [.I (fL U p),.b (decide (p∈U))]):=by
 refine aW func89 p89.2 λt C=>aq ?_;have a:∀d:aj,(J++d)[c]?=S (.row 99 2 16 g G (U.map cF)):=λd=>by rw[bg (ag.1 k).1];exact k
 have l:=FA U p;have o:=λK=>akm (K:=K) U q p c g B k U.length 0 U.length (by omega) (jK _) l (aM _);have r:=FB q (p:=p);simp only[p89,SS,seval];simp only[cF]at o;simp only[cF,a,aa,VV,seval];refine cB.wk (Wk.fw ?_) (cB.kT (Y U+1) (o _ ?_));.repeat' constructor
 simp only[JE];intros;generalize fL U p=m at *;have i:(θ==θ)=θ:=rfl;have f:(G==θ)=G:=rfl;by_cases z:m<Y U
 .have n:U[m]?=S U[m]:=aD z;generalize U[m]=x at n;have s:(U.map cF).getD m []=cF x:=by simp[aA,n]
  have j:decide ((m:Int)<(Y U:Int))=θ:=by simp;omega
  have y:(0:Int)<=(m:Int):=by omega
  have w:(m:Int)<(Y U:Int):=by omega
  simp only[cF]at s;simp only[a,j,y,w,s,i,f,bt,aa,VV,seval];refine⟨_,rfl,?_⟩;refine BL (c:=θ) (by simp only[i,VV,seval]<;>rfl) (λ_=>⟨_,_,rfl,by kernel_rfl,Tt x p _⟩) ?_;simp only[i,f,VV,seval];refine bA t (.inr rfl) rfl (by simp[LW]) ⟨?_,rfl⟩;have e:(aap x p==0)=decide (p∈U):=by rw[eD,ez,aao,decide_eq_true_iff,r,n,ab]
  rw[e];rfl
 have j:decide ((m:Int)<(Y U:Int))=G:=by simp;omega
 have A:decide (p∈U)=G:=rl (by rw[r,cH (by omega)];simp);simp only[a,j,A,i,f,bZ,aa,VV,seval];refine⟨.u,BL (c:=G) (v:=.I 0) (by simp only[f,VV,seval]<;>rfl) (λh=>by cases h) ?_⟩;simp only[f,VV,seval];exact bA t (.inr rfl) rfl (by simp[LW]) ⟨rfl,rfl⟩
def aae(i:Nat)(a:i<Y U)(e:Y U<2^30)(b g:Nat)(J:aj)(d:J[b]?=S (fX g U)):PC κ 93 [.own b g,.I i,.I ((i:Int)+1)] J (λr c=>r=.own b (g+1)/\c=J.set b (fX (g+1) (U.take i++U.drop (i+1)))):=by have:=PC.Nx Tryz.avh (k:=2) (by':=16) (g:=g) (i:=i) (rows:=U.map cF) (by kernel_rfl) (by simpa using a) (by simpa using e) d;rw[<- List.map_take,<- List.map_drop,<- List.map_append]at this;exact this
def ahl(x:Int×Int)(m id a g c:Nat)(b:Bool)(k:m<=Y U)(f:Y U<2^30)(J:aj)(j:id≠a)(h1:J[id]?=S (fX g U))(d:J[a]?=S (.row 99 2 16 c b [cF x])): PC κ 94 [.own id g,.I m,.own a c] J (λr i=>r=.own id (g+1)/\i=J.set id (fX (g+1) (U.take m++x::U.drop m))):=by
 by_cases h:m<Y U;.exact SO U x m id a g c b h f J j h1 d
 obtain rfl:m=Y U:=by omega
 have e:U.take (Y U)++x::U.drop (Y U)=U++[x]:=by simp
 rw[e];exact M6 U x id g a c b f J h1 d
def aka{a b c w v l:Nat}(h:yj J k a b c)(n:Net)(x:wc n.cw)(g:Y n.cw<2^30)(e:Ev)(u:e.azT=7\/e.azT=8): PC κ 44 [.ptr k 0,.agg e.azR] (lA J k a b c (fE (.own a w) (.own b v) (.own c l)) (bC w n.an) (dm v n.ax) (fX l n.cw)) (FL J k a b c (wq n e).1 (wq n e).2):=by
 obtain⟨z,d,f,m,r⟩:=e;simp only at u;refine aW func44 p44.2 λo D=>aq ?_;have q:=amm n.cw x (gj d f) c l g;have t:=FA n.cw (gj d f);have B:=FB x (p:=gj d f);simp only[p44,SS,seval];rcases u with rfl|rfl
 .simp only[Ev.azR,En.azR,fE,fX,↓IT,VV,seval];refine al (HN d f _) rfl ?_;simp only[cF,h.all,↓IT,VV,seval];refine al (q _ (by simp only[h.all,fX])) (by simp only[cF,VV,seval]) ?_;by_cases s:d=f
  .subst s;have j:wq n ⟨7,d,d,m,r⟩=(Net.zero,1):=by simp[wq]
   simp only[j,ao,h.all,↓IT,VV,seval];exact lE o (lV h.la h.lb h.lc) trivial trivial trivial (.inr rfl) rfl (by simp[LW]) ⟨rfl,_,_,_,_,rfl,λh=>by simp at h⟩
  have y:(d==f)=G:=by simpa using s
  by_cases i:gj d f∈n.cw
  .have j:wq n ⟨7,d,f,m,r⟩=(Net.zero,5):=by simp[wq,s,i]
   simp only[j,y,De i,h.all,↓IT,VV,seval];exact lE o (lV h.la h.lb h.lc) trivial trivial trivial (.inr rfl) rfl (by simp[LW]) ⟨rfl,_,_,_,_,rfl,λh=>by simp at h⟩
  have j:wq n ⟨7,d,f,m,r⟩=(⟨n.an,n.ax,n.cw.take (fL n.cw (gj d f))++gj d f::n.cw.drop (fL n.cw (gj d f))⟩,0):=by simp[wq,s,i]
  simp only[j,y,rl i,h.all,↓IT,VV,seval];refine al (ahl n.cw (gj d f) (fL n.cw (gj d f)) c (Y J+2) l 0 G t g _ (by have:=h.lc;omega) (by simp only[h.all,fX]) (by simp only[h.all,cF,bY,aC])) (by simp only[cF,VV,seval]) ?_;simp only[h.all,fX,VV,seval];exact lE o (lV h.la h.lb h.lc) trivial trivial trivial (.inr rfl) rfl (by simp[LW]) ⟨rfl,_,_,_,_,rfl,λ_=>⟨_,_,_,rfl,rfl,rfl,rfl⟩⟩
 simp only[Ev.azR,En.azR,fE,fX,↓IT,VV,seval];refine al (HN d f _) rfl ?_;simp only[cF,h.all,↓IT,VV,seval];refine al (q _ (by simp only[h.all,fX])) (by simp only[cF,VV,seval]) ?_;by_cases i:gj d f∈n.cw
 .have j:wq n ⟨8,d,f,m,r⟩=(⟨n.an,n.ax,n.cw.take (fL n.cw (gj d f))++n.cw.drop (fL n.cw (gj d f)+1)⟩,0):=by simp[wq,i]
  have A:=(ag.1 (B.1 i)).1;have C:IntKind.i64.wrap ((fL n.cw (gj d f):Int)+1)=(fL n.cw (gj d f):Int)+1:=IntWalk.i64_in _ (by omega);simp only[j,De i,h.all,C,↓IT,VV,seval];refine al (aae n.cw (fL n.cw (gj d f)) A g c l _ (by simp only[h.all,fX])) (by simp only[VV,seval]) ?_;simp only[h.all,fX,VV,seval];exact lE o (lV h.la h.lb h.lc) trivial trivial trivial (.inr rfl) rfl (by simp[LW]) ⟨rfl,_,_,_,_,rfl,λ_=>⟨_,_,_,rfl,rfl,rfl,rfl⟩⟩
 have j:wq n ⟨8,d,f,m,r⟩=(Net.zero,6):=by simp[wq,i]
 simp only[j,rl i,h.all,↓IT,VV,seval];exact lE o (lV h.la h.lb h.lc) trivial trivial trivial (.inr rfl) rfl (by simp[LW]) ⟨rfl,_,_,_,_,rfl,λh=>by simp at h⟩
end Go.Proofs.Tryz
