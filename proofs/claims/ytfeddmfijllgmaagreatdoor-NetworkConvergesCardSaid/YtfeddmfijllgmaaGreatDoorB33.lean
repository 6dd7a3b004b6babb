/- A part of a proof; the claim's last text says of what. -/
import Derived.Test.YtfeddmfijllgmaaGreatDoorB32
set_option linter.all false
set_option maxHeartbeats 4000000
open Option renaming some->S,none->Z
open Bool renaming true->θ,false->G
open Go.Proofs.Tryz renaming prog->κ
open List renaming length->Y

namespace Go.Proofs.Tryz
open Go Go.Pm Go.Bt
variable(l:List aV)(k:Nat)(R:aj)(n:Net)(i:Int)(o:bO)(j:Int)(c:Nat->Nat)(x:aV)(Q:Let){f:Int}{X:List aV}{F E L:Nat}{M P N D:Ob}{q:aB}{J:aj}{K:bL}
def afD{e:aj}{c:Nat}{b A B C:Ob}{f:aJ}{a:Nat}{d:aB}(m:bT (lA J F E L c M P N D))(k:oJ J.length b)(i:oJ J.length A)(g:oJ J.length B)(j:oJ J.length C)(l:rk q d)(n:jt J.length d) (h:gw (Y J) κ f K a ⟨d,lA J F E L c b A B C⟩):gw (Y J) κ f K a ⟨q,lA J F E L c b A B C++e⟩ :=ub ((Wk.fw l).trans (Wk.lS (by rw[pE];exact aM _) (Ii m k i g j) (ed.1 (by rw[pE];exact n)))) h
def nU:Let:=⟨i,j,x⟩
def akz{k a b c ga gc:Nat}{K:bL}(h:yj J k a b c)(q:List bO)(C:Ob)(u:oJ J.length C)(w:bT (lA J k a b c M P N D))(i j:Int)(g:Nat)(azY:List Let)(l:List aV)(o:azY.length+l.length<2^30):∀(e d:List aV),l=d++e ->(((fj 85 fo) λr=>K (.exit 1) ⟨r,lA J k a b c (fE (.own a ga) (.own b (g+l.length)) (.own c gc)) (bC ga q) (dm (g+l.length) (azY++l.map (nU i j))) C⟩)) ->gw J.length κ Xj K (e.length+1) ⟨(.ptr k 0::.I i::.I j::uu 62 (.sl 13 (l.map aV.azR)::.I l.length::.I d.length::uu 17 [])),lA J k a b c (fE (.own a ga) (.own b (g+d.length)) (.own c gc)) (bC ga q) (dm (g+d.length) (azY++d.map (nU i j))) C⟩:=by
 intro e;induction e with
 |nil =>intro d f m;have f:=dL f;subst f;refine az λR p=>?_;simp only[Xj,VV,seval];exact⟨λh=>by simp at h,λ_=>m ..⟩
 |cons x e ih =>
 intro d f m;have F:=gY f;have y:=dD d x (by omega);have n:(List.map aV.azR l).getD d.length []=x.azR:=by rw[f];exact dR
 have A:(0:Int)<=(d.length:Int):=by omega
 have v:(d.length:Int)<(l.length:Int):=by omega
 refine az λR p=>?_;simp only[aV.azR,cL.azR,En.azR,aF,ay]at n;simp only[Xj,fE,dm,h.all,n,y,A,v,aa,V.pure,maxLen,VV,seval];have E:(azY++d.map (nU i j)).length=azY.length+d.length:=by simp
 refine⟨λ_=>⟨⟨by omega,by omega⟩,?_⟩,λt=>by simp at t⟩;have B:(azY++d.map (nU i j)).map Let.azR++[[.I i,.I j,.I x.aY.time,.I x.aY.bS,.I x.aY.azW,.I x.azT,.sl 3 (x.azV.azZ.map It.azR),.sl 3 (x.azV.az0.map It.azR),.s x.azV.cM,.s x.azV.next,.s x.azV.eu,.s x.azV.dC,.I x.azV.aAb,.I x.azV.aAc,.sl 1 (x.az1.map cN)]]=(azY++(d++[x]).map (nU i j)).map Let.azR:=by simp[nU,Let.azR,aV.azR,cL.azR,En.azR]
 have z:g+d.length+1=g+(d++[x]).length:=by simp;omega
 rw[B,z];refine p _ (afD w (lV h.la h.lb h.lc) trivial trivial u (by repeat' constructor) ?_ (ih (d++[x]) (by rw[f];simp) m));simp only[LW,h.lk]
def UW{k a b c ga f gc:Nat}(h:yj J k a b c)(d:List bO)(azY:List Let)(e:gh)(Q:Y e<2^30)(i j:Nat)(V:i≠j)(o m:bO)(p:d[i]?=S o)(B:d[j]?=S m)(w:o.down=G)(v:m.down=G) (L:mO ⟨d,azY,e⟩ i j=G) (C:bU) (F:∀J,bh κ 87 [.agg m.azR] J (.sl 1 (C.map cN))) (l:List aV) (M:∀J,bh κ 86 [.agg o.azR,.sl 1 (C.map cN)] J (.sl 13 (l.map aV.azR))) (E:Y azY<2^29) (W:Y l<2^29) : PC κ 43 [.ptr k 0,.I i,.I j] (lA J k a b c (fE (.own a ga) (.own b f) (.own c gc)) (bC ga d) (dm f azY) (fX gc e)) (λr D=>if Y azY+Y l<=256 then r=.I 0/\D=lA J k a b c (fE (.own a ga) (.own b (f+Y l)) (.own c gc)) (bC ga d) (dm (f+Y l) (azY++l.map (nU i j))) (fX gc e)else r=.I 3/\D=lA J k a b c (fE (.own a ga) (.own b f) (.own c gc)) (bC ga d) (dm f azY) (fX gc e)):=by
 refine aW func43 p43.2 λH T=>aq ?_;have g:(d.map bO.azR).getD i []=o.azR:=by simp[aA,p]
 have n:(d.map bO.azR).getD j []=m.azR:=by simp[aA,B]
 have U:i<Y d:=(ag.1 p).1;have R:j<Y d:=(ag.1 B).1;have y:(0:Int)<=(i:Int):=by omega
 have x:(0:Int)<=(j:Int):=by omega
 have s:(i:Int)<(Y d:Int):=by omega
 have t:(j:Int)<(Y d:Int):=by omega
 have P:((i:Int)==(j:Int))=G:=by simp;omega
 have O:IntKind.i64.wrap ((Y azY:Int)+(Y l:Int))=((Y azY+Y l:Nat):Int):=by rw[IntWalk.i64_in _ (by omega)];omega
 have N:gv (d.map bO.azR) i 5=S (.b G):=by simp[gv,p,bO.azR,w]
 have A:gv (d.map bO.azR) j 5=S (.b G):=by simp[gv,B,bO.azR,v]
 simp only[bO.azR]at g n;simp only[p43,SS,seval];simp only[fE,bC,dm,fX,h.all,g,n,y,x,s,t,P,w,v,N,A,aa,VV,seval];refine⟨_,rfl,?_⟩;simp only[h.all,VV,seval];refine al (KV ⟨d,azY,e⟩ (.own a ga) (.own b f) i j c gc (by show Y e<2^62;omega) _ ?_ ?_ ?_) rfl ?_;.simp only[h.all,fX]
 .simp only[h.all,ao,VV,seval]
 .simp only[h.all,ao,VV,seval]
 simp only[L,h.all,g,n,y,x,s,t,aa,VV,seval];refine al (F _) (by simp only[bO.azR,v,VV,seval]) ?_;simp only[h.all,g,n,y,x,s,t,aa,VV,seval];refine al (M _) (by simp only[bO.azR,w,VV,seval]) ?_;simp only[h.all,O,aa,VV,seval];refine⟨λq=>?_,λq=>?_⟩
 .have u:¬Y azY+Y l<=256:=by simp at q;omega
  exact dS (.inr rfl) rfl (Wk.refl _ _) rfl (by rw[aw u];exact⟨rfl,rfl⟩)
 have u:Y azY+Y l<=256:=by simp at q;omega
 have z:=λK=>akz (K:=K) (ga:=ga) (gc:=gc) h d (fX gc e) trivial H i j f azY l (by omega) l [] rfl;simp only[ai,ar,bI,cu]at z;simp only[fE,bC,dm,fX]at z;refine cB.wk (Wk.fw ?_) (cB.kT (Y l+1) (z _ ?_));.repeat' constructor
 simp only[JE];intros;simp only[VV,seval];exact dS (.inr rfl) rfl (Wk.refl _ _) rfl (by rw[aQ u];exact⟨rfl,rfl⟩)
def mC:aB:=[.I Q.src,.I Q.dst,.I Q.op.aY.time,.I Q.op.aY.bS,.I Q.op.aY.azW,.I Q.op.azT,.sl 3 (Q.op.azV.azZ.map It.azR),.sl 3 (Q.op.azV.az0.map It.azR),.s Q.op.azV.cM,.s Q.op.azV.next,.s Q.op.azV.eu,.s Q.op.azV.dC,.I Q.op.azV.aAb,.I Q.op.azV.aAc,.sl 1 (Q.op.az1.map cN)]
def lh:Q.azR=mC Q:=by simp[mC,Let.azR,aV.azR,cL.azR,En.azR]
def JD{c f a b:Nat}(h:yj J F E L c)(A C:Ob)(q:oJ J.length A)(p:oJ J.length C)(azY:List Let)(e:Ev)(k:e.azT=6)(i:Nat)(l:e.n=i)(x:Let)(o:azY[i]?=S x)(z:x.op.azU)(t:Y azY<2^29): PC κ 45 [.ptr F 0,.agg e.azR] (lA J F E L c (fE (.own E f) (.own L a) (.own c b)) A (dm a azY) C) (λr j=>if Y azY=256 then r=.I 3/\j=lA J F E L c (fE (.own E f) (.own L a) (.own c b)) A (dm a azY) C else r=.I 0/\j=lA J F E L c (fE (.own E f) (.own L (a+1)) (.own c b)) A (dm (a+1) (azY++[x])) C):=by
 obtain⟨v,B,N,H,M⟩:=e;simp only at k l;subst k l;refine aW func45 p45.2 λm D=>aq ?_;have s:(azY.map Let.azR).getD i []=mC x:=by simp[aA,o,lh]
 have K:i<Y azY:=(ag.1 o).1;have y:(0:Int)<=(i:Int):=by omega
 have w:(i:Int)<(Y azY:Int):=by omega
 have u:azY.map Let.azR++[mC x]=(azY++[x]).map Let.azR:=by simp[lh]
 simp only[mC]at s u;simp only[p45,SS,seval];simp only[Ev.azR,En.azR,fE,dm,h.all,s,y,w,aa,VV,seval];refine⟨λd=>?_,λd=>?_⟩
 .have g:Y azY=256:=by simp at d;omega
  exact lE m (lV h.la h.lb h.lc) q trivial p (.inr rfl) rfl (by simp[LW]) (by rw[aQ g];exact⟨rfl,rfl⟩)
 have g:¬Y azY=256:=by simp at d;omega
 refine al (MZ x z _) (by simp only[lh,mC,VV,seval]) ?_;simp only[lh,mC,h.all,aa,V.pure,maxLen,VV,seval];refine⟨⟨by omega,by omega⟩,?_⟩;rw[u];exact lE m (lV h.la h.lb h.lc) q trivial p (.inr rfl) rfl (by simp[LW]) (by rw[aw g];exact⟨rfl,rfl⟩)
def FL(k a b c:Nat)(e:Net)(d:Int)(r:V)(i:aj):Prop :=r=.I d/\∃K A B C,i=lA R k a b c K A B C/\(d=0->∃h g f,K=fE (.own a h) (.own b g) (.own c f)/\A=bC h e.an/\B=dm g e.ax/\C=fX f e.cw)
def gf:V:=.jg [.agg (if i=0 then n else Net.zero).azR,.I i]
def Ow(b c e f g a d:Ob):yj (R++[b,c,e,f,g,a,d]) (Y R+6) (Y R+3) (Y R+4) (Y R+5):=by constructor<;>simp<;>omega
def Ql(e:bT J){A B C:Ob}{a:Net}(d:D=fE (.own (Y J+3) F) (.own (Y J+4) E) (.own (Y J+5) L))(c:A=bC F a.an)(b:B=dm E a.ax)(g:C=fX L a.cw) (f:q=[.agg [.own (Y J+3) F,.own (Y J+4) E,.own (Y J+5) L],.I 0]):Wk κ J.length q (J++[M,P,N,A,B,C,D]) [.agg a.azR,.I 0] J:=by subst d c b g f;refine(Wk.px 3 rfl).trans ((Wk.px 4 rfl).trans ((Wk.px 5 rfl).trans ?_));simp only[aI,ar,Pm.fz,kE,iY,cG,cK,km,aU,bw,Nat.reduceEqDiff,rq];exact Wk.yQ e (by simp only[Net.azR,LW])
def PJ(s:n.azU)(e:Ev)(m:kh n e=θ)(h:e.azT=1)(j:Net)(d:Int)(o:∀J k a b c,yj J k a b c->PC κ 46 [.ptr k 0,.agg e.azR] (lA J k a b c (fE (.own a 0) (.own b 0) (.own c 0)) (bC 0 n.an) (dm 0 n.ax) (fX 0 n.cw)) (FL J k a b c j d))(J:aj): bh κ 18 [.agg n.azR,.agg e.azR] J (gf j d):=by
 have t:=CU n e (by omega);obtain⟨u,l,q,w,p⟩:=e;simp only at h;subst h;refine aW func18 p18.2 λi y=>aq ?_;simp only[p18,SS,seval];simp only[Net.azR,Ev.azR,En.azR,aa,VV,seval];refine al (t _) rfl ?_;simp only[m,VV,seval];refine dZ (vV n s _) rfl ?_;rintro r v ⟨rfl,rfl⟩;simp only[bC,dm,fX,ao,bP,Nat.reduceAdd,aa,VV,seval];have g:=o (J++[.box 29 n.azR,.box 38 (Ev.azR ⟨1,l,q,w,p⟩),.box 29 [.nil,.nil,.nil],.dead,.dead,.dead,.dead]) _ _ _ _ (Ow J _ _ _ _ _ _ _);rw[ua]at g;simp only[cT,cC,fE,bC,dm,fX,Net.azR,Ev.azR,En.azR]at g;refine dZ g (by simp only[Ev.azR,En.azR,VV,seval]) ?_;rintro r v ⟨rfl,K,A,B,C,rfl,x⟩;rw[ua];simp only[cT,cC,VV,seval];refine⟨λf=>?_,λf=>?_⟩
 .have f:¬d=0:=by simpa using f
  exact gx (xs:=[.agg [.nil,.nil,.nil],.I d]) (ys:=[.agg Net.zero.azR,.I d]) i (.inr rfl) (by simp only[RS,seval]) (.cons (.iV (.cons (.nil 6) (.cons (.nil 15) (.cons (.nil 2) .nil)))) (.cons (.refl _) .nil)) (by simp only[Net.zero,Net.azR,LW]) ⟨by rw[gf,aw f];rfl,rfl⟩
 have f:d=0:=by simpa using f
 subst f;obtain⟨E,D,z,rfl,rfl,rfl,rfl⟩:=x rfl;simp only[fE,bC,dm,fX,ao,aa,VV,seval];exact dS (.inr rfl) (by simp only[RS,seval]) (Ql i rfl rfl rfl rfl rfl) rfl ⟨rfl,rfl⟩
def UY(s:n.azU)(e:Ev)(m:kh n e=θ)(h:e.azT=3)(j:Net)(d:Int)(o:∀J k a b c,yj J k a b c->PC κ 43 [.ptr k 0,.I e.a,.I e.b] (lA J k a b c (fE (.own a 0) (.own b 0) (.own c 0)) (bC 0 n.an) (dm 0 n.ax) (fX 0 n.cw)) (FL J k a b c j d))(J:aj): bh κ 18 [.agg n.azR,.agg e.azR] J (gf j d):=by
 have t:=CU n e (by omega);obtain⟨u,l,q,w,p⟩:=e;simp only at h;subst h;refine aW func18 p18.2 λi y=>aq ?_;simp only[p18,SS,seval];simp only[Net.azR,Ev.azR,En.azR,aa,VV,seval];refine al (t _) rfl ?_;simp only[m,VV,seval];refine dZ (vV n s _) rfl ?_;rintro r v ⟨rfl,rfl⟩;simp only[bC,dm,fX,ao,bP,Nat.reduceAdd,aa,VV,seval];have g:=o (J++[.box 29 n.azR,.box 38 (Ev.azR ⟨3,l,q,w,p⟩),.box 29 [.nil,.nil,.nil],.dead,.dead,.dead,.dead]) _ _ _ _ (Ow J _ _ _ _ _ _ _);rw[ua]at g;simp only[cT,cC,fE,bC,dm,fX,Net.azR,Ev.azR,En.azR]at g;refine dZ g (by simp only[Ev.azR,En.azR,VV,seval]) ?_;rintro r v ⟨rfl,K,A,B,C,rfl,x⟩;rw[ua];simp only[cT,cC,VV,seval];refine⟨λf=>?_,λf=>?_⟩
 .have f:¬d=0:=by simpa using f
  exact gx (xs:=[.agg [.nil,.nil,.nil],.I d]) (ys:=[.agg Net.zero.azR,.I d]) i (.inr rfl) (by simp only[RS,seval]) (.cons (.iV (.cons (.nil 6) (.cons (.nil 15) (.cons (.nil 2) .nil)))) (.cons (.refl _) .nil)) (by simp only[Net.zero,Net.azR,LW]) ⟨by rw[gf,aw f];rfl,rfl⟩
 have f:d=0:=by simpa using f
 subst f;obtain⟨E,D,z,rfl,rfl,rfl,rfl⟩:=x rfl;simp only[fE,bC,dm,fX,ao,aa,VV,seval];exact dS (.inr rfl) (by simp only[RS,seval]) (Ql i rfl rfl rfl rfl rfl) rfl ⟨rfl,rfl⟩
def Zf(s:n.azU)(e:Ev)(m:kh n e=θ)(h:e.azT=7)(j:Net)(d:Int)(o:∀J k a b c,yj J k a b c->PC κ 44 [.ptr k 0,.agg e.azR] (lA J k a b c (fE (.own a 0) (.own b 0) (.own c 0)) (bC 0 n.an) (dm 0 n.ax) (fX 0 n.cw)) (FL J k a b c j d))(J:aj): bh κ 18 [.agg n.azR,.agg e.azR] J (gf j d):=by
 have t:=CU n e (by omega);obtain⟨u,l,q,w,p⟩:=e;simp only at h;subst h;refine aW func18 p18.2 λi y=>aq ?_;simp only[p18,SS,seval];simp only[Net.azR,Ev.azR,En.azR,aa,VV,seval];refine al (t _) rfl ?_;simp only[m,VV,seval];refine dZ (vV n s _) rfl ?_;rintro r v ⟨rfl,rfl⟩;simp only[bC,dm,fX,ao,bP,Nat.reduceAdd,aa,VV,seval];have g:=o (J++[.box 29 n.azR,.box 38 (Ev.azR ⟨7,l,q,w,p⟩),.box 29 [.nil,.nil,.nil],.dead,.dead,.dead,.dead]) _ _ _ _ (Ow J _ _ _ _ _ _ _);rw[ua]at g;simp only[cT,cC,fE,bC,dm,fX,Net.azR,Ev.azR,En.azR]at g;refine dZ g (by simp only[Ev.azR,En.azR,VV,seval]) ?_;rintro r v ⟨rfl,K,A,B,C,rfl,x⟩;rw[ua];simp only[cT,cC,VV,seval];refine⟨λf=>?_,λf=>?_⟩
 .have f:¬d=0:=by simpa using f
  exact gx (xs:=[.agg [.nil,.nil,.nil],.I d]) (ys:=[.agg Net.zero.azR,.I d]) i (.inr rfl) (by simp only[RS,seval]) (.cons (.iV (.cons (.nil 6) (.cons (.nil 15) (.cons (.nil 2) .nil)))) (.cons (.refl _) .nil)) (by simp only[Net.zero,Net.azR,LW]) ⟨by rw[gf,aw f];rfl,rfl⟩
 have f:d=0:=by simpa using f
 subst f;obtain⟨E,D,z,rfl,rfl,rfl,rfl⟩:=x rfl;simp only[fE,bC,dm,fX,ao,aa,VV,seval];exact dS (.inr rfl) (by simp only[RS,seval]) (Ql i rfl rfl rfl rfl rfl) rfl ⟨rfl,rfl⟩
open Go.RowKit
def DE(m:Nat)(g:o.azU)(d:x.azU)(a:o.down=G)(n:fc x=0)(q:m<=Y o.azS)(h1:∀(k:Nat) (y:aV),o.azS[k]?=S y->(0<=dH y x<->m<=k)) (e:o.azS[m]?=S x) (J:aj) : bh κ 116 [.agg o.azR,.agg x.azR] J (.jg [.agg o.azR,.I 0]):=by
 refine aW func116 Y4.2 λs t=>aq ?_;have i:=g.len;have u:m<Y o.azS:=(ag.1 e).1;have j:(o.azS.map aV.azR).getD m []=x.azR:=by simp[aA,e]
 have l:PC κ 169 [.sl 13 (o.azS.map aV.azR),.agg x.azR] (J++[.box 61 o.azR,.box 57 x.azR,.box 61 [.I 0,.I 0,.nil,.nil,.I 0,.b G]]) (λr f=>r=.jg [.I m,.b θ]/\f=J++[.box 61 o.azR,.box 57 x.azR,.box 61 [.I 0,.I 0,.nil,.nil,.I 0,.b G]]) :=(MQ o.azS x m (by omega) q h1 _).mono λr f ⟨h,p⟩=>⟨by rw[h,e];simp[pj],p⟩;simp only[Y4,SS,seval];simp only[bO.azR,aV.azR,cL.azR,En.azR,aF,ay,a,VV,seval]at l |-;refine al (th x d _) (by simp only[aV.azR,cL.azR,En.azR,VV,seval]) ?_;simp only[n,VV,seval];refine al l rfl ?_;simp only[VV,seval];refine⟨⟨by omega,by simp;omega⟩,.agg x.azR,⟨by rw[j,vW],by rw[j,ov];exact aM _⟩,?_⟩;refine bV (c:=θ) (by simp only[VV,seval]<;>rfl) (λ_=>uD x x d d _) (by simp only[aV.azR,cL.azR,En.azR,VV,seval]) ?_;simp only[vw,VV,seval];refine al (tc o g _) (by simp only[bO.azR,a,VV,seval]) ?_;simp only[bO.azR,a,VV,seval];exact bA s (.inr rfl) (by simp only[RS,seval];rfl) (by simp[LW]) ⟨rfl,rfl⟩
def aak(t:∀x∈l,x.aY.azW<=128):∃c,s9 l c:=by
 have least:∀(p:Nat->Prop) (n:Nat),p n->∃j,j<=n/\p j/\∀k,k<j->¬p k:=by
  intro p n;induction n using Nat.strongRecOn with
  |ind n ih =>
  intro r;by_cases h:∃k,k<n/\p k;.obtain⟨k,d,b⟩:=h;obtain⟨j,m,g,i⟩:=ih k d b;exact⟨j,by omega,g,i⟩
  exact⟨n,aM _,r,λk d b=>h ⟨k,d,b⟩⟩
 have a:∀o:Nat,∃j:Nat,j<=128/\(∀x∈l,oh x≠((o:Int),(j:Int)+1))/\∀k:Nat,k<j->∃x∈l,oh x=((o:Int),(k:Int)+1):=by intro o;obtain⟨j,m,g,i⟩:=least (λj=>∀x∈l,oh x≠((o:Int),(j:Int)+1)) 128 (λx e f=>by have:=t x e;simp only[oh,bm]at f;omega);refine⟨j,m,g,λk d=>?_⟩;refine cp λq=>i k d λx e f=>q ⟨x,e,f⟩
 exact⟨λo=>Classical.choose (a o),λo _=>by have:=(Md (a o)).1;omega,λo _ j s=>(Md (a o)).2.2 j s,λo _ x e=>(Md (a o)).2.1 x e⟩
def Nz(h:HD f X)(q:0<=f/\f<8):∃c,s9 (ej X) c/\(∀o:Nat,o<8->c o<=128)/\c f.toNat=su f X:=by
 obtain⟨c,d⟩:=aak (ej X) λx b=>(tO (h.op x (dU.1 b)).ok).azW.2;have a:∀(x:aV) (o j:Nat),oh x=((o:Int),(j:Int)+1)<->x.aY.bS=o/\x.aY.azW=(j:Int)+1:=by intro x o j;simp[oh]
 refine⟨c,d,λo p=>?_,?_⟩
 .rcases Nat.eq_zero_or_pos (c o)with n|n;.omega
  obtain⟨x,b,g⟩:=d.has o p (c o - 1) (by omega);have m:=(tO (h.op x (dU.1 b)).ok).azW;have l:=((a x o (c o - 1)).1 g).2;omega
 have e:((f.toNat:Nat):Int)=f:=by omega
 have m:¬c f.toNat<su f X:=λi=>by obtain⟨x,b,l,k⟩:=(h.acb (c f.toNat)).2 i;exact d.no f.toNat (by omega) x (dU.2 b) ((a x _ _).2 ⟨by omega,k⟩)
 have l:¬su f X<c f.toNat:=λi=>by obtain⟨x,b,g⟩:=d.has f.toNat (by omega) (su f X) i;have k:=(a x _ _).1 g;have:=(h.acb (su f X)).1 ⟨x,dU.1 b,by omega,k.2⟩;omega
 omega
def tG:bU:=ko (ly c)
def NA(o:Int):ox (ly c) o=if o<0\/8<=o then 0 else(c o.toNat:Int):=by
 have a:Y (ly c)=8:=by simp[ly]
 by_cases h:o<0\/8<=o;.rw[aQ h,ox,aQ (by rw[a];omega)]
 obtain⟨i,rfl⟩:∃i:Nat,o=i:=⟨o.toNat,by omega⟩;have e:(ly c).getD i 0=c i:=by rw[aA,ly,bR,kP (by omega)];rfl
 rw[aw h,ox,aw (by rw[a];omega),ak,e,aw (by omega)]
def abu(b:∀o:Nat,o<8->c o<=128):ko (tG c)=tG c/\(∀n∈tG c,n<=128)/\Y (tG c)<=8:=by
 refine⟨T7 _,λn a=>?_,?_⟩
 .obtain⟨o,rfl⟩:=Yi a;rw[NA];split;.omega
  have:=b o.toNat (by omega);omega
 rw[tG,Bf];exact pq _ _ 8
def Iv(a:0<=f/\f<8):ox (tG c) f=(c f.toNat:Int):=by rw[tG,QY,NA,aw (by omega)]
def qm(a:List aV)(b:Int)(e:En)(c:Nat->Nat):aV:=⟨⟨kj a+1,i,(su i a:Int)+1⟩,b,e,tG c⟩
def Sb(h:HD f X)(x:aV):pt (ej X) x<=Y (ej X)/\∀(k:Nat) (y:aV),(ej X)[k]?=S y->(0<=dH y x<->pt (ej X) x<=k) :=⟨XU _ _,BB (lr h.one) x⟩
def fm(e:Int):V:=.jg [.agg o.azR,.I e]
def Oe(b:o.down=θ)(J:aj):bh κ 116 [.agg o.azR,.agg x.azR] J (fm bO.zero 15):=by refine aW func116 Y4.2 λa c=>aq ?_;simp only[Y4,SS,seval];simp only[bO.azR,aV.azR,cL.azR,En.azR,b,VV,seval];exact gx a (.inr rfl) (by simp only[RS,seval]) (.cons (Cv.iV (zz 0)) (.cons (.refl _) .nil)) (by simp only[bO.azR,LW]) ⟨rfl,rfl⟩
def Qs(e:En)(b:o.down=θ)(J:aj):bh κ 96 [.agg o.azR,.agg e.azR] J (.jg [.agg bO.zero.azR,.agg nG.azR,.I 15]):=by refine aW func96 p96.2 λa c=>aq ?_;simp only[p96,SS,seval];simp only[bO.azR,En.azR,b,VV,seval];exact gx a (.inr rfl) (by simp only[RS,seval]) (.cons (Cv.iV (zz 0)) (.cons (Cv.iV op0) (.cons (.refl _) .nil))) (by simp only[bO.azR,aV.azR,cL.azR,En.azR,aF,ay,LW]) ⟨rfl,rfl⟩
def mK(eY:Int):Nat:=o.aAe.toNat+min eY.toNat (Y o.log - o.aAe.toNat)
def r8(eY:Int):bO:=if o.down then o else⟨o.azW,0,[],o.log.take (mK o eY),mK o eY,θ⟩
def aai(eY:Int)(d:o.azU)(p:0<=o.aAe/\o.aAe<=Y o.log)(J:aj):bh κ 98 [.agg o.azR,.I eY] J (.agg (r8 o eY).azR):=by
 refine aW func98 p98.2 λe m=>aq ?_;have q:=d.log;obtain⟨y,c⟩:∃y:Nat,o.aAe=y:=⟨o.aAe.toNat,by omega⟩;have i:(if o.aAe<0 then 0 else o.aAe)=(y:Int):=by rw[c,aw (by omega)]
 have h:IntKind.i64.wrap ((Y o.log:Int) - (y:Int))=((Y o.log - y:Nat):Int):=by rw[IntWalk.i64_in _ (by omega)];omega
 have b:(if((Y o.log - y:Nat):Int)<0 then 0 else((Y o.log - y:Nat):Int))=((Y o.log - y:Nat):Int):=aw (by omega);have l:IntKind.i64.wrap ((Y o.log:Int) - ((Y o.log - y:Nat):Int))=(y:Int):=by rw[IntWalk.i64_in _ (by omega)];omega
 have g:(if((Y o.log - y:Nat):Int)<(if eY<0 then 0 else eY)then((Y o.log - y:Nat):Int)else if eY<0 then 0 else eY)=((min eY.toNat (Y o.log - y):Nat):Int):=by (repeat' split)<;>omega
 have j:IntKind.i64.wrap ((y:Int)+((min eY.toNat (Y o.log - y):Nat):Int))=((mK o eY:Nat):Int):=by rw[IntWalk.i64_in _ (by omega),mK,c,ak];omega
 have n:mK o eY<=Y o.log:=by rw[mK,c,ak];omega
 have k:(aN o.log).take (mK o eY)=aN (o.log.take (mK o eY)):=by simp[aN,gD]
 have f:Y (o.log.take (mK o eY))=mK o eY:=by rw[bj];omega
 simp only[p98,SS,seval];simp only[bO.azR,VV,seval];refine al (tc o d _) (by simp only[bO.azR,VV,seval]) ?_;simp only[bO.azR,VV,seval];refine⟨λa=>?_,λa=>?_⟩;.rw[show r8 o eY=o from aQ a];exact bA e (.inr rfl) (by simp only[RS,seval];rfl) (by simp[LW]) ⟨rfl,rfl⟩
 rw[show r8 o eY=⟨o.azW,0,[],o.log.take (mK o eY),mK o eY,θ⟩from aw (by rw[a];simp)];simp only[bM,i,h,b,l,g,j,ak,k,f,VV,seval];refine⟨⟨by omega,by omega⟩,?_⟩;refine gx e (.inr rfl) (by simp only[RS,seval]) (.cons (Cv.iV (.cons (.refl _) (.cons (.refl _) (.cons (.nil _) (.cons (.refl _) (.cons (.refl _) (.cons (.refl _) .nil))))))) .nil) (by simp[LW]) ⟨rfl,rfl⟩
def afJ(h:0<=i)(d:i<8)(J:aj):bh κ 40 [.I i] J (.jg [.agg (bO.azR ⟨i,0,[],[],0,G⟩),.I 0]):=by
 refine aW func40 p40.2 λa e=>aq ?_;have c:decide (i<0)=G:=by simp;omega
 have b:decide (8<=i)=G:=by simp;omega
 simp only[p40,SS,seval];simp only[c,b,VV,seval];refine gx a (.inr rfl) (by simp only[RS,seval]) (.cons (Cv.iV (.cons (.refl _) (.cons (.refl _) (.cons (.nil _) (.cons (.nil _) (.cons (.refl _) (.cons (.refl _) .nil))))))) (.cons (.refl _) .nil)) (by simp[LW]) ⟨rfl,rfl⟩
def ka:Option aV:=l.find? λy=>y.aY.bS==i&&y.aY.azW==j
def qD:Option aV->V|some y=>.jg [.agg y.azR,.b θ]|none=>.jg [.agg nG.azR,.b G]
def akv(v:Y q=13)(s:bT (J++[.box 57 q]))(l:List aV)(o:Y l<2^40)(f n:Int):∀(a c:List aV),l=c++a ->(ka a f n=Z->((fj 6 (fh (.ptr J.length 0) (fj 24 fo))) λj=>K (.exit 0) ⟨j,J++[.box 57 q]⟩)) ->(∀y m,ka a f n=S y->((fj 6 (fh (.ptr J.length 0) (fh (.b θ) (fj 23 fo)))) λj=>K .ret ⟨j,J++(.box 57 y.azR::m)⟩)) ->gw (Y J) κ Xd K (Y a+1) ⟨(uu 1 (.I f::.I n::uu 3 (.ptr J.length 0::uu 3 (.sl 13 (l.map aV.azR)::.I (Y l)::.I (Y c)::uu 18 [])))),J++[.box 57 q]⟩:=by
 intro a;induction a with
 |nil =>intro c d i g;have d:=dL d;subst d;refine az λR p=>?_;simp only[Xd,VV,seval];exact⟨λh=>by simp at h,λ_=>i rfl ..⟩
 |cons y a ih =>
 intro c d i g;have w:=gY d;have t:=dD c y (by omega);have r:(List.map aV.azR l).getD c.length []=y.azR:=by rw[d];exact dR
 have u:decide ((Y c:Int)<(Y l:Int))=θ:=by simp;omega
 refine az λR p=>?_;simp only[Xd,ak,r,u,aa,aV.azR,cL.azR,En.azR,V.pure,VV,seval];refine⟨⟨by omega,by omega⟩,λh=>?_,λh=>?_⟩
 .have e:ka (y::a) f n=S y:=by simp only[ka,List.find?_cons,h]
  have k:q.drop 13=[]:=qO (by omega);refine⟨by omega,?_⟩;simp only[k,bI];exact g y _ e ..
 have e:ka (y::a) f n=ka a f n:=by simp only[ka,List.find?_cons,h]
 rw[e]at i g;simp only[t,VV,seval];refine p _ (cn [.box 57 q] [_] s ?_ ?_ (ih (c++[y]) (by rw[d];simp) i g));.repeat' constructor
 simp only[LW,ae,ai,aG];omega
def qU(a:Y l<2^40)(f n:Int)(J:aj):bh κ 64 [.sl 13 (l.map aV.azR),.I f,.I n] J (qD (ka l f n)):=by
 refine aW func64 p64.2 λb e=>aq ?_;have d:bT (J++[.box 57 [.I 0,.I 0,.I 0,.I 0,.nil,.nil,.s [],.s [],.s [],.s [],.I 0,.I 0,.nil]]):=cj b (by simp only[bF,bD,cA,cW,cK,LW]);simp only[p64,SS,seval];simp only[aa,VV,seval];refine cB.bX ?_ (Y l+1) (akv rfl d l a f n l [] rfl (λh=>?_) (λy c h=>?_));.repeat' constructor
 .simp only[JE];intros;simp only[h,qD,VV,seval];exact gx b (.inr rfl) (by simp only[RS,seval]) (.cons (Cv.iV op0) (.cons (.refl _) .nil)) (by simp only[aV.azR,cL.azR,En.azR,aF,ay,LW]) ⟨rfl,rfl⟩
 simp only[JE];intros;simp only[h,qD,aV.azR,cL.azR,En.azR,VV,seval];exact bA b (.inr rfl) (by simp only[RS,seval];rfl) (by simp[LW]) ⟨rfl,rfl⟩
def aku(i:Y l<2^30)(n:∀o∈l,o.azU)(x:aV)(m:x.azU):∀(a b:List aV),l=b++a ->((fh (.sl 13 (l.map aV.azR)) (fj 2 (fh (.ptr J.length 0) (fj 1 (fh (.I (Y b+CQ x a:Nat)) (fj 27 fo)))))) λk=>K (.exit 0) ⟨k,J++[.box 57 x.azR]⟩) ->gw (Y J) κ Xc K (Y a+1) ⟨(.sl 13 (l.map aV.azR)::uu 2 (.ptr J.length 0::uu 1 (.I (Y b)::uu 27 []))),J++[.box 57 x.azR]⟩:=by
 intro a;induction a with
 |nil =>
  intro b f d;have f:=dL f;subst f;have g:decide ((Y l:Int)<(Y l:Int))=G:=by simp
  simp only[CQ,cu]at d;refine az λR j=>?_;simp only[Xc,g,aa,aV.azR,cL.azR,En.azR,V.pure,VV,seval];refine⟨by simp,.u,by simp,?_⟩;refine bV (c:=G) (v:=.I 0) (by simp only[VV,seval]<;>rfl) (λh=>by simp at h) rfl ?_;simp only[VV,seval];exact d ..
 |cons y a ih =>
 intro b f d;have r:=n y (by rw[f];simp);have s:=gY f;have q:=dD b y (by omega);have p:(List.map aV.azR l).getD b.length []=y.azR:=by rw[f];exact dR
 have g:decide ((Y b:Int)<(Y l:Int))=θ:=by simp;omega
 refine az λR j=>?_;simp only[Xc,ak,p,g,aV.azR,cL.azR,En.azR,aa,V.pure,VV,seval];refine⟨⟨by omega,by omega⟩,_,rfl,?_⟩;refine bV (by simp only[VV,seval]<;>rfl) (λ_=>xG y x r m _) rfl ?_;simp only[CQ]at d;simp only[q,VV,seval];refine⟨λh=>?_,λh=>?_⟩
 .rw[aQ (ic h)]at d;have e:Y b+(CQ x a+1)=Y (b++[y])+CQ x a:=by simp;omega
  rw[e]at d;refine j _ (bX ?_ (ih (b++[y]) (by rw[f];simp) d));repeat' constructor
 rw[aw (qM h)]at d;simp only[cu]at d;exact d ..
def yz(m:Y l<2^30)(g:∀o∈l,o.azU)(j:x.azU)(J:aj):bh κ 65 [.sl 13 (l.map aV.azR),.agg x.azR] J (.sl 13 ((ud l x).map aV.azR)):=by
 refine aW func65 p65.2 λf n=>?_;simp only[p65,SS,seval];refine cB.cutAt (.more (.more (.one _ _))) λR e=>?_;simp only[aV.azR,cL.azR,En.azR,V.pure,VV,seval];refine cB.wk (Wk.fw (ys:=(.sl 13 (l.map aV.azR)::uu 2 (.ptr J.length 0::uu 1 (.I (Y ([]:List aV):Nat)::uu 27 [])))) ?_) (cB.kT (Y l+1) (aku l m g x j l [] rfl ?_));.repeat' constructor
 simp only[JE];intros;simp only[ai,aG,VV,seval];refine e _ (cB.fw (fr':=(.sl 13 (l.map aV.azR)::uu 2 (.ptr J.length 0::uu 1 (.I (CQ x l:Nat)::uu 27 [])))) (aq ?_) (by repeat' constructor));clear e R;have h:=WY x l;unfold ud;generalize CQ x l=k at h |-;have c:(l.map aV.azR).take k=(l.take k).map aV.azR:=gD.symm;have b:((l.map aV.azR).drop k).take (Y l - k)=(l.drop k).map aV.azR:=by rw[<- List.map_drop];exact cx (by simp)
 have d:Y (l.take k)=k:=by simp;omega
 cases a:((l.take k).map aV.azR).isEmpty with
 |true =>
  have i:l.take k=[]:=by simpa using a
  simp only[c,a,ak,aV.azR,cL.azR,En.azR,aa,gq,aP,bw,V.pure,maxLen,VV,seval];simp only[b,d,ah,aa,ca,VV,seval];refine⟨by omega,by omega,by omega,by omega,by omega,by omega,iw 1 f (.inr rfl) (by simp only[RS,seval];rfl) rfl ?_ ?_⟩;.simp only[aI,ar,Pm.fz,kE,cG,aU,LW]
  simp only[aI,ar,Pm.fz,kE,cG,aU];refine⟨?_,trivial⟩;simp[Pm.one,i,aV.azR,cL.azR,En.azR]
 |false =>
 simp only[c,a,ak,aV.azR,cL.azR,En.azR,aa,aP,bw,V.pure,maxLen,VV,seval];simp only[b,d,ah,aa,ca,VV,seval];refine⟨by omega,by omega,by omega,by omega,by omega,by omega,by omega,iw 1 f (.inr rfl) (by simp only[RS,seval];rfl) rfl ?_ ?_⟩;.simp only[aI,ar,Pm.fz,kE,cG,aU,LW]
 simp only[aI,ar,Pm.fz,kE,cG,aU];refine⟨?_,trivial⟩;simp[Pm.one,aV.azR,cL.azR,En.azR]
def agQ(n:q[0]?=some (.I i))(j:bT (J++[.box 61 q]))(l:List aV)(m:l.length<2^40):∀(a b:List aV) (c:Nat),l=b++a->c<=b.length ->((fj 3 (fh (.I (c+(a.filter λx=>x.aY.bS==i).length:Nat)) (fj 19 fo))) λo=>K (.exit 0) ⟨o,J++[.box 61 q]⟩) ->gw J.length κ O7 K (a.length+1) ⟨(uu 1 (.ptr J.length 0::uu 1 (.I c::uu 3 (.sl 13 (l.map aV.azR)::.I l.length::.I b.length::uu 13 [])))),J++[.box 61 q]⟩:=by
 intro a;induction a with
 |nil =>intro b c d t f;have d:=dL d;subst d;simp only[u7,ai,cu]at f;refine az λR g=>?_;simp only[O7,VV,seval];exact⟨λh=>by simp at h,λ_=>f ..⟩
 |cons y a ih =>
 intro b c d t f;have u:=gY d;have k:=dD b y (by omega);have p:IntKind.i64.wrap ((c:Int)+1)=((c+1:Nat):Int):=da (by omega);have r:(List.map aV.azR l).getD b.length []=y.azR:=by rw[d];exact dR
 have s:decide ((b.length:Int)<(l.length:Int))=θ:=by simp;omega
 refine az λR g=>?_;simp only[O7,ak,r,s,n,aa,aV.azR,cL.azR,En.azR,V.pure,VV,seval];refine⟨⟨by omega,by omega⟩,λh=>?_,λh=>?_⟩
 .have e:(List.filter (λx=>x.aY.bS==i) (y::a)).length=(List.filter (λx=>x.aY.bS==i) a).length+1:=by rw[jc,aQ h,ae]
  rw[e]at f;simp only[k,p,VV,seval];refine g _ (cn [.box 61 q] [_] j ?_ ?_ (ih (b++[y]) (c+1) (by rw[d];simp) (by simp;omega) (by rw[show c+1+(List.filter (λx=>x.aY.bS==i) a).length=c+((List.filter (λx=>x.aY.bS==i) a).length+1)by omega];exact f)));.repeat' constructor
  simp only[LW,ae,ai,aG];omega
 have e:List.filter (λx=>x.aY.bS==i) (y::a)=List.filter (λx=>x.aY.bS==i) a:=by rw[jc,aw (by rw[h];simp)]
 rw[e]at f;simp only[k,VV,seval];refine g _ (cn [.box 61 q] [_] j ?_ ?_ (ih (b++[y]) c (by rw[d];simp) (by simp;omega) f));.repeat' constructor
 simp only[LW,ae,ai,aG];omega
def abK(c:o.azU)(J:aj):bh κ 153 [.agg o.azR] J (.I ((o.azS.filter λx=>x.aY.bS==o.azW).length:Nat)):=by
 refine aW func153 apD.2 λa e=>aq ?_;have f:=c.len;have d:bT (J++[.box 61 [.I o.azW,.I o.az5,.sl 13 (o.azS.map aV.azR),.sl 1 (aN o.log),.I o.aAe,.b o.down]]):=cj a (by simp only[bF,bD,cA,cW,cK,LW]);simp only[apD,SS,seval];simp only[bO.azR,aa,VV,seval];refine cB.bX (fr':=(uu 1 (.ptr J.length 0::uu 1 (.I (0:Nat)::uu 3 (.sl 13 (o.azS.map aV.azR)::.I o.azS.length::.I (([]:List aV).length:Nat)::uu 13 []))))) ?_ (o.azS.length+1) (agQ o.azW rfl d o.azS (by omega) o.azS [] 0 rfl (aM _) ?_);.repeat' constructor
 simp only[JE];intros;simp only[aG,VV,seval];exact gm a (by rfl) (by simp[LW])
def IB(a:bU):Ob:=.row 3 1 8 0 G (a.map cN)
def GR{l:List aV}{f n:Int}(h:∃x∈l,oh x=(f,n)):∃y,ka l f n=S y:=by obtain⟨x,c,a⟩:=h;simp only[oh,bm]at a;cases b:ka l f n with|some y=>exact⟨y,rfl⟩|none =>have:=Df.1 b x c;simp[a.1,a.2]at this
def GS{n:Int}(h:∀x∈X,oh x≠(f,n)):ka X f n=Z:=by refine Df.2 λx b a=>h x b ?_;simp only[aZ,ez]at a;simp[oh,a.1,a.2]
def Zz(L:bT J)(l:List aV)(z:Y l<2^40)(s:q[2]?=S (.sl 13 (l.map aV.azR)))(p:jt (Y J+2) q)(o:Nat)(w:o<8)(c:Nat)(P:c<=128)(h1:∀j:Nat,j<c->∃y,ka l o ((j:Int)+1)=S y)(E:c<128->ka l o ((c:Int)+1)=Z): ∀(N j:Nat) (b:bU),j+N=c->Y b=8->b[o]?=S (j:Int) ->(∀d f,Y d=8->d[o]?=S (c:Int)->(∀a,a≠o->d[a]?=b[a]?)->((fj 1 (fh (.ptr J.length 0) (fj 1 (fh (.own (Y J+1) 0) (fj 5 (fh (.I 8) (fh (.I o) (fj 30 fo)))))))) λA=>K (.exit 2) ⟨A,J++(.box 61 q::IB d::f)⟩)) ->gw (Y J) κ Jp K (N+1) ⟨(uu 1 (.ptr J.length 0::uu 1 (.own (Y J+1) 0::.I o::uu 4 (.I 8::.I o::uu 30 [])))),J++[.box 61 q,IB b]⟩:=by
 intro N;induction N with
 |zero =>
  intro j b O e g k;obtain rfl:j=c:=by omega
  have m:gv (b.map cN) o 0=S (.I (j:Int)):=by simp[gv,cN,g]
  refine az λR x=>?_;simp only[Jp,IB,m,s,aa,e,ak,VV,seval];refine⟨⟨by omega,by omega⟩,λh=>?_,λh=>k b [] e g (λ_ _=>rfl) ..⟩;have r:j<128:=by have:=ic h;omega
  have n:IntKind.i64.wrap ((j:Int)+1)=(j:Int)+1:=IntWalk.i64_in _ (by omega);have B:=E r;refine⟨⟨by omega,by omega⟩,?_⟩;simp only[n];intro X;refine al (qU l z o ((j:Int)+1) _) rfl ?_;simp only[B,qD,aV.azR,cL.azR,En.azR,nG,VV,seval];exact k b _ e g (λ_ _=>rfl) ..
 |succ N ih =>
 intro j b O e g k;have m:gv (b.map cN) o 0=S (.I (j:Int)):=by simp[gv,cN,g]
 have v:decide ((j:Int)<128)=θ:=by simp;omega
 have n:IntKind.i64.wrap ((j:Int)+1)=((j+1:Nat):Int):=da (by omega);obtain⟨y,u⟩:=h1 j (by omega);refine az λR x=>?_;simp only[Jp,IB,m,s,v,aa,e,ak,VV,seval];refine⟨⟨by omega,by omega⟩,⟨by omega,by omega⟩,?_⟩;intro X;have C:((j+1:Nat):Int)=(j:Int)+1:=rfl;rw[<- C]at u;simp only[n];refine al (qU l z o ((j+1:Nat):Int) _) rfl ?_;simp only[u,n,qD,aV.azR,cL.azR,En.azR,m,v,aa,e,ak,VV,seval];have M:(b.map cN).set o (V.i .i64 ((j+1:Nat):Int)::((b.map cN).getD o []).drop 1)=(b.set o ((j+1:Nat):Int)).map cN:=by
  have:(b.map cN).getD o []=cN j:=by simp[aA,g]
  rw[this,aaH];rfl
 rw[M];refine⟨⟨by omega,by omega⟩,⟨by omega,by omega⟩,w,?_⟩;refine x _ (cn [.box 61 q,IB (b.set o ((j+1:Nat):Int))] [_] ?_ ?_ ?_ (ih (j+1) (b.set o ((j+1:Nat):Int)) (by omega) (by simp[e]) (by simp[e,w]) λd f F H D=>k d f F H λa t=>by rw[D a t,bN (EM t)]));.refine cj L ?_;simp only[IB,bF,bD,cA,cW,cK,ae,ai,aG];exact p
 .repeat' constructor
 simp only[LW,ae,ai,aG];omega
def Zy{bx:aB}(s:bT J)(l:List aV)(E:Y l<2^40)(u:bx[2]?=S (.sl 13 (l.map aV.azR)))(d:jt (Y J+2) bx)(c:Nat->Nat)(D:∀o:Nat,o<8->c o<=128)(h1:∀o:Nat,o<8->∀j:Nat,j<c o->∃y,ka l o ((j:Int)+1)=S y)(w:∀o:Nat,o<8->ka l o ((c o:Int)+1)=Z): ∀(N o:Nat) (a:bU),o+N=8->Y a=8->(∀q,q<o->a[q]?=S (c q:Int))->(∀q,o<=q->q<8->a[q]?=S 0) ->(((fj 3 (fh (.own (Y J+1) 0) (fj 37 fo))) λv=>K (.exit 0) ⟨v,J++[.box 61 bx,IB (ly c)]⟩)) ->gw (Y J) κ Pu K (N+1) ⟨(uu 1 (.ptr J.length 0::uu 1 (.own (Y J+1) 0::uu 5 (.I 8::.I o::uu 30 [])))),J++[.box 61 bx,IB a]⟩:=by
 intro N;induction N with
 |zero =>
  intro o a C p k i g;obtain rfl:o=8:=by omega
  have e:a=ly c:=by
   apply kR;intro q;by_cases f:q<8;.rw[k q f];simp[ly,f]
   rw[cH (by omega),cH (by simp[ly];omega)]
  rw[e];refine az λR t=>?_;simp only[Pu,VV,seval];first
   |exact g ..
   |exact⟨λh=>by simp at h,λ_=>g ..⟩
 |succ N ih =>
 intro o a C p k i g;have B:decide ((o:Int)<8)=θ:=by simp;omega
 have A:IntKind.i64.wrap ((o:Int)+1)=((o+1:Nat):Int):=da (by omega);refine az λR t=>?_;simp only[Pu,B,VV,seval];refine cB.wk (Wk.fw (ys:=(uu 1 (.ptr J.length 0::uu 1 (.own (Y J+1) 0::.I o::uu 4 (.I 8::.I o::uu 30 []))))) ?_) (cB.kT (c o+1) (Zz s l E u d o (by omega) (c o) (D o (by omega)) (h1 o (by omega)) (λ_=>w o (by omega)) (c o) 0 a (by omega) p (i o (aM _) (by omega)) ?_));.repeat' constructor
 intro b n x z r;simp only[JE];intros;simp only[A,VV,seval];refine t _ (cn [.box 61 bx,IB b] n ?_ ?_ ?_ (ih (o+1) b (by omega) x (λq f=>?_) (λq f m=>?_) g));.refine cj s ?_;simp only[IB,bF,bD,cA,cW,cK,ae,ai,aG];exact d
 .repeat' constructor
 .simp only[LW,ae,ai,aG];omega
 .by_cases e:q=o;.subst e;exact z
  rw[r q e];exact k q (by omega)
 rw[r q (by omega)];exact i q (by omega) m
def II(k:o.azU)(c:Nat->Nat)(e:s9 o.azS c)(d:∀q:Nat,q<8->c q<=128)(J:aj):bh κ 104 [.agg o.azR] J (.sl 1 ((tG c).map cN)):=by
 refine aW func104 aqk.2 λf n=>?_;have p:=k.len;simp only[aqk,SS,seval];refine cB.cutAt (.more (.more (.one _ _))) λR l=>?_;simp only[bO.azR,VV,seval];refine⟨⟨.inl trivial,by decide⟩,?_⟩;have i:∀(x:aV) (q j:Nat),oh x=((q:Int),(j:Int)+1)->oh x=((q:Int),(j:Int)+1):=λ_ _ _ h=>h;refine cB.wk (Wk.fw (ys:=(uu 1 (.ptr J.length 0::uu 1 (.own (Y J+1) 0::uu 5 (.I 8::.I (0:Nat)::uu 30 []))))) ?_) (cB.kT (8+1) (Zy (bx:=[.I o.azW,.I o.az5,.sl 13 (o.azS.map aV.azR),.sl 1 (aN o.log),.I o.aAe,.b o.down]) f o.azS (by omega) rfl (by simp[LW]) c d (λq a j m=>GR (e.has q a j m)) (λq a=>GS (e.no q a)) 8 0 [0,0,0,0,0,0,0,0] rfl rfl (λq a=>by omega) (λq _ a=>?_) ?_));.repeat' constructor
 .rcases q with _|_|_|_|_|_|_|_|q<;>first|rfl|omega
 simp only[JE];intros;simp only[VV,seval];refine l _ (cB.wk ((Wk.fz (Y J+1) (E:=3) (sz:=1) (by':=8) (g:=0) (sh:=G) (rows:=(ly c).map cN) (by rw[kO];rfl)).trans (Wk.fw (ys:=(uu 3 (.sl 1 ((ly c).map cN)::uu 37 []))) ?_)) (aq ?_));.simp only[aI,ar,Pm.fz,kE,cG,aU];repeat' constructor
 simp only[kf,IB,VV,seval];refine al (IY (ly c) _) rfl ?_;simp only[VV,seval];exact gm f (by rfl) (by simp[LW])
def Co{k a b c ga gb gc:Nat}(h:yj J k a b c)(d:List bO)(azY:List Let)(e:gh)(w:Y e<2^30)(i j:Nat)(E:i≠j)(p o:bO)(m:d[i]?=S p)(n:d[j]?=S o)(l:p.down=G)(g:o.down=G) (y:mO ⟨d,azY,e⟩ i j=θ) : PC κ 43 [.ptr k 0,.I i,.I j] (lA J k a b c (fE (.own a ga) (.own b gb) (.own c gc)) (bC ga d) (dm gb azY) (fX gc e)) (λr t=>r=.I 8/\t=lA J k a b c (fE (.own a ga) (.own b gb) (.own c gc)) (bC ga d) (dm gb azY) (fX gc e)):=by
 refine aW func43 p43.2 λC B=>aq ?_;have D:i<Y d:=(ag.1 m).1;have A:j<Y d:=(ag.1 n).1;have u:(0:Int)<=(i:Int):=by omega
 have s:(0:Int)<=(j:Int):=by omega
 have v:(i:Int)<(Y d:Int):=by omega
 have x:(j:Int)<(Y d:Int):=by omega
 have q:((i:Int)==(j:Int))=G:=by simp;omega
 have z:gv (d.map bO.azR) i 5=S (.b G):=by simp[gv,m,bO.azR,l]
 have f:gv (d.map bO.azR) j 5=S (.b G):=by simp[gv,n,bO.azR,g]
 simp only[p43,SS,seval];simp only[fE,bC,dm,fX,h.all,u,s,v,x,q,l,g,z,f,aa,VV,seval];refine⟨_,rfl,?_⟩;simp only[h.all,VV,seval];refine al (KV ⟨d,azY,e⟩ (.own a ga) (.own b gb) i j c gc (by show Y e<2^62;omega) _ ?_ ?_ ?_) rfl ?_;.simp only[h.all,fX]
 .simp only[h.all,ao,VV,seval]
 .simp only[h.all,ao,VV,seval]
 simp only[y,h.all,VV,seval];exact dS (.inr rfl) rfl (Wk.refl _ _) rfl ⟨rfl,rfl⟩
def qA:aB:=[.I x.aY.time,.I x.aY.bS,.I x.aY.azW,.I x.azT,.sl 3 (x.azV.azZ.map It.azR),.sl 3 (x.azV.az0.map It.azR),.s x.azV.cM,.s x.azV.next,.s x.azV.eu,.s x.azV.dC,.I x.azV.aAb,.I x.azV.aAc,.sl 1 (x.az1.map cN)]
def gy:x.azR=qA x:=by simp[qA,aV.azR,cL.azR,En.azR]
def af9{l:List aV}{i:Nat}{x:aV}(h:l[i]?=S x):(l.map aV.azR).getD i []=qA x:=by simp[aA,h,gy]
def af5:(l.map aV.azR).set k (qA x)=(l.set k x).map aV.azR:=by rw[aaH,gy]
def af7(h:k<Y l):((l.map aV.azR).getD k []).drop 13=[]:=by
 have:(l.map aV.azR).getD k []=l[k].azR:=by simp[aA,h]
 rw[this];simp[aV.azR,cL.azR,En.azR]
def Zx{KK:bL}{id g:Nat}(z:id<Y J)(f:Nat)(H:Ju κ f=θ)(q:aV->aV->Bool)(N:∀x y:aV,x.azU->y.azU->∀J,bh κ f [.agg x.azR,.agg y.azR] J (.b (q x y)))(n K:Nat)(hn:n<2^30): ∀(c d j:List aV) (a:aV) (k:Nat),K+k=Y d+Y j+1->1<=k->n=K+k+Y c->(∀x∈a::c,x.azU) ->(∀m:List aV,Y (d++jB q a c)+Y m=n->((fh (.own id g) (fj 4 (fh (.I (Y (d++jB q a c))) (fj 60 fo)))) λF=>KK (.exit 2) ⟨F,J.set id (gl g G ((d++jB q a c)++m))⟩)) ->gw (Y J) κ Jo KK (Y c+1) ⟨(.own id g::.fn f []::uu 3 (.I (Y d)::.sub id g K n::.I k::uu 58 [])),J.set id (gl g G (d++(j++a::c)))⟩:=by
 have t:∀K:Ob,(J.set id K)[id]?=S K:=λK=>aT z;intro c;induction c with
 |nil =>
  intro d j a k E O r p o;have W:decide ((k:Int)<((n - K:Nat):Int))=G:=by simp at r |-;omega
  refine az λR w=>?_;simp only[Jo,gl,t,W,VV,seval];have:=o (j++[a]) (by simp[jB]at r |-;omega);simp only[jB,bI,gl]at this;exact this ..
 |cons y c ih =>
 intro d j a k E O r p o;simp only[ae]at r;have U:IntKind.i64.wrap ((k:Int) - 1)=((k - 1:Nat):Int):=by rw[IntWalk.i64_in _ (by omega)];omega
 have B:(0:Int)<=(k:Int):=by omega
 have C:(k:Int)<((n - K:Nat):Int):=by omega
 have Q:(0:Int)<=((k - 1:Nat):Int):=by omega
 have P:((k - 1:Nat):Int)<((n - K:Nat):Int):=by omega
 have v:=af9 (l:=d++(j++a::y::c)) (i:=K+k) (by rw[E];exact aiE ..);have A:=af9 (l:=d++(j++a::y::c)) (i:=K+(k - 1)) (by rw[show K+(k - 1)=Y d+Y j by omega];exact aiD ..);have u:=af5 (d++(j++a::y::c)) d.length y;rw[Yy]at u;have T:=dD d y (by omega);have M:IntKind.i64.wrap ((k:Int)+1)=((k+1:Nat):Int):=by rw[da (by omega)]
 simp only[qA]at v A u;refine az λR w=>?_;simp only[Jo,gl,t,bt,U,B,C,Q,P,v,A,ak,VV,seval];refine vY rfl H (N y a (p y (by simp)) (p a (by simp)) _) (by simp only[gy,qA,VV,seval]) ?_;have D:Y d<Y (d++(j++a::y::c)):=by simp<;>omega
 have X:(Y d:Int)<(Y (d++(j++a::y::c)):Int):=by omega
 have L:(0:Int)<=(Y d:Int):=by omega
 simp only[t,v,T,M,B,C,L,D,X,V.pure,aa,af7 _ _ D,u,l9,VV,seval];refine⟨λh=>?_,λh=>?_⟩
 .have h:q y a=G:=by simpa using h
  have e:d++jB q a (y::c)=(d++[y])++jB q y c:=by simp[jB,h]
  rw[e]at o;rw[show d++y::((j++[a]).tail++y::c)=(d++[y])++((j++[a]).tail++y::c)by simp];refine w _ (bX ?_ (ih (d++[y]) (j++[a]).tail y (k+1) (by simp;omega) (by omega) (by omega) (λx s=>p x (bJ _ s)) o));repeat' constructor
 have h:q y a=θ:=by simpa using h
 have e:jB q a (y::c)=jB q y c:=by simp[jB,h]
 rw[e]at o;rw[show d++(j++a::y::c)=d++((j++[a])++y::c)by simp];refine w _ (bX ?_ (ih d (j++[a]) y (k+1) (by simp;omega) (by omega) (by omega) (λx s=>p x (bJ _ s)) o));repeat' constructor
def Zw{KK:bL}{id g:Nat}(n:id<Y J)(f:Nat)(B:Ju κ f=θ)(q:aV->aV->Bool)(F:∀x y:aV,x.azU->y.azU->∀J,bh κ f [.agg x.azR,.agg y.azR] J (.b (q x y)))(l:List aV)(u:∀x∈l,x.azU)(O:Y l<2^30): ∀(c d:List aV) (p:aV),l=d++p::c ->(jB q p c=c->((fh (.own id g) (fj 65 fo)) λt=>KK (.exit 0) ⟨t,J.set id (gl g G l)⟩)) ->(∀(m:Nat) (o:fx),m<=Y o->o.take m=(d++p::jB q p c).map aV.azR->((fj 4 (fh (.sub id g 0 m) (fj 61 fo))) λt=>KK .ret ⟨t,J.set id (.row 57 13 184 g G o)⟩)) ->gw (Y J) κ Po KK (Y c+1) ⟨(.own id g::.fn f []::uu 3 (.I ((Y d+1:Nat):Int)::uu 60 [])),J.set id (gl g G l)⟩:=by
 have r:∀K:Ob,(J.set id K)[id]?=S K:=λK=>aT n;intro c;induction c with
 |nil =>
  intro d p e s k;have hd:decide (((Y d+1:Nat):Int)<(Y l:Int))=G:=by rw[e];simp
  refine az λR D=>?_;simp only[Po,gl,r,hd,aa,VV,seval];exact s rfl ..
 |cons y c ih =>
 intro d p e s k;have hl:Y l=Y d+(Y c+1+1):=by rw[e];simp
 have E:(0:Int)<=((Y d+1:Nat):Int):=by omega
 have H:((Y d+1:Nat):Int)<(Y l:Int):=by omega
 have X:(0:Int)<=(Y d:Int):=by omega
 have V:(Y d:Int)<(Y l:Int):=by omega
 have W:((Y d+1:Nat):Int)<=(Y l:Int):=by omega
 have e5:IntKind.i64.wrap (((Y d+1:Nat):Int) - 1)=(Y d:Int):=by rw[IntWalk.i64_in _ (by omega)];omega
 have U:IntKind.i64.wrap (((Y d+1:Nat):Int)+1)=((Y (d++[p])+1:Nat):Int):=by rw[IntWalk.i64_in _ (by omega)];simp
 have v:=af9 (l:=l) (i:=Y d+1) (x:=y) (by rw[e];simp);have C:=af9 (l:=l) (i:=Y d) (x:=p) (by rw[e];simp);have A:=u y (by rw[e];simp);have M:=u p (by rw[e];simp);simp only[qA]at v C;refine az λR D=>?_;simp only[Po,gl,r,bt,e5,E,H,X,V,v,C,ak,aa,VV,seval];refine vY rfl B (F y p A M _) (by simp only[gy,qA,VV,seval]) ?_;simp only[r,v,U,E,H,W,aa,ak,VV,seval];refine⟨λh=>⟨mi _,?_⟩,λh=>?_⟩
 .have z:jB q p (y::c)=jB q y c:=by simp[jB,h]
  rw[z]at k;have P:Y (d++[p])=Y d+1:=by simp
  have Q:(d++[p])++([]++y::c)=l:=by rw[e];simp
  have w:=λKK=>Zx (KK:=KK) (g:=g) n f B q F l.length (Y d+1) O c (d++[p]) [] y 1 (by simp) (aM _) (by omega) (λx L=>u x (by rw[e];exact mE _ (bJ _ L)));rw[Q,P]at w;refine cB.wk (Wk.fw ?_) (cB.kT (Y c+1) (w _ ?_));.repeat' constructor
  intro j hj;simp only[JE];intros;clear w;have ho:d++p::jB q y c=(d++[p])++jB q y c:=by simp
  rw[ho]at k;generalize (d++[p])++jB q y c=out at *;have S3:(0:Int)<=(Y out:Int):=by omega
  have tX:(Y out:Int)<=(Y (out++j):Int):=by simp only[ah];omega
  simp only[gl,r,S3,tX,aa,ak,l9,VV,seval];have N:(List.map aV.azR (out++j)).take (Y out)=out.map aV.azR:=by simp
  rw[N];exact⟨mi _,aaK.2 (by rw[ah,aa];omega),k out.length _ (by rw[ah,aa];omega) (by simp) ..⟩
 have z:jB q p (y::c)=y::jB q y c:=by simp[jB,h]
 rw[z]at s k;refine D _ (bX ?_ (ih (d++[p]) y (by rw[e];simp) (λT=>s (by rw[T])) (λm o a b=>k m o a (by rw[b];simp))));repeat' constructor
def VP(w:Ju κ k=θ)(q:aV->aV->Bool)(n:∀x y:aV,x.azU->y.azU->∀J,bh κ k [.agg x.azR,.agg y.azR] J (.b (q x y)))(l:List aV)(t:∀x∈l,x.azU)(u:Y l<2^30)(id g:Nat)(J:aj)(f:J[id]?=S (gl g G l)): PC κ 118 [.own id g,.fn k []] J (λr v=>∃j,r=.own id j/\v=J.set id (gl j G (ot q l))):=by
 have d:id<Y J:=(ag.1 f).1;have s:∀K:Ob,(J.set id K)[id]?=S K:=λK=>aT d;have e:J.set id (gl g G l)=J:=FY f;refine aW func118 ap8.2 λE B=>aq ?_;have c:=f;simp only[gl]at c;simp only[ap8,SS,seval];simp only[c,aa,VV,seval];refine⟨λh=>?_,λh=>?_⟩
 .have h:Y l<2:=by simp at h;omega
  have A:ot q l=l:=by
   rcases l with _|⟨x,_|⟨y,r⟩⟩;.rfl
   .rfl
   simp at h<;>omega
  exact dS (.inr rfl) rfl (Wk.refl _ _) rfl ⟨g,rfl,by rw[A,e]⟩
 have h:2<=Y l:=by simp at h;omega
 obtain⟨p,a,rfl⟩:∃p a,l=p::a:=by
  rcases l with _|⟨x,r⟩;.simp at h
  exact⟨x,r,rfl⟩
 have i:=λKK=>Zw (KK:=KK) (g:=g) d k w q n (p::a) t u a [] p rfl;rw[e]at i;refine cB.wk (Wk.fw ?_) (cB.kT (Y a+1) (i _ ?_ ?_));.repeat' constructor
 .intro z;simp only[JE];intros;simp only[VV,seval];exact dS (.inr rfl) rfl (Wk.refl _ _) rfl ⟨g,rfl,by simp only[ot];rw[z,e]⟩
 intro m D C o;simp only[JE];intros;simp only[VV,seval];refine dS (.inr rfl) rfl (Wk.am1 (s _) 0 rfl) rfl ⟨g+1,rfl,?_⟩;rw[l9,o];rfl
def U9(b:aV)(d:x.azU)(a:b.azU)(J:aj):bh κ 119 [.agg x.azR,.agg b.azR] J (.b (iq x b==0)):=by refine aW func119 ap7.2 λc e=>aq ?_;simp only[ap7,SS,seval];simp only[gy,qA,VV,seval];refine al (uD x b d a _) (by simp only[gy,qA,VV,seval]) ?_;simp only[VV,seval];exact gm c (by rfl) (by simp[LW])
def P3:(prog.info? 99).map (·.size)=S 2:=by kernel_rfl
def Fo(a:Array Value)(n i:Nat)(b:List Value):Array Value :=((a.toList.take (i*2)++b++(a.toList.take (n*2)).drop (i*2))++a.toList.drop ((n+1)*2)).toArray
set_option maxRecDepth 100000 in
def LJ(n c i f d m:Nat)(a:Array Value)(b:List Value)(w:bQ)(hi:i<n)(xX:n+1<=c)(ad:c<=9223372036854775807)(J:f≠k) (z:w.heap[k]?=S (.cells a 99 (0,0))) (p:a.size=c*2) (Q:Y b=2) (GA:∀j v,b[j]?=S v->w.cell? ⟨f,d+j,Z⟩=S v) (C:∀v∈a.toList.take (n*2),v.oneCell'=θ) (H:∀v∈b,v.oneCell'=θ) (K L:TypeId) (t q:Nat) (Fq:w.shape? f=S (K,t)) (E:w.shape? k=S (L,q)) (D:q≠0) (xY:w.frozen? ⟨f,d,Z⟩=G) (A:w.frozen? ⟨f,t,Z⟩=G) : Calls κ 94 #[.slice (S ⟨k,0,Z⟩) n c,.int .i64 i,.slice (S ⟨f,d,Z⟩) 1 m] w λe V =>e=.returned (.slice (S ⟨k,0,Z⟩) (n+1) c)/\V=w.drew.setRow k (Fo a n i b):=by
 have F:∀s r,(callFunc 147 #[.slice (S ⟨f,d,Z⟩) 1 m,.slice (S ⟨k,(i+1)*2,Z⟩) s r]).run κ w=.ok (.value (.bool G)) w:=λs r=>by
  rw[run_callFunc_extern func147 (by kernel_rfl) (by kernel_rfl) (by kernel_rfl) (e:=Extern.SlicesOverlaps.overlaps #[27,27] #[4]) (by kernel_rfl),
   Lib.run_overlaps_apart w 27 4 99 underlying27 2 (λw=>Tryz.sizeOf99 w) ⟨f,d,Z⟩ ⟨k,(i+1)*2,Z⟩ 1 m s r J K L t q Fq E D xY A];rfl
 have M9:IntKind.i64.wrap ((i:Int)+1)=(i:Int)+1:=by rw[IntKind.wrap_i64];omega
 have Ee:IntKind.i64.wrap ((n:Int)+1)=(n:Int)+1:=by rw[IntKind.wrap_i64];omega
 have ac:¬((i:Int)=(n:Int)):=by omega
 have X2:(0:Int)<=(i:Int)+1:=by omega
 have HU:i<=n:=by omega
 have X:((i:Int)+1).toNat=i+1:=by omega
 have T:((n:Int)+1).toNat=n+1:=by omega
 have tt:¬(c=i+1):=by omega
 have am:(i:Int)<=(n:Int)+1:=by omega
 have af:¬(c=i):=by omega
 have N:=underlying27;have o:Y ((a.toList.take (n*2)).drop (i*2))=(n - i)*2:=by rw[ca,bj,bf,p,zB];have:n*2<=c*2:=cg _ (by omega);omega
 generalize u:(a.toList.take (n*2)).drop (i*2)=cs at o;have U:∀j v,cs[j]?=S v->(w.drew).cell? ((⟨k,i*2,Z⟩:Addr).add j)=S v:=by
  intro j v l;rw[<- u,ei,fZ]at l;split at l;.rw[Addr.add_lit];simp only[World.cell?,show w.drew.heap[k]?=S (.cells a 99 (0,0))from z];simpa using l
  cases l
 have mixed:prog.follows Departure.mixedOrders=θ:=by kernel_rfl
 have Vq:Nat.min (n+1 - i) (n - i)=n - i:=Nat.min_eq_right (by omega);have I:∀g h sc,(Builtin.copy_ #[27,27] g #[.slice (S ⟨k,(i+1)*2,Z⟩) (n - i) h,.slice (S ⟨k,i*2,Z⟩) (n+1 - i) sc]).run κ w.drew=.ok (goInt (Nat.min (n+1 - i) (n - i):Nat)) (w.drew.setRow k (a.toList.take ((i+1)*2)++cs++a.toList.drop ((i+1)*2+Y cs)).toArray):=λg h sc =>
  qQ w.drew _ _ g 99 k ((i+1)*2) _ h ⟨k,i*2,Z⟩ _ sc a 99 cs 2 N P3 z (by rw[o,Vq]) U (by rw[o,p];omega)
   (λv W=>C v (eO (u▸W)));generalize M:(a.toList.take ((i+1)*2)++(cs++a.toList.drop ((i+1)*2+(n - i)*2))).toArray=cur1;have Vn:cur1.size=c*2:=by rw[<- M];simp only[fI,ah,bj,ca,bf,o,p];omega
 have x:(w.drew.setRow k cur1).heap[k]?=S (.cells cur1 99 (0,0)):=setRow_heap w.drew k a cur1 99 (0,0) z;have R:Nat.min 1 (n+1 - i)=1:=fP (by omega);have y:∀g h,(Builtin.copy_ #[27,27] g #[.slice (S ⟨k,i*2,Z⟩) (n+1 - i) h,.slice (S ⟨f,d,Z⟩) 1 m]).run κ (w.drew.setRow k cur1)=.ok (goInt (Nat.min 1 (n+1 - i):Nat)) ((w.drew.setRow k cur1).setRow k (cur1.toList.take (i*2)++b++cur1.toList.drop (i*2+Y b)).toArray):=λg h =>
  qQ _ _ _ g 99 k (i*2) _ h ⟨f,d,Z⟩ _ m cur1 99 b 2 N P3 x (by rw[Q,R]) (λj v l=>by rw[Addr.add_lit];have O:=GA j v l;simp only[World.cell?,World.setRow,fk,aw (EM J)]at O |-;exact O) (by rw[Q,Vn];omega) H;go_enter func94,Tryz.ntmps94;go_wp2_with (simp only[F]);go_region_law_o (refine step_copy_runI rfl _ _ 27 27 rfl _ _ (by simp[Act.eval,Act.put]) (by simp[Act.eval,Act.put]) (I _ _ _) ?_);go_wp2_with (at_builtin;refine wpList_copy_runI _ rfl _ _ 27 27 rfl _ _ rfl rfl (y _ _) ?_);go_ret;refine⟨rfl,?_⟩;rw[setRow_setRow];have B:Y ((a.toList.take ((i+1)*2)))=(i+1)*2:=by rw[bj,bf,p];omega
 have P:cur1.toList=a.toList.take ((i+1)*2)++(cs++a.toList.drop ((i+1)*2+(n - i)*2)):=by rw[<- M]
 have e2:cur1.toList.take (i*2)=a.toList.take (i*2):=by rw[P,dW (by rw[B];omega),oK,fP (by omega)]
 have e3:cur1.toList.drop (i*2+2)=cs++a.toList.drop ((n+1)*2):=by rw[P,na (by rw[B];omega),qO (by rw[B];omega),ay];congr 2;omega
 rw[e2,e3,Fo,u];simp only[aO]
set_option maxRecDepth 100000 in
def PZ(g n i t d K:Nat)(b:Array Value)(c:List Value)(w:bQ)(hi:i<n)(a3:n<=2^30) (M:w.heap[g]?=S (.cells b 99 (0,0))) (u:b.size=n*2) (H:Y c=2) (GA:∀j v,c[j]?=S v->w.cell? ⟨t,d+j,Z⟩=S v) (N:∀v∈b.toList,v.oneCell'=θ) (L:∀v∈c,v.oneCell'=θ) (V:t<w.heap.size) : Calls κ 94 #[.slice (S ⟨g,0,Z⟩) n n,.int .i64 i,.slice (S ⟨t,d,Z⟩) 1 K] w λe w' =>∃(a:Nat) (row:Array Value),e=.returned (.slice (S ⟨w.heap.size,0,Z⟩) (n+1) a)/\n+1<=a/\a<=maxLen/\row.size=a*2 /\row.toList.take ((n+1)*2)=b.toList.take (i*2)++c++b.toList.drop (i*2)/\w'.heap[w.heap.size]?=S (.cells row 99 (0,0))/\w.grownBy w' Z:=by
 obtain⟨i0,z,ZP,J,P,E,sj⟩:=tq (T:=99) (n:=2) (by':=16) (by kernel_rfl);have U:=underlying27;have hI:=underlying3;have mixed:prog.follows Departure.mixedOrders=θ:=by kernel_rfl
 have Q:g<w.heap.size:=(cY.1 M).1;have o:(Builtin.firstCells i0.size i (.slice (S ⟨g,0,Z⟩) i n)).run κ w.drew=.ok (b.toList.take (i*2)).toArray w.drew:=by
  rw[P];exact run_firstCells_some w.drew 2 i ⟨g,0,Z⟩ i n (b.toList.take (i*2)) (by rw[bj,bf,u];omega) (λj v m=>by
   rw[Addr.add_lit];rw[fZ]at m;split at m;.simp only[World.cell?,show w.drew.heap[g]?=S (.cells b 99 (0,0))from M];simpa using m
   cases m)
 have p:i+(n+1 - i)=n+1:=by omega
 have TW:(n:Int)+1 - (i:Int)=((n+1 - i:Nat):Int):=by omega
 have r:∀f,(Builtin.append_ #[27,3] f #[.slice (S ⟨g,0,Z⟩) i n,.int .i64 ((n:Int)+1 - (i:Int))]).run κ w =
   .ok (.slice (S ⟨w.heap.size,0,Z⟩) (n+1) (grownCap w (n+1) n 99)) (w.drew.alloc (.cells ((b.toList.take (i*2)).toArray++Builtin.zeroCells z.cells (n+1 - i)++Builtin.zeroCells z.cells (grownCap w (n+1) n 99 - (n+1))) 99)):=λf=>by have h:=Lib.run_append_grow_zeros w 27 3 f 99 i0 z .i64 .i64 U hI ZP J (S ⟨g,0,Z⟩) i n (b.toList.take (i*2)) o (n+1 - i) (by omega) (by omega) (by omega) (by omega) (by rw[E];omega) (by rw[E,p];exact growslice_fits (by omega) (by omega));rw[p]at h;rw[TW];exact h
 have y:n+1<=grownCap w (n+1) n 99:=grownCap_ge w _ _ _;have q:grownCap w (n+1) n 99<=maxLen:=grownCap_le_maxLen w _ _ _ (by unfold maxLen;omega);generalize hG:grownCap w (n+1) n 99=a at r y q;have Vj:∀k,(Builtin.zeroCells z.cells k).size=k*2:=λk=>by simp[Builtin.zeroCells,sj]
 have l:((b.toList.take (i*2)).toArray++Builtin.zeroCells z.cells (n+1 - i)++Builtin.zeroCells z.cells (a - (n+1))).size=a*2:=by rw[kS,kS,Vj,Vj,fI,bj,bf,u];omega
 have C:((b.toList.take (i*2)).toArray++Builtin.zeroCells z.cells (n+1 - i)++Builtin.zeroCells z.cells (a - (n+1))).toList.take (i*2)=b.toList.take (i*2):=by
  have B:Y (b.toList.take (i*2))=i*2:=by rw[bj,bf,u];omega
  simp only[BR,aO];rw[dW (by rw[B];exact aM _),cx (by rw[B];exact aM _)]
 generalize W:(b.toList.take (i*2)).toArray++Builtin.zeroCells z.cells (n+1 - i)++Builtin.zeroCells z.cells (a - (n+1))=ROW at r l C;have au:¬((i:Int)=(n:Int)):=by omega
 have av:(n:Int)<(n:Int)+1:=by omega
 have M9:IntKind.i64.wrap ((i:Int)+1)=(i:Int)+1:=by rw[IntKind.wrap_i64];omega
 have Ee:IntKind.i64.wrap ((n:Int)+1)=(n:Int)+1:=by rw[IntKind.wrap_i64];omega
 have af:IntKind.i64.wrap ((n:Int)+1 - (i:Int))=(n:Int)+1 - (i:Int):=by rw[IntKind.wrap_i64];omega
 have X2:(0:Int)<=(i:Int)+1:=by omega
 have HU:i<=n:=by omega
 have ap:((i:Int)+1).toNat=i+1:=by omega
 have aE:(i:Int)<=(n:Int):=by omega
 have a0:(i:Int)<=(n:Int)+1:=by omega
 have aK:a<=9223372036854775807:=by unfold maxLen at q;omega
 have am:¬(a=i):=by omega
 have an:¬(a=i+1):=by omega
 have a2:¬(n=i):=by omega
 have O:¬(w.heap.size=g):=by omega
 have a1:¬(w.heap.size=t):=by omega
 have x:(w.alloc (.cells ROW 99)).drew.heap[w.heap.size]?=S (.cells ROW 99 (0,0)):=heap_alloc_new w _;have J8:Nat.min 1 (n+1 - i)=1:=fP (by omega);have X:Nat.min (n - i) (n - i)=n - i:=fP (aM _);have A:∀f s,(Builtin.copy_ #[27,27] f #[.slice (S ⟨w.heap.size,i*2,Z⟩) (n+1 - i) s,.slice (S ⟨t,d,Z⟩) 1 K]).run κ (w.alloc (.cells ROW 99)).drew =
   .ok (goInt (Nat.min 1 (n+1 - i):Nat)) ((w.alloc (.cells ROW 99)).drew.setRow w.heap.size (ROW.toList.take (i*2)++c++ROW.toList.drop (i*2+Y c)).toArray):=λf s =>
  qQ _ _ _ f 99 w.heap.size (i*2) _ s ⟨t,d,Z⟩ _ K ROW 99 c 2 U P3 x (by rw[H,J8]) (λj v m=>by rw[Addr.add_lit];exact(World.cell?_alloc_past (w:=w) _ t (d+j) V).trans (GA j v m)) (by rw[H,l];omega) L;have ac:Y (ROW.toList.take (i*2)++c++ROW.toList.drop (i*2+Y c))=a*2:=by simp only[ah,bj,ca,bf,l,H];omega
 generalize I:(ROW.toList.take (i*2)++c++ROW.toList.drop (i*2+Y c)).toArray=RA at A;have F:RA.size=a*2:=by rw[<- I,fI,ac]
 have D:((w.alloc (.cells ROW 99)).drew.setRow w.heap.size RA).drew.heap[w.heap.size]?=S (.cells RA 99 (0,0)):=setRow_heap _ w.heap.size ROW RA 99 (0,0) x;have R:Y (b.toList.drop (i*2))=(n - i)*2:=by rw[ca,bf,u,zB]
 have ad:∀f s sc,(Builtin.copy_ #[27,27] f #[.slice (S ⟨w.heap.size,(i+1)*2,Z⟩) (n - i) s,.slice (S ⟨g,i*2,Z⟩) (n - i) sc]).run κ ((w.alloc (.cells ROW 99)).drew.setRow w.heap.size RA).drew = .ok (goInt (Nat.min (n - i) (n - i):Nat)) (((w.alloc (.cells ROW 99)).drew.setRow w.heap.size RA).drew.setRow w.heap.size (RA.toList.take ((i+1)*2)++b.toList.drop (i*2)++RA.toList.drop ((i+1)*2+Y (b.toList.drop (i*2)))).toArray):=λf s sc =>qQ _ _ _ f 99 w.heap.size ((i+1)*2) _ s ⟨g,i*2,Z⟩ _ sc RA 99 (b.toList.drop (i*2)) 2 U P3 D (by rw[R,X]) (λj v m=>by
   rw[Addr.add_lit];rw[ei]at m;have h0:(w.alloc (.cells ROW 99)).heap[g]?=S (.cells b 99 (0,0)):=by rw[Below.heap_alloc w _ g Q];exact M
   have h1:((w.alloc (.cells ROW 99)).drew.setRow w.heap.size RA).drew.heap[g]?=S (.cells b 99 (0,0)):=by simp only[World.setRow,World.drew,fk,aw O];exact h0
   simp only[World.cell?,h1];simpa using m) (by rw[R,F];omega) (λv hv=>N v (eO hv));clear TW p o W hG l;go_enter func94,Tryz.ntmps94;go_wp2_with (first
  |(at_builtin;refine Lib.wpList_append_run _ rfl _ _ _ _ rfl _ _ rfl rfl _ _ (r _) ?_)
  |(at_builtin;refine wpList_copy_runI _ rfl _ _ 27 27 rfl _ _ rfl rfl (A _ _) ?_));go_region_law_o (refine step_copy_runI rfl _ _ 27 27 rfl _ _ (by simp[Act.eval,Act.put]) (by simp[Act.eval,Act.put]) (ad _ _ _) ?_);go_wp2;go_ret;have eW:Y (b.toList.take (i*2))=i*2:=by rw[bj,bf,u];omega
 have e1:RA.toList=b.toList.take (i*2)++(c++ROW.toList.drop (i*2+Y c)):=by rw[<- I,<- C,aO]
 have e2:RA.toList.take ((i+1)*2)=b.toList.take (i*2)++c:=by
  have B:Y (b.toList.take (i*2)++c)=(i+1)*2:=by rw[ah,eW,H];omega
  rw[e1,<- List.append_assoc,dW (by rw[B];exact aM _),cx (by rw[B];exact aM _)]
 have EJ:Y (RA.toList.take ((i+1)*2)++b.toList.drop (i*2))=(n+1)*2:=by rw[e2,ah,ah,eW,H,R];omega
 refine⟨a,_,rfl,y,q,?_,?_,setRow_heap _ _ RA _ 99 (0,0) D,?_⟩;.rw[fI,<- List.append_assoc,ah,EJ,ca,bf,F];omega
 .show List.take ((n+1)*2) (RA.toList.take ((i+1)*2)++(b.toList.drop (i*2)++RA.toList.drop ((i+1)*2+(n - i)*2)))=_;rw[<- List.append_assoc,dW (by rw[EJ];exact aM _),cx (by rw[EJ];exact aM _),e2]
 refine⟨rfl,rfl,rfl,?_,λk hk _=>?_⟩;.simp only[World.setRow,World.drew,xp,World.alloc,Array.size_push];omega
 simp only[World.setRow,World.drew,fk,aw (show ¬w.heap.size=k by omega)];exact Below.heap_alloc w _ k hk
def SO(l:gh)(x:Int×Int)(m id h g g2:Nat)(ac:Bool)(hm:m<Y l)(hl:Y l<2^30)(J:aj)(Q:id≠h)(h1:J[id]?=S (.row 99 2 16 g G (l.map cF)))(h2:J[h]?=S (.row 99 2 16 g2 ac [cF x])): PC κ 94 [.own id g,.I m,.own h g2] J (λr J'=>r=.own id (g+1)/\J'=J.set id (.row 99 2 16 (g+1) G ((l.take m++x::l.drop m).map cF))):=by
 refine PC.acp h1 λB w0 w μ vs D o=>?_;have M:=o.2 0 _ rfl;have a1:=(o.2 1 _ rfl).kK;have P:=o.2 2 _ rfl;have M:=M.nv h1;have P:=P.nv h2;obtain⟨_,d,O,eG⟩:=D.obj id _ h1;obtain⟨_,c,U,SZ⟩:=D.obj h _ h2;have e:vs=#[μ id,.int .i64 m,μ h]:=by obtain⟨q⟩:=vs;match q,o.1 with|[u,v,y],_=>simp at M a1 P;rw[M,a1,P]
 rw[e];have o1:=nD.one D eG O.1;have o2:=nD.one D SZ U.1;rcases O.2 with⟨_,V⟩|⟨s,n,f,T,hB,A,J7,CZ,t,F⟩;.rw[aa]at V;omega
 rcases U.2 with⟨_,V⟩|⟨L,p,C,E,ap,K,am,an,af,W⟩;.simp at V
 have qw:Y (l.map cF)=Y l:=aa ..;rw[qw]at T J7 F O;have XV:L≠s:=λe=>Q (D.sep id h _ _ s h1 h2 (by simp) (by simp) (by rw[T];rfl) (by rw[E,e];rfl));have R:Y c=2:=by simpa using U.1
 have Na:Y d=Y l*2:=by rw[O.1]
 have GA:∀j v,c[j]?=S v->w.cell? ⟨L,0+j,Z⟩=S v:=by
  intro j v N;rw[<- W,fZ]at N;split at N;.simp only[World.cell?,K,aG];simpa using N
  cases N
 have ad:L<w.heap.size:=(cY.1 K).1;have i:Y ((l.take m++x::l.drop m).map cF)=Y l+1:=by simp;omega
 have H:nD w J μ ((l.take m++x::l.drop m).map cF) 2 (d.take (m*2)++c++d.drop (m*2)):=by have:=Rp (r:=cF x) eG (by rw[qw];exact Na) SZ R m (by rw[qw];omega);simpa[gD,lY]using this
 have z:Y (d.take (m*2)++c++d.drop (m*2))=(Y l+1)*2:=by simp only[ah,bj,ca,Na,R];omega
 rw[T,E];by_cases xX:Y l+1<=n
 .refine(LJ s l.length n m L 0 p f c w hm xX (by unfold maxLen at CZ;omega) XV A t R GA (λv o=>o1 v (F▸o)) o2 99 99 C.size f.size (by simp[World.shape?,K]) (by simp[World.shape?,A]) (by rw[t];omega) (by simp[World.frozen?,K]) (by simp[World.frozen?,K])).mono ?_;rintro e w' ⟨rfl,rfl⟩;refine⟨_,_,rfl,?_,λb X=>.inl X,?_,H⟩
  .refine⟨rfl,rfl,rfl,?_,λk hk Q=>?_⟩;.simp only[World.setRow,World.drew,xp];exact aM _
   have xf:¬s=k:=λe=>Q (by rw[e];rfl);simp only[World.setRow,World.drew,fk,aw xf]
  rw[i];have e1:f.toList.take (m*2)=d.take (m*2):=by rw[<- F,oK,fP (by omega)]
  have e2:(Fo f l.length m c).toList=(d.take (m*2)++c++d.drop (m*2))++f.toList.drop ((Y l+1)*2):=by rw[Fo,F,e1]
  refine⟨z,.inr ⟨s,n,_,rfl,hB,setRow_heap w.drew s f _ 99 (0,0) A,xX,CZ,?_,?_⟩⟩;.have e3:(Fo f l.length m c).size=Y (Fo f l.length m c).toList:=bf.symm;rw[e3,e2,ah,z,ca,(show Y f.toList=n*2 from by rw[bf,t])];omega
  rw[e2,dW (by rw[z];exact aM _),cx (by rw[z];exact aM _)]
 have pU:n=Y l:=by omega
 subst pU;have iT:f.toList=d:=by rw[<- F,cx (by rw[bf,t];exact aM _)]
 refine(PZ s l.length m L 0 p f c w hm (by omega) A t R GA (λv o=>o1 v (iT▸o)) o2 ad).mono ?_;rintro e w' ⟨a,row,rfl,q1,q2,q3,q4,q5,q6⟩;refine⟨_,_,rfl,?_,λb X=>.inr ?_,?_,H⟩;.obtain⟨p1,p2,p3,p4,p5⟩:=q6;exact⟨p1,p2,p3,p4,λk hk Q=>p5 k hk (by simp)⟩
 .simp only[nQ,ab]at X;omega
 rw[i];refine⟨z,.inr ⟨w.heap.size,a,row,rfl,by have:=(cY.1 A).1;omega,q5,q1,q2,q3,?_⟩⟩;rw[q4,iT]
set_option maxRecDepth 20000 in
def ES(a b:En)(J:aj):bh κ 125 [.agg a.azR,.agg b.azR] J (.b (Hv a b)):=by
 refine aW func125 ap0.2 λc e=>aq ?_;simp only[ap0,SS,seval];simp only[En.azR,VV,seval];refine al (wL a.azZ b.azZ _) rfl ?_;simp only[VV,seval];have d:Hv a b=(jG a.azZ b.azZ&&(jG a.az0 b.az0&&(a.cM==b.cM&&(a.next==b.next&&(a.eu==b.eu&&(a.dC==b.dC&&(a.aAb==b.aAb&&a.aAc==b.aAc))))))):=rfl;rw[d];refine bV (by simp only[VV,seval]<;>rfl) (λ_=>wL a.az0 b.az0 _) rfl ?_;simp only[VV,seval];cases jG a.azZ b.azZ<;>simp only[VV,seval];.exact gm c (by rfl) (by simp[LW])
 cases jG a.az0 b.az0<;>simp only[VV,seval];.exact gm c (by rfl) (by simp[LW])
 cases a.cM==b.cM<;>simp only[VV,seval];.exact gm c (by rfl) (by simp[LW])
 cases a.next==b.next<;>simp only[VV,seval];.exact gm c (by rfl) (by simp[LW])
 cases a.eu==b.eu<;>simp only[VV,seval];.exact gm c (by rfl) (by simp[LW])
 cases a.dC==b.dC<;>simp only[VV,seval];.exact gm c (by rfl) (by simp[LW])
 cases a.aAb==b.aAb<;>simp only[VV,seval];.exact gm c (by rfl) (by simp[LW])
 exact gm c (by rfl) (by simp[LW])
def ag1(A:bT J)(a b:List En)(s:Y a<2^62)(u:Y a=Y b):∀(f d c l:List En),a=c++f->b=l++d->Y c=Y l ->(kU f d=θ->∀j,((fj 32 fo) λn=>K (.exit 0) ⟨n,J++j⟩))->(kU f d=G->∀j,((fj 6 (fh (.b G) (fj 25 fo))) λn=>K .ret ⟨n,J++j⟩)) ->gw (Y J) κ Ph K (Y f+1) ⟨(uu 1 (.sl 8 (b.map En.azR)::.fn 125 []::uu 12 (.sl 8 (a.map En.azR)::.I (Y a)::.I (Y c)::uu 14 []))),J⟩:=by
 intro f;induction f with
 |nil =>
  intro d c l g k p i m;have:d=[]:=by subst g;subst k;simp at u;exact cd (by omega)
  subst this;have g:=dL g;subst g;have i:=i rfl [];rw[bI]at i;refine az λR t=>?_;simp only[Ph,VV,seval];exact⟨λh=>by simp at h,λ_=>i ..⟩
 |cons x f ih =>
 intro d c l g k p i m;cases d with
 |nil=>subst g;subst k;simp at u;omega
 |cons y d =>
 have B:=gY g;have q:(a.map En.azR).getD c.length []=x.azR:=by rw[g];exact dR
 have r:(b.map En.azR).getD c.length []=y.azR:=by rw[k,p];exact dR
 have v:=dD c x (by omega);have w:(0:Int)<=(Y c:Int):=by omega
 have z:(Y c:Int)<(Y a:Int):=by omega
 have o:(Y c:Int)<(Y b:Int):=by omega
 simp only[En.azR]at q r;refine az λR t=>?_;simp only[Ph,ak,q,r,w,z,o,v,bt,aa,VV,seval];refine vY rfl (by kernel_rfl) (ES x y _) (by simp only[En.azR,VV,seval]) ?_;simp only[v,VV,seval];refine⟨λh=>?_,λh=>?_⟩
 .have h:Hv x y=G:=by rw[dG]at h;exact h
  exact m (by simp[kU,h]) ..
 have h:Hv x y=θ:=by rw[eP]at h;exact h
 have e:kU (x::f) (y::d)=kU f d:=by simp[kU,h]
 rw[e]at i m;refine t _ (cn [] [_,_] (by rw[bI];exact A) ?_ ?_ (by rw[bI];exact ih d (c++[x]) (l++[y]) (by rw[g];simp) (by rw[k];simp) (by simp[p]) i m));.repeat' constructor
 simp only[LW,aqx]
def Qk(a b:List En)(c:Y a<2^62)(J:aj):bh κ 124 [.sl 8 (a.map En.azR),.sl 8 (b.map En.azR),.fn 125 []] J (.b (kU a b)):=by
 refine aW func124 ap1.2 λd g=>aq ?_;simp only[ap1,SS,seval];simp only[aa,VV,seval];refine⟨λh=>?_,λh=>?_⟩
 .have h:Y a≠Y b:=by simp at h;omega
  have e:kU a b=G:=by cases f:kU a b with|false=>rfl|true=>exact absurd (Nr f) h
  exact bK (.inr rfl) rfl ⟨by rw[e];rfl,rfl⟩
 have h:Y a=Y b:=by simp at h;omega
 refine cB.bX ?_ (Y a+1) (ag1 d a b c h a b [] [] rfl rfl rfl (λc=>?_) (λc=>?_));.repeat' constructor
 .simp only[JE];intros;simp only[VV,seval];exact bA d (.inr rfl) rfl (by simp[LW]) ⟨by rw[c];rfl,rfl⟩
 simp only[JE];intros;exact bA d (.inr rfl) rfl (by simp[LW]) ⟨by rw[c];rfl,rfl⟩
def afz(a b:List En)(c:Y a<2^62)(J:aj):bh κ 66 [.sl 8 (a.map En.azR),.sl 8 (b.map En.azR)] J (.b (kU a b)):=by refine aW func66 p66.2 λd e=>aq ?_;simp only[p66,SS,seval];simp only[VV,seval];refine al (Qk a b c _) rfl ?_;simp only[VV,seval];exact bK (.inr rfl) rfl ⟨rfl,rfl⟩
def FZ(a:List bO):Bool:=match a with|[]=>θ|p::_=>a.all λo=>!o.down&&kU (dw o.azS) (dw p.azS)
def yP(l:List En):kU l l=θ:=by induction l with|nil=>rfl|cons x r ih=>simp only[kU,aZ];exact⟨Eu.2 rfl,ih⟩
def akF{K:bL}(O:bT J)(b:Ob)(n:Net)(U:b=.box 29 n.azR)(p:bO)(y:List bO)(F:n.an=p::y)(Q:Y n.an<2^30)(N:∀o∈n.an,o.azU):∀(d a:List bO),n.an=a++d->(a≠[]->p.down=G) ->(d.all (λo=>!o.down&&kU (dw o.azS) (dw p.azS))=θ->∀B,((fj 31 fo) λH=>K (.exit 0) ⟨H,J++B⟩))->(d.all (λo=>!o.down&&kU (dw o.azS) (dw p.azS))=G->∀B,((fj 2 (fh (.b G) (fj 28 fo))) λH=>K .ret ⟨H,J++B⟩)) ->gw (Y J) κ MT K (Y d+1) ⟨(uu 1 (.ptr J.length 0::uu 4 (.sl 6 (n.an.map bO.azR)::.I (Y n.an)::.I (Y a)::uu 22 []))),J++[b]⟩:=by
 intro d;induction d with
 |nil =>
  intro a z P E D;have z:n.an=a:=by simpa using z
  refine az λR M=>?_;simp only[MT,z,VV,seval];exact⟨λh=>by simp at h,λ_=>E rfl ..⟩
 |cons o d ih =>
 intro a z P E D;subst U;have hl:Y n.an=Y a+(Y d+1):=by rw[z];simp
 have X:=N o (by rw[z];simp);have s:=dD a o (by omega);have m:(n.an.map bO.azR).getD a.length []=o.azR:=by rw[z];exact dR
 have t:(0:Int)<=(Y a:Int):=by omega
 have r:(Y a:Int)<(Y n.an:Int):=by omega
 simp only[bO.azR]at m;have x:(0:Int)<(Y n.an:Int):=by omega
 have q:(n.an.map bO.azR).getD 0 []=p.azR:=by rw[F];rfl
 have V:=N p (by rw[F];simp);simp only[bO.azR]at q;refine az λR M=>?_;have f:(θ==G)=G:=rfl;have j:(G==G)=θ:=rfl;have g:(θ==θ)=θ:=rfl;have i:(G==θ)=G:=rfl;cases e:o.down
 .by_cases C:a=[]
  .subst C;have W:p=o/\y=d:=by rw[F]at z;simpa using z
   obtain⟨rfl,rfl⟩:=W;have A:decide ((0:Int)<(0:Int))=G:=rfl;have T:(Y ([]:List bO):Int)=0:=rfl;have m:=q;rw[T]at t r s;rw[T];simp only[MT,Net.azR,m,q,t,r,x,e,s,A,bt,bZ,aa,ak,f,j,g,i,dI,dp,dB,eV,VV,seval];refine⟨.u,?_⟩;refine bV (c:=G) (v:=.u) (by simp only[f,j,g,i,dI,dp,dB,eV,VV,seval]<;>rfl) (λh=>by cases h) rfl ?_;simp only[bO.azR,m,q,t,r,x,e,s,bt,bZ,aa,f,j,g,i,dI,dp,dB,eV,VV,seval];refine bV (c:=G) (v:=.u) (by simp only[f,j,g,i,dI,dp,dB,eV,VV,seval]<;>rfl) (λh=>by cases h) rfl ?_;simp only[bO.azR,m,q,t,r,x,e,s,bt,bZ,aa,f,j,g,i,dI,dp,dB,eV,VV,seval];refine bV (c:=G) (v:=.b G) (by simp only[f,j,g,i,dI,dp,dB,eV,VV,seval]<;>rfl) (λh=>by cases h) rfl ?_;simp only[bO.azR,m,q,t,r,x,e,s,bt,bZ,aa,f,j,g,i,dI,dp,dB,eV,VV,seval];have L:=ih ([]++[p]) (by rw[F];rfl) (λ_=>e) (λw=>E (by simp only[gF,e,yP,w];rfl)) (λw=>D (by simp only[gF,e,yP,w];rfl));refine M _ (cn [.box 29 n.azR] [_] (by have:=cj O (l:=[.box 29 n.azR]) (by simp only[Net.azR,bF,bD,cA,cW,cK,LW]);exact this) ?_ ?_ L);.repeat' constructor
   simp only[Net.azR,LW,ae,ai,aG];omega
  have A:decide ((0:Int)<(Y a:Int))=θ:=by have:=fJ.2 C;simp;omega
  have k:=P C;have EI:Y (dw o.azS)<2^62:=by have:=D9 o.azS;omega
  simp only[MT,Net.azR,m,q,t,r,x,e,s,A,k,bt,bZ,aa,ak,f,j,g,i,dI,dp,dB,eV,VV,seval];refine⟨_,rfl,?_⟩;refine bV (c:=θ) (by simp only[f,j,g,i,dI,dp,dB,eV,VV,seval]<;>rfl) (λ_=>Fj o X e _) (by simp only[bO.azR,e,A,k,VV,seval]) ?_;simp only[bO.azR,m,q,t,r,x,e,s,bt,bZ,A,k,aa,f,j,g,i,dI,dp,dB,eV,VV,seval];refine bV (c:=θ) (by simp only[f,j,g,i,dI,dp,dB,eV,VV,seval]<;>rfl) (λ_=>Fj p V k _) (by simp only[bO.azR,e,A,k,VV,seval]) ?_;simp only[bO.azR,m,q,t,r,x,e,s,bt,bZ,A,k,aa,f,j,g,i,dI,dp,dB,eV,VV,seval];refine bV (c:=θ) (by simp only[f,j,g,i,dI,dp,dB,eV,VV,seval]<;>rfl) (λ_=>afz (dw o.azS) (dw p.azS) EI _) (by simp only[bO.azR,e,A,k,VV,seval]) ?_;simp only[bO.azR,m,q,t,r,x,e,s,bt,bZ,A,k,aa,f,j,g,i,dI,dp,dB,eV,VV,seval];refine⟨λw=>?_,λw=>?_⟩;.exact D (by simp only[gF,e];rw[dG]at w;rw[w];rfl) ..
  have w:kU (dw o.azS) (dw p.azS)=θ:=by rw[eP]at w;exact w
  have L:=ih (a++[o]) (by rw[z];simp) (λ_=>k) (λh=>E (by simp only[gF,e,w,h];rfl)) (λh=>D (by simp only[gF,e,w,h];rfl));refine M _ (cn [.box 29 n.azR] [_] (by have:=cj O (l:=[.box 29 n.azR]) (by simp only[Net.azR,bF,bD,cA,cW,cK,LW]);exact this) ?_ ?_ L);.repeat' constructor
  simp only[Net.azR,LW,ae,ai,aG];omega
 simp only[MT,Net.azR,m,q,t,r,x,e,s,bt,bZ,aa,ak,f,j,g,i,dI,dp,dB,eV,VV,seval];refine⟨.u,?_⟩;refine bV (c:=G) (v:=.u) (by simp only[f,j,g,i,dI,dp,dB,eV,VV,seval]<;>rfl) (λh=>by cases h) rfl ?_;simp only[bO.azR,m,q,t,r,x,e,s,bt,bZ,aa,f,j,g,i,dI,dp,dB,eV,VV,seval];refine bV (c:=G) (v:=.u) (by simp only[f,j,g,i,dI,dp,dB,eV,VV,seval]<;>rfl) (λh=>by cases h) rfl ?_;simp only[bO.azR,m,q,t,r,x,e,s,bt,bZ,aa,f,j,g,i,dI,dp,dB,eV,VV,seval];refine bV (c:=G) (v:=.b G) (by simp only[f,j,g,i,dI,dp,dB,eV,VV,seval]<;>rfl) (λh=>by cases h) rfl ?_;simp only[bO.azR,m,q,t,r,x,e,s,bt,bZ,aa,f,j,g,i,dI,dp,dB,eV,VV,seval];exact D (by simp only[gF,e];rfl) ..
def EF(c:Y n.an<2^30)(j:∀o∈n.an,o.azU)(k:n.an≠[])(J:aj):bh κ 23 [.agg n.azR] J (.b (FZ n.an)):=by
 refine aW func23 p23.2 λf m=>aq ?_;obtain⟨p,a,g⟩:∃p l,n.an=p::l:=by cases h:n.an with|nil=>exact absurd h k|cons p l=>exact⟨p,l,rfl⟩
 have i:FZ n.an=n.an.all λo=>!o.down&&kU (dw o.azS) (dw p.azS):=by rw[g];rfl
 have d:=λK=>akF (K:=K) f (.box 29 n.azR) n rfl p a g c j n.an [] rfl (λh=>absurd rfl h);rw[<- i]at d;simp only[Net.azR]at d;simp only[p23,SS,seval];simp only[Net.azR,aa,VV,seval];refine cB.wk (Wk.fw ?_) (cB.kT (Y n.an+1) (d _ ?_ ?_));.repeat' constructor
 .intro e;simp only[JE];intros;simp only[VV,seval];exact bA f (.inr rfl) rfl (by simp[LW]) ⟨by rw[e];rfl,rfl⟩
 intro e;simp only[JE];intros;exact bA f (.inr rfl) rfl (by simp[LW]) ⟨by rw[e];rfl,rfl⟩
def zEn:En:=⟨[],[],[],[],[],[],0,0⟩
def Nw(j:n.azU)(i:Nat)(o d:bO)(x:aV)(f:n.an[i]?=S o)(e:En)(g:∀J,bh κ 96 [.agg o.azR,.agg e.azR] J (.jg [.agg d.azR,.agg x.azR,.I 0]))(J:aj):
  bh κ 18 [.agg n.azR,.agg (Ev.azR ⟨1,i,0,0,e⟩)] J (gf ⟨n.an.set i d,n.ax,n.cw⟩ 0):=by have m:i<Y n.an:=(ag.1 f).1;refine PJ n j ⟨1,i,0,0,e⟩ (by simp[kh,LK];omega) rfl _ _ (λJ k a b c h=>?_) J;refine(D7 h n.an (dm 0 n.ax) (fX 0 n.cw) trivial trivial ⟨1,i,0,0,e⟩ rfl i rfl o f d x 0 g (ga:=0) (gb:=0) (gc:=0)).mono ?_;rintro r l ⟨rfl,rfl⟩;exact⟨rfl,_,_,_,_,rfl,λ_=>⟨0,0,0,rfl,rfl,rfl,rfl⟩⟩
def arP(f:n.azU)(a b:Nat)(m:a<Y n.an)(g:b<Y n.an)(o:a≠b)(d:n.cw=[])(e:En)(J:aj): bh κ 18 [.agg n.azR,.agg (Ev.azR ⟨7,a,b,0,e⟩)] J (gf ⟨n.an,n.ax,[gj a b]⟩ 0):=by refine Zf n f ⟨7,a,b,0,e⟩ (by simp[kh,LK];omega) rfl _ _ (λJ k l j c h=>?_) J;rw[d];refine(PK h (bC 0 n.an) (dm 0 n.ax) trivial trivial ⟨7,a,b,0,e⟩ rfl (by show(a:Int)≠b;omega) (ga:=0) (gb:=0) (gc:=0)).mono ?_;rintro r i ⟨rfl,rfl⟩;exact⟨rfl,_,_,_,_,rfl,λ_=>⟨0,0,1,rfl,rfl,rfl,rfl⟩⟩
def aim(m:n.azU)(i j:Nat)(q:i≠j)(f d:bO)(g:n.an[i]?=S f)(l:n.an[j]?=S d)(p:f.down=G)(o:d.down=G)(s:mO n i j=θ)(e:En)(J:aj):
  bh κ 18 [.agg n.azR,.agg (Ev.azR ⟨3,i,j,0,e⟩)] J (gf Net.zero 8):=by have v:i<Y n.an:=(ag.1 g).1;have t:j<Y n.an:=(ag.1 l).1;refine UY n m ⟨3,i,j,0,e⟩ (by simp[kh,LK];omega) rfl _ _ (λJ k a b c h=>?_) J;refine(Co h n.an n.ax n.cw m.um i j q f d g l p o s (ga:=0) (gb:=0) (gc:=0)).mono ?_;rintro r u ⟨rfl,rfl⟩;exact⟨rfl,_,_,_,_,rfl,λh=>absurd h (by decide)⟩
end Go.Proofs.Tryz
