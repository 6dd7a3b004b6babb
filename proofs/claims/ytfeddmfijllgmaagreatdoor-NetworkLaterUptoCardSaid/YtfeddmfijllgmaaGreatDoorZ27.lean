/- Part of a proof. -/
import Derived.Test.YtfeddmfijllgmaaGreatDoorZ26
set_option linter.all false
set_option maxHeartbeats 4000000
open Bool renaming true->G,false->Z
open Go.Proofs.Tryz renaming prog->A
open List renaming length->X
namespace Go.Proofs.Tryz
open Go Go.Pm Go.Bt Go.RowKit
variable(b:Nat)(Q:bX)(F:fF)(g:Nat)(C:Int)(T:ai)(R:List bX)(B:bf)(c:Int×Int)(v:Net)(r:Int){f H:Int}{l:List bf}{a M y:Nat}{D w:Ob}{p q:V}{U t:ai}{P:bX}{L j:bf}
def Iz(a:Q.down=G)(J:ai):bh A 63 [.agg Q.axV,.agg B.axV] J (fA bX.zero 15):=by refine aT func63 p63.2 λb c=>an ?_;simp only[p63,SS,seval];simp only[bX.axV,bf.axV,cz.axV,En.axV,a,VV,seval];exact iH b (by simp only[RS,seval]) (.cons (Cv.iK (vY 0)) (.cons (.refl _) .nil)) (by simp only[bX.axV,LW]) ⟨rfl,rfl⟩
def Iy(x y:bf)(f:Q.axZ)(i:x.axZ)(a:Q.down=false)(h:eO x=0)(e:lz Q.axX x.aZ.bR x.aZ.ax0=some y)(g:MG x y=G)(J:ai):
  bh A 63 [.agg Q.axV,.agg x.axV] J (fA Q 0):=by refine aT func63 p63.2 λd j=>an ?_;have b:=f.len;simp only[p63,SS,seval];simp only[bX.axV,bf.axV,cz.axV,En.axV,a,VV,seval];refine ak (ml x i _) (by simp only[bf.axV,cz.axV,En.axV,VV,seval]) ?_;simp only[h,VV,seval];refine ak (um Q.axX (by omega) x.aZ.bR x.aZ.ax0 _) rfl ?_;simp only[e,vl,bf.axV,cz.axV,En.axV,aF,aw,VV,seval];refine cm (c:=G) (by simp only[VV,seval]<;>rfl) (λ_=>vg x y _) (by simp only[bf.axV,cz.axV,En.axV,VV,seval]) ?_;simp only[g,VV,seval];simp only[fA,bX.axV,a,VV,seval];exact aS d (by simp only[RS,seval];rfl) (by simp[LW]) ⟨rfl,rfl⟩
def Lp(k:Q.axZ)(n:∀y∈Q.axX,y.axZ)(d:B.axZ)(e:Q.down=false)(f:eO B=0)(h:X (dx B)<=60000)(m:Q.log.length<=4000000)(j:lz Q.axX B.aZ.bR B.aZ.ax0=none)(o:B.aZ.bR≠Q.ax0)(l:∀y∈Q.axX,dS y B≠0)(J:ai): bh A 63 [.agg Q.axV,.agg B.axV] J (fA (jn Q B (nv Q.axX B)) 0):=by
 refine aT func63 p63.2 λi p=>an ?_;have g:=k.len;have a:(B.aZ.bR==Q.ax0)=false:=by simpa using o
 simp only[p63,SS,seval];simp only[bX.axV,bf.axV,cz.axV,En.axV,e,VV,seval];refine ak (ml B d _) (by simp only[bf.axV,cz.axV,En.axV,VV,seval]) ?_;simp only[f,VV,seval];refine ak (um Q.axX (by omega) B.aZ.bR B.aZ.ax0 _) rfl ?_;simp only[j,vl,nf,bf.axV,cz.axV,En.axV,aF,aw,aq,VV,seval];refine cm (c:=false) (v:=.b false) (by simp only[VV,seval]<;>rfl) (nofun) rfl ?_;simp only[a,VV,seval];refine ak (rq B d _) (by simp only[bf.axV,cz.axV,En.axV,VV,seval]) ?_;simp only[HC f,VV,seval];refine ak (FE Q.log (dx B) h m _) rfl ?_;simp only[VV,seval];refine ak (EE Q.axX B (by omega) n d _) (by simp only[bf.axV,cz.axV,En.axV,VV,seval]) ?_;simp only[uz l,VV,seval];simp only[fA,jn,bX.axV,qJ,e,VV,seval];exact aS i (by simp only[RS,seval];rfl) (by simp[LW]) ⟨rfl,rfl⟩
def l0(m:Nat)(a:Int)(e:En)(c:Nat->Nat):bf:=⟨⟨Q.ax7+1,Q.ax0,(m:Int)+1⟩,a,e,qx c⟩
def gg(e:Int):V:=.iS [.agg Q.axV,.agg B.axV,.I e]
def pG:Nat:=X (Q.axX.filter λx=>x.aZ.bR==Q.ax0)
def Sa(e:En)(d:Q.axZ)(i:Q.down=false)(v:∀y∈Q.axX,y.axZ)(c:Nat->Nat)(E:qe Q.axX c)(w:∀q:Nat,q<8->c q<=128)(j:(l0 Q (pG Q) C e c).axZ)(D:eO (l0 Q (pG Q) C e c)=0) (r:X (dx (l0 Q (pG Q) C e c))<=60000) (B:Q.log.length<=4000000) (K:pG Q<128) (H:0<=Q.ax7/\Q.ax7<2^30) (u:∀y∈Q.axX,dS y (l0 Q (pG Q) C e c)≠0) (J:ai) : bh A 100 [.agg Q.axV,.I C,.agg e.axV] J (gg (po Q (l0 Q (pG Q) C e c) (nv Q.axX (l0 Q (pG Q) C e c))) (l0 Q (pG Q) C e c) 0):=by
 refine aT func100 aop.2 λp F=>an ?_;have n:=d.len;have x:pG Q<=Q.axX.length:=jH _ _;have o:IntKind.i64.wrap ((pG Q:Int)+1)=(pG Q:Int)+1:=IntWalk.i64_in _ (by omega);have k:IntKind.i64.wrap (Q.ax7+1)=Q.ax7+1:=IntWalk.i64_in _ (by omega);have l:∀J,bh A 153 [.agg Q.axV] J (.I (pG Q:Nat)):=λJ=>ZC Q d J;have z:decide ((128:Int)<(pG Q:Int)+1)=false:=by simp;omega
 have t:decide ((1073741824:Int)<=Q.ax7)=false:=by simp;omega
 simp only[aop,SS,seval];have m:=Fy Q d c E w;simp only[bX.axV,En.axV,i,VV,seval]at l m |-;refine ak (l _) rfl ?_;simp only[o,z,t,k,VV,seval];intro a;refine ak (m _) rfl ?_;simp only[VV,seval];have f:bf.axV (l0 Q (pG Q) C e c)=[.I (Q.ax7+1),.I Q.ax0,.I ((pG Q:Int)+1),.I C,.sl 3 (e.ax3.map It.axV),.sl 3 (e.ax4.map It.axV),.s e.cJ,.s e.next,.s e.dL,.s e.dh,.I e.ayd,.I e.ayf,.sl 1 ((qx c).map cG)]:=by simp only[l0,bf.axV,cz.axV,En.axV,aF,aw]
 refine ak (rq (l0 Q (pG Q) C e c) j _) (by simp only[f,VV,seval]) ?_;simp only[HC D,VV,seval];refine ak (FE Q.log (dx (l0 Q (pG Q) C e c)) r B _) rfl ?_;simp only[VV,seval];refine ak (EE Q.axX (l0 Q (pG Q) C e c) (by omega) v j _) (by simp only[f,VV,seval]) ?_;simp only[uz u,k,bC,VV,seval];have h:(if Q.ax7<(l0 Q (pG Q) C e c).aZ.time then(l0 Q (pG Q) C e c).aZ.time else Q.ax7)=Q.ax7+1:=aO (show Q.ax7<Q.ax7+1 by omega);have g:(po Q (l0 Q (pG Q) C e c) (nv Q.axX (l0 Q (pG Q) C e c))).axV=[.I Q.ax0,.I (Q.ax7+1),.sl 13 ((qJ Q.axX (l0 Q (pG Q) C e c)).map bf.axV),.sl 1 (aC (Q.log++pd (dx (l0 Q (pG Q) C e c)))),.I (X (Q.log++pd (dx (l0 Q (pG Q) C e c))):Nat),.b false]:=by simp only[po,jn,bX.axV,qJ,i,h]
 simp only[gg,g,f];exact aS p (by simp only[RS,seval];rfl) (by simp[LW]) ⟨rfl,rfl⟩
def IA(e:En)(a:Q.down=G)(J:ai):bh A 49 [.agg Q.axV,.agg e.axV] J (gg bX.zero nf 15):=by refine aT func49 p49.2 λb c=>an ?_;simp only[p49,SS,seval];simp only[bX.axV,En.axV,a,VV,seval];exact iH b (by simp only[RS,seval]) (.cons (Cv.iK (vY 0)) (.cons (Cv.iK Z8) (.cons (.refl _) .nil))) (by simp only[bX.axV,bf.axV,cz.axV,En.axV,aF,aw,LW]) ⟨rfl,rfl⟩
def C3(e:En)(d:e.axZ)(g:cY e=0)(b:Q.down=Z)(a:∀J,bh A 100 [.agg Q.axV,.I 1,.agg e.axV] J (gg P L f))(J:ai): bh A 49 [.agg Q.axV,.agg e.axV] J (gg P L f):=by refine aT func49 p49.2 λc h=>an ?_;simp only[p49,SS,seval];simp only[bX.axV,En.axV,b,VV,seval]at a |-;refine ak (kq e d _) (by simp only[En.axV,VV,seval]) ?_;simp only[g,VV,seval];refine ak (a _) rfl ?_;simp only[gg,bX.axV,bf.axV,cz.axV,En.axV,aF,aw,VV,seval];exact aS c (by simp only[RS,seval];rfl) (by simp[LW]) ⟨rfl,rfl⟩
structure OfX (f1 f2 f9 f10 f11:Nat) (o:bX) (e:Ev) (o':bX) (er:Int):Prop where
 c1:e.axW=1->∃x,∀J,bh prog f1 [.agg o.axV,.agg e.axY.axV] J (gg o' x er)
 c2:e.axW=2->∃x,∀J,bh prog f2 [.agg o.axV,.agg e.axY.axV] J (gg o' x er)
 c9:e.axW=9->∀J,bh prog f9 [.agg o.axV] J (fA o' er)
 Es:e.axW=10->(o.down=true/\er=15)\/(o.down=false/\er=0/\∀J,bh prog f10 [.agg o.axV,.I e.n] J (.agg o'.axV))
 c11:e.axW=11->∀J,bh prog f11 [.agg o.axV] J (fA o' er)
def W3{J:ai}{k a b c w E K:Nat}(h:uV J k a b c)(m:List bX)(B C:Ob)(q:mK (X J) B)(n:mK (X J) C)(e:Ev)(F:e.axW=1\/e.axW=2\/e.axW=9\/e.axW=10\/e.axW=11)(i:Nat)(L:e.a=i)(o:bX)(z:m[i]?=some o)(D:bX)(y:Int) (t:OfX 96 97 62 98 59 o e D y) : PC A 46 [.ptr k 0,.agg e.axV] (jZ J k a b c (eW (.own a w) (.own b E) (.own c K)) (bI w m) B C) (λr M=>r=.I y/\∃d,M=jZ J k a b c (eW (.own a w) (.own b E) (.own c K)) d B C/\(y=0->d=bI w (m.set i D))):=by
 obtain⟨N,T,O,P,R⟩:=e;simp only at F L;subst L;refine aT func46 p46.2 λp Q=>an ?_;have f:(m.map bX.axV).getD i []=o.axV:=by simp[ax,z]
 have s:i<X m:=(ag.1 z).1;have u:=yg m i D;have g:(0:Int)<=(i:Int):=by omega
 have j:(i:Int)<(X m:Int):=by omega
 have H:gi (m.map bX.axV) i 5=some (.b o.down):=by simp[gi,z,bX.axV]
 simp only[bX.axV]at f;simp only[p46,SS,seval];rcases F with rfl|rfl|rfl|rfl|rfl;.obtain⟨x,l⟩:=t.c1 rfl;simp only[Ev.axV,En.axV,eW,bI,h.all,f,g,j,bX.axV,ab,VV,seval];refine ak (l _) (by simp only[bX.axV,En.axV,VV,seval]) ?_;simp only[gg,bX.axV,h.all,f,g,j,u,ab,VV,seval];exact⟨s,kc p (kE h.la h.lb h.lc) trivial q n (.inr rfl) rfl (by simp[LW]) ⟨rfl,_,rfl,λ_=>rfl⟩⟩
 .obtain⟨x,l⟩:=t.c2 rfl;simp only[Ev.axV,En.axV,eW,bI,h.all,f,g,j,bX.axV,ab,VV,seval];refine ak (l _) (by simp only[bX.axV,En.axV,VV,seval]) ?_;simp only[gg,bX.axV,h.all,f,g,j,u,ab,VV,seval];exact⟨s,kc p (kE h.la h.lb h.lc) trivial q n (.inr rfl) rfl (by simp[LW]) ⟨rfl,_,rfl,λ_=>rfl⟩⟩
 .have l:=t.c9 rfl;simp only[Ev.axV,En.axV,eW,bI,h.all,f,g,j,bX.axV,ab,VV,seval];refine ak (l _) (by simp only[bX.axV,VV,seval]) ?_;simp only[fA,bX.axV,h.all,f,g,j,u,ab,VV,seval];exact⟨s,kc p (kE h.la h.lb h.lc) trivial q n (.inr rfl) rfl (by simp[LW]) ⟨rfl,_,rfl,λ_=>rfl⟩⟩
 .rcases t.Es rfl with⟨v,rfl⟩|⟨v,rfl,l⟩;.simp only[Ev.axV,En.axV,eW,bI,h.all,f,g,j,H,v,bX.axV,ab,VV,seval];exact kc p (kE h.la h.lb h.lc) trivial q n (.inr rfl) rfl (by simp[LW]) ⟨rfl,_,rfl⟩
  simp only[Ev.axV,En.axV,eW,bI,h.all,f,g,j,H,v,bX.axV,ab,VV,seval];refine ak (l _) (by simp only[bX.axV,v,VV,seval]) ?_;simp only[bX.axV,h.all,f,g,j,u,ab,VV,seval];exact⟨s,kc p (kE h.la h.lb h.lc) trivial q n (.inr rfl) rfl (by simp[LW]) ⟨rfl,_,rfl,rfl⟩⟩
 have l:=t.c11 rfl;simp only[Ev.axV,En.axV,eW,bI,h.all,f,g,j,bX.axV,ab,VV,seval];refine ak (l _) (by simp only[bX.axV,VV,seval]) ?_;simp only[fA,bX.axV,h.all,f,g,j,u,ab,VV,seval];exact⟨s,kc p (kE h.la h.lb h.lc) trivial q n (.inr rfl) rfl (by simp[LW]) ⟨rfl,_,rfl,λ_=>rfl⟩⟩
def Vd(c:M<a)(d:p.Lt a)(e:q.Lt a):mK a (eW (.own M y) p q):=by
 intro j x b;rcases j with _|_|_|j;.simp only[aG,aa]at b;subst b;exact .own _ _ c
 .simp only[aP,cA,aG,aa]at b;subst b;exact d
 .simp only[aP,Nat.reduceAdd,cA,aG,aa]at b;subst b;exact e
 simp at b
def HD{k a b c ga:Nat}(h:uV U k a b c)(n s:V)(D:n.Lt (X U))(j:s.Lt (X U))(f:List bX)(B C:Ob)(E:mK (X U) B)(u:mK (X U) C)(x:Let)(v:X f<2^30)(i:Nat)(z:x.dst=i)(o:bX)(y:f[i]?=some o)(p:bX)(e:Int) (t:∀U,bh A 116 [.agg o.axV,.agg x.op.axV] U (fA p e)) : PC A 60 [.ptr k 0,.agg x.axV] (jZ U k a b c (eW (.own a ga) n s) (bI ga f) B C) (λr J=>r=.I e/\J=jZ U k a b c (eW (.own a ga) n s) (bI ga (if e=0 then f.set i p else f)) B C):=by
 obtain⟨src,F,N⟩:=x;simp only at z t;subst z;refine aT func60 p60.2 λw M=>an ?_;have l:(f.map bX.axV).getD i []=o.axV:=by simp[ax,y]
 have H:i<X f:=(ag.1 y).1;have L:=yg f i p;have m:(0:Int)<=(i:Int):=by omega
 have q:(i:Int)<(X f:Int):=by omega
 simp only[bX.axV]at l;simp only[p60,SS,seval];simp only[Let.axV,k6,zk,eW,bI,h.all,l,m,q,bX.axV,ab,VV,seval];refine ak (nG i (X f) _) rfl ?_;have K:Nc i (X f)=G:=by simp[Nc];omega
 simp only[K,h.all,l,m,q,bX.axV,ab,VV,seval];intro d;refine ak (t _) (by simp only[k6,zk,bX.axV,VV,seval]) ?_;simp only[fA,bX.axV,h.all,l,m,q,ab,VV,seval];refine⟨λg=>⟨H,?_⟩,λg=>?_⟩
 .have g:e=0:=by simpa using g
  rw[L,aO g];exact kc w (Vd h.la D j) trivial E u (.inr rfl) rfl (by simp[LW]) ⟨rfl,rfl⟩
 have g:¬e=0:=by simpa using g
 rw[ao g];exact kc w (Vd h.la D j) trivial E u (.inr rfl) rfl (by simp[LW]) ⟨rfl,rfl⟩
def pj(ax2:List Let)(a:fF):V:=.agg [.own b g,.sl 15 (ax2.map Let.axV),.sl 2 (a.map ct)]
def qw(d:bW (U.set a D))(f:∀T c,w≠.box T c):bW (U.set a w):=by
 intro id T c b j x e;by_cases h:a=id
 .subst h;rw[iT]at b;split at b
  .split at b;.exact absurd (kW b) (f T c)
   cases b
  contradiction
 have:=d id T c (by rw[bD h]at b |-;exact b) j x e;simpa using this
def FA(ax2:List Let)(f:fF)(i:Nat)(h:i<X R)(d:bX)(a:Int)(J:ai)(k:b<X J): PC prog 50 [pj b g ax2 f,.I i,.agg d.axV,.I a] (J.set b (bI g R)) (λr n=>r=.iS [if a=0 then pj b g ax2 f else .agg Net.zero.axV,.I a]/\n=J.set b (bI g (if a=0 then R.set i d else R))):=by
 refine aT func50 p50.2 λe p=>an ?_;have l:(0:Int)<=(i:Int):=by omega
 have m:(i:Int)<(X R:Int):=by omega
 have o:=yg R i d;have j:(R.map bX.axV).getD i []=(R[i]).axV:=by simp[ax,h]
 simp only[bX.axV]at j;have H:=at1 k;simp only[p50,SS,seval];simp only[pj,bI,bX.axV,H,l,m,j,ab,↓IT,VV,seval];refine⟨λc=>?_,λc=>?_⟩
 .have c:¬a=0:=by simpa using c
  simp only[ao c];refine gT (xs:=[.agg [.nil,.nil,.nil],.I a]) (.inr rfl) (by simp only[RS,H,seval]) ((Wk.fG (.cons (.iK (.cons (.nil 6) (.cons (.nil 15) (.cons (.nil 2) .nil)))) (.cons (.refl _) .nil))).trans (Wk.lA (by simp) e (dO.1 ?_))) rfl ⟨rfl,rfl⟩;simp only[LW]
 have c:a=0:=by simpa using c
 subst c;simp only[aR,o,H,↓IT,VV,seval];refine⟨h,fp (by simp only[RS,H,seval];rfl) (Wk.lA (by simp) (qw e (by simp)) (dO.1 ?_)) rfl ⟨rfl,rfl⟩⟩;simp only[LW,fw];exact k
def acm:F.map ct++[[.I c.1,.I c.2]]=(F++[c]).map ct:=by simp[ct]
def aax{K:bG}(v:bW (U++[D,w]))(l:fF)(a b:Int)(o:X l<2^30):∀(d i f:fF) (g:Nat),l=i++d->X f+X d<=X l ->(∀g,((fj 4 (fh (.ptr (X U) 0) (fj 3 (fh (.ptr (X U+1) 0) (fj 1 (fh (.own (X U+2) g) (fj 75 fo))))))) λu=>K (.exit 0) ⟨u,U++[D,w,fm g (f++d.filter λc=>!(c==fx a b))]⟩)) ->gF (X U) A UG K (X d+1) ⟨(uu 1 (.I a::.I b::uu 1 (.ptr (X U) 0::uu 3 (.ptr (X U+1) 0::uu 1 (.own (X U+2) g::uu 11 (.sl 2 (l.map ct)::.I (X l)::.I (X i)::uu 61 [])))))),U++[D,w,fm g f]⟩:=by
 intro d;induction d with
 |nil =>intro i f g k q m;have k:=dH k;subst k;refine aD λR n=>?_;simp only[UG,fm,↓IT,VV,seval];simp only[rV,bE,fm]at m;exact⟨λh=>by simp at h,λ_=>m g ..⟩
 |cons y d ih =>
 intro i f g k q m;have z:=ko k;simp only[ah]at q;have p:=eE i y (by omega);have t:(List.map ct l).getD (X i) []=[.I y.1,.I y.2]:=by rw[k];exact gA
 have r:decide ((X i:Int)<(X l:Int))=G:=by simp;omega
 have j:∀g f,bW (U++[D,w,fm g f]):=λg f=>by have:=cx v (l:=[fm g f]) (by simp[fm]);simpa using this
 refine aD λR n=>?_;simp only[UG,fm,al,t,r,p,ab,↓IT,VV,seval];refine⟨⟨by omega,by omega⟩,?_⟩;refine ak (wL a b _) rfl ?_;have x:((y.1==(fx a b).1)&&(y.2==(fx a b).2))=(y==fx a b):=rfl;simp only[ct,ix,ez,p,x,db,V.pure,ab,maxLen,↓IT,VV,seval];refine⟨λh=>?_,λh=>?_⟩
 .have e:(y::d).filter (λc=>!(c==fx a b))=y::d.filter (λc=>!(c==fx a b)):=EA (by simpa using h);rw[e]at m;refine⟨⟨by omega,by omega⟩,?_⟩;have s:=acm f y;rw[s];refine n _ (dn [D,w,fm (g+1) (f++[y])] [_] (j _ _) ?_ ?_ (ih (i++[y]) (f++[y]) (g+1) (by rw[k];simp) (by simp;omega) (by simpa using m)));.repeat' constructor
  simp only[LW,ah,aj,aP];omega
 have e:(y::d).filter (λc=>!(c==fx a b))=d.filter (λc=>!(c==fx a b)):=sO (by simpa using h);rw[e]at m;refine n _ (dn [D,w,fm g f] [_] (j _ _) ?_ ?_ (ih (i++[y]) f g (by rw[k];simp) (by omega) m));.repeat' constructor
 simp only[LW,ah,aj,aP];omega
def aaw{K:bG}{x y:V}(r:bW (U++[.box 29 [x,y,.sl 2 (F.map ct)],D]))(a b:Int)(p:X F<2^30):∀(d f:fF),F=f++d ->(((fj 1 (fh (.I a) (fh (.I b) (fj 1 (fh (.ptr (X U) 0) (fj 3 (fh (.ptr (X U+1) 0) (fj 4 (fh (.I (X f+fe d (fx a b):Nat)) (fj 72 fo)))))))))) λq=>K (.exit 2) ⟨q,U++[.box 29 [x,y,.sl 2 (F.map ct)],D]⟩)) ->gF (X U) A UF K (X d+1) ⟨(uu 1 (.I a::.I b::uu 1 (.ptr (X U) 0::uu 3 (.ptr (X U+1) 0::uu 4 (.I (X f)::uu 72 []))))),U++[.box 29 [x,y,.sl 2 (F.map ct)],D]⟩:=by
 intro d;induction d with
 |nil =>
  intro f g i;have g:=dH g;subst g;have j:decide ((X F:Int)<(X F:Int))=Z:=by simp
  rw[show fe [] (fx a b)=0 from rfl,cg]at i;refine aD λR o=>?_;simp only[UF,j,ab,bb,↓IT,VV,seval];refine⟨.u,?_⟩;refine cm (c:=Z) (v:=.u) (by simp only[VV,seval]<;>rfl) (nofun) rfl ?_;simp only[bb,↓IT,VV,seval];refine cm (c:=Z) (v:=.b Z) (by simp only[VV,seval]<;>rfl) (nofun) rfl ?_;simp only[bb,↓IT,VV,seval];exact i ..
 |cons z d ih =>
 intro f g i;have s:=ko g;have k:=eE f z (by omega);have m:(List.map ct F).getD (X f) []=[.I z.1,.I z.2]:=by rw[g];exact gA
 have j:decide ((X f:Int)<(X F:Int))=G:=by simp;omega
 have l:(0:Int)<=(X f:Int):=by omega
 have n:(X f:Int)<(X F:Int):=by omega
 refine aD λR o=>?_;simp only[UF,al,m,j,k,l,n,cZ,ab,bb,↓IT,VV,seval];refine⟨_,rfl,?_⟩;refine cm (c:=G) (by simp only[VV,seval]<;>rfl) (λ_=>wL a b _) rfl ?_;simp only[al,m,l,n,cZ,ab,bb,↓IT,VV,seval];refine cm (c:=G) (by simp only[VV,seval]<;>rfl) (λ_=>ZD z (fx a b) _) (by simp only[ct,VV,seval]) ?_;simp only[k,bb,↓IT,VV,seval];refine⟨λh=>?_,λh=>?_⟩
 .have e:X f+fe (z::d) (fx a b)=X (f++[z])+fe d (fx a b):=by simp only[fe,eG,h,aR,ah,ae,aj];omega
  rw[e]at i;refine o _ (bL ?_ (ih (f++[z]) (by rw[g];simp) i));repeat' constructor
 have e:fe (z::d) (fx a b)=0:=by simp[fe,eG,h]
 rw[e,cg]at i;exact i ..
def ahR:Ti A 99 2 16:=ng (by kernel_rfl)
def oL(a:Bool):fF×Int :=if a=G then(if fx C r∈F then(F.filter λc=>!(c==fx C r),0)else([],6))
 else if C=r then([],1)else if fx C r∈F then([],5)else(F.take (fe F (fx C r))++fx C r::F.drop (fe F (fx C r)),0)
def agM:(F.any λa=>a==c)=decide (c∈F):=by rw[ei,hZ,decide_eq_true_iff];exact⟨λ⟨a,b,d⟩=>beq_iff_eq.1 d▸b,λh=>⟨c,h,aK c⟩⟩
def Lk{b:ar}{a:List Rs}(c:bW U)(g:lG ⟨b,U++D::t⟩ a=some [.agg [.nil,.nil,.nil],.I f])(e:p=.agg Net.zero.axV): wF A (X U) a (λr d=>r=.iS [p,.I f]/\d=U) .ret ⟨b,U++D::t⟩:=by subst e;exact lE (ys:=[.agg Net.zero.axV,.I f]) c (.inr rfl) g (.cons (.iK (.cons (.nil 6) (.cons (.nil 15) (.cons (.nil 2) .nil)))) (.cons (.refl _) .nil)) (by simp only[Net.zero,Net.axV,LW]) ⟨rfl,rfl⟩
def adV(f:X v.cy<2^30)(a b:Int)(n:Bool)(J:ai): bh A 53 [.agg v.axV,.I a,.I b,.b n] J (.iS [if(oL v.cy a b n).2=0 then .agg (Net.axV ⟨v.aM,v.aW,(oL v.cy a b n).1⟩)else .agg Net.zero.axV,.I (oL v.cy a b n).2]):=by
 refine aT func53 p53.2 λm C=>an ?_;obtain⟨w,ax2,l⟩:=v;simp only at f;have t:=λJ=>ye l (.sl 6 (w.map bX.axV)) (.sl 15 (ax2.map Let.axV)) a b (by omega) J rfl rfl (.sl ..) (.sl ..);simp only[agM]at t;simp only[p53,SS,seval];have p:∀d,mK (X J+2) d->bW (J++[.box 29 [.sl 6 (w.map bX.axV),.sl 15 (ax2.map Let.axV),.sl 2 (l.map ct)],.box 29 [.nil,.nil,.nil]]):=λd B=>cx m (by simp only[bV,bM,dp,dF,dm,LW]);have p:=p .dead trivial;cases n
 .simp only[Net.axV,↓IT,VV,seval];refine⟨λh=>?_,λh=>?_⟩
  .have e:oL l a b Z=([],1):=by simp[oL,beq_iff_eq.1 h]
   rw[e];exact Lk m (by simp only[RS,seval]) rfl
  have h:¬a=b:=by simpa using h
  refine ak (t _) rfl ?_;by_cases i:fx a b∈l
  .have e:oL l a b Z=([],5):=by simp[oL,i,h]
   simp only[e,Af i,↓IT,VV,seval];exact Lk m (by simp only[RS,seval]) rfl
  have e:oL l a b Z=(l.take (fe l (fx a b))++fx a b::l.drop (fe l (fx a b)),0):=by simp[oL,i,h]
  simp only[e,rT i,↓IT,VV,seval];refine cD.wk (Wk.fG (ys:=(uu 1 (.I a::.I b::uu 1 (.ptr (X J) 0::uu 3 (.ptr (X J+1) 0::uu 4 (.I (X ([]:fF):Nat)::uu 72 [])))))) ?_) (cD.mM (X l+1) (aaw l p a b f l [] rfl ?_));.repeat' constructor
  have y:=Ct l (fx a b);generalize fe l (fx a b)=k at y |-;simp only[JE];intros;have u:(l.map ct).take k=(l.take k).map ct:=fM.symm;have r:((l.map ct).drop k).take (X l - k)=(l.drop k).map ct:=by rw[<- List.map_drop];exact cc (by simp)
  have s:X (l.take k)=k:=by simp;omega
  have o:(0:Int)<=(k:Int):=by omega
  have q:(k:Int)<=(X l:Int):=by omega
  cases j:((l.take k).map ct).isEmpty with
  |true =>
   have z:l.take k=[]:=by simpa using j
   simp only[aj,aP,u,j,al,o,q,kX,r,s,ab,gm,aI,bo,V.pure,maxLen,↓IT,VV,seval];refine⟨⟨by omega,by omega⟩,?_⟩;refine ak (wL a b _) rfl ?_;simp only[ct,al,o,q,kX,r,s,ae,ab,bN,gm,aI,bo,V.pure,maxLen,↓IT,VV,seval];refine⟨⟨by omega,by omega⟩,fB 2 m (by simp only[RS,seval];rfl) rfl ?_ ?_⟩;.simp only[az,aq,Pm.fz,jR,cw,aR,LW]
   simp only[az,aq,Pm.fz,jR,cw,aR];refine⟨?_,trivial⟩;simp[Pm.cM,z,ct]
  |false =>
  simp only[aj,aP,u,j,al,o,q,kX,r,s,ab,gm,aI,bo,V.pure,maxLen,↓IT,VV,seval];refine⟨⟨by omega,by omega⟩,?_⟩;refine ak (wL a b _) rfl ?_;simp only[ct,al,o,q,kX,r,s,ae,ab,bN,gm,aI,bo,V.pure,maxLen,↓IT,VV,seval];refine⟨⟨by omega,by omega⟩,⟨by omega,by omega⟩,fB 2 m (by simp only[RS,seval];rfl) rfl ?_ ?_⟩;.simp only[az,aq,Pm.fz,jR,cw,aR,LW]
  simp only[az,aq,Pm.fz,jR,cw,aR];refine⟨?_,trivial⟩;simp[Pm.cM,ct]
 simp only[Net.axV,↓IT,VV,seval];refine ak (t _) rfl ?_;by_cases i:fx a b∈l
 .have e:oL l a b true=(l.filter λc=>!(c==fx a b),0):=by simp[oL,i]
  simp only[e,Af i,ab,↓IT,VV,seval];refine cD.wk ((((Wk.fG (ys:=(uu 1 (.I a::.I b::uu 1 (.ptr (X J) 0::uu 3 (.ptr (X J+1) 0::uu 1 (.nil::uu 11 (.sl 2 (l.map ct)::.I (X l)::.I (X ([]:fF):Nat)::uu 61 []))))))) (by repeat' constructor)).trans (Wk.jP (P:=A) (k:=10) ahR rfl)).trans (Wk.fG (ys:=(uu 1 (.I a::.I b::uu 1 (.ptr (X J) 0::uu 3 (.ptr (X J+1) 0::uu 1 (.own (X J+2) 0::uu 11 (.sl 2 (l.map ct)::.I (X l)::.I (X ([]:fF):Nat)::uu 61 []))))))) ?_))) ?_;.simp only[ae,ah,aj,VV,seval];repeat' constructor
  have x:=λK=>aax (K:=K) p l a b f l [] [] 0 rfl (by simp);simp only[fm,aq,aw]at x;simp only[aJ,aF,aw];refine cD.mM (X l+1) (x _ ?_);intro g;simp only[JE];intros;simp only[↓IT,VV,seval];refine fB 2 m (by simp only[RS,seval];rfl) rfl ?_ ?_;.simp only[az,aq,Pm.fz,jR,cw,aR,LW]
  simp only[az,aq,Pm.fz,jR,cw,aR];exact⟨rfl,trivial⟩
 have e:oL l a b true=([],6):=by simp[oL,i]
 simp only[e,rT i,↓IT,VV,seval];exact Lk m (by simp only[RS,seval]) rfl
def afi{n:Nat}{xs:ar}:Wk A n xs (U++.box 29 [p,.lit 15 [],q]::t) xs (U++.box 29 [p,.sl 15 [],q]::t):=by have:=Wk.cellS (P:=A) (n:=n) (xs:=xs) (J:=U++.box 29 [p,.lit 15 [],q]::t) (id:=X U) (T:=29) (j:=1) (cs:=[p,.lit 15 [],q]) (x:=.lit 15 []) (y:=.sl 15 []) (by simp) rfl (λ_ _ _ _ _ _ h=>(Cv.lit 15 []).ok h);simpa only[rS,cu,cH]using this
def MY{n m:Nat}{xs:ar}{a:Ob}{g:Nat}{l:List Let}(e:X U=m)(f:bW (U++[.box 29 [p,.sl 15 (l.map Let.axV),q],D,w,a]))(i:n<=m)(h:iY (m+4) xs): Wk prog n xs (U++[.box 29 [p,.own (m+4) g,q],D,w,a,.row 76 15 200 g Z (l.map Let.axV)]) xs (U++[.box 29 [p,.sl 15 (l.map Let.axV),q],D,w,a]):=by
 subst e;have b:=Wk.share (P:=prog) (n:=n) (xs:=xs) (J:=U++[.box 29 [p,.own (X U+4) g,q],D,w,a,cL g l]) (id:=X U+4) (E:=76) (sz:=15) (by':=200) (g:=g) (sh:=Z) (rows:=l.map Let.axV) (by simp[cL]);have d:=Wk.ES (P:=prog) (n:=n) (xs:=xs) (J:=U++[.box 29 [p,.own (X U+4) g,q],D,w,a,.row 76 15 200 g G (l.map Let.axV)]) (id:=X U) (idr:=X U+4) (T:=29) (j:=1) (g:=g) (E:=76) (sz:=15) (by':=200) (rows:=l.map Let.axV)
  (cs:=[p,.own (X U+4) g,q]) (by simp) rfl (by simp);simp only[ji,rS,cu,cH]at b d;have c:=Wk.lA (P:=prog) (n:=n) (xs:=xs) (J:=U++[.box 29 [p,.sl 15 (l.map Let.axV),q],D,w,a]) (loc:=[.row 76 15 200 g G (l.map Let.axV)]) (by simp;omega) f (dO.1 (by simpa using h));simp only[aJ,aF,aw]at c;exact(b.trans d).trans c
def FD(ax2:List Let)(f:fF)(e:Ev)(o:e.axW=6)(i:Nat)(j:e.n=i)(x:Let)(k:ax2[i]?=some x)(p:X ax2<2^29)(J:ai)(h:b<X J): PC prog 57 [.agg [.sl 6 (R.map bX.axV),.own b g,.sl 2 (f.map ct)],.agg e.axV] (J.set b (cL g ax2)) (λr m=>if 256<=X ax2 then r=.iS [.agg Net.zero.axV,.I 3]/\m=J.set b (cL g ax2)else r=.iS [.agg [.sl 6 (R.map bX.axV),.own b (g+1),.sl 2 (f.map ct)],.I 0]/\m=J.set b (cL (g+1) (ax2++[x]))):=by
 obtain⟨t,z,B,u,y⟩:=e;simp only at o j;subst o j;refine aT func57 p57.2 λc v=>an ?_;have l:(ax2.map Let.axV).getD i []=nE x:=by simp[ax,k,mI]
 have w:i<X ax2:=(ag.1 k).1;have q:(0:Int)<=(i:Int):=by omega
 have s:(i:Int)<(X ax2:Int):=by omega
 have d:ax2.map Let.axV++[nE x]=(ax2++[x]).map Let.axV:=by simp[mI]
 have H:=at1 h;simp only[nE]at l d;simp only[p57,SS,seval];simp only[Ev.axV,En.axV,cL,H,l,q,s,aK,ab,↓IT,VV,seval];refine⟨λa=>?_,λa=>?_⟩
 .have a:256<=X ax2:=by simp at a;omega
  simp only[aO a];refine gT (xs:=[.agg [.nil,.nil,.nil],.I 3]) (.inr rfl) (by simp only[RS,H,seval]) ((Wk.fG (.cons (.iK (.cons (.nil 6) (.cons (.nil 15) (.cons (.nil 2) .nil)))) (.cons (.refl _) .nil))).trans (Wk.lA (by simp) c (dO.1 ?_))) rfl ⟨rfl,rfl⟩;simp only[LW]
 have a:¬256<=X ax2:=by simp at a;omega
 simp only[ao a];simp only[V.pure,maxLen,H,aK,ab,↓IT,VV,seval];refine⟨⟨by omega,by omega⟩,?_⟩;rw[d];refine fp (by simp only[RS,H,seval];rfl) (Wk.lA (by simp) (qw c (by simp)) (dO.1 ?_)) rfl ⟨rfl,rfl⟩;simp only[LW,fw];exact h
def Lq(ax2:List Let)(k:fF)(aE:X k<2^30)(e:Ev)(hk:e.axW=4\/e.axW=5)(i:Nat)(hi:e.n=i)(x:Let)(hx:ax2[i]?=some x)(ap:X ax2<2^29)(j:Nat)(hj:x.dst=j)(o:bX)(ho:R[j]?=some o)(EL:X R<2^30)(u:bX)(p:Int) (hC:∀J,bh prog 63 [.agg o.axV,.agg x.op.axV] J (fA u p)) (J:ai) (O:b<X J) : PC prog 57 [pj b g ax2 k,.agg e.axV] (J.set b (bI g R)) (λr J'=>∃d,J'=J.set b d/\r=.iS [if(jS ⟨R,ax2,k⟩ e.axW i x u p).2=0 then pj b g (jS ⟨R,ax2,k⟩ e.axW i x u p).1.aW k else .agg Net.zero.axV,.I (jS ⟨R,ax2,k⟩ e.axW i x u p).2] /\
   ((jS ⟨R,ax2,k⟩ e.axW i x u p).2=0->d=bI g (jS ⟨R,ax2,k⟩ e.axW i x u p).1.aM)):=by
 obtain⟨m,ea,eb,em,en⟩:=e;simp only at hk hi;subst hi;refine aT func57 p57.2 λE dG=>?_;have C:(ax2.map Let.axV).getD i []=nE x:=by simp[ax,hx,mI]
 have oT:i<X ax2:=(ag.1 hx).1;have P:(0:Int)<=(i:Int):=by omega
 have U:(i:Int)<(X ax2:Int):=by omega
 have w:(i:Int)<=(X ax2:Int):=by omega
 have L:IntKind.i64.wrap ((i:Int)+1)=((i+1:Nat):Int):=by rw[cT (by omega)]
 have q:(0:Int)<=((i+1:Nat):Int):=by omega
 have Q:((i+1:Nat):Int)<=(X ax2:Int):=by omega
 have t:(m==6)=Z:=by simp;omega
 have H:=at1 O;have K:(ax2.map Let.axV).take i=(ax2.take i).map Let.axV:=fM.symm;have T:((ax2.map Let.axV).drop (i+1)).take (X ax2 - (i+1))=(ax2.drop (i+1)).map Let.axV:=by rw[<- List.map_drop];exact cc (by simp)
 have yI:X (ax2.take i)=i:=by simp;omega
 have au:X (ax2.drop (i+1))=X ax2 - (i+1):=by simp
 simp only[nE]at C;simp only[p57,SS,seval];refine cD.cutAt (.more (.more (.more (.cM _ _)))) λa hR=>?_;have y:∀M:List Let,X M<2^29->M=ax2.take i++ax2.drop (i+1)->∀N,Wk prog (X (J.set b (bI g R))) N.fr N.J (uu 2 (.ptr (X J) 0::.ptr (X J+1) 0::.ptr (X J+2) 0::uu 1 (.ptr (X J+3) 0::uu 69 []))) (J.set b (bI g R)++[.box 29 [.own b g,.sl 15 (M.map Let.axV),.sl 2 (k.map ct)],.box 38 (Ev.axV ⟨m,ea,eb,i,en⟩),.box 29 [.nil,.nil,.nil],.box 76 (nE x)])->a N:=by
  intro M av W N nI;refine hR _ (cD.wk nI ?_);refine an ?_;have af:jS ⟨R,ax2,k⟩ m i x u p=if m=5 then(⟨R,M,k⟩,0)else if mT ⟨R,M,k⟩ x.src x.dst=true then(Net.zero,8)else if p=0 then(⟨R.set j u,M,k⟩,0)else(Net.zero,p):=by rcases hk with rfl|rfl<;>simp[jS,hj,W,mT]
  have Hh:(R.map bX.axV).getD j []=o.axV:=by simp[ax,ho]
  have uL:j<X R:=(ag.1 ho).1;have ad:(0:Int)<=(j:Int):=by omega
  have ac:(j:Int)<(X R:Int):=by omega
  simp only[bX.axV]at Hh;rw[af];simp only[Ev.axV,En.axV,nE,bI,H,aK,↓IT,VV,seval];refine⟨λB=>?_,λB=>?_⟩
  .have B:m=5:=by simpa using B
   simp only[aO B,aR];refine gT (xs:=[pj b g M k,.I 0]) (.inr rfl) (by simp only[RS,H,seval];rfl) (Wk.lA (by simp) E (dO.1 ?_)) rfl ⟨_,rfl,rfl,λ_=>rfl⟩;simp only[pj,fw,LW];exact O
  have B:¬m=5:=by simpa using B
  simp only[ao B];refine ak (ye k (.own b g) (.sl 15 (M.map Let.axV)) x.src x.dst (by omega) _ ?_ rfl ?_ (.sl ..)) rfl ?_;.simp only[H,aK,VV,seval]
  .simp only[ae,fw,LW];omega
  have am:(k.any λc=>c==fx x.src x.dst)=mT ⟨R,M,k⟩ x.src x.dst:=rfl;rw[am];cases Cn:mT ⟨R,M,k⟩ x.src x.dst
  .simp only[H,Hh,hj,ad,ac,aK,ab,aI,bo,↓IT,VV,seval];intro f;refine ak (hC _) (by simp only[k6,zk,bX.axV,VV,seval]) ?_;simp only[fA,bX.axV,H,hj,aK,ab,↓IT,VV,seval];have hE:∀f l,J.set b f++l=(J++l).set b f:=λf l=>(iu _ _ O).symm;rw[hE];refine ak (FA b g R M k j uL u p (J++_) (by simp;omega)) rfl ?_;simp only[<- hE];by_cases qn:p=0;.subst qn;simp only[pj,aR,bI,H,aK,↓IT,VV,seval];refine gT (xs:=[pj b g M k,.I 0]) (.inr rfl) (by simp only[RS,H,seval];rfl) (Wk.lA (by simp) (qw E (by simp)) (dO.1 ?_)) rfl ⟨_,rfl,rfl,rfl⟩;simp only[pj,fw,LW];exact O
   simp only[ao qn,bI,Net.zero,Net.axV,aq,H,aK,↓IT,VV,seval];refine gT (xs:=[.agg Net.zero.axV,.I p]) (.inr rfl) (by simp only[RS,H,seval];rfl) (Wk.lA (by simp) (qw E (by simp)) (dO.1 ?_)) rfl ⟨_,rfl,rfl,λh=>absurd h qn⟩;simp only[Net.zero,Net.axV,LW]
  simp only[H,aR,↓IT,VV,seval];refine gT (xs:=[.agg [.nil,.nil,.nil],.I 8]) (.inr rfl) (by simp only[RS,H,seval]) ((Wk.fG (.cons (.iK (.cons (.nil 6) (.cons (.nil 15) (.cons (.nil 2) .nil)))) (.cons (.refl _) .nil))).trans (Wk.lA (by simp) E (dO.1 ?_))) rfl ⟨_,rfl,rfl⟩;simp only[LW]
 have v:∀M:List Let,bW (J.set b (bI g R)++[.box 29 [.own b g,.sl 15 (M.map Let.axV),.sl 2 (k.map ct)],.box 38 (Ev.axV ⟨m,ea,eb,i,en⟩),.box 29 [.nil,.nil,.nil],.box 76 (nE x)]):=λM=>cx E (by simp only[Ev.axV,En.axV,nE,fw,bV,bM,dp,dF,dm,LW];simp only[ah,aj];omega);simp only[bI,Ev.axV,En.axV,nE]at v;cases D:(ax2.take i).isEmpty with
 |true =>
  have F:ax2.take i=[]:=by simpa using D
  cases z:(ax2.drop (i+1)).isEmpty with
  |true =>
   have s:ax2.drop (i+1)=[]:=by simpa using z
   simp only[pj,bI,Ev.axV,En.axV,nE,H,C,P,U,w,L,q,Q,t,K,T,D,z,al,kX,aK,ab,Ey,V.pure,maxLen,↓IT,VV,seval]at y |-;exact⟨⟨by omega,by omega⟩,⟨by omega,by omega⟩,y [] (by simp) (by rw[F,s];rfl) _ ((Wk.fG (by repeat' constructor)).trans afi)⟩
  |false =>simp only[pj,bI,Ev.axV,En.axV,nE,H,C,P,U,w,L,q,Q,t,K,T,D,z,al,kX,aK,ab,Ey,V.pure,maxLen,↓IT,VV,seval]at y |-;exact⟨⟨by omega,by omega⟩,⟨by omega,by omega⟩,y (ax2.drop (i+1)) (by omega) (by rw[F];rfl) _ ((Wk.fG (by repeat' constructor)).trans (MY (by simp) (v _) (aB _) (by simp only[LW];omega)))⟩
 |false =>
 cases z:(ax2.drop (i+1)).isEmpty with
 |true =>
  have s:ax2.drop (i+1)=[]:=by simpa using z
  simp only[pj,bI,Ev.axV,En.axV,nE,H,C,P,U,w,L,q,Q,t,K,T,D,z,al,kX,aK,ab,Ey,V.pure,maxLen,↓IT,VV,seval]at y |-;rw[show(ax2.take i).map Let.axV++(ax2.drop (i+1)).map Let.axV=(ax2.take i).map Let.axV from by rw[s];simp];exact⟨⟨by omega,by omega⟩,⟨by omega,by omega⟩,y (ax2.take i) (by omega) (by rw[s,bE]) _ ((Wk.fG (by repeat' constructor)).trans (MY (by simp) (v _) (aB _) (by simp only[LW];omega)))⟩
 |false =>simp only[pj,bI,Ev.axV,En.axV,nE,H,C,P,U,w,L,q,Q,t,K,T,D,z,al,kX,aK,ab,Ey,V.pure,maxLen,↓IT,VV,seval]at y |-;rw[<- List.map_append];exact⟨⟨by omega,by omega⟩,⟨by omega,by omega⟩,y (ax2.take i++ax2.drop (i+1)) (by simp;omega) rfl _ ((Wk.fG (by repeat' constructor)).trans (MY (by simp) (v _) (aB _) (by simp only[LW];omega)))⟩
structure Up (m n:Int) (N:Nat) (arr:List bf) (k:Nat):Prop where
 base:H2 n arr
 len:arr.length<=N
 le:k<=arr.length
 far:∀x∈arr,x.aZ.bR<m
 syn:∀x∈arr.drop k,x.aZ.bR≠n
def Good(N:Nat)(o:bX):Prop :=(∃a k,Up C r N a k/\o=fQ r a k) \/(∃a b,Up C r N a (X a)/\jq b=0/\X (gC a++b)<=20008*N/\o=pR r a b)
def Up.mono(h:Up f H a l y)(b:a<=M):Up f H M l y :=⟨h.base,cE h.len b,h.le,h.far,h.syn⟩
def Up.own(h:Up f H a l M)(g:H<f)(e:Tz L)(c:L.aZ.bR=H)(d:L.aZ.ax0=qU H l+1):Up f H (a+1) (l++[L]) (X l+1):=by
 have:=h.len;refine⟨h.base.Fc e c d,by simpa using this,by simp,λy b=>?_,by simp⟩;rcases bJ.1 b with b|b;.exact h.far y b
 rw[cQ.1 b,c];exact g
def Up.Fe(h:Up f H a l M)(g:Tz L)(e:L.aZ.bR<f)(d:L.aZ.bR≠H)(i:∀y∈l,dS y L≠0):Up f H (a+1) (l++[L]) M:=by
 have:=h.len;have c:=h.le;refine⟨h.base.Fe g d i,by simpa using this,by simp;omega,λy b=>?_,λy b=>?_⟩
 .rcases bJ.1 b with b|b;.exact h.far y b
  rw[cQ.1 b];exact e
 rw[ot c]at b;rcases bJ.1 b with b|b;.exact h.syn y b
 rw[cQ.1 b];exact d
def Up.all(h:Up f H a l M):Up f H a l (X l) :=⟨h.base,h.len,aB _,h.far,by simp⟩
def Up.take{m n:Int}(h:Up m n a l M)(j:Nat):Up m n a (l.take j) (X (l.take j)) :=
 ⟨h.base.take j,by have:=h.len;rw[aX];omega,aB _,λx b=>h.far x (dB b),by rw[qO];simp⟩
def Good.mono(h:Good f H a P)(d:a<=M):Good f H M P:=by
 rcases h with⟨b,k,c,g⟩|⟨b,e,c,j,l,i⟩;.exact .inl ⟨b,k,c.mono d,g⟩
 exact .inr ⟨b,e,c.mono d,j,by omega,i⟩
def Good.axZ(h:Good f H a P)(i:a<=180):P.axZ:=by
 rcases h with⟨c,k,b,rfl⟩|⟨c,d,b,g,e,rfl⟩;.exact ta b.base (by have:=b.len;omega)
 exact⟨by simp[pR],by simp[pR],by simp only[pR];omega⟩
def uD(h:H2 f l)(b:Int)(e:En)(c:Nat->Nat):(l0 (fQ f l a) (pG (fQ f l a)) b e c)=oa f l b e c:=by have:pG (fQ f l a)=qU f l:=(yS l f).symm;simp only[l0,oa,this];rfl
def aik{n:Int}{arr:List bf}{k:Nat}(h:H2 n arr)(r:0<=n/\n<8)(o:X arr<=180){c:Nat->Nat}(j:qe (fJ arr) c)(i:∀q:Nat,q<8->c q<=128)(a:Int)(e:En)(b:Tz (oa n arr a e c))(m:qU n arr<128)(g:jc arr<2^30)(J:ai): bh A 100 [.agg (fQ n arr k).axV,.I a,.agg e.axV] J (gg (fQ n (arr++[oa n arr a e c]) (X arr+1)) (oa n arr a e c) 0):=by
 have p:pG (fQ n arr k)=qU n arr:=(yS arr n).symm;have s:=uP h.op;have l:=h.Fc b rfl rfl;have:=Sa (fQ n arr k) a e (ta h (by omega)) rfl (λy d=>(h.op y (fq.1 d)).axZ) c j i
  (by rw[uD h];exact b.axZ) (by rw[uD h];exact b.ok) (by rw[uD h];exact cE b.enc (by decide)) (by simp only[fQ];omega) (by omega) ⟨(vF λx b=>(h.op x b).ok).1,g⟩
  (by rw[uD h];exact λy d=>(A2.1 l.one).2 y (fq.1 d)) J;rw[uD h]at this;have f:=Gy (n:=n) (arr:=arr) (k:=k) (oa n arr a e c);rw[po]at this;simp only[fQ]at this f |-;rwa [f]at this
def tP(a:List bf)(k:Nat):X (gC (a.take k))<=X (gC a):=by
 have:gC a=gC (a.take k)++gC (a.drop k):=by rw[<- uQ,eU]
 rw[this,ae];omega
def XV{y:bf}(h:lz l f H=some y):y∈l/\y.aZ.bR=f/\y.aZ.ax0=H:=by have a:=xR h;simp only[aV,dM]at a;exact⟨qQ h,a⟩
structure NS (E:il):Prop where
 cR:∀o,E.rF o->∀J,bh prog 59 [.agg o.axV] J (fA (E.fR o).1 (E.fR o).2)
 cV:∀o x,E.rF o->E.ok x->∀J,bh prog 116 [.agg o.axV,.agg x.axV] J (fA (E.fV o x).1 (E.fV o x).2)
 cS:∀o,E.rF o->∀J,bh prog 62 [.agg o.axV] J (fA (E.fS o).1 (E.fS o).2)
def S6(f d:Ob)(a:Nat)(B C:Ob)(e c:V)(b:List bX):ai:=T++[f,d,bI a b,B,C,eW (.own (X T+2) a) e c]
def xe{c a:List bX}(p:bX×Int)(h:p.2=0):((c++P::a).map bX.axV).set (X c) [.I p.1.ax0,.I p.1.ax7,.sl 13 (p.1.axX.map bf.axV),.sl 1 (aC p.1.log),.I p.1.ayi,.b p.1.down]=(c++(gH p P::a)).map bX.axV:=by rw[yg,ej _ _ (aB _),gO,gH,aO h];rfl
def aaN{E:il}(D:NS E){K:bG}(j g B C:Ob)(f:Nat)(i l:V)(F:∀z,bW (S6 U j g f B C i l z))(n:Nat)(M:n<2^30):∀(a b:List bX),n=X b+X a->E.my a ->(((fj 2 (fh (.ptr (X U+1) 0) (fh (.ptr (X U+5) 0) (fj 89 fo)))) λy=>K (.exit 0) ⟨y,S6 U j g f B C i l (b++E.up a)⟩)) ->gF (X U) A UX K (X a+1) ⟨(uu 2 (.ptr (X U+1) 0::.ptr (X U+5) 0::uu 17 (.own (X U+2) f::.I n::.I (X b)::uu 69 []))),S6 U j g f B C i l (b++a)⟩:=by
 intro a;induction a with
 |nil =>intro b d m k;refine aD λR r=>?_;simp only[UX,VV,seval];refine⟨λh=>by simp at h d<;>omega,λ_=>?_⟩;simp only[il.up,aq,bE]at k;exact k ..
 |cons o a ih =>
 intro b d m k;have q:=m o (dN ..);have L:n=X b+(X a+1):=by rw[d];simp
 have t:IntKind.i64.wrap ((X b:Int)+1)=((X (b++[gH (E.fR o) o]):Nat):Int):=by rw[cT (by omega)];simp
 have p:((b++o::a).map bX.axV).getD (X b) []=o.axV:=gA;have s:(0:Int)<=(X b:Int):=by omega
 have v:(X b:Int)<(n:Int):=by omega
 have u:(X b:Int)<(X (b++o::a):Int):=by simp<;>omega
 have x:X b<X (b++o::a):=by simp
 simp only[bX.axV]at p;refine aD λR r=>?_;simp only[UX,S6,bI,eW,p,s,v,u,t,cZ,aK,ab,al,VV,seval];refine ak (D.cR o q _) (by simp only[bX.axV,VV,seval]) ?_;simp only[fA,bX.axV,p,s,u,t,ab,al,VV,seval];have J:b++E.up (o::a)=(b++[gH (E.fR o) o])++E.up a:=by simp[il.up]
 rw[J]at k;have e:=ih (b++[gH (E.fR o) o]) (by simp;omega) (λo H=>m o (cd _ H)) k;have c:=F (b++gH (E.fR o) o::a);simp only[aJ,aF,aw,S6,bI,eW]at e c;refine⟨λd=>⟨x,?_⟩,λd=>?_⟩
 .have d:(E.fR o).2=0:=by simpa using d
  rw[xe (E.fR o) d];refine r _ (dn [j,g,bI f (b++gH (E.fR o) o::a),B,C,eW (.own (X U+2) f) i l] [_,_] c ?_ ?_ e);.repeat' constructor
  simp only[LW,ah,aj,aP];omega
 have d:¬(E.fR o).2=0:=by simpa using d
 have w:gH (E.fR o) o=o:=by rw[gH,ao d]
 rw[w]at e c |-;refine r _ (dn [j,g,bI f (b++o::a),B,C,eW (.own (X U+2) f) i l] [_,_] c ?_ ?_ e);.repeat' constructor
 simp only[LW,ah,aj,aP];omega
def aaJ{E:il}(D:NS E){K:bG}(j g B C:Ob)(f:Nat)(i l:V)(F:∀z,bW (S6 U j g f B C i l z))(n:Nat)(M:n<2^30):∀(a b:List bX),n=X b+X a->E.my a ->(((fj 2 (fh (.ptr (X U+1) 0) (fh (.ptr (X U+5) 0) (fj 89 fo)))) λy=>K (.exit 8) ⟨y,S6 U j g f B C i l (b++E.sync a)⟩)) ->gF (X U) A UT K (X a+1) ⟨(uu 2 (.ptr (X U+1) 0::.ptr (X U+5) 0::uu 68 (.own (X U+2) f::.I n::.I (X b)::uu 18 []))),S6 U j g f B C i l (b++a)⟩:=by
 intro a;induction a with
 |nil =>intro b d m k;refine aD λR r=>?_;simp only[UT,VV,seval];refine⟨λh=>by simp at h d<;>omega,λ_=>?_⟩;simp only[il.sync,aq,bE]at k;exact k ..
 |cons o a ih =>
 intro b d m k;have q:=m o (dN ..);have L:n=X b+(X a+1):=by rw[d];simp
 have t:IntKind.i64.wrap ((X b:Int)+1)=((X (b++[gH (E.fS o) o]):Nat):Int):=by rw[cT (by omega)];simp
 have p:((b++o::a).map bX.axV).getD (X b) []=o.axV:=gA;have s:(0:Int)<=(X b:Int):=by omega
 have v:(X b:Int)<(n:Int):=by omega
 have u:(X b:Int)<(X (b++o::a):Int):=by simp<;>omega
 have x:X b<X (b++o::a):=by simp
 simp only[bX.axV]at p;refine aD λR r=>?_;simp only[UT,S6,bI,eW,p,s,v,u,t,cZ,aK,ab,al,VV,seval];refine ak (D.cS o q _) (by simp only[bX.axV,VV,seval]) ?_;simp only[fA,bX.axV,p,s,u,t,ab,al,VV,seval];have J:b++E.sync (o::a)=(b++[gH (E.fS o) o])++E.sync a:=by simp[il.sync]
 rw[J]at k;have e:=ih (b++[gH (E.fS o) o]) (by simp;omega) (λo H=>m o (cd _ H)) k;have c:=F (b++gH (E.fS o) o::a);simp only[aJ,aF,aw,S6,bI,eW]at e c;refine⟨λd=>⟨x,?_⟩,λd=>?_⟩
 .have d:(E.fS o).2=0:=by simpa using d
  rw[xe (E.fS o) d];refine r _ (dn [j,g,bI f (b++gH (E.fS o) o::a),B,C,eW (.own (X U+2) f) i l] [_,_] c ?_ ?_ e);.repeat' constructor
  simp only[LW,ah,aj,aP];omega
 have d:¬(E.fS o).2=0:=by simpa using d
 have w:gH (E.fS o) o=o:=by rw[gH,ao d]
 rw[w]at e c |-;refine r _ (dn [j,g,bI f (b++o::a),B,C,eW (.own (X U+2) f) i l] [_,_] c ?_ ?_ e);.repeat' constructor
 simp only[LW,ah,aj,aP];omega
def QA{E:il}(p:NS E)(g c B C:Ob)(ga:Nat)(f d:V)(l:ai)(u:f.Lt (X U+6))(i:d.Lt (X U+6))(v:∀n,mK n B)(q:∀n,mK n C)(a:List bX)(b:X a<2^30)(x:Let)(h0:0<=x.dst)(y:x.dst<X a)(t:E.my a)(w:E.ok x.op): PC A 60 [.ptr (X U+5) 0,.agg x.axV] (U++(g::c::bI ga a::B::C::eW (.own (X U+2) ga) f d::l)) (λr m=>(∃e,r=.I e)/\m=U++(g::c::bI ga (E.sR a x.dst.toNat x.op)::B::C::eW (.own (X U+2) ga) f d::l)):=by
 have s:x.dst.toNat<X a:=by omega
 have h:a[x.dst.toNat]?=some a[x.dst.toNat]:=aA s;have j:=t _ (bn h);have o:uV (U++(g::c::.dead::.dead::.dead::.dead::l)) (X U+5) (X U+2) (X U+3) (X U+4):=by constructor<;>simp<;>omega
 have k:X U+6<=X (U++(g::c::.dead::.dead::.dead::.dead::l)):=by simp
 have:=HD o f d (u.mono k) (i.mono k) a B C (v _) (q _) x b x.dst.toNat (by omega) _ h (E.fV a[x.dst.toNat] x.op).1 (E.fV a[x.dst.toNat] x.op).2 (p.cV _ _ j w) (ga:=ga);rw[qR]at this;simp only[cH,cu]at this;refine this.mono ?_;rintro r m ⟨rfl,rfl⟩;refine⟨⟨_,rfl⟩,?_⟩;have e:E.sR a x.dst.toNat x.op=(if(E.fV a[x.dst.toNat] x.op).2=0 then a.set x.dst.toNat (E.fV a[x.dst.toNat] x.op).1 else a):=by simp only[il.sR,h]
 rw[qR,e];rfl
def aaM{E:il}(L:NS E){K:bG}(l k C:Ob)(D:∀n,mK n C)(g d:Nat)(i:V)(p:i.Lt (X U+6))(ax2:List Let)(M:∀c,bW (S6 U l k g (cL d ax2) C (.own (X U+3) d) i c))(n m:Nat)(Q:n<2^30)(y:n=X ax2)(T:m<2^30)(J:∀x∈ax2,0<=x.dst/\x.dst<m/\E.ok x.op):∀(b a:List Let) (c:List bX),ax2=a++b->E.my c->X c=m ->(((fj 2 (fh (.ptr (X U+1) 0) (fh (.ptr (X U+5) 0) (fj 89 fo)))) λH=>K (.exit 2) ⟨H,S6 U l k g (cL d ax2) C (.own (X U+3) d) i (E.aW b c)⟩)) ->gF (X U) A UW K (X b+1) ⟨(uu 2 (.ptr (X U+1) 0::.ptr (X U+5) 0::uu 38 (.own (X U+3) d::.I n::.I (X a)::uu 48 []))),S6 U l k g (cL d ax2) C (.own (X U+3) d) i c⟩:=by
 intro b;induction b with
 |nil =>intro a c j q z s;refine aD λR w=>?_;simp only[UW,VV,seval];refine⟨λh=>by simp[j]at y h<;>omega,λ_=>?_⟩;exact s ..
 |cons x b ih =>
 intro a c j q z s;have t:=J x (by rw[j];simp);have P:n=X a+(X b+1):=by rw[y,j];simp
 have v:=eE a x (by omega);have u:(ax2.map Let.axV).getD (X a) []=nE x:=by rw[j,gA,mI]
 have F:(0:Int)<=(X a:Int):=by omega
 have B:(X a:Int)<(n:Int):=by omega
 have N:(X a:Int)<(X ax2:Int):=by omega
 simp only[nE]at u;refine aD λR w=>?_;simp only[UW,S6,cL,u,F,B,N,v,cZ,aK,ab,al,VV,seval];refine dV (QA L l k (cL d ax2) C g (.own (X U+3) d) i [_] (.own _ _ (by omega)) p (λ_=>trivial) D c (by omega) x t.1 (by omega) q t.2.2) (by simp only[mI,nE,VV,seval]) ?_;rintro r O ⟨⟨e,rfl⟩,rfl⟩;simp only[v,VV,seval];have f:=M (E.sR c x.dst.toNat x.op);have o:=ih (a++[x]) (E.sR c x.dst.toNat x.op) (by rw[j];simp) (il.uM q t.2.2) (il.Bn.trans z) s;simp only[S6]at o f;refine w _ (dn [l,k,bI g (E.sR c x.dst.toNat x.op),cL d ax2,C,eW (.own (X U+2) g) (.own (X U+3) d) i] [_] f ?_ ?_ o);.repeat' constructor
 simp only[LW,ah,aj,aP];omega
def aaL{E:il}(L:NS E){K:bG}(l k B C:Ob)(O:∀n,mK n B)(D:∀n,mK n C)(f:Nat)(M:∀c,bW (S6 U l k f B C .nil .nil c))(g:List bf)(n m i:Nat)(V:n<2^30)(w:n=X g)(W:m<2^30)(T:i<m)(J:∀x∈g,E.ok x):∀(b a:List bf) (c:List bX),g=a++b->E.my c->X c=m ->(((fj 2 (fh (.ptr (X U+1) 0) (fh (.ptr (X U+5) 0) (fj 50 (fh (.I m) (fh (.I i) (fj 37 fo))))))) λH=>K (.exit 6) ⟨H,S6 U l k f B C .nil .nil (E.sv i b c)⟩)) ->gF (X U) A Pw K (X b+1) ⟨(uu 2 (.ptr (X U+1) 0::.ptr (X U+5) 0::uu 6 (.I i::uu 43 (.I m::.I i::uu 3 (.sl 13 (g.map bf.axV)::.I n::.I (X a)::uu 31 []))))),S6 U l k f B C .nil .nil c⟩:=by
 intro b;induction b with
 |nil =>intro a c j p y q;refine aD λR v=>?_;simp only[Pw,VV,seval];refine⟨λh=>by simp[j]at w h<;>omega,λ_=>?_⟩;exact q ..
 |cons x b ih =>
 intro a c j p y q;have u:=J x (by rw[j];simp);have Q:n=X a+(X b+1):=by rw[w,j];simp
 have t:=eE a x (by omega);have s:(g.map bf.axV).getD (X a) []=zk x:=by rw[j,gA,k6]
 have F:(0:Int)<=(X a:Int):=by omega
 have z:(X a:Int)<(n:Int):=by omega
 have N:(X a:Int)<(X g:Int):=by omega
 simp only[zk]at s;refine aD λR v=>?_;simp only[Pw,S6,s,F,z,N,t,cZ,aK,ab,al,VV,seval];refine dV (QA L l k B C f .nil .nil [_] (by simp[LW]) (by simp[LW]) O D c (by omega) ⟨0,i,x⟩ (by show(0:Int)<=(i:Int);omega) (by show(i:Int)<_;omega) p u) (by simp only[mI,nE,VV,seval]) ?_;rintro r P ⟨⟨e,rfl⟩,rfl⟩;simp only[t,al,VV,seval];have d:=M (E.sR c i x);have o:=ih (a++[x]) (E.sR c i x) (by rw[j];simp) (il.uM p u) (il.Bn.trans y) q;simp only[S6]at o d;refine v _ (dn [l,k,bI f (E.sR c i x),B,C,eW (.own (X U+2) f) .nil .nil] [_] d ?_ ?_ o);.repeat' constructor
 simp only[LW,ah,aj,aP];omega
def aaK{E:il}(y:NS E){K:bG}(J:bW U)(g f B C:Ob)(F:∀n,mK n B)(t:∀n,mK n C)(c:Nat)(z:∀a,bW (S6 U g f c B C .nil .nil a))(m:Nat)(L:m<2^13):∀(k i:Nat) (a:List bX),m=i+k->E.my a->X a=m ->(((fj 2 (fh (.ptr (X U+1) 0) (fh (.ptr (X U+5) 0) (fj 89 fo)))) λv=>K (.exit 4) ⟨v,S6 U g f c B C .nil .nil (E.all (List.range' i k) a)⟩)) ->gF (X U) A UU K (k+1) ⟨(uu 2 (.ptr (X U+1) 0::.ptr (X U+5) 0::uu 50 (.I m::.I i::uu 37 []))),S6 U g f c B C .nil .nil a⟩:=by
 intro k;induction k with
 |zero =>intro i a D b p j;refine aD λR q=>?_;simp only[UU,VV,seval];refine⟨λh=>by simp at h<;>omega,λ_=>?_⟩;exact j ..
 |succ k ih =>
 intro i a D b p j;have w:IntKind.i64.wrap ((i:Int)+1)=((i+1:Nat):Int):=by rw[cT (by omega)]
 have u:(0:Int)<=(i:Int):=by omega
 have s:(i:Int)<(m:Int):=by omega
 have H:X (fE a)<=X a*2^16:=HZ λo l=>E.len o (b o l);have M:=Sw a;refine aD λR q=>?_;simp only[UU,S6,eW,u,s,cZ,VV,seval];refine ak (PJ a (λo l x e=>E.val x (E.axX o (b o l) x e)) (by omega) (by omega) (X U+2) c _ (by simp only[VV,seval])) rfl ?_;simp only[ab,VV,seval];have r:=λK=>aaL y (K:=K) g f B C F t c z (jJ a) (X (jJ a)) m i (by omega) rfl (by omega) (by omega) (λx e=>il.GR b e) (jJ a) [] a rfl b p;simp only[S6,eW]at r;refine cD.wk (Wk.fG ?_) (cD.mM (X (jJ a)+1) (r _ ?_));.repeat' constructor
 simp only[JE];intros;simp only[w,VV,seval];have d:=ih (i+1) (E.sv i (jJ a) a) (by omega) (il.Hm _ b λx e=>il.GR b e) ((il.Ki _).trans p) j;simp only[S6,eW]at d;refine q _ (bL ?_ d);repeat' constructor
def Jr{E:il}(b:NS E)(n:Net)(e:n.axZ)(h:E.my n.aM)(y:X n.aM<2^13)(p:∀x∈n.aW,0<=x.dst/\x.dst<X n.aM/\E.ok x.op)(J:ai): bh A 21 [.agg n.axV] J (.agg (Net.axV ⟨E.settle n,[],[]⟩)):=by
 refine aT func21 p21.2 λc C=>an ?_;simp only[p21,SS,seval];simp only[Net.axV,ab,VV,seval];refine dV (sB n e _) rfl ?_;rintro r B ⟨rfl,rfl⟩;simp only[bI,cL,fm,aK,da,Nat.reduceAdd,ab,VV,seval];have t:∀a,bW (S6 J (.box 29 [.sl 6 (n.aM.map bX.axV),.sl 15 (n.aW.map Let.axV),.sl 2 (n.cy.map ct)]) (.box 29 [.nil,.nil,.nil]) 0 (cL 0 n.aW) (fm 0 n.cy) (.own (X J+3) 0) .nil a):=λa=>cx c (by simp only[bI,cL,fm,eW,bV,bM,dp,dF,dm,ae,ah,aj,LW];omega);have q:∀a,bW (S6 J (.box 29 [.sl 6 (n.aM.map bX.axV),.sl 15 (n.aW.map Let.axV),.sl 2 (n.cy.map ct)]) (.box 29 [.nil,.nil,.nil]) 0 (cL 0 n.aW) (fm 0 n.cy) .nil .nil a):=λa=>cx c (by simp only[bI,cL,fm,eW,bV,bM,dp,dF,dm,ae,ah,aj,LW];omega);have F:=e.D5;have D:=e.vZ;have o:=il.TK h;have u:X (E.up n.aM)=X n.aM:=by simp[il.up]
 have g:=λK=>aaN b (K:=K) (.box 29 [.sl 6 (n.aM.map bX.axV),.sl 15 (n.aW.map Let.axV),.sl 2 (n.cy.map ct)]) (.box 29 [.nil,.nil,.nil]) (cL 0 n.aW) (fm 0 n.cy) 0 (.own (X J+3) 0) .nil t (X n.aM) (by omega) n.aM [] (by simp) h;have k:=λK=>aaM b (K:=K) (.box 29 [.sl 6 (n.aM.map bX.axV),.sl 15 (n.aW.map Let.axV),.sl 2 (n.cy.map ct)]) (.box 29 [.nil,.nil,.nil]) (fm 0 n.cy) (λ_=>trivial) 0 0 .nil (by simp[LW]) n.aW t (X n.aW) (X n.aM) (by omega) rfl (by omega) p n.aW [] (E.up n.aM) rfl o u;have i:E.my (E.aW n.aW (E.up n.aM)):=il.Be _ o λx v=>(p x v).2.2;have f:X (E.aW n.aW (E.up n.aM))=X n.aM:=(il.xb _).trans u;have s:=λK=>aaK b (K:=K) c (.box 29 [.sl 6 (n.aM.map bX.axV),.sl 15 (n.aW.map Let.axV),.sl 2 (n.cy.map ct)]) (.box 29 [.nil,.nil,.nil]) (cL 0 n.aW) (fm 0 n.cy) (λ_=>trivial) (λ_=>trivial) 0 q (X n.aM) y (X n.aM) 0 (E.aW n.aW (E.up n.aM)) (by omega) i f;have z:E.my (E.all (List.range' 0 (X n.aM)) (E.aW n.aW (E.up n.aM))):=il.acS _ i;have m:X (E.all (List.range' 0 (X n.aM)) (E.aW n.aW (E.up n.aM)))=X n.aM:=(il.agO _).trans f;have j:=λK=>aaJ b (K:=K) (.box 29 [.sl 6 (n.aM.map bX.axV),.sl 15 (n.aW.map Let.axV),.sl 2 (n.cy.map ct)]) (.box 29 [.nil,.nil,.nil]) (cL 0 n.aW) (fm 0 n.cy) 0 .nil .nil q (X n.aM) (by omega) (E.all (List.range' 0 (X n.aM)) (E.aW n.aW (E.up n.aM))) [] (by simp[m]) z;have d:E.settle n=E.sync (E.all (List.range' 0 (X n.aM)) (E.aW n.aW (E.up n.aM))):=by rw[il.settle,List.range_eq_range']
 rw[d];simp only[S6,bI,eW,cL,fm,aw,aj,ab]at g k s j;refine cD.wk (Wk.fG ?_) (cD.mM (X n.aM+1) (g _ ?_));.repeat' constructor
 simp only[JE];intros;simp only[aK,ab,VV,seval];refine cD.wk (Wk.fG ?_) (cD.mM (X n.aW+1) (k _ ?_));.repeat' constructor
 simp only[JE];intros;simp only[aK,ab,f,VV,seval];refine cD.wk (Wk.fG ?_) (cD.mM (X n.aM+1) (s _ ?_));.repeat' constructor
 simp only[JE];intros;simp only[aK,ab,m,VV,seval];refine cD.wk (Wk.fG ?_) (cD.mM (X (E.all (List.range' 0 (X n.aM)) (E.aW n.aW (E.up n.aM)))+1) (j _ ?_));.repeat' constructor
 simp only[JE];intros;simp only[aK,ab,VV,seval];have w:∀l:List bX,Wk A (X J) [.agg [.own (X J+2) 0,.nil,.nil]] (J++[.box 29 [.sl 6 (n.aM.map bX.axV),.sl 15 (n.aW.map Let.axV),.sl 2 (n.cy.map ct)],.box 29 [.own (X J+2) 0,.nil,.nil],.row 61 6 80 0 false (l.map bX.axV),.row 76 15 200 0 false (n.aW.map Let.axV),.row 99 2 16 0 false (n.cy.map ct),.box 29 [.own (X J+2) 0,.nil,.nil]]) [.agg (Net.axV ⟨l,[],[]⟩)] J:=λl=>by refine(Wk.qM 2 rfl).trans ((Wk.fG (ys:=[.agg (Net.axV ⟨l,[],[]⟩)]) ?_).trans (Wk.yL c (by simp only[Net.axV,LW])));simp only[az,aq,Pm.fz,jR,cw,aR];exact .cons (.iK (.cons (.refl _) (.cons (.nil 15) (.cons (.nil 2) .nil)))) .nil
 exact fp (by simp only[RS,seval]) (w _) rfl ⟨rfl,rfl⟩
structure NZ (o:bX):Prop where
 down:o.down=false
 axZ:o.axZ
 log:o.log.length<=60008*o.axX.length
 who:(o.ax0=0/\(o.axX=[nX]\/o.axX=[nX,nY]))\/(o.ax0=1/\(o.axX=[nY]\/o.axX=[nX,nY]))
def Xt:Prop:=B=nX\/B=nY
def NZ.len(h:NZ P):P.axX.length<=2:=by rcases h.who with⟨_,e|e⟩|⟨_,e|e⟩<;>rw[e]<;>decide
def NZ.axX(h:NZ P):∀x∈P.axX,Xt x:=by intro x a;rcases h.who with⟨_,e|e⟩|⟨_,e|e⟩<;>rw[e]at a<;>simp only[bw,bM,mg]at a<;>unfold Xt<;>rcases a with rfl|rfl<;>simp
def Ak(h:Xt L):eO L=0/\L.axZ/\X (dx L)<=60000:=by
 rcases h with rfl|rfl;.exact⟨ado.2.2.1,GH,CJ.2.2.1⟩
 exact⟨ado.2.2.2,GG,CJ.2.2.2⟩
def EZ(h:NZ P):NZ { P with ayi:=P.log.length }:=⟨h.down,⟨h.axZ.axX,h.axZ.len,h.axZ.log⟩,h.log,h.who⟩
def adw(h:NZ P)(d:Xt L)(g:a<=P.axX.length)(e:(P.ax0=0/\P.axX.take a++L::P.axX.drop a=[nX,nY])\/(P.ax0=1/\P.axX.take a++L::P.axX.drop a=[nX,nY]))(h1:P.axX.length=1):NZ (jn P L a):=by
 have i:=h.log;have f:=(Ak d).2.2;refine⟨h.down,JU h.axZ (Ak d).2.1 (by omega) (by omega) f g,?_,?_⟩;.simp only[jn,ae,jh,aX,ah,bN];omega
 rcases e with⟨c,b⟩|⟨c,b⟩;.exact .inl ⟨c,.inr b⟩
 exact .inr ⟨c,.inr b⟩
def TR(h:0<=dS L j<->a<=0):∀(k:Nat) (y:bf),[L][k]?=some y->(0<=dS y j<->a<=k):=by
 intro k y b;rcases k with _|k
 .obtain rfl:L=y:=by simpa using b
  exact h
 simp at b
def TQ{x:bf}(h:0<=dS L x<->a<=0)(c:0<=dS j x<->a<=1):∀(k:Nat) (y:bf),[L,j][k]?=some y->(0<=dS y x<->a<=k):=by
 intro k y b;rcases k with _|_|k
 .obtain rfl:L=y:=by simpa using b
  exact h
 .obtain rfl:j=y:=by simpa using b
  exact c
 simp at b
def uk(h:NZ P)(g:Xt L):NZ (fH P L)/\∀J,bh A 116 [.agg P.axV,.agg L.axV] J (fA (fH P L) 0):=by
 have a:=Ak g;have s:=h.log;have i:=h.len;have same:∀m,P.axX[m]?=some L->m<=P.axX.length->(∀(k:Nat) (y:bf),P.axX[k]?=some y->(0<=dS y L<->m<=k))->P.axX.any (λy=>dS y L==0)=G->NZ (fH P L)/\∀J,bh A 116 [.agg P.axV,.agg L.axV] J (fA (fH P L) 0):=by
  intro m l c f d;have e:fH P L=P:=by rw[fH,aO d]
  rw[e];exact⟨h,λJ=>AG P L m h.axZ a.2.1 h.down a.1 c f l J⟩
 have put:∀m,nv P.axX L=m->m<=P.axX.length->(∀(k:Nat) (y:bf),P.axX[k]?=some y->(0<=dS y L<->m<=k))->(∀y,P.axX[m]?=some y->dS y L≠0)->L.aZ.bR≠P.ax0->P.axX.any (λy=>dS y L==0)=false->P.axX.length=1 ->((P.ax0=0/\P.axX.take m++L::P.axX.drop m=[nX,nY])\/(P.ax0=1/\P.axX.take m++L::P.axX.drop m=[nX,nY]))->NZ (fH P L)/\∀J,bh A 116 [.agg P.axV,.agg L.axV] J (fA (fH P L) 0):=by
  intro m j c f d o r n p;have e:fH P L=jn P L m:=by rw[fH,ao (by rw[r];decide),j]
  rw[e];exact⟨adw h g c p n,λJ=>Ft P L m h.axZ a.2.1 h.down a.1 a.2.2 (by omega) c f d o J⟩
 rcases h.who with⟨b,e|e⟩|⟨b,e|e⟩<;>rcases g with rfl|rfl;.exact same 0 (by rw[e];rfl) (by rw[e];decide) (by rw[e];exact TR (by decide)) (by rw[e];decide)
 .exact put 1 (by rw[e];decide) (by rw[e];decide) (by rw[e];exact TR (by decide)) (by rw[e];simp) (by rw[b];decide) (by rw[e];decide) (by rw[e];rfl) (.inl ⟨b,by rw[e];rfl⟩)
 .exact same 0 (by rw[e];rfl) (by rw[e];decide) (by rw[e];exact TQ (by decide) (by decide)) (by rw[e];decide)
 .exact same 1 (by rw[e];rfl) (by rw[e];decide) (by rw[e];exact TQ (by decide) (by decide)) (by rw[e];decide)
 .exact put 0 (by rw[e];decide) (by rw[e];decide) (by rw[e];exact TR (by decide)) (by rw[e];intro y q;obtain rfl:nY=y:=(by simpa using q);decide) (by rw[b];decide) (by rw[e];decide) (by rw[e];rfl) (.inr ⟨b,by rw[e];rfl⟩)
 .exact same 0 (by rw[e];rfl) (by rw[e];decide) (by rw[e];exact TR (by decide)) (by rw[e];decide)
 .exact same 0 (by rw[e];rfl) (by rw[e];decide) (by rw[e];exact TQ (by decide) (by decide)) (by rw[e];decide)
 exact same 1 (by rw[e];rfl) (by rw[e];decide) (by rw[e];exact TQ (by decide) (by decide)) (by rw[e];decide)
def KZ:il where
 rF:=NZ
 ok:=Xt
 fR _:=(bX.zero,8)
 fV o x:=(fH o x,0)
 fS o:=({ o with ayi:=X o.log },0)
 axX _ h:=h.axX
 val _ h:=⟨(Ak h).1,(Ak h).2.1⟩
 sml _ h:=h.axZ
 len _ h:=cE h.len (by decide)
 gR _ _ h:=absurd h (by decide)
 gV _ _ h hx _:=(uk h hx).1
 gS _ h _:=EZ h
def aqI:NS KZ:=⟨λo h J=>Fs o h.down J,λ_ _ h a J=>(uk h a).2 J,λo h J=>TP o h.axZ h.down J⟩
def acX:NZ P0:=⟨rfl,H0,by show P0.log.length<=60008*1;exact cE (by decide +kernel:P0.log.length<=1000) (by decide),.inl ⟨rfl,.inl rfl⟩⟩
def acW:NZ P1:=⟨rfl,Q2,by show P1.log.length<=60008*1;exact cE (by decide +kernel:P1.log.length<=1000) (by decide),.inr ⟨rfl,.inl rfl⟩⟩
def adE:r5 [nX,nY]=[nX,nY]:=(u6 (λx a=>by simp only[bw,bM,mg]at a;exact⟨(Ak a).1,(Ak a).2.1⟩) (.refl _) (by decide +kernel)).symm
def Y8:r5 [nX,nY,nY]=[nX,nY,nY]:=(u6 (λx a=>by simp only[bw,bM,mg,or_self]at a;exact⟨(Ak a).1,(Ak a).2.1⟩) (.refl _) (by decide +kernel)).symm
def Q0:bX:=jn P0 nY 1
def Q1:bX:=jn P1 nX 0
def aie:(kr nY nX==0)=Z/\(kr nY nY==0)=G:=by decide +kernel
def RU:fH P0 nX=P0/\fH P0 nY=Q0:=⟨by rw[fH,aO (by decide)],by rw[fH,ao (by decide),show nv P0.axX nY=1 from by decide];rfl⟩
def RT:fH P1 nX=Q1/\fH Q1 nY=Q1:=⟨by rw[fH,ao (by decide),show nv P1.axX nX=0 from by decide];rfl,by rw[fH,aO (by decide)]⟩
def adx:KZ.settle ⟨[P0,P1],[],[fx 1 0]⟩=[{ Q0 with ayi:=Q0.log.length },{ Q1 with ayi:=Q1.log.length }]:=by
 have a:jJ [P0,P1]=[nX,nY]:=by show mu _ (r5 [nX,nY])=_;rw[adE];simp only[mu,mf,aie.1,aI,bo]
 have c:jJ [Q0,P1]=[nX,nY]:=by show mu _ (r5 [nX,nY,nY])=_;rw[Y8];simp only[mu,mf,aie.1,aie.2,aI,bo,aR]
 have d:KZ.sv 0 [nX,nY] [P0,P1]=[Q0,P1]:=by show[fH (fH P0 nX) nY,P1]=_;rw[RU.1,RU.2]
 have b:KZ.sv 1 [nX,nY] [Q0,P1]=[Q0,Q1]:=by show[Q0,fH (fH P1 nX) nY]=_;rw[RT.1,RT.2]
 show KZ.sync (KZ.sv 1 (jJ (KZ.sv 0 (jJ [P0,P1]) [P0,P1])) (KZ.sv 0 (jJ [P0,P1]) [P0,P1]))=_;rw[a,d,c,b];rfl
def GC:Net:=⟨[{ Q0 with ayi:=Q0.log.length },{ Q1 with ayi:=Q1.log.length }],[],[]⟩
def PI:∀o∈GC.aM,NZ o:=by
 have a:NZ Q0:=RU.2▸(uk acX (.inr rfl)).1;have c:NZ Q1:=RT.1▸(uk acW (.inl rfl)).1;intro o b;simp only[GC,bw,bM,mg]at b;rcases b with rfl|rfl;.exact EZ a
 exact EZ c
def aou:kG (dC [nX,nY]) [yM [97] [121]]=G:=by decide +kernel
def ahX:Ju [P0,P1]=Z:=by decide +kernel
def ahW:Ju GC.aM=G:=by decide +kernel
def xd(t:aL)(J:ai):bh A 36 [.s t] J (.agg (yM [97] t).axV):=by refine aT func36 p36.2 λa b=>an ?_;simp only[p36,SS,seval];simp only[VV,seval];refine lE (xs:=[.agg [.lit 3 [[.I 1,.s [97],.I 0]],.lit 3 [[.I 1,.s t,.I 0]],.s [],.s [],.s [],.s [],.I 0,.I 1]]) (ys:=[.agg (yM [97] t).axV]) a (.inr rfl) (by simp only[RS,seval]) (.cons (.iK ?_) .nil) (by simp only[En.axV,LW]) ⟨rfl,rfl⟩;exact .cons (.lit _ _) (.cons (.lit _ _) (.cons (.refl _) (.cons (.refl _) (.cons (.refl _) (.cons (.refl _) (.cons (.refl _) (.cons (.refl _) .nil)))))))
def n1:Net:=⟨[tK 0,tK 1],[],[]⟩
def Td:ij v 0=.iS [.agg [.sl 6 (v.aM.map bX.axV),.sl 15 (v.aW.map Let.axV),.sl 2 (v.cy.map ct)],.I 0]:=rfl
def ael:bh A 15 [.I 2] T (.iS [.agg n1.axV,.I 0]):=J0 2 (by decide) (by decide) T
def yh(a:fF)(h:∀o∈R,o.axZ)(c:X R<2^30)(b:X a<2^30):Net.axZ ⟨R,[],a⟩:=⟨h,c,(λx d=>by cases d),(by show(0:Nat)<2^30;decide),b⟩
def n2:Net:=⟨[tK 0,tK 1],[],[fx 1 0]⟩
def n3:Net:=⟨[P0,tK 1],[],[fx 1 0]⟩
def n4:Net:=⟨[P0,P1],[],[fx 1 0]⟩
def aak:n1.axZ:=yh _ _ (by simp[ox]) (by decide) (by decide)
def aaj:n2.axZ:=yh _ _ (by simp[ox]) (by decide) (by decide)
def aai:n3.axZ:=yh _ _ (by simp[ox,H0]) (by decide) (by decide)
def GJ:n4.axZ:=yh _ _ (by simp[H0,Q2]) (by decide) (by decide)
def aqU:bh A 18 [.agg n1.axV,.agg (Ev.axV ⟨7,1,0,0,zEn⟩)] T (ij n2 0):=apF n1 aak 1 0 (by decide) (by decide) (by decide) rfl zEn T
def aiW:bh A 18 [.agg n2.axV,.agg (Ev.axV ⟨1,0,0,0,yM [97] [120]⟩)] T (ij n3 0):=Kz n2 aaj 0 (tK 0) P0 nX rfl _ apL T
def aiV:bh A 18 [.agg n3.axV,.agg (Ev.axV ⟨1,1,0,0,yM [97] [121]⟩)] T (ij n4 0):=Kz n3 aai 1 (tK 1) P1 nY rfl _ apK T
def aoF:bh A 18 [.agg n4.axV,.agg (Ev.axV ⟨3,0,1,0,zEn⟩)] T (ij Net.zero 8):=agt n4 GJ 0 1 (by decide) P0 P1 rfl rfl rfl rfl (by decide) zEn T
def afm:bh A 21 [.agg n4.axV] T (.agg GC.axV):=by have:=Jr aqI n4 GJ (by intro o a;simp only[n4,bw,bM,mg]at a;rcases a with rfl|rfl;exact acX;exact acW) (by decide) (λx b=>by cases b) T;rwa [show KZ.settle n4=GC.aM from adx]at this
def aiU:bh A 23 [.agg n4.axV] T (.b Z):=by have:=VT n4 (by decide) GJ.bg (by simp[n4]) T;rwa [show Ju n4.aM=Z from ahX]at this
def aiT:bh A 23 [.agg GC.axV] T (.b G):=by have:=VT GC (by decide) (λo a=>(PI o a).axZ) (by simp[GC]) T;rwa [ahW]at this
def akP{b n:Int}:qP [.I f,.I H,.I b,.I n,.nil,.nil,.s [],.s [],.s [],.s [],.I 0,.I 0] (Ev.axV ⟨f,H,b,n,zEn⟩):=by simp only[Ev.axV,En.axV,zEn,aq];repeat first|exact .nil|refine .cons (.refl _) ?_|refine .cons (.nil _) ?_
def w8:bX:={ Q0 with ayi:=Q0.log.length }
def GS:bh A 10 [] T (.b true):=by refine aT func10 p10.2 λi j=>an ?_;simp only[p10,SS,seval];simp only[VV,seval];refine ak (ael _) rfl ?_;simp only[Net.axV,VV,seval];refine kh (zs:=[.agg n1.axV,.agg (Ev.axV ⟨7,1,0,0,zEn⟩)]) (.cons (.refl _) (.cons (Cv.iK akP) .nil)) (aqU _) ?_;simp only[Td,VV,seval];refine sF rfl (by kernel_rfl) (xd [120] _) rfl ?_;simp only[En.axV,VV,seval];refine ak (aiW _) rfl ?_;simp only[Td,VV,seval];refine sF rfl (by kernel_rfl) (xd [121] _) rfl ?_;simp only[En.axV,VV,seval];refine ak (aiV _) rfl ?_;simp only[Td,VV,seval];refine kh (zs:=[.agg n4.axV,.agg (Ev.axV ⟨3,0,1,0,zEn⟩)]) (.cons (.refl _) (.cons (Cv.iK akP) .nil)) (aoF _) ?_;simp only[ij,Net.zero,Net.axV,VV,seval];refine ak (afm _) rfl ?_;simp only[Net.axV,VV,seval];refine cm (c:=true) (by simp only[VV,seval]<;>rfl) (λ_=>aiU _) rfl ?_;have g:(Z==true)=Z:=rfl;have e:(true==true)=true:=rfl;have a:GC.aM.length=2:=rfl;have h:(GC.aM.map bX.axV).getD 0 []=[.I w8.ax0,.I w8.ax7,.sl 13 (w8.axX.map bf.axV),.sl 1 (aC w8.log),.I w8.ayi,.b w8.down]:=rfl;simp only[e,g,a,h,ab,VV,seval];refine cm (c:=true) (by simp only[VV,seval]<;>rfl) (λ_=>aiT _) rfl ?_;simp only[e,g,a,h,ab,VV,seval];refine⟨_,rfl,?_⟩;have d:w8.axZ:=(PI w8 (by simp[GC,w8])).axZ;have f:w8.axX=[nX,nY]:=rfl;refine cm (c:=true) (by simp only[VV,seval]<;>rfl) (λ_=>FC w8 d _) rfl ?_;simp only[e,g,f,VV,seval];refine yB (c:=true) (v:=.agg (yM [97] [121]).axV) (by simp only[VV,seval]<;>rfl) (λ_=>⟨_,_,rfl,by kernel_rfl,xd [121] _⟩) ?_;simp only[En.axV,V.pure,VV,seval];refine cm (c:=true) (by simp only[VV,seval]<;>rfl) (λ_=>PC.wk (args':=[.sl 8 ((dC [nX,nY]).map En.axV),.sl 8 ([yM [97] [121]].map En.axV)]) (Wk.fG (.cons (.refl _) (.cons (.lit _ _) .nil))) (AV (dC [nX,nY]) [yM [97] [121]] _)) rfl ?_;simp only[aou,VV,seval];exact gL i (by rfl) (by simp[LW])
