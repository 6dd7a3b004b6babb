/- Part of a proof. -/
import Derived.StillTailTactics
import Derived.LoopN
import Derived.Test.YtfeddmfijllgmaaGreatDoorZ25
set_option linter.all false
set_option maxHeartbeats 4000000
open Option renaming some->S,none->Y
open Bool renaming true->G,false->Z
open Go.Proofs.Tryz renaming prog->A
open List renaming length->X
namespace Go.Proofs.Tryz
open Go Go.Pm Go.Bt Go.Sort Go.Shelf
variable(P:Int)(l:List bf)(a:Int×Int)(F:Int×Int)(c:Int)(o:bX)(n:Nat)(T:Net)(R:ai)(Q:fF)(x:bf){M:Int}{U:List bf}{k H D:Nat}{b N:Ob}{y:V}{E:aL}{J:ai}{w:bF}{K:bG}{B:bX}{C:bf}
def WY:SWO (ltOf λ(i j:Fin (X l))=>kr l[i] l[j]):=by
 refine⟨λx=>?_,λx y z e c=>?_,λx y z e c=>?_⟩;.simp only[ltOf,gW,kD.self];omega
 .simp only[ltOf,bz]at *;have f:=kD.mA l[x] l[y];have g:=kD.mA l[y] l[z];have h:=kD.mA l[x] l[z];have:=kD.gt (a:=l[z]) (b:=l[y]) (d:=l[x]) (by omega) (by omega);omega
 simp only[ltOf,gW]at *;have:=kD.trans l[x] l[y] l[z] (by omega) (by omega);omega
def Zb(b:∀x∈l,eO x=0/\x.axZ)(d:X l<2^30)(id g:Nat)(J:ai)(h1:J[id]?=some (fy g Z l)): PC A 114 [.own id g,.fn 117 []] J (λr a=>r=.iS []/\a=J.set id (fy g Z (r5 l))):=by refine PC.mono (PC.Y9 Tryz.Y6 (k:=13) Tryz.isAgg57 Tryz.sizeOf57 bf.axV (λx=>by simp[bf.axV,cz.axV,En.axV]) (by omega) kr (enters_of func117 (by kernel_rfl) rfl) l (λx i y e=>(ru x y (b x i).2 (b y e).2 _).mono λr a h=>h.1) (WY l) d h1) ?_;rintro r a ⟨j,c,f,rfl,rfl⟩;exact⟨rfl,by rw[u6 b c f];rfl⟩
def aiE(y:bW J)(b:Ob)(t:bW (J++[b]))(a i:Nat)(e:List bX)(m:J[a]?=S (bI i e))(n:X e<2^30)(x:X (fE e)<2^30):∀(d c:List bX) (g:Nat),e=c++d ->(∀g,((fj 3 (fh (.own (X J+1) g) (fj 18 fo))) λu=>K (.exit 0) ⟨u,J++[b,fy g Z (fE e)]⟩)) ->gF (X J) A UB K (X d+1) ⟨(uu 3 (.own (X J+1) g::uu 3 (.own a i::.I (X e)::.I (X c)::uu 12 []))),J++[b,fy g Z (fE c)]⟩:=by
 have w:∀l:ai,(J++l)[a]?=S (.row 61 6 80 i Z (e.map bX.axV)):=λl=>vJ m;intro d;induction d with
 |nil =>intro c g f j;have f:=dH f;subst f;refine aD λR p=>?_;simp only[UB,VV,seval];exact⟨λh=>by simp at h,λ_=>j g ..⟩
 |cons o d ih =>
 intro c g f j;have z:=ko f;have v:=eE c o (by omega);have k:(e.map bX.axV).getD (X c) []=o.axV:=by rw[f];exact gA
 have B:X (fE c)+X o.axX<=X (fE e):=by rw[f];simp[fE]
 have s:(0:Int)<=(X c:Int):=by omega
 have r:(X c:Int)<(X e:Int):=by omega
 simp only[bX.axV]at k;refine aD λR p=>?_;simp only[UB,fy,w,k,s,r,v,cZ,ab,al,V.pure,maxLen,VV,seval];have q:(fE c).map bf.axV++o.axX.map bf.axV=(fE (c++[o])).map bf.axV:=by simp[fE]
 rw[q];refine⟨⟨by omega,by omega⟩,p _ (dn [b,fy (g+1) Z (fE (c++[o]))] [_] ?_ ?_ ?_ (ih (c++[o]) (g+1) (by rw[f];simp) j))⟩;.have:=cx t (l:=[fy (g+1) Z (fE (c++[o]))]) (by simp[fy]);simpa using this
 .repeat' constructor
 simp only[LW,ah,aj,aP];have:=(ag.1 m).1;omega
def PJ(b:List bX)(s:∀o∈b,∀x∈o.axX,eO x=0/\x.axZ)(e:X b<2^30)(h:X (fE b)<2^30)(a d:Nat)(J:ai)(f:J[a]?=S (bI d b)): bh A 61 [.agg [.own a d,.nil,.nil]] J (.sl 13 ((jJ b).map bf.axV)):=by
 refine aT func61 p61.2 λi w=>an ?_;have z:=(ag.1 f).1;have t:∀l:ai,(J++l)[a]?=S (.row 61 6 80 d Z (b.map bX.axV)):=λl=>vJ f;simp only[p61,SS,seval];have j:J[a]?=S (.row 61 6 80 d Z (b.map bX.axV)):=f;have n:bW (J++[.box 29 [.own a d,.nil,.nil]]):=cx i (by simp only[bV,bM,dp,dF,dm,LW];omega);simp only[t,j,aK,ab,VV,seval];refine cD.wk (((Wk.fG (ys:=(uu 3 (.nil::uu 3 (.own a d::.I (X b)::.I (X ([]:List bX):Nat)::uu 12 [])))) ?_).trans (Wk.ov (P:=A) (k:=3) [_] K3 rfl)).trans (Wk.fG ?_)) (cD.mM (X b+1) (aiE i _ n a d b f e h b [] 0 rfl ?_));.repeat' constructor
 .simp only[VV,seval];repeat' constructor
 intro g;simp only[JE];intros;have m:∀x∈fE b,eO x=0/\x.axZ:=λx c=>by simp only[fE,Ex]at c;obtain⟨o,p,c⟩:=c;exact s o p x c
 simp only[VV,seval];refine ak (Zb (fE b) m h _ g _ (by simp only[VV,seval])) rfl ?_;simp only[VV,seval];refine dV (Tj 119 (by kernel_rfl) _ (λx y c q J=>Sx x y c q J) (r5 (fE b)) (λx c=>(m x (Ce.1 c)).2) (by rw[Jp];exact h) _ g _ (by simp only[VV,seval])) rfl ?_;rintro r u ⟨v,rfl,rfl⟩;simp only[fy,VV,seval];refine fB 1 i (by simp only[RS,seval];rfl) rfl ?_ ?_;.simp only[az,aq,Pm.fz,jR,cw,aR,LW]
 simp only[az,aq,Pm.fz,jR,cw,aR];exact⟨rfl,trivial⟩
open Go.RowKit
def cAt(a:Nat):Nat->Nat:=λo=>if o=n then a else 0
def X7(i:H<2^40)(h1:∀j:Nat,j<H->∃x∈U,mm x=((k:Int),(j:Int)+1))(c:∀x∈U,∃j:Nat,j<H/\mm x=((k:Int),(j:Int)+1)):qe U (cAt k H):=by
 refine⟨λo _=>?_,λo _ j a=>?_,λo _ x f b=>?_⟩;.unfold cAt;split<;>omega
 .unfold cAt at a;split at a;.rename_i h;subst h;exact h1 j a
  omega
 obtain⟨j,a,e⟩:=c x f;rw[e]at b;simp only[aY]at b;obtain⟨g,d⟩:=b;have:k=o:=by omega
 subst this;simp only[cAt,aR]at d;omega
def wL:bh A 105 [.I P,.I c] R (.agg (ct (fx P c))):=by refine aT func105 aok.2 λa b=>an ?_;simp only[aok,SS,seval];simp only[VV,seval];exact aS a (by simp only[RS,seval];rfl) (by simp[LW]) ⟨rfl,rfl⟩
def ZD:bh A 106 [.agg (ct a),.agg (ct F)] R (.b (rh a F)):=by
 refine aT func106 aoj.2 λf i=>an ?_;simp only[aoj,SS,seval];obtain⟨d,j⟩:=a;obtain⟨c,k⟩:=F;simp only[ct,rh];cases g:decide (d<c)
 .cases e:(d==c)
  .have h:decide (d=c)=Z:=by simpa using e
   simp only[g,e,h,VV,seval];exact aS f rfl (by simp[LW]) ⟨rfl,rfl⟩
  have h:decide (d=c)=G:=by simpa using e
  simp only[g,e,h,VV,seval];exact aS f rfl (by simp[LW]) ⟨rfl,rfl⟩
 simp only[g,VV,seval];exact aS f rfl (by simp[LW]) ⟨rfl,rfl⟩
def afg(s:bW J)(l:fF)(a b:Int)(n:X l<2^62):∀(e d:fF),l=d++e->d.any (λc=>c==fx a b)=Z ->(l.any (λc=>c==fx a b)=Z->((fj 22 fo) λi=>K (.exit 0) ⟨i,J⟩))->(l.any (λc=>c==fx a b)=G->∀m,((fj 6 (fh (.b G) (fj 15 fo))) λi=>K .ret ⟨i,J++m⟩)) ->gF (X J) A MC K (X e+1) ⟨(uu 1 (.I a::.I b::uu 7 (.sl 2 (l.map ct)::.I (X l)::.I (X d)::uu 9 []))),J⟩:=by
 intro e;induction e with
 |nil =>intro d f k j g;have f:=dH f;subst f;refine aD λR p=>?_;simp only[MC,VV,seval];exact⟨λh=>by simp at h,λ_=>j k ..⟩
 |cons y e ih =>
 intro d f k j g;have u:=ko f;have o:=eE d y (by omega);have r:(List.map ct l).getD (X d) []=[.I y.1,.I y.2]:=by rw[f];exact gA
 have q:decide ((X d:Int)<(X l:Int))=G:=by simp;omega
 refine aD λR p=>?_;simp only[MC,al,r,q,o,ab,VV,seval];refine⟨⟨by omega,by omega⟩,?_⟩;refine ak (wL a b _) rfl ?_;have t:((y.1==(fx a b).1)&&(y.2==(fx a b).2))=(y==fx a b):=rfl;simp only[ct,ix,ez,o,t,db,VV,seval];refine⟨λh=>?_,λh=>?_⟩;.refine g (by rw[f,List.any_append,List.any_cons,h];simp) [_] ..
 refine p _ (dn [] [_] (by rw[bE];exact s) ?_ ?_ (by rw[bE];exact ih (d++[y]) (by rw[f];simp) (by rw[List.any_append,k];simpa using h) j g));.repeat' constructor
 simp only[LW]
def ye(x y:V)(a b:Int)(d:X Q<2^62)(J:ai)(i:jK J x=true)(g:jK J y=true)(k:x.Lt (X J))(f:y.Lt (X J)):bh prog 102 [.agg [x,y,.sl 2 (Q.map ct)],.I a,.I b] J (.b (Q.any λc=>c==fx a b)):=by
 refine aT func102 aon.2 λe j=>an ?_;simp only[aon,SS,seval];simp only[i,g,ab,VV,seval];refine cD.wk ((Wk.fG (ys:=(uu 1 (.I a::.I b::uu 7 (.sl 2 (Q.map ct)::.I (X Q)::.I (X ([]:fF):Nat)::uu 9 [])))) (by repeat' constructor)).trans (Wk.lA (aB _) e (dO.1 (by simp[LW])))) (cD.mM (X Q+1) (afg e Q a b d Q [] rfl rfl (λh=>?_) (λh=>?_)));.simp only[JE];intros;simp only[VV,seval];exact bt rfl ⟨by rw[h];rfl,rfl⟩
 simp only[JE];intros;exact aS e rfl (by simp[LW]) ⟨by rw[h];rfl,rfl⟩
def EF(g:T.axZ)(k:T.aM≠[])(a:ai){Q:V->ai->Prop}(e:Q y J) (b:bW a->∀(m p:Ob) (lv:V) (d:ai),(T.aW=[]/\lv=.lit 15 [])\/(T.aW≠[]/\lv=.own (X a+3) 0/\∃t,d=cL 0 T.aW::t) ->Wk A (X a) [.agg [.own (X a+2) 0,lv,.sl 2 (T.cy.map ct)]] (a++(m::p::bI 0 T.aM::d)) [y] J):PC A 48 [.agg T.axV] a Q:=by
 refine aT func48 p48.2 λj s=>an ?_;have b:=b j;obtain⟨h,ax2,f⟩:=T;have r:X h<2^30:=g.D5;have n:X ax2<2^30:=g.vZ;have i:X f<2^30:=g.tT;cases h with
 |nil=>exact absurd rfl k
 |cons o os =>
 simp only[p48,SS,seval];simp only[ah]at r;cases ax2 with
 |nil =>
  cases f with
  |nil =>simp only[Net.axV,aq,ju,az,gm,aI,ah,ab,maxLen,V.pure,↓IT,VV,seval];refine⟨⟨by omega,by omega⟩,gT (xs:=[.agg [.own (X a+2) 0,.lit 15 [],.lit 2 []]]) (xs':=[y]) (.inr rfl) (by simp only[RS,seval]) ((Wk.fG (.cons (.iK (.cons (.refl _) (.cons (.refl _) (.cons (.lit _ _) .nil)))) .nil)).trans (b _ _ _ [] (.inl ⟨rfl,rfl⟩))) rfl e⟩
  |cons c q =>simp only[ah]at i;simp only[Net.axV,aq,ju,az,gm,aI,ah,ab,maxLen,V.pure,↓IT,VV,seval];refine⟨⟨by omega,by omega⟩,⟨by omega,by omega⟩,gT (xs:=[.agg [.own (X a+2) 0,.lit 15 [],.own (X a+3) 0]]) (xs':=[y]) (.inr rfl) (by simp only[RS,seval]) ((Wk.qM 3 rfl).trans ?_) rfl e⟩;simp only[az,aq,Pm.fz,jR,gY,cw,dm,jd,aR,bo,Nat.reduceEqDiff,o0];exact b _ _ _ _ (.inl ⟨rfl,rfl⟩)
 |cons l u =>simp only[ah]at n;cases f with|nil =>simp only[Net.axV,aq,ju,az,gm,aI,ah,ab,maxLen,V.pure,↓IT,VV,seval];refine⟨⟨by omega,by omega⟩,⟨by omega,by omega⟩,gT (xs:=[.agg [.own (X a+2) 0,.own (X a+3) 0,.lit 2 []]]) (xs':=[y]) (.inr rfl) (by simp only[RS,seval]) ((Wk.fG (.cons (.iK (.cons (.refl _) (.cons (.refl _) (.cons (.lit _ _) .nil)))) .nil)).trans (b _ _ _ _ (.inr ⟨by simp,rfl,_,rfl⟩))) rfl e⟩|cons c q =>simp only[ah]at i;simp only[Net.axV,aq,ju,az,gm,aI,ah,ab,maxLen,V.pure,↓IT,VV,seval];refine⟨⟨by omega,by omega⟩,⟨by omega,by omega⟩,⟨by omega,by omega⟩,gT (xs:=[.agg [.own (X a+2) 0,.own (X a+3) 0,.own (X a+4) 0]]) (xs':=[y]) (.inr rfl) (by simp only[RS,seval]) ((Wk.qM 4 rfl).trans ?_) rfl e⟩;simp only[az,aq,Pm.fz,jR,gY,cw,dm,jd,aR,bo,Nat.reduceEqDiff,o0];exact b _ _ _ _ (.inr ⟨by simp,rfl,_,rfl⟩)
def PS{c:ai}{h:ar}{E d b g k:Nat}{f:Bool}{a:eJ}(l:bW J)(m:c[k]?=S (.row E d b g f a))(n:Mvs (X J) c [k] h [y]):Wk A (X J) h (J++c) [y] (J++[.row E d b 0 f a]):=by
 refine Wk.PT (os:=[.row E d b 0 f a]) [k] l (by simp) rfl (λi j e=>?_) n;rcases i with _|i;.simp only[aG,aa]at e;subst e;exact⟨_,m,rfl,rfl⟩
 simp at e
def wM(j:T.axZ)(g:T.aM≠[])(J:ai):PC A 48 [.agg T.axV] J (λr d=>r=.agg [.own J.length 0,.sl 15 (T.aW.map Let.axV),.sl 2 (T.cy.map ct)]/\d=J++[bI 0 T.aM]):=by
 refine EF T j g J ⟨rfl,rfl⟩ λc e i lv a f=>?_;have b:∀a:ai,Wk A J.length [.agg [.own (J.length+2) 0,.sl 15 (T.aW.map Let.axV),.sl 2 (T.cy.map ct)]] (J++(e::i::bI 0 T.aM::a)) [.agg [.own J.length 0,.sl 15 (T.aW.map Let.axV),.sl 2 (T.cy.map ct)]] (J++[bI 0 T.aM]):=λa =>
  PS (k:=2) c rfl (.cons (Mv.iK (.cons (.own 0 2 _ _ _ _ _ _ rfl rfl) (.cons (.dX _ (.sl ..)) (.cons (.dX _ (.sl ..)) .nil)))) .nil);rcases f with⟨h,rfl⟩|⟨_,rfl,t,rfl⟩;.have:=b a;rw[h]at this |-;exact(Wk.fG (.cons (.iK (.cons (.refl _) (.cons (.lit _ _) (.cons (.refl _) .nil)))) .nil)).trans this
 refine(Wk.qM 3 rfl).trans ?_;simp only[az,aq,Pm.fz,jR,gY,cw,dm,jd,aR,bo,Nat.reduceEqDiff,o0];exact b _
def C2(e:T.axZ)(c:T.aM≠[])(d:T.aW≠[])(J:ai):PC A 48 [.agg T.axV] J (λr b=>r=.agg [.sl 6 (T.aM.map bX.axV),.own J.length 0,.sl 2 (T.cy.map ct)]/\b=J++[cL 0 T.aW]):=by
 refine EF T e c J ⟨rfl,rfl⟩ λa g i lv f h=>?_;rcases h with⟨h,rfl⟩|⟨_,rfl,t,rfl⟩;.exact absurd h d
 refine(Wk.qM 2 rfl).trans ?_;simp only[az,aq,Pm.fz,jR,gY,cw,dm,jd,aR,bo,Nat.reduceEqDiff,o0];exact PS (k:=3) a rfl (.cons (Mv.iK (.cons (.dX _ (.sl ..)) (.cons (.own 0 3 _ _ _ _ _ _ rfl rfl) (.cons (.dX _ (.sl ..)) .nil)))) .nil)
def OV(f:T.axZ)(d:T.aM≠[])(e:T.aW=[])(J:ai):bh A 48 [.agg T.axV] J (.agg [.sl 6 (T.aM.map bX.axV),.lit 15 [],.sl 2 (T.cy.map ct)]):=by
 refine EF T f d J ⟨rfl,rfl⟩ λc g i lv a h=>?_;have b:∀a:ai,Wk A (X J) [.agg [.sl 6 (T.aM.map bX.axV),.lit 15 [],.sl 2 (T.cy.map ct)]] (J++a) [.agg [.sl 6 (T.aM.map bX.axV),.lit 15 [],.sl 2 (T.cy.map ct)]] J:=λa=>Wk.yL c (by simp[LW]);rcases h with⟨_,rfl⟩|⟨h,rfl,t,rfl⟩;.refine(Wk.qM 2 rfl).trans ?_;simp only[az,aq,Pm.fz,jR,gY,cw,dm,jd,aR,bo,Nat.reduceEqDiff,o0];exact b _
 exact absurd e h
def OW(g:T.axZ)(f:T.aM≠[])(J:ai):bh A 48 [.agg T.axV] J (.agg T.axV):=by
 obtain⟨c,ax2,d⟩:=T;refine EF _ g f J ⟨rfl,rfl⟩ λe i j lv a h=>?_;have b:∀a:ai,Wk A (X J) [.agg (Net.axV ⟨c,ax2,d⟩)] (J++a) [.agg (Net.axV ⟨c,ax2,d⟩)] J:=λa=>Wk.yL e (by simp only[Net.axV,LW]);refine(Wk.qM 2 rfl).trans ?_;rcases h with⟨h,rfl⟩|⟨h,rfl,t,rfl⟩;.simp only[az,aq,Pm.fz,jR,gY,cw,dm,jd,aR,bo,Nat.reduceEqDiff,o0];simp only at h;subst h;exact(Wk.fG (.cons (.iK (.cons (.refl _) (.cons (.lit _ _) (.cons (.refl _) .nil)))) .nil)).trans (b _)
 simp only[az,aq,Pm.fz,jR,gY,cw,dm,jd,aR,bo,Nat.reduceEqDiff,o0];refine(Wk.qM 3 rfl).trans ?_;simp only[az,aq,Pm.fz,jR,gY,cw,dm,jd,aR,bo,Nat.reduceEqDiff,o0];exact b _
def o2:bX:=⟨2,0,[],[],0,Z⟩
def o1:bX:=⟨1,0,[],[],0,Z⟩
def QD:qe [] (cAt 0 0):=X7 (by decide) (λj a=>by omega) (by simp)
def JU(b:B.axZ)(c:C.axZ)(h1:B.axX.length<1000)(e:B.log.length<1000000)(f:X (dx C)<=60000)(d:k<=B.axX.length):(jn B C k).axZ:=by
 refine⟨λy a=>?_,?_,?_⟩
 .simp only[jn,bJ,bw]at a;rcases a with a|rfl|a;.exact b.axX y (dB a)
  .exact c
  exact b.axX y (dR a)
 .simp only[jn,ae,aX,ah,bN];omega
 simp only[jn,ae,jh];omega
def GP(c:B.axZ)(e:C.axZ)(h1:B.axX.length<1000)(d:B.log.length<1000000)(b:X (dx C)<=60000)(a:k<=B.axX.length):(po B C k).axZ :=
 let h:=JU c e h1 d b a
 ⟨h.axX,h.len,h.log⟩
def aqQ(h:0<=P)(a:P<8)(J:ai):bh A 39 [.I P] J (.iS [.agg (bX.axV ⟨P,0,[],[],0,Z⟩),.I 0]):=by have:=aih P J;rwa [show Cc P=(⟨P,0,[],[],0,Z⟩,0)from by rw[Cc,ao (by omega)]]at this
def Z5:l.map bf.axV++[[.I x.aZ.time,.I x.aZ.bR,.I x.aZ.ax0,.I x.axW,.sl 3 (x.axY.ax3.map It.axV),.sl 3 (x.axY.ax4.map It.axV),.s x.axY.cJ,.s x.axY.next,.s x.axY.dL,.s x.axY.dh,.I x.axY.ayd,.I x.axY.ayf,.sl 1 (x.ax5.map cG)]]=(l++[x]).map bf.axV:=by simp[bf.axV,cz.axV,En.axV]
def aff(n:bW J)(l:List bf)(k:X l<2^39)(v:bH):∀(a c b:List bf) (g:Nat),l=c++a->X b<=X c ->(∀g,((fj 1 (fh (.sl 1 (v.map cG)) (fj 3 (fh (.own (X J) g) (fj 20 fo))))) λq=>K (.exit 0) ⟨q,J++[fy g false (b++kF a v)]⟩)) ->gF (X J) A MB K (X a+1) ⟨(uu 1 (.sl 1 (v.map cG)::uu 3 (.own (X J) g::uu 3 (.sl 13 (l.map bf.axV)::.I (X l)::.I (X c)::uu 14 [])))),J++[fy g false b]⟩:=by
 intro a;induction a with
 |nil =>intro c b g d s f;have d:=dH d;subst d;simp only[kF,rV,bE]at f;refine aD λR j=>?_;simp only[MB,VV,seval];exact⟨λh=>by simp at h,λ_=>f g ..⟩
 |cons x a ih =>
 intro c b g d s f;have t:=ko d;have m:=eE c x (by omega);have p:(List.map bf.axV l).getD (X c) []=x.axV:=by rw[d];exact gA
 have o:decide ((X c:Int)<(X l:Int))=G:=by simp;omega
 have i:=Ly v x.aZ;simp only[cz.axV]at i;refine aD λR j=>?_;simp only[MB,fy,al,p,o,ab,bf.axV,cz.axV,En.axV,V.pure,VV,seval];refine⟨⟨by omega,by omega⟩,?_⟩;refine ak (i _) rfl ?_;simp only[m,VV,seval];have r:(X b+1)*184<=2^47/\X b+1<=maxLen:=by simp only[maxLen];omega
 refine⟨λh=>?_,λh=>?_⟩
 .have e:kF (x::a) v=x::kF a v:=EA (by simpa using h);rw[e]at f;simp only[ab,m,V.pure,VV,seval];refine⟨by simpa using r,?_⟩;rw[Z5];refine j _ (dn [fy (g+1) false (b++[x])] [_] (cx n (by simp[fy])) ?_ ?_ (ih (c++[x]) (b++[x]) (g+1) (by rw[d];simp) (by simp;omega) (by simpa using f)));.repeat' constructor
  simp only[LW,ah,aj,aP];omega
 have e:kF (x::a) v=kF a v:=sO (by simpa using h);rw[e]at f;refine j _ (dn [fy g false b] [_] (cx n (by simp[fy])) ?_ ?_ (ih (c++[x]) b g (by rw[d];simp) (by simp;omega) f));.repeat' constructor
 simp only[LW,ah,aj,aP];omega
def Wy(c:o.axZ)(v:bH)(J:ai):bh prog 103 [.agg o.axV,.sl 1 (v.map cG)] J (.sl 13 ((kF o.axX v).map bf.axV)):=by
 refine aT func103 aom.2 λa e=>an ?_;have b:=c.len;simp only[aom,SS,seval];simp only[bX.axV,ab,VV,seval];have d:iY (X J) (uu 1 (.sl 1 (v.map cG)::uu 3 (.nil::uu 3 (.sl 13 (o.axX.map bf.axV)::.I (X o.axX)::.I (X ([]:List bf):Nat)::uu 14 [])))):=by simp only[LW]
 refine cD.wk ((((Wk.fG (ys:=(uu 1 (.sl 1 (v.map cG)::uu 3 (.nil::uu 3 (.sl 13 (o.axX.map bf.axV)::.I (X o.axX)::.I (X ([]:List bf):Nat)::uu 14 []))))) (by repeat' constructor)).trans (Wk.lA (aB _) a (dO.1 d))).trans (Wk.jP (P:=prog) (k:=5) K3 rfl)).trans (Wk.fG (ys:=(uu 1 (.sl 1 (v.map cG)::uu 3 (.own (X J) 0::uu 3 (.sl 13 (o.axX.map bf.axV)::.I (X o.axX)::.I (X ([]:List bf):Nat)::uu 14 []))))) ?_)) (cD.mM (X o.axX+1) (aff a o.axX (by omega) v o.axX [] [] 0 rfl (aB _) ?_));.simp only[VV,seval];repeat' constructor
 intro g;simp only[JE];intros;simp only[fy,aw,VV,seval];refine fB 0 a (by simp only[RS,seval];rfl) rfl ?_ ?_;.simp only[az,aq,cg,Pm.fz,jR,cw,aR,LW]
 simp only[az,aq,cg,Pm.fz,jR,cw,aR];exact⟨rfl,trivial⟩
def tK:bX:=⟨n,0,[],[],0,Z⟩
def mc:List bX:=(List.range n).map tK
def Gx:(mc n).map bX.axV++[[.I n,.I 0,.sl 13 [],.sl 1 [],.I 0,.b Z]]=(mc (n+1)).map bX.axV:=by simp[mc,rU,tK,bX.axV,aC]
def aiN{K:bG}(g:bW J)(n:Nat)(o:n<=8):∀(k i:Nat),n=i+k ->(((fj 2 (fh (.ptr (X J) 0) (fj 1 (fh (.ptr (X J+1) 0) (fj 27 fo))))) λm=>K (.exit 0) ⟨m,J++[.box 29 [.nil,.nil,.nil],eW (.own (X J+2) n) .nil .nil,bI n (mc n)]⟩)) ->gF (X J) A U2 K (k+1) ⟨(uu 2 (.ptr (X J) 0::uu 1 (.ptr (X J+1) 0::uu 10 (.I n::.I i::uu 15 [])))),J++[.box 29 [.nil,.nil,.nil],eW (.own (X J+2) i) .nil .nil,bI i (mc i)]⟩:=by
 intro k;induction k with
 |zero =>
  intro i b c;have b:n=i:=by omega
  subst b;refine aD λR f=>?_;simp only[U2,VV,seval];exact⟨λh=>by simp at h,λ_=>c ..⟩
 |succ k ih =>
 intro i b c;have e:IntKind.i64.wrap ((i:Int)+1)=((i+1:Nat):Int):=by rw[cT (by omega)]
 have j:(i:Int)<(n:Int):=by omega
 refine aD λR f=>?_;simp only[U2,eW,bI,j,e,cZ,VV,seval];refine ak (aqQ i (by omega) (by omega) _) rfl ?_;simp only[bX.axV,aC,aq,e,V.pure,ab,maxLen,VV,seval];have a:X (mc i)=i:=by simp[mc]
 rw[Gx,a];have d:=cx g (l:=[.box 29 [.nil,.nil,.nil],eW (.own (X J+2) (i+1)) .nil .nil,bI (i+1) (mc (i+1))]) (by simp only[bI,eW,bV,bM,dp,dF,dm,ae,ah,aj,LW];omega);refine⟨⟨by omega,by omega⟩,f _ (dn [.box 29 [.nil,.nil,.nil],eW (.own (X J+2) (i+1)) .nil .nil,bI (i+1) (mc (i+1))] [_] d ?_ ?_ (ih (i+1) (by omega) c))⟩;.repeat' constructor
 simp only[LW,ah,aj,aP];omega
def Vb{n:Nat}{xs:ar}{J:ai}:Wk A n xs (J++[b,.box 29 [.nil,.nil,.nil]]) xs (J++[b,.box 29 [.own (X J+2) 0,.nil,.nil],.row 61 6 80 0 Z []]):=by have:=Wk.qN (P:=A) (n:=n) (xs:=xs) (id:=X J+1) (j:=0) (T:=29) (cs:=[.nil,.nil,.nil]) (J:=J++[b,.box 29 [.nil,.nil,.nil]]) Y0 (by simp) rfl;simpa only[ji,aJ,ae,ah,aj,aF,aw,cu,cH,aP,Nat.reduceAdd]using this
def J0(h1:1<=n)(d:n<=8)(J:ai):bh A 15 [.I n] J (.iS [.agg (Net.axV ⟨mc n,[],[]⟩),.I 0]):=by
 refine aT func15 p15.2 λa f=>an ?_;have c:decide ((n:Int)<1)=Z:=by simp;omega
 have e:decide (8<(n:Int))=Z:=by simp;omega
 simp only[p15,SS,seval];simp only[c,e,VV,seval];have b:=λK=>aiN a (K:=K) n d n 0 (by omega);simp only[eW,bI,mc,List.range_zero,aq]at b;refine cD.wk ((Wk.fG (ys:=(uu 2 (.ptr (X J) 0::uu 1 (.ptr (X J+1) 0::uu 10 (.I n::.I ((0:Nat):Int)::uu 15 []))))) ?_).trans Vb) (cD.mM (n+1) (b _ ?_));.repeat' constructor
 simp only[JE];intros;simp only[aK,VV,seval];refine gT (xs:=[.agg [.own (X J+2) n,.nil,.nil],.I 0]) (xs':=[.agg (Net.axV ⟨mc n,[],[]⟩),.I 0]) (.inr rfl) (by simp only[RS,seval]) ?_ rfl ⟨rfl,rfl⟩;refine(Wk.qM 2 rfl).trans ((Wk.fG (ys:=[.agg (Net.axV ⟨mc n,[],[]⟩),.I 0]) ?_).trans (Wk.yL a (by simp only[Net.axV,LW])));simp only[az,aq,Pm.fz,jR,cw,aR];exact .cons (.iK (.cons (.refl _) (.cons (.nil 15) (.cons (.nil 2) .nil)))) (.cons (.refl _) .nil)
def eA:En:=⟨[⟨1,[97],0⟩],[],[],[],[],[],0,1⟩
def y0:bf:=⟨⟨1,0,1⟩,1,eA,[]⟩
def y1:bf:=⟨⟨2,0,2⟩,1,eA,[1]⟩
def nX:bf:=⟨⟨1,0,1⟩,1,yM [97] [120],[]⟩
def nY:bf:=⟨⟨1,1,1⟩,1,yM [97] [121],[]⟩
def Qx:(yM [97] [120]).axZ:=⟨by decide,by decide +kernel,by decide,by decide +kernel,by decide,by decide,by decide⟩
def Qw:(yM [97] [121]).axZ:=⟨by decide,by decide +kernel,by decide,by decide +kernel,by decide,by decide,by decide⟩
def apE:cY eA=0/\cY (yM [97] [120])=0/\cY (yM [97] [121])=0:=by decide +kernel
def GH:nX.axZ:=⟨Qx,by decide,by decide,by decide⟩
def GG:nY.axZ:=⟨Qw,by decide,by decide,by decide⟩
def ado:eO y0=0/\eO y1=0/\eO nX=0/\eO nY=0:=by decide +kernel
def CJ:X (dx y0)<=60000/\X (dx y1)<=60000/\X (dx nX)<=60000/\X (dx nY)<=60000:=by decide +kernel
def ox:(tK n).axZ:=⟨by simp[tK],by simp[tK],by simp[tK]⟩
def P0:bX:=po (tK 0) nX 0
def P1:bX:=po (tK 1) nY 0
def H0:P0.axZ:=GP (ox 0) GH (by decide) (by decide) CJ.2.2.1 (by decide)
def Q2:P1.axZ:=GP (ox 1) GG (by decide) (by decide) CJ.2.2.2 (by decide)
def apL:bh A 96 [.agg (tK 0).axV,.agg (yM [97] [120]).axV] R (.iS [.agg P0.axV,.agg nX.axV,.I 0]) :=HL (tK 0) _ Qx apE.2.1 (ox 0) rfl (cAt 0 0) QD [] (by decide +kernel) (by decide) (by decide) (by decide) 0 GH ado.2.2.1 CJ.2.2.1 (by decide) (aB _) (by simp[tK]) R
def apK:bh A 96 [.agg (tK 1).axV,.agg (yM [97] [121]).axV] R (.iS [.agg P1.axV,.agg nY.axV,.I 0]) :=HL (tK 1) _ Qw apE.2.2 (ox 1) rfl (cAt 0 0) QD [] (by decide +kernel) (by decide) (by decide) (by decide) 0 GG ado.2.2.2 CJ.2.2.2 (by decide) (aB _) (by simp[tK]) R
def QB:bh A 90 [.agg (ct a),.agg (ct F)] R (.I (Yb a F)):=by refine aT func90 p90.2 λb c=>an ?_;simp only[p90,SS,seval];simp only[ct,VV,seval];refine ak (py a.1 F.1 _) rfl ?_;simp only[VV,seval];refine ak (py a.2 F.2 _) rfl ?_;simp only[VV,seval];refine kh (zs:=[.sl 1 ([gp a.1 F.1,gp a.2 F.2].map cG)]) (.cons (.lit _ _) .nil) (MF _ _) ?_;simp only[VV,seval];exact aS b rfl (by simp[LW]) ⟨rfl,rfl⟩
def aiu{K:bG}(D:sI Q)(p:Int×Int)(c g:Nat)(M:X Q<2^30)(r:J[c]?=S (fm g Q)):∀(N i j:Nat),j - i<=N->i<=fe Q p->fe Q p<=j->j<=X Q ->((fh (.own c g) (fj 1 (fh (.fn 90 []) (fj 1 (fh (.ptr (X J) 0) (fj 3 (fh (.I (X Q)) (fh (.I (fe Q p)) (fj 39 fo))))))))) λz=>K (.exit 0) ⟨z,J++[.box 99 (ct p)]⟩) ->gF (X J) A JW K (N+1) ⟨(.own c g::uu 1 (.fn 90 []::uu 1 (.ptr (X J) 0::uu 3 (.I (X Q)::.I i::.I j::uu 38 [])))),J++[.box 99 (ct p)]⟩:=by
 have l:∀d:ai,(J++d)[c]?=S (.row 99 2 16 g Z (Q.map ct)):=λd=>by rw[bc (ag.1 r).1];exact r
 intro N;induction N with
 |zero =>
  intro i j B o t s b;obtain rfl:i=fe Q p:=by omega
  have a:decide ((fe Q p:Int)<(j:Int))=Z:=by simp;omega
  refine aD λR e=>?_;simp only[JW,a,VV,seval];exact b ..
 |succ N ih =>
 intro i j B o t s b;by_cases L:i<j
 .have a:decide ((i:Int)<(j:Int))=G:=by simp;omega
  have H:IntKind.i64.wrap ((i:Int)+(j:Int))=((i+j:Nat):Int):=by rw[show(i:Int)+(j:Int)=((i+j:Nat):Int)by omega,uc (by omega)]
  have C:=VC (i+j) (by omega);have F:(i+j) / 2<X Q:=by omega
  have k:Q[(i+j) / 2]?=S Q[(i+j) / 2]:=aA F;generalize f:Q[(i+j) / 2]=x at k;have q:(Q.map ct).getD ((i+j) / 2) []=ct x:=by simp[ax,k]
  have u:=tx D p _ x k;clear f;generalize y:(i+j) / 2=m at *;have w:(0:Int)<=(m:Int):=by omega
  have E:(m:Int)<(X Q:Int):=by omega
  have v:IntKind.i64.wrap ((m:Int)+1)=((m+1:Nat):Int):=by rw[cT (by omega)]
  simp only[ct]at q;refine aD λR e=>?_;simp only[JW,ct,l,a,H,C,v,q,w,E,ab,VV,Int.reduceBEq,Int.reduceBNe,Nat.reduceAdd,Nat.reduceSub,Nat.reduceLeDiff,Nat.reduceEqDiff,Int.reduceToNat,reduceIte,reduceCtorEq];refine⟨by decide,?_⟩;refine sF rfl (by kernel_rfl) (QB x p _) (by simp only[ct,VV,seval]) ?_;simp only[v,VV,seval];refine⟨λh=>?_,λh=>?_⟩;.have h:rh x p=G:=QF.1 (by simpa using h);have:=u.1 h;refine e _ (bL ?_ (ih (m+1) j (by omega) (by omega) t s b));repeat' constructor
  have h:¬rh x p=G:=λn=>by have:=QF.2 n;simp at h;omega
  have:¬m<fe Q p:=λn=>h (u.2 n);refine e _ (bL ?_ (ih i m (by omega) o (by omega) (by omega) b));repeat' constructor
 obtain rfl:i=fe Q p:=by omega
 have a:decide ((fe Q p:Int)<(j:Int))=Z:=by simp;omega
 refine aD λR e=>?_;simp only[JW,a,VV,seval];exact b ..
def aki(r:sI Q)(p:Int×Int)(c g:Nat)(y:X Q<2^30)(J:ai)(l:J[c]?=some (fm g Q)):bh A 89 [.own c g,.agg (ct p),.fn 90 []] J (.iS [.I (fe Q p),.b (decide (p∈Q))]):=by
 refine aT func89 p89.2 λo D=>an ?_;have a:∀f:ai,(J++f)[c]?=some (.row 99 2 16 g Z (Q.map ct)):=λf=>by rw[bc (ag.1 l).1];exact l
 have n:=Ct Q p;have t:=λK=>aiu (K:=K) Q r p c g y l (X Q) 0 (X Q) (by omega) (iP _) n (aB _);have s:=Cu r (p:=p);simp only[p89,SS,seval];simp only[ct]at t;simp only[ct,a,ab,VV,seval];refine cD.wk (Wk.fG ?_) (cD.mM (X Q+1) (t _ ?_));.repeat' constructor
 simp only[JE];intros;generalize fe Q p=m at *;have i:(true==true)=true:=rfl;have d:(Z==true)=Z:=rfl;by_cases B:m<X Q
 .have k:Q[m]?=some Q[m]:=aA B;generalize Q[m]=x at k;have q:(Q.map ct).getD m []=ct x:=by simp[ax,k]
  have j:decide ((m:Int)<(X Q:Int))=true:=by simp;omega
  have z:(0:Int)<=(m:Int):=by omega
  have C:(m:Int)<(X Q:Int):=by omega
  simp only[ct]at q;simp only[a,j,z,C,q,i,d,cZ,ab,VV,seval];refine⟨_,rfl,?_⟩;refine yB (c:=true) (by simp only[i,VV,seval]<;>rfl) (λ_=>⟨_,_,rfl,by kernel_rfl,QB x p _⟩) ?_;simp only[i,d,VV,seval];refine aS o rfl (by simp[LW]) ⟨?_,rfl⟩;have e:(Yb x p==0)=decide (p∈Q):=by rw[ei,dM,Ya,decide_eq_true_iff,s,k,aa]
  rw[e];rfl
 have j:decide ((m:Int)<(X Q:Int))=Z:=by simp;omega
 have w:decide (p∈Q)=Z:=rT (by rw[s,cp (by omega)];simp);simp only[a,j,w,i,d,dZ,ab,VV,seval];refine⟨.u,yB (c:=Z) (v:=.I 0) (by simp only[d,VV,seval]<;>rfl) (λh=>by cases h) ?_⟩;simp only[d,VV,seval];exact aS o rfl (by simp[LW]) ⟨rfl,rfl⟩
def X0(i:Nat)(e:i<X Q)(d:X Q<2^30)(b g:Nat)(J:ai)(c:J[b]?=S (fm g Q)):PC A 93 [.own b g,.I i,.I ((i:Int)+1)] J (λr a=>r=.own b (g+1)/\a=J.set b (fm (g+1) (Q.take i++Q.drop (i+1)))):=by have:=PC.KB Tryz.asX (k:=2) (by':=16) (g:=g) (i:=i) (rows:=Q.map ct) (by kernel_rfl) (by simpa using e) (by simpa using d) c;rw[<- List.map_take,<- List.map_drop,<- List.map_append]at this;exact this
def afq(x:Int×Int)(m id a g c:Nat)(b:Bool)(k:m<=X Q)(d:X Q<2^30)(J:ai)(j:id≠a)(h1:J[id]?=S (fm g Q))(f:J[a]?=S (.row 99 2 16 c b [ct x])): PC A 94 [.own id g,.I m,.own a c] J (λr i=>r=.own id (g+1)/\i=J.set id (fm (g+1) (Q.take m++x::Q.drop m))):=by
 by_cases h:m<X Q;.exact P2 Q x m id a g c b h d J j h1 f
 obtain rfl:m=X Q:=by omega
 have e:Q.take (X Q)++x::Q.drop (X Q)=Q++[x]:=by simp
 rw[e];exact Kb Q x id g a c b d J h1 f
def aii{c s t m:Nat}(h:uV J k H D c)(n:Net)(v:sI n.cy)(d:X n.cy<2^30)(e:Ev)(u:e.axW=7\/e.axW=8): PC A 44 [.ptr k 0,.agg e.axV] (jZ J k H D c (eW (.own H s) (.own D t) (.own c m)) (bI s n.aM) (cL t n.aW) (fm m n.cy)) (CG J k H D c (sS n e).1 (sS n e).2):=by
 obtain⟨B,a,b,j,o⟩:=e;simp only at u;refine aT func44 p44.2 λl C=>an ?_;have i:=aki n.cy v (fx a b) c m d;have r:=Ct n.cy (fx a b);have x:=Cu v (p:=fx a b);simp only[p44,SS,seval];rcases u with rfl|rfl
 .simp only[Ev.axV,En.axV,eW,fm,↓IT,VV,seval];refine ak (EG a b _) rfl ?_;simp only[ct,h.all,↓IT,VV,seval];refine ak (i _ (by simp only[h.all,fm])) (by simp only[ct,VV,seval]) ?_;by_cases q:a=b
  .subst q;have g:sS n ⟨7,a,a,j,o⟩=(Net.zero,1):=by simp[sS]
   simp only[g,aK,h.all,↓IT,VV,seval];exact kc l (kE h.la h.lb h.lc) trivial trivial trivial (.inr rfl) rfl (by simp[LW]) ⟨rfl,_,_,_,_,rfl,nofun⟩
  have w:(a==b)=Z:=by simpa using q
  by_cases f:fx a b∈n.cy
  .have g:sS n ⟨7,a,b,j,o⟩=(Net.zero,5):=by simp[sS,q,f]
   simp only[g,w,Af f,h.all,↓IT,VV,seval];exact kc l (kE h.la h.lb h.lc) trivial trivial trivial (.inr rfl) rfl (by simp[LW]) ⟨rfl,_,_,_,_,rfl,nofun⟩
  have g:sS n ⟨7,a,b,j,o⟩=(⟨n.aM,n.aW,n.cy.take (fe n.cy (fx a b))++fx a b::n.cy.drop (fe n.cy (fx a b))⟩,0):=by simp[sS,q,f]
  simp only[g,w,rT f,h.all,↓IT,VV,seval];refine ak (afq n.cy (fx a b) (fe n.cy (fx a b)) c (X J+2) m 0 Z r d _ (by have:=h.lc;omega) (by simp only[h.all,fm]) (by simp only[h.all,ct,cA,aG])) (by simp only[ct,VV,seval]) ?_;simp only[h.all,fm,VV,seval];exact kc l (kE h.la h.lb h.lc) trivial trivial trivial (.inr rfl) rfl (by simp[LW]) ⟨rfl,_,_,_,_,rfl,λ_=>⟨_,_,_,rfl,rfl,rfl,rfl⟩⟩
 simp only[Ev.axV,En.axV,eW,fm,↓IT,VV,seval];refine ak (EG a b _) rfl ?_;simp only[ct,h.all,↓IT,VV,seval];refine ak (i _ (by simp only[h.all,fm])) (by simp only[ct,VV,seval]) ?_;by_cases f:fx a b∈n.cy
 .have g:sS n ⟨8,a,b,j,o⟩=(⟨n.aM,n.aW,n.cy.take (fe n.cy (fx a b))++n.cy.drop (fe n.cy (fx a b)+1)⟩,0):=by simp[sS,f]
  have z:=(ag.1 (x.1 f)).1;have y:IntKind.i64.wrap ((fe n.cy (fx a b):Int)+1)=(fe n.cy (fx a b):Int)+1:=IntWalk.i64_in _ (by omega);simp only[g,Af f,h.all,y,↓IT,VV,seval];refine ak (X0 n.cy (fe n.cy (fx a b)) z d c m _ (by simp only[h.all,fm])) (by simp only[VV,seval]) ?_;simp only[h.all,fm,VV,seval];exact kc l (kE h.la h.lb h.lc) trivial trivial trivial (.inr rfl) rfl (by simp[LW]) ⟨rfl,_,_,_,_,rfl,λ_=>⟨_,_,_,rfl,rfl,rfl,rfl⟩⟩
 have g:sS n ⟨8,a,b,j,o⟩=(Net.zero,6):=by simp[sS,f]
 simp only[g,rT f,h.all,↓IT,VV,seval];exact kc l (kE h.la h.lb h.lc) trivial trivial trivial (.inr rfl) rfl (by simp[LW]) ⟨rfl,_,_,_,_,rfl,nofun⟩
def acv:Lib.compareInt P c=gp P c:=by simp only[Lib.compareInt,gp]
def WT(x y:Int)(b T:Nat)(W:bF)(d:W.heap[b]?=S (.cells #[.int .i64 x,.int .i64 y] T (0,0))): Calls A 91 #[.slice (S ⟨b,0,Y⟩) 2 2] W λe f=>e=.returned (.int .i64 (sP [x,y]))/\f=W:=by
 have g:W.cell? ⟨b,0,Y⟩=S (.int .i64 x):=by simp[World.cell?,d]
 have h:W.cell? ⟨b,1,Y⟩=S (.int .i64 y):=by simp[World.cell?,d]
 go_enter func91,Tryz.ntmps91;go_wp2;refine wp_loop_rounds 3 ?_;rw[rounds_succ];go_wp2;.rename_i a;go_ret;exact⟨by simp[sP,show x≠0 by simpa using a],rfl⟩
 rename_i a;rw[rounds_succ];go_wp2;.rename_i c;go_ret;exact⟨by simp[sP,show x=0 by simpa using a,show y≠0 by simpa using c],rfl⟩
 rename_i c;rw[rounds_succ];go_wp2;go_ret;exact⟨by simp[sP,show x=0 by simpa using a,show y=0 by simpa using c],rfl⟩
def Rn{W w:bF}{a B:Obj}(h:w.heap=(W.heap.push a).push B):w.heap[W.heap.size]?=S a/\w.heap[W.heap.size+1]?=S B:=by
 have e:W.heap.size+1=(W.heap.push a).size:=by simp
 rw[h];refine⟨?_,by rw[e];exact CI⟩;rw[as4 (by simp),Array.getElem_push_eq]
set_option maxRecDepth 4000 in
def Se(j k:List Value)(B:X j=13)(z:X k=13)(a b c d:Int)(h1:j[1]?=S (.int .i64 a))(r:j[2]?=S (.int .i64 b))(t:k[1]?=S (.int .i64 c))(s:k[2]?=S (.int .i64 d))(W:bF): Calls A 115 #[.agg j.toArray,.agg k.toArray] W λe m=>e=.returned (.int .i64 (sP [gp a c,gp b d]))/\∃q f,m=grow (W.drewN q) f:=by
 match j,B with
 |[x0,x1,x2,x3,x4,x5,x6,x7,x8,x9,x10,x11,x12],_ =>
 match k,z with
 |[y0,y1,y2,y3,y4,y5,y6,y7,y8,y9,y10,y11,y12],_ =>
 simp only[aG,cA,aa]at h1 r t s;subst h1 r t s;have g:∀(x y:Int) (n:bF),Calls A 92 #[.int .i64 x,.int .i64 y] n λe m=>e=.returned (.int .i64 (gp x y))/\m=n:=λx y n=>by have:=AnyG.cmp_Compare_int Tryz.akd x y n;rw[acv]at this;exact this
 go_enter func115,Tryz.ntmps115;go_wp2;generalize p:(W.alloc (.cells #[x0,.int .i64 a,.int .i64 b,x3,x4,x5,x6,x7,x8,x9,x10,x11,x12] 57)).alloc (.cells #[y0,.int .i64 c,.int .i64 d,y3,y4,y5,y6,y7,y8,y9,y10,y11,y12] 57)=w2;refine wp_region_still_tail 14 (by kernel_rfl) (by kernel_rfl) ?_;have o:w2.drew.heap=(W.heap.push (.cells #[x0,.int .i64 a,.int .i64 b,x3,x4,x5,x6,x7,x8,x9,x10,x11,x12] 57)).push (.cells #[y0,.int .i64 c,.int .i64 d,y3,y4,y5,y6,y7,y8,y9,y10,y11,y12] 57):=by rw[<- p];rfl
 obtain⟨i,l⟩:=Rn o;have C:w2.drew.cell? ⟨W.heap.size,1,Y⟩=S (.int .i64 a):=by simp[World.cell?,i,l]
 have E:w2.drew.cell? ⟨W.heap.size,2,Y⟩=S (.int .i64 b):=by simp[World.cell?,i,l]
 have D:w2.drew.cell? ⟨W.heap.size+1,1,Y⟩=S (.int .i64 c):=by simp[World.cell?,i,l]
 have F:w2.drew.cell? ⟨W.heap.size+1,2,Y⟩=S (.int .i64 d):=by simp[World.cell?,i,l]
 have v:∃q f,w2.drew=grow (W.drewN q) f:=⟨1,_,by rw[<- p,alloc_eq_grow,alloc_eq_grow,grow_grow];rfl⟩;simp only[eZ,jM,mi,qg];change wpStill _ _ w2.drew (λu=>wpList _ _ _ _ u w2.drew) _ _;have w:w2.drew.heap.size=W.heap.size+2:=by simp[o]
 generalize w2.drew=w3 at *;clear i l o p w2;still_step;still_step;still_step;still_step;still_step;still_step;refine wpStill_step (λK h=>?_);go_simp;refine⟨_,g a c w3,h _ ?_⟩;clear h K;still_step;still_step;still_step;still_step;still_step;still_step;refine wpStill_step (λK h=>?_);go_simp;refine⟨_,g b d w3,h _ ?_⟩;clear h K;refine wpStill_nil ?_;go_wp2_with (go_at_call 91;refine(WT (gp a c) (gp b d) (W.heap.size+2) 3 _ (by rw[<- w];exact CI)).mono ?_;rintro e m ⟨rfl,rfl⟩);go_ret;obtain⟨q,os,rfl⟩:=v;exact⟨rfl,q,_,by rw[alloc_eq_grow,grow_grow]⟩
def Fb{d:Type}[Inhabited d]{a:d->List Value}{E:Nat}{b:Array Value}{c:Array d}{os:Array Obj}(f:w.heap[D]?=S (.cells b E (0,0))): (sortWorldK a k w D 0 H c os).heap[D]?=S (.cells (putCells id 0 (flatK a k c) b) E (0,0)):=by
 have g:=(cB.1 f).1;have e:(putRowK a k (Sort.ahead w H) D 0 c).heap[D]?=S (.cells (putCells id 0 (flatK a k c) b) E (0,0)):=by simp only[putRowK,putRow,mapBlock,Sort.ahead,eu,aR,f,dA];rfl
 simp only[sortWorldK,grow];rw[kP (by have:=(cB.1 e).1;exact this)];exact e
def DY{b:Type}[Inhabited b]{a:b->List Value}{c:Array b}{os:Array Obj}: w.grownBy (sortWorldK a k w D 0 H c os) (S D):=by
 have d:(putRowK a k (Sort.ahead w H) D 0 c).heap.size=w.heap.size:=by rw[putRowK,size_putRow];rfl
 refine⟨rfl,rfl,rfl,?_,λj g h=>?_⟩;.simp only[sortWorldK,grow,jG,d];omega
 have f:¬D=j:=λe=>h (by rw[e]);simp only[sortWorldK,grow];rw[kP (by rw[d];exact g)];simp only[putRowK,putRow,mapBlock,Sort.ahead,eu,ao f]
def Wc(c:U.Pairwise λa b=>dS a b≠0){d:List (Fin (X U))}(f:d.Perm (List.finRange (X U)))(m:d.Pairwise λi j=>¬dS U[j] U[i]<0):d.map (λi=>U[i])=fJ U:=by
 have k:d.Nodup:=f.nodup_iff.2 (List.nodup_finRange _);refine rL ?_ (pY c) λx=>?_
 .refine BN.2 ?_;refine(m.and k).imp λ{i j} ⟨p,g⟩=>?_;have l:dS U[i] U[j]≠0:=by
   rcases Nat.lt_or_gt_of_ne (λe=>g (Fin.ext e))with h|h;.exact gD.1 c i j i.2 j.2 h
   exact λe=>gD.1 c j i j.2 i.2 h (Gn e)
  rw[lL]at p |-;rw[gj,lq]at l;omega
 rw[cP,fq];constructor;.rintro⟨i,_,rfl⟩;exact dQ _
 intro o;obtain⟨i,n,rfl⟩:=List.getElem_of_mem o;exact⟨⟨i,n⟩,f.mem_iff.2 (List.mem_finRange _),rfl⟩
def WS:SWO (ltOf λ(i j:Fin (X l))=>dS l[i] l[j]):=by
 refine⟨λx=>?_,λx y z b a=>?_,λx y z b a=>?_⟩;.simp only[ltOf,gW,lL];omega
 .simp only[ltOf,bz,lL]at *;omega
 simp only[ltOf,gW,lL]at *;omega
def Za(id g:Nat)(hd:l.Pairwise λa b=>dS a b≠0)(hl:X l<2^30)(J:ai)(h1:J[id]?=some (.row 57 13 184 g false (l.map bf.axV))): PC A 114 [.own id g,.fn 115 []] J (λr J'=>r=.iS []/\J'=J.set id (.row 57 13 184 g false ((fJ l).map bf.axV))):=by
 have M:=xZ l;refine PC.aic h1 (by simp[M]) λB w0 w μ vs hS P=>?_;have a0:=(P.2 0 _ rfl).lP h1;have a1:=P.2 1 _ rfl;obtain⟨_,c,L,dJ⟩:=hS.obj id _ h1;have vW:X (l.map bf.axV)=X l:=ab ..;have e:vs=#[μ id,.func (.func 115) #[] #[]]:=by
  obtain⟨q⟩:=vs;match q,P.1 with
  |[u,v],_ =>
   simp at a0 a1;cases a1 with
   |fn _ _ fs af _ =>
   obtain rfl:fs=#[]:=by apply vK;simpa using af.symm
   rw[a0]
 rw[e];rw[vW]at L;have Ke:X c=X l*13:=L.1;have o1:=lU.one hS dJ (by rw[vW];exact Ke);by_cases h0:X l=0
 .have Vz:l=[]:=bQ h0;have ac:c=[]:=bQ (by omega);have K:∃p k,μ id=.slice p 0 k:=by
   rcases L.2 with⟨h,_⟩|⟨U,k,F,h,_⟩;.exact⟨_,_,h⟩
   rw[h0]at h;exact⟨_,_,h⟩
  obtain⟨p,k,K⟩:=K;rw[K];refine(AnyF.slices_SortFunc_none Tryz.Y6 p k _ w).mono ?_;rintro e w' ⟨rfl,rfl⟩;refine⟨[],rfl,grownBy_refl _ _,?_,?_⟩;.rw[ac]at L;rw[ab,M,<- K];exact L
  have:fJ l=[]:=by rw[Vz];rfl
  rw[this,ac]at *;exact⟨by simp,λi j x O=>by simp[gi]at O⟩
 have Qb:0<X l:=Nat.pos_of_ne_zero h0;rcases L.2 with⟨_,hn⟩|⟨U,k,F,vt,hB,hg,Ha,zU,oA,DB⟩;.omega
 haveI:Inhabited (Fin (X l)):=⟨⟨0,Qb⟩⟩;have Qg:∀i:Fin (X l),X ((c.drop (i*13)).take 13)=13:=λi=>by rw[aX,bN,Ke];have:=i.2;omega
 have dP:∀(i:Fin (X l)) (j:Nat),j<13->((c.drop (i*13)).take 13)[j]?=c[i*13+j]?:=λi j E=>by rw[cn E,dE]
 have mD:∀(i:Fin (X l)) (j:Nat) (x:V),(l[i]).axV[j]?=some x->x.pure=G/\∃u,((c.drop (i*13)).take 13)[j]?=some u/\VR w J μ x u:=λi j x O=>by
  have E:j<13:=by have:=(ag.1 O).1;rwa [mw]at this
  have h2:gi (l.map bf.axV) i j=some x:=by simp only[gi,bP,aA i.2,dA,js];exact O
  obtain⟨q1,u,Q,R⟩:=dJ.2 _ _ _ h2;exact⟨q1,u,by rw[dP i j E];exact Q,R⟩
 have s:∀i:Fin (X l),((c.drop (i*13)).take 13)[1]?=some (.int .i64 (l[i]).aZ.bR)/\((c.drop (i*13)).take 13)[2]?=some (.int .i64 (l[i]).aZ.ax0):=λi=>by obtain⟨_,u,Q,R⟩:=mD i 1 (.I (l[i]).aZ.bR) rfl;obtain⟨_,u2,q4,q5⟩:=mD i 2 (.I (l[i]).aZ.ax0) rfl;rw[R.jy]at Q;rw[q5.jy]at q4;exact⟨Q,q4⟩
 generalize aE:(λi:Fin (X l)=>(c.drop (i*13)).take 13)=enc;have C:∀i,enc i=(c.drop (i*13)).take 13:=λi=>by rw[<- aE]
 have H:(List.finRange (X l)).toArray.size=X l:=by simp
 have au:∀j (h:j<X l),(List.finRange (X l)).toArray[j]! = ⟨j,h⟩:=λj h=>by rw[getElem!_pos _ j (by rw[H];exact h)];simp
 have Qf:∀(d:Array (Fin (X l))) (t:Nat),d.size=X l->t<X l*13->(flatK enc 13 d)[t]?=c[(d[t / 13]!).1*13+t % 13]?:=λd t hd D=>by
  have h1:t<(flatK enc 13 d).size:=by rw[size_flatK,hd];exact D
  have h2:=get_flatK enc 13 d t (by rw[hd];exact D);have K:t % 13<13:=sK _ (by decide);rw[getElem!_pos _ t h1]at h2;rw[bZ h1,h2,C,<- dP _ _ K];rw[getElem!_pos _ (t % 13) (by rw[Qg];exact K),aA]
 have hH:HoldsK enc 13 w U 0 (List.finRange (X l)).toArray:=λt D=>by
  rw[size_flatK,H]at D;have h1:=Qf (List.finRange (X l)).toArray t H D;have W:t / 13<X l:=nc (by omega);rw[au _ W]at h1;have e2:t / 13*13+t % 13=t:=by omega
  simp only[e2]at h1;have N:t<(flatK enc 13 (List.finRange (X l)).toArray).size:=by rw[size_flatK,H];exact D
  have h4:F.toList[t]?=c[t]?:=by rw[<- DB,cn D]
  refine⟨?_,by simp[World.frozen?,hg]⟩;simp only[World.cell?,hg,aP,id_eq];rw[getElem!_pos _ t N,<- Array.getElem?_eq_getElem N,h1,<- h4];simp
 have T:=AnyQ.slices_SortFunc Tryz.Y6 13 Tryz.isAgg57 Tryz.sizeOf57 enc (λi=>by rw[C];exact Qg i) (λi v P=>o1 v (by rw[C]at P;exact dR (dB P))) (λi j=>dS l[i] l[j]) (WS l) 115 #[] U 0 k (List.finRange (X l)).toArray w (enters_of func115 (by kernel_rfl) rfl)
  (λm os dk _ x y=>by rw[TI,C,C];exact Se _ _ (Qg x) (Qg y) _ _ _ _ (s x).1 (s x).2 (s y).1 (s y).2 _) hH (cB.1 hg).1 (by rw[H];omega);rw[H,<- vt]at T;refine T.mono ?_;rintro e w' ⟨rfl,z,n,os,Dv,av,rfl⟩;have f:z.size=X l:=by have:=Dv.1;rw[H]at this;exact this
 have ap:z.toList.map (λi=>l[i])=fJ l:=by
  refine Wc hd ?_ ?_
  .have h1:=Dv.2.2;have e1:z.extract 0 (X l)=z:=by have:=Ai (xs:=z);rwa [f]at this
   have e2:(List.finRange (X l)).toArray.extract 0 (X l)=(List.finRange (X l)).toArray:=by have:=Ai (xs:=(List.finRange (X l)).toArray);rwa [H]at this
   rw[e1,e2]at h1;simpa using h1
  refine gD.2 λi j hi E tr=>?_;rw[aU]at hi E;have:=av i j (iP _) tr (by rw[<- f];exact E);rw[getElem!_pos _ i hi,getElem!_pos _ j E]at this;simp only[ltOf,gW]at this;simpa using this
 have ad:l9 (μ id)=some U:=by rw[vt];rfl
 have vv:(flatK enc 13 z).size=X l*13:=by rw[size_flatK,f]
 refine⟨(flatK enc 13 z).toList,rfl,by rw[ad];exact DY,⟨by rw[ab,M,aU,vv],.inr ⟨U,k,putCells _root_.id 0 (flatK enc 13 z) F,by rw[ab,M,vt],hB,Fb hg,by rw[ab,M];exact Ha,zU,?_,?_⟩⟩,?_,?_⟩;.simp[putCells,oA]
 .rw[ab,M];apply jF;intro t;by_cases D:t<X l*13
  .rw[cn D];have N:t<(flatK enc 13 z).size:=by rw[vv];exact D
   have h4:t<F.size:=by rw[oA];have:=bS 13 Ha;omega
   simp only[putCells,lp,Ji,bZ h4,dA,iP,jd,aP,aO N,yP,id_eq];rw[getElem!_pos _ t N,bZ N]
  rw[cp (by rw[aX];omega),cp (by rw[aU,vv];omega)]
 .intro r hr;obtain⟨x,_,rfl⟩:=cP.1 hr;exact mw x
 intro i j x O;obtain⟨r,hr,E⟩:=jV O;rw[bP,<- ap,bP]at hr;simp only[aH]at hr;obtain⟨o,⟨q,W,rfl⟩,rfl⟩:=hr;obtain⟨q1,u,Q,R⟩:=mD q j x E;have am:j<13:=by have:=(ag.1 E).1;rwa [mw]at this
 have oT:i<X l:=by have:=(ag.1 W).1;rwa [aU,f]at this
 refine⟨q1,u,?_,R⟩;rw[lp,Qf z (i*13+j) f (by omega),show(i*13+j) / 13=i by omega,show(i*13+j) % 13=j by omega,<- dP _ j am];have yJ:z[i]! = q:=by rw[getElem!_pos _ i (by rw[f];exact oT)];rw[lp,bZ (by rw[f];exact oT)]at W;simpa using W
 rw[yJ];exact Q
def Z3:l.map bf.axV++[[.I x.aZ.time,.I x.aZ.bR,.I x.aZ.ax0,.I x.axW,.sl 3 (x.axY.ax3.map It.axV),.sl 3 (x.axY.ax4.map It.axV),.s x.axY.cJ,.s x.axY.next,.s x.axY.dL,.s x.axY.dh,.I x.axY.ayd,.I x.axY.ayf,.sl 1 (x.ax5.map cG)]]=(l++[x]).map bf.axV:=by simp[bf.axV,cz.axV,En.axV]
def A7(q:V)(log:aL)(s:Int):Ob:=.box 61 [.I P,.I c,q,.sl 1 (aC log),.I s,.b Z]
def adP{n:Nat}{xs:ar}{J:ai}{d e:Ob}{a c:Int}{log:aL}{s:Int}:Wk A n xs (J++[d,e,A7 a c .nil log s]) xs (J++[d,e,A7 a c (.own (X J+3) 0) log s,fy 0 Z []]):=by have:=Wk.qN (P:=A) (n:=n) (xs:=xs) (id:=X J+2) (j:=2) (T:=61) (cs:=[.I a,.I c,.nil,.sl 1 (aC log),.I s,.b Z]) (J:=J++[d,e,A7 a c .nil log s]) YZ (by simp[A7]) rfl;simpa only[A7,fy,ji,aJ,ae,ah,aj,aF,aw,cu,cH,aP,Nat.reduceAdd,aq]using this
def adO{n g:Nat}{xs:ar}{J:ai}{a d:Ob}{nu c:Int}{log:aL}{s:Int}{l:List bf}(i:bW (J++[a,d]))(o:n<=X J)(m:iY (X J+3) xs): Wk prog n xs (J++[a,d,A7 nu c (.own (X J+3) g) log s,fy g Z l]) xs (J++[a,d,A7 nu c (.sl 13 (l.map bf.axV)) log s]):=by
 have e:=Wk.share (P:=prog) (n:=n) (xs:=xs) (J:=J++[a,d,A7 nu c (.own (X J+3) g) log s,fy g Z l]) (id:=X J+3) (E:=57) (sz:=13) (by':=184) (g:=g) (sh:=Z) (rows:=l.map bf.axV) (by simp[fy]);have h:=Wk.ES (P:=prog) (n:=n) (xs:=xs) (J:=J++[a,d,A7 nu c (.own (X J+3) g) log s,.row 57 13 184 g G (l.map bf.axV)]) (id:=X J+2) (idr:=X J+3) (T:=61) (j:=2) (g:=g) (E:=57) (sz:=13) (by':=184) (rows:=l.map bf.axV)
  (cs:=[.I nu,.I c,.own (X J+3) g,.sl 1 (aC log),.I s,.b Z]) (by simp[A7]) rfl (by simp);simp only[ji,cu,cH]at e h;have k:bW (J++[a,d,A7 nu c (.sl 13 (l.map bf.axV)) log s]):=by have:=cx i (l:=[A7 nu c (.sl 13 (l.map bf.axV)) log s]) (by simp only[A7,bV,bM,dp,dF,dm,LW]);simpa using this
 have f:=Wk.lA (P:=prog) (n:=n) (xs:=xs) (J:=J++[a,d,A7 nu c (.sl 13 (l.map bf.axV)) log s]) (loc:=[.row 57 13 184 g G (l.map bf.axV)]) (by simp;omega) k (dO.1 (by simpa using m));simp only[aJ,aF,aw]at f;exact(e.trans h).trans f
set_option maxRecDepth 4000 in
def aiF(p:bW (J++[b,N]))(f:Int)(log:aL)(s:Int)(c:List bf)(t:∀x∈c,Tz x)(w:X c<=1000):∀(d a:List bf) (g:Nat),c=a++d ->(∀g,((fj 2 (fh (.ptr (X J+1) 0) (fj 1 (fh (.ptr (X J+2) 0) (fj 59 fo))))) λu=>K (.exit 0) ⟨u,J++[b,N,A7 f (jc c) (.own (X J+3) g) log s,fy g false c]⟩)) ->gF (X J) A UC K (X d+1) ⟨(uu 2 (.ptr (X J+1) 0::uu 1 (.ptr (X J+2) 0::uu 26 (.sl 1 ((c.map dx).map yO)::.I (X c)::.I (X a)::uu 30 [])))),J++[b,N,A7 f (jc a) (.own (X J+3) g) log s,fy g false a]⟩:=by
 intro d;induction d with
 |nil =>intro a g e j;have e:=dH e;subst e;refine aD λR n=>?_;simp only[UC,VV,seval];exact⟨λh=>by simp at h,λ_=>j g ..⟩
 |cons x d ih =>
 intro a g e j;have v:=ko e;have i:=t x (by rw[e];simp);have m:=eE a x (by omega);have o:decide ((X a:Int)<(X c:Int))=G:=by simp;omega
 have r:gi ((c.map dx).map yO) (X a) 0=S (.sl 1 (aC (dx x))):=by rw[e,kO];exact oE
 have q:=vC i.axZ i.ok;refine aD λR n=>?_;simp only[UC,A7,fy,r,o,m,al,ab,V.pure,VV,seval];refine⟨⟨by omega,by omega⟩,?_⟩;have k:(if jc a<x.aZ.time then x.aZ.time else jc a)=jc (a++[x]):=by rw[tC,zS]
 refine ak (PD (dx x) (by have:=i.enc;omega) _) rfl ?_;simp only[q,k,m,ab,maxLen,bf.axV,cz.axV,En.axV,V.pure,VV,seval];refine⟨⟨by omega,by omega⟩,?_⟩;rw[Z3];refine n _ (dn [b,N,A7 f (jc (a++[x])) (.own (X J+3) (g+1)) log s,fy (g+1) false (a++[x])] [_] ?_ ?_ ?_ (ih (a++[x]) (g+1) (by rw[e];simp) j));.have:=cx p (l:=[A7 f (jc (a++[x])) (.own (X J+3) (g+1)) log s,fy (g+1) false (a++[x])]) (by simp only[A7,fy,bV,bM,dp,dF,dm,ae,ah,aj,LW];omega);simpa using this
 .repeat' constructor
 simp only[LW,ah,aj,aP];omega
def RQ(h:H2 M U)(u:X U<=180)(o:jq E=0)(m:X (gC U++E)<2^30)(J:ai): bh A 59 [.agg (pR M U E).axV] J (fA (fQ M U (X U)) 0):=by
 refine aT func59 p59.2 λj t=>?_;have d:∀p∈U.map dx,X p<=65536:=λp d=>by obtain⟨x,f,rfl⟩:=cP.1 d;have:=(h.op x f).enc;omega
 have n:X (gC U)<2^30:=by rw[ae]at m;omega
 have i:∀J,bh A 112 [.sl 1 (aC (gC U))] J (.iS [.sl 1 ((U.map dx).map yO),.I (X (gC U))]):=λJ=>by have:=TZ (U.map dx) [] (by rw[bE];exact n) d rfl J;rw[bE]at this;exact this
 simp only[p59,SS,seval];refine cD.cutAt (.more (.more (.more (.more (.more (.more (.cM _ _))))))) λR q=>?_;simp only[pR,bX.axV,VV,seval];intro a;refine ak (Ws (U.map dx) E m d o _) rfl ?_;simp only[bC,VV,seval];refine ak (i _) rfl ?_;simp only[VV,seval];have r:cW (U.map dx)=gC U:=rfl;have k:bW (J++[.box 61 [.I M,.I 0,.sl 13 [],.sl 1 (aC (gC U++E)),.I (X (gC U++E)),.b true],.box 61 [.I 0,.I 0,.nil,.nil,.I 0,.b Z]]):=cx j (by simp only[bV,bM,dp,dF,dm,LW]);refine cD.wk ((Wk.fG (ys:=(uu 2 (.ptr (X J+1) 0::uu 1 (.ptr (X J+2) 0::uu 26 (.sl 1 ((U.map dx).map yO)::.I (X U)::.I (X ([]:List bf):Nat)::uu 30 []))))) ?_).trans adP) (cD.mM (X U+1) (aiF k M (gC U) (X (gC U)) U (λx f=>h.op x f) (by omega) U [] 0 rfl ?_));.simp only[ab];repeat' constructor
 intro g;simp only[JE];intros;simp only[A7,fy,VV,seval];refine ak (Za U (X J+3) g h.one (by omega) _ (by simp only[VV,seval])) rfl ?_;simp only[VV,seval];refine q _ (cD.wk ((Wk.fG (ys:=(uu 2 (.ptr (X J+1) 0::uu 1 (.ptr (X J+2) 0::uu 59 [])))) ?_).trans (adO (g:=g) (nu:=M) (c:=jc U) (log:=gC U) (s:=X (gC U)) (l:=fJ U) k (aB _) ?_)) (an ?_));.repeat' constructor
 .simp only[LW];omega
 simp only[A7,VV,seval];have e:fQ M U (X U)=⟨M,jc U,fJ U,gC U,X (gC U),Z⟩:=by simp[fQ]
 simp only[fA,e,bX.axV];exact aS j (by simp only[RS,seval];rfl) (by simp[LW]) ⟨rfl,rfl⟩
def Fs(a:o.down=Z)(J:ai):bh A 59 [.agg o.axV] J (fA bX.zero 8):=by refine aT func59 p59.2 λb c=>an ?_;simp only[p59,SS,seval];simp only[bX.axV,a,VV,seval];exact iH b (by simp only[RS,seval]) (.cons (Cv.iK (vY 0)) (.cons (.refl _) .nil)) (by simp only[bX.axV,LW]) ⟨rfl,rfl⟩
def Wa(a:o.down=G)(J:ai):bh A 62 [.agg o.axV] J (fA bX.zero 15):=by refine aT func62 p62.2 λb c=>an ?_;simp only[p62,SS,seval];simp only[bX.axV,a,VV,seval];exact iH b (by simp only[RS,seval]) (.cons (Cv.iK (vY 0)) (.cons (.refl _) .nil)) (by simp only[bX.axV,LW]) ⟨rfl,rfl⟩
def TP(c:o.axZ)(a:o.down=Z)(J:ai):bh A 62 [.agg o.axV] J (fA { o with ayi:=X o.log } 0):=by refine aT func62 p62.2 λb d=>an ?_;simp only[p62,SS,seval];simp only[bX.axV,a,VV,seval];refine ak (qh o c _) (by simp only[bX.axV,a,VV,seval]) ?_;simp only[fA,bX.axV,a,bC,VV,seval];exact aS b (by simp only[RS,seval];rfl) (by simp[LW]) ⟨rfl,rfl⟩
def opsV:List bf->V|[]=>.nil|l=>.sl 13 (l.map bf.axV)
def aea:∀l:List bf,Cv (opsV l) (.sl 13 (l.map bf.axV))|[]=>.nil 13|_::_=>.refl _
def Z2:opsV (qJ l x)=.sl 13 ((qJ l x).map bf.axV):=by cases h:qJ l x with|nil=>simp[qJ]at h|cons a r=>rfl
set_option maxRecDepth 4000 in
def aiG(C:bW (J++[b,N]))(j:Int)(log:aL)(s:Int)(e:List bf)(t:∀x∈e,Tz x)(v:e.Pairwise λa c=>dS a c≠0)(M:X e<=1000)(q:Int):∀(f d:List bf),e=d++f ->(((fj 2 (fh (.ptr (X J+1) 0) (fj 1 (fh (.ptr (X J+2) 0) (fj 1 (fh (.I q) (fj 53 fo))))))) λB=>K (.exit 0) ⟨B,J++[b,N,A7 j (jc e) (opsV (fJ e)) log s]⟩)) ->gF (X J) A UD K (X f+1) ⟨(uu 2 (.ptr (X J+1) 0::uu 1 (.ptr (X J+2) 0::uu 1 (.I q::uu 20 (.sl 1 ((e.map dx).map yO)::.I (X e)::.I (X d)::uu 30 []))))),J++[b,N,A7 j (jc d) (opsV (fJ d)) log s]⟩:=by
 intro f;induction f with
 |nil =>intro d g n;have g:=dH g;subst g;refine aD λR u=>?_;simp only[UD,VV,seval];exact⟨λh=>by simp at h,λ_=>n ..⟩
 |cons x f ih =>
 intro d g n;have H:=ko g;have k:=t x (by rw[g];simp);have r:=eE d x (by omega);have w:decide ((X d:Int)<(X e:Int))=G:=by simp;omega
 have z:gi ((e.map dx).map yO) (X d) 0=S (.sl 1 (aC (dx x))):=by rw[g,kO];exact oE
 have E:=vC k.axZ k.ok;have L:∀y∈fJ d,dS y x≠0:=λy F=>by rw[g]at v;exact(gG.1 v).2.2 y (fq.1 F) x (by simp)
 have m:ID (fJ d) x=fJ (d++[x]):=by rw[uz L,pZ]
 have i:opsV (fJ (d++[x]))=.sl 13 ((fJ (d++[x])).map bf.axV):=by rw[pZ];exact Z2 _ _
 refine aD λR u=>?_;simp only[UD,A7,z,w,r,al,ab,V.pure,VV,seval];refine⟨⟨by omega,by omega⟩,?_⟩;have p:(if jc d<x.aZ.time then x.aZ.time else jc d)=jc (d++[x]):=by rw[tC,zS]
 refine ak (Lx (dx x) (by have:=k.enc;omega) _) rfl ?_;simp only[E,bf.axV,cz.axV,En.axV,V.pure,VV,seval];refine kh (zs:=[.sl 13 ((fJ d).map bf.axV),.agg x.axV]) (.cons (aea _) (.cons (.refl _) .nil)) (EE _ _ (by rw[xZ];omega) (λo D=>(t o (by rw[g];simp[fq.1 D])).axZ) k.axZ _) ?_;simp only[m,p,r,V.pure,VV,seval];rw[<- i];refine u _ (dn [b,N,A7 j (jc (d++[x])) (opsV (fJ (d++[x]))) log s] [_] ?_ ?_ ?_ (ih (d++[x]) (by rw[g];simp) n));.have:=cx C (l:=[A7 j (jc (d++[x])) (opsV (fJ (d++[x]))) log s]) (by simp only[A7,i,bV,bM,dp,dF,dm,LW]);simpa using this
 .repeat' constructor
 simp only[LW,ah,aj,aP];omega
def OS(h:H2 M U)(n:X U<=180)(i:jq E=0)(g:X (gC U++E)<2^30)(J:ai): bh A 56 [.agg (pR M U E).axV] J (fA (fQ M U (X U)) 0):=by
 refine aT func56 p56.2 λd m=>?_;have c:∀p∈U.map dx,X p<=65536:=λp c=>by obtain⟨x,f,rfl⟩:=cP.1 c;have:=(h.op x f).enc;omega
 have o:X (gC U)<2^30:=by rw[ae]at g;omega
 simp only[p56,SS,seval];refine cD.cutAt (.more (.more (.more (.more (.cM _ _))))) λR k=>?_;simp only[pR,bX.axV,VV,seval];intro a;refine ak (R7 (U.map dx) E g c i _) rfl ?_;simp only[bC,VV,seval];refine ak (OT (U.map dx) E g c i _) rfl ?_;simp only[VV,seval];have l:cW (U.map dx)=gC U:=rfl;have j:bW (J++[.box 61 [.I M,.I 0,.sl 13 [],.sl 1 (aC (gC U++E)),.I (X (gC U++E)),.b true],.box 61 [.I 0,.I 0,.nil,.nil,.I 0,.b Z]]):=cx d (by simp only[bV,bM,dp,dF,dm,LW]);refine cD.wk (Wk.fG (ys:=(uu 2 (.ptr (X J+1) 0::uu 1 (.ptr (X J+2) 0::uu 1 (.I (X (gC U))::uu 20 (.sl 1 ((U.map dx).map yO)::.I (X U)::.I (X ([]:List bf):Nat)::uu 30 [])))))) ?_) (cD.mM (X U+1) (aiG j M (gC U) 0 U (λx f=>h.op x f) h.one (by omega) (X (gC U)) U [] rfl ?_));.simp only[ab];repeat' constructor
 simp only[JE];intros;simp only[A7,VV,seval];refine k _ (cD.fG (fr':=(uu 2 (.ptr (X J+1) 0::uu 1 (.ptr (X J+2) 0::uu 1 (.I (X (gC U))::uu 53 []))))) (an ?_) (by repeat' constructor));have e:fQ M U (X U)=⟨M,jc U,fJ U,gC U,X (gC U),Z⟩:=by simp[fQ]
 simp only[fA,e,bX.axV];generalize fJ U=so;cases so with|nil =>simp only[opsV,bC,aq,VV,seval];exact iH d (by simp only[RS,seval]) (.cons (Cv.iK (.cons (.refl _) (.cons (.refl _) (.cons (.nil 13) (.cons (.refl _) (.cons (.refl _) (.cons (.refl _) .nil))))))) (.cons (.refl _) .nil)) (by simp[LW]) ⟨rfl,rfl⟩|cons y r =>simp only[opsV,bC,VV,seval];exact aS d (by simp only[RS,seval];rfl) (by simp[LW]) ⟨rfl,rfl⟩
def OR(a:o.down=Z)(J:ai):bh A 56 [.agg o.axV] J (fA bX.zero 8):=by refine aT func56 p56.2 λb c=>an ?_;simp only[p56,SS,seval];simp only[bX.axV,a,VV,seval];exact iH b (by simp only[RS,seval]) (.cons (Cv.iK (vY 0)) (.cons (.refl _) .nil)) (by simp only[bX.axV,LW]) ⟨rfl,rfl⟩
def RZ(a:o.down=G)(J:ai):bh A 54 [.agg o.axV] J (fA bX.zero 15):=by refine aT func54 p54.2 λb c=>an ?_;simp only[p54,SS,seval];simp only[bX.axV,a,VV,seval];exact iH b (by simp only[RS,seval]) (.cons (Cv.iK (vY 0)) (.cons (.refl _) .nil)) (by simp only[bX.axV,LW]) ⟨rfl,rfl⟩
def ZA(a:o.down=Z)(J:ai):bh A 54 [.agg o.axV] J (fA { o with ayi:=X o.log } 0):=by refine aT func54 p54.2 λb c=>an ?_;simp only[p54,SS,seval];simp only[bX.axV,a,VV,seval];simp only[fA,bX.axV,a,bC,VV,seval];exact aS b (by simp only[RS,seval];rfl) (by simp[LW]) ⟨rfl,rfl⟩
def WA(dX:Int)(a:o.down=G)(J:ai):bh A 55 [.agg o.axV,.I dX] J (.agg (px o dX).axV):=by refine aT func55 p55.2 λb c=>an ?_;simp only[p55,SS,seval];simp only[bX.axV,a,VV,seval];rw[show px o dX=o from aO a];simp only[a,VV,seval];exact aS b (by simp only[RS,seval];rfl) (by simp[LW]) ⟨rfl,rfl⟩
def Wz(dX:Int)(l:o.axZ)(i:o.down=Z)(t:0<=o.ayi/\o.ayi<=X o.log)(J:ai):bh A 55 [.agg o.axV,.I dX] J (.agg (px o dX).axV):=by
 refine aT func55 p55.2 λj s=>an ?_;have u:=l.log;obtain⟨y,d⟩:∃y:Nat,o.ayi=y:=⟨o.ayi.toNat,by omega⟩;have r:(decide ((y:Int)<0)||decide ((X o.log:Int)<(y:Int)))=Z:=by simp;omega
 have k:IntKind.i64.wrap ((X o.log:Int) - (y:Int))=((X o.log - y:Nat):Int):=by rw[IntWalk.i64_in _ (by omega)];omega
 have n:(if 0<if((X o.log - y:Nat):Int)<dX then((X o.log - y:Nat):Int)else dX then if((X o.log - y:Nat):Int)<dX then((X o.log - y:Nat):Int)else dX else 0)=((min dX.toNat (X o.log - y):Nat):Int):=by (repeat' split)<;>omega
 have m:IntKind.i64.wrap ((y:Int)+((min dX.toNat (X o.log - y):Nat):Int))=((lr o dX:Nat):Int):=by rw[IntWalk.i64_in _ (by omega),lr,d,al];omega
 have q:lr o dX<=X o.log:=by rw[lr,d,al];omega
 have p:(aC o.log).take (lr o dX)=aC (o.log.take (lr o dX)):=by simp[aC,fM]
 have h:X (o.log.take (lr o dX))=lr o dX:=by rw[aX];omega
 have f:px o dX=⟨o.ax0,0,[],o.log.take (lr o dX),lr o dX,true⟩:=ao (by rw[i];simp);simp only[p55,SS,seval];simp only[bX.axV,i,d,bC,VV,seval];rw[f];simp only[r,k,n,m,al,p,h,bC,aq,maxLen,VV,seval];generalize o.log.take (lr o dX)=a at h |-;generalize lr o dX=kk at q h |-;cases a with
 |nil =>have e:aC []=[]:=rfl;simp only[e,ju,aR,VV,seval];refine⟨⟨by omega,by omega⟩,⟨by omega,by omega⟩,?_⟩;exact iH j (by simp only[RS,seval]) (.cons (Cv.iK (.cons (.refl _) (.cons (.refl _) (.cons (.nil 13) (.cons (.lit 1 []) (.cons (.refl _) (.cons (.refl _) .nil))))))) .nil) (by simp[LW]) ⟨rfl,rfl⟩
 |cons c a =>
 have e:(aC (c::a)).isEmpty=Z:=rfl;simp only[e,aI,bo,VV,seval];refine⟨⟨by omega,by omega⟩,⟨by omega,by omega⟩,?_⟩;refine gT (xs:=[.agg [.I o.ax0,.I 0,.nil,.own (X J+2) 0,.I kk,.b true]]) (xs':=[.agg [.I o.ax0,.I 0,.sl 13 [],.sl 1 (aC (c::a)),.I kk,.b true]]) (.inr rfl) (by simp only[RS,seval]) ((Wk.fz (X J+2) (E:=5) (sz:=1) (by':=1) (g:=0) (sh:=Z) (rows:=aC (c::a)) (by rw[jE];rfl)).trans ((Wk.fG (ys:=[.agg [.I o.ax0,.I 0,.sl 13 [],.sl 1 (aC (c::a)),.I kk,.b true]]) ?_).trans ?_)) rfl ⟨rfl,rfl⟩;.simp only[az,aq,Pm.fz,jR,cw,aR];exact .cons (Cv.iK (.cons (.refl _) (.cons (.refl _) (.cons (.nil 13) (.cons (.refl _) (.cons (.refl _) (.cons (.refl _) .nil))))))) .nil
 rw[ji];exact Wk.yL j (by simp[LW])
