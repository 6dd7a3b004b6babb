/- A part of a proof; the claim's last text says of what. -/
import Derived.Test.YtfeddmfijllgmaaGreatDoorB6
set_option linter.all false
open Option renaming some->S,none->Z
open Bool renaming true->θ,false->G
open List renaming length->Y

namespace Go.Pm
open Go Go.RowKit
variable(X:List Pi)(U:fb)
def V4:List Ob->(List Ob->Prop)->Prop|[],p=>p []|_::b,p=>∀X,V4 b λa=>p (X::a)
def oq(b:List Ob):List Ob:=b.map λ_=>.dead
def Yg:∀{b:List Ob} {p:List Ob->Prop},V4 b p->∀a,Y a=Y b->p a
 |[],p,h,a,hl=>by simp only[ai,nE]at hl;subst hl;exact h
 |_::b,p,h,a,hl=>by cases a with|nil=>simp at hl|cons X a=>exact Yg (h X) a (by simpa using hl)
def grown(τ:aj)(b:List Ob)(s:aj)(K:aj->aj->Prop):Prop:=∃a ε,Y a=Y τ/\s=a++(b++ε)/\K a ε
def E1(P:bG)(bx:List Ob):List (List Pi×Pi×List Pi)->List (List Pi×Pi×List Pi)->List Pi->(ck)->aB->aj->aj->Prop
 |[],[],last,K,fr,τ,ε=>oC P [] last (λst=>K ⟨st.fr,τ++(bx++ε)⟩) ⟨fr,τ++(oq bx++ε)⟩
 |[],(QE,L,chk)::ds,last,K,fr,τ,ε=>oC P [] QE (λa=>gI P L (λst2=>(∀p∈chk,KO p st2)/\zx P ds last K st2) ⟨a.fr,τ++(bx++ε)⟩) ⟨fr,τ++(oq bx++ε)⟩
 |(QE,L,chk)::ds1,ds2,last,K,fr,τ,ε=>oC P [] QE (λa=>V4 bx λb=>gI P L (λst2=>(∀p∈chk,KO p st2)/\grown τ b st2.J (E1 P bx ds1 ds2 last K st2.fr)) ⟨a.fr,τ++(b++ε)⟩) ⟨fr,τ++(oq bx++ε)⟩
def TH(p:Pi):Ob:=match p.i with|.alloc T zs=>.box T zs|_=>.dead
def TF:List Ob:=U.map λf=>TH (jh X f)
def Cm(listed:Array Bool):List Ob:=U.map λf=>bif listed.getD f G then TH (jh X f)else .dead
structure XOF (pis:List Pi) (bs:fb) (m:Nat) (ls fl:fb) (k1:Nat):Prop where
 QI:∀f∈fl,f<m/\f ∉ ls/\∃d T zs,jh pis f=⟨some d,[],.alloc T zs⟩
 nd:fl.Nodup
 kl:k1<=ls.length
 late:∀(k L f:Nat),k1<=k->ls[k]?=some L->f∈fl->tb bs L f=true
section
variable {P:bG} {ops:Array Oper} {pis:List Pi} {bs:fb} {m:Nat} {ls fl:fb} {k1:Nat}
def agd{listed:Array Bool}(h:∀f∈fl,oT listed f):Cm pis fl listed=TF pis fl:=by refine dA λf a=>?_;have:listed.getD f G=θ:=h f a;rw[this];rfl
def Le.mid{τ a b ε:aj}(h:Le a b)(f:Y a=Y b):Le (τ++(a++ε)) (τ++(b++ε)):=by
 intro id o c;by_cases d:id<Y τ;.rw[bg d]at c |-;exact .inr c
 rw[bn (by omega)]at c |-;by_cases e:id - Y τ<Y a;.rw[bg e]at c;rw[bg (by omega)];exact h _ _ c
 rw[bn (by omega)]at c;rw[bn (by omega),<- f];exact .inr c
def acY(τ ε:aj)(listed:Array Bool):Le (τ++(oq (TF pis fl)++ε)) (τ++(Cm pis fl listed++ε)):=by refine Le.mid (λid o a=>?_) (by simp[oq,TF,Cm]);simp only[oq,TF,jQ,bR,aL]at a;obtain⟨_,_,rfl⟩:=a;exact .inl rfl
def XC(h:XOF pis bs m ls fl k1){listed:Array Bool}{i:Nat}(b:i<listed.size)(a:i ∉ fl):Cm pis fl (listed.setIfInBounds i θ)=Cm pis fl listed:=by
 refine dA λf d=>?_;have g:=jA (listed:=listed) (j:=f) b;have c:f≠i:=λe=>a (e▸d);simp only[c,pW,oT]at g;have:(listed.setIfInBounds i θ).getD f G=listed.getD f G:=by cases k:listed.getD f G<;>simp_all
 rw[this]
def agc(e:XOF pis bs m ls fl k1){listed:Array Bool}{j f:Nat}(d:f<listed.size)(b:fl[j]?=S f):Cm pis fl (listed.setIfInBounds f θ)=(Cm pis fl listed).set j (TH (jh pis f)):=by
 refine kR λx=>?_;have c:j<Y fl:=(ag.1 b).1;by_cases a:j=x;.subst a;rw[aT (by simpa[Cm]using c)];have:(listed.setIfInBounds f θ).getD f G=θ:=(jA d).2 (.inl rfl);simp only[Cm,bR,b,dV,this,cond_true]
 rw[bN a];simp only[Cm,bR];cases i:fl[x]? with
 |none=>rfl
 |some y =>
 have g:y≠f:=by rintro rfl;exact a ((List.getElem?_inj c e.nd).1 (b.trans i.symm))
 have h:=jA (listed:=listed) (j:=y) d;simp only[g,pW,oT]at h;have:(listed.setIfInBounds f θ).getD y G=listed.getD y G:=by cases k:listed.getD y G<;>simp_all
 simp only[dV,this]
def G5(P:bG)(pis:List Pi)(bs:fb)(m:Nat)(ls fl:fb)(k1:Nat)(a:ck)(k:Nat)(fr:aB)(τ ε:aj):Prop :=
 match (ls.take k1)[k]? with
 |some L=>V4 (TF pis fl) λb=>gI P (jh pis L) (λst2=>(∀p∈(aey pis bs m ls k L).map (jh pis),KO p st2)/\grown τ b st2.J
   (E1 P (TF pis fl) (K6 pis bs m ls (k+1) ((ls.take k1).drop (k+1))) (K6 pis bs m ls k1 (ls.drop k1)) ((tE pis bs m ls (Y ls)).map (jh pis)) a st2.fr)) ⟨fr,τ++(b++ε)⟩
 |none=>CE P pis bs m ls a k fr (τ++(TF pis fl++ε))
def H2.ai9(c:H2 ops pis bs m ls fl)(B:XOF pis bs m ls fl k1){z:ck}{k:Nat}(D:k<=k1){fr:aB}{τ ε:aj} (h:E1 P (TF pis fl) (K6 pis bs m ls k ((ls.take k1).drop k)) (K6 pis bs m ls k1 (ls.drop k1)) ((tE pis bs m ls (Y ls)).map (jh pis)) z fr τ ε) : ∃a,G5 P pis bs m ls fl k1 z k a τ ε/\(∀i∈tE pis bs m ls k,Fact (jh pis i) a (τ++(oq (TF pis fl)++ε)))/\(∀t,(∀i∈tE pis bs m ls k,(jh pis i).d≠S t)->a[t]?=fr[t]?)/\Y a=Y fr:=by
 have v:(tE pis bs m ls k).Pairwise (λi j=>∀t,(jh pis j).d=S t->t ∉ looks (jh pis i)/\(jh pis i).d≠S t):=by
  refine ar6 ?_ (zD _ avk);intro i j b o H t p;replace b:=(ir (k:=k)).1 b;replace o:=(ir (k:=k)).1 o;refine⟨λs=>?_,λu=>?_⟩;.have:=c.lt b.1 o.1 (c.xR b.1 o.1 p s);omega
  have:=c.dst i j t b.1 o.1 u p;omega
 have r:∀i∈tE pis bs m ls k,∀t,(jh pis i).d=S t->t ∉ looks (jh pis i):=λi b t p s=>by rw[ir]at b;have:=c.lt b.1 b.1 (c.xR b.1 b.1 p s);omega
 have q:∀i∈tE pis bs m ls k,(jh pis i).i.fD=θ:=λi b=>(ir.1 b).2.1;have E:=B.kl;have y:Y (ls.take k1)=k1:=by rw[bj];omega
 by_cases F:k<k1;.have e:(ls.take k1).drop k=(ls.take k1)[k]::(ls.take k1).drop (k+1):=gG (by omega);rw[e]at h;simp only[K6,E1]at h;obtain⟨a,l,f,g,n⟩:=EZ _ _ h q v r;refine⟨a,?_,f,g,n⟩;simp only[G5,aD (show k<Y (ls.take k1) by omega)];exact l
 have w:k=k1:=by omega
 subst w;rw[KZ (by omega)]at h;have x:(ls.take k)[k]?=Z:=cH (by omega);by_cases A:k<Y ls;.have e:ls.drop k=ls[k]::ls.drop (k+1):=gG A;rw[e]at h;simp only[K6,E1]at h;obtain⟨a,l,f,g,n⟩:=EZ _ _ h q v r;refine⟨a,?_,f,g,n⟩;simp only[G5,x,CE,aD A];exact l
 have C:k=Y ls:=by omega
 subst C;rw[tW]at h;simp only[K6,E1]at h;obtain⟨a,l,f,g,n⟩:=EZ _ _ h q v r;refine⟨a,?_,f,g,n⟩;have e:ls[Y ls]?=Z:=cH (aM _);simp only[G5,x,CE,e];exact l
def Lw(g:H2 ops pis bs m ls fl)(E:XOF pis bs m ls fl k1)(hp:wu P ops ops.toList=S pis){n B n0:Nat}{gs:fb}{w0 ws:bQ}{aE:aj}{av:Mem}{K:ck}{Q:Exit->Act->bQ->Prop} (hQ:∀st w A a,K st->l8 P B w0 w st.J A->FR w st.J A st.fr a->jI n ws aE av w st.J A->Q .normal a w) (C:Lx (D0 pis m) (pis.drop m) gs=θ) : ∀(c k:Nat) (listed:Array Bool) (fr:aB) (τ ε:aj) (w:bQ) (A:Mem) (a:Act),listed.size=ops.size ->(∀i j,i<Y pis->j<Y pis->oT listed i->tb bs i j=θ->oT listed j)->(∀i,m<=i->i<Y pis->¬oT listed i)->k<=k1 ->(∀j L,ls[j]?=S L->(oT listed L<->j<k))->(∀i,i<m->(jh pis i).i.fD=θ->Mm bs ls i<=k->¬oT listed i->Fact (jh pis i) fr (τ++(Cm pis fl listed++ε))) ->Y τ=n0->(∀j f d,fl[j]?=S f->(jh pis f).d=S d->iM fr (S d) (.ptr (n0+j) 0)=fr) ->G5 P pis bs m ls fl k1 (oC P gs (pis.drop m) K) k fr τ ε->NR pis.length listed<=c ->l8 P B w0 w (τ++(Cm pis fl listed++ε)) A->Mb w (τ++(Cm pis fl listed++ε)) A fr (uz pis m listed) a->jI n ws aE av w (τ++(Cm pis fl listed++ε)) A->wpAny P .any ops Q c listed a w:=by
 have hn:Y pis=ops.size:=by rw[(uR hp).1,bf]
 have hm:=g.mn;have vO:=E.kl;have b6:Y (ls.take k1)=k1:=by rw[bj];omega
 have done:∀(c k:Nat) (listed:Array Bool) (fr:aB) (τ ε:aj) (w:bQ) (A:Mem) (a:Act),listed.size=ops.size ->(∀i j,i<Y pis->j<Y pis->oT listed i->tb bs i j=θ->oT listed j)->(∀i,m<=i->i<Y pis->¬oT listed i)->k=k1->(∀f∈fl,oT listed f) ->(∀j L,ls[j]?=S L->(oT listed L<->j<k))->(∀i,i<m->(jh pis i).i.fD=θ->Mm bs ls i<=k->¬oT listed i->Fact (jh pis i) fr (τ++(Cm pis fl listed++ε))) ->G5 P pis bs m ls fl k1 (oC P gs (pis.drop m) K) k fr τ ε->NR pis.length listed<=c ->
   l8 P B w0 w (τ++(Cm pis fl listed++ε)) A->Mb w (τ++(Cm pis fl listed++ε)) A fr (uz pis m listed) a->jI n ws aE av w (τ++(Cm pis fl listed++ε)) A->wpAny P .any ops Q c listed a w:=by intro c k listed fr τ ε w A a R hc Cs hk yi M W J3 hu hS hF S2;subst hk;have en:(ls.take k)[k]?=Z:=cH (by omega);simp only[G5,en]at J3;rw[agd yi]at W hS hF S2;exact DX g hp hQ C c k listed fr _ w A a R yi hc Cs vO M W J3 hu hS hF S2
 intro c;induction c with
 |zero =>
  intro k listed fr τ ε w A a R hc Cs hk M W Vp V J3 hu hS hF S2;have bk:∀i,i<Y pis->oT listed i:=λi hi=>cp λh=>by have:=Wj hi h;omega
  have iT:∀i,i<m->oT listed i:=λi hi=>bk i (by omega);have vO:k=k1:=by
   refine cp λjw=>?_;have eW:k<Y ls:=by omega
   have:=(M k ls[k] (aD eW)).1 (iT _ (g.lsm _ (eJ eW)).1);omega
  exact done 0 k listed fr τ ε w A a R hc Cs vO (λf hf=>iT f (E.QI f hf).1) M W J3 hu hS hF S2
 |succ c ih =>
 intro k listed fr τ ε w A a R hc Cs hk M W Vp V J3 hu hS hF S2;by_cases X1:k=k1/\∀f∈fl,oT listed f;.exact done _ k listed fr τ ε w A a R hc Cs X1.1 X1.2 M W J3 hu hS hF S2
 have a4:¬∀i,i<m->oT listed i:=by
  intro iT;refine X1 ⟨?_,λf hf=>iT f (E.QI f hf).1⟩;refine cp λjw=>?_;have eW:k<Y ls:=by omega
  have:=(M k ls[k] (aD eW)).1 (iT _ (g.lsm _ (eJ eW)).1);omega
 refine⟨λh=>absurd (λi hi=>g.first R h i (by omega)) a4,λi hi=>?_⟩;obtain⟨b7,ZJ,o,ho,_⟩:=z7 R hi;have HU:i<Y pis:=by omega
 have Cx:∀j,j<Y pis->tb bs i j=θ->oT listed j:=λj u C=>g.ready hn R hc hi u C;have LO:i<m:=by refine cp λh=>a4 λj u=>?_;exact Cx j (by omega) (g.tail i j (by omega) HU (by omega))
 obtain⟨p,b4,Vv⟩:=(uR hp).2 i o (by simpa using ho);have O:jh pis i=p:=by simp[jh,aA,b4]
 have iu:TR (uz pis m listed) p:=O▸g.aqr hc LO ZJ Cx;have l:∀x j,x<Y pis->j<Y pis->oT (listed.setIfInBounds i θ) x->tb bs x j=θ->oT (listed.setIfInBounds i θ) j:=by
  intro x j b u s C;rw[jA (by omega)]at s |-;rcases s with rfl|s;.exact .inr (Cx j u C)
  exact .inr (hc x j b u s C)
 have U:∀x,m<=x->x<Y pis->¬oT (listed.setIfInBounds i θ) x:=by
  intro x b bp s;rw[jA (by omega)]at s;rcases s with rfl|s;.omega
  exact Cs x b bp s
 have aK:NR pis.length (listed.setIfInBounds i θ)<=c:=by have:=Wi HU (by omega:i<listed.size) ZJ;omega
 have a6:∀x,x<m->(jh pis x).i.fD=θ->(∀j,j<Y pis->tb bs x j=θ->oT listed j)->Mm bs ls x<=k:=by
  intro x b hs a3;refine cp λeW=>?_;have h1:Mm bs ls x<=Y ls:=kW _ _;have h2:k<Y ls:=by omega
  have h3:=(g.QE x k ls[k] b hs (aD h2)).2 (by omega);have h4:=a3 ls[k] (by have:=(g.lsm _ (eJ h2)).1;omega) h3;have:=(M k ls[k] (aD h2)).1 h4;omega
 have e:zK (uz pis m listed) p=uz pis m (listed.setIfInBounds i θ):=by rw[<- O];exact g.zK LO (by omega)
 simp only[wpOp,ho];by_cases hs:p.i.fD=θ;.
  have P6:(jh pis i).i.fD=θ:=by rw[O];exact hs
  have am:i ∉ fl:=λh=>by obtain⟨d,T,zs,h2⟩:=(E.QI i h).2.2;rw[h2]at P6;simp[I.fD]at P6
  have hf:=W i LO P6 (a6 i LO P6 Cx) ZJ;rw[O]at hf;refine aj3 Vv hS hF iu (X8 hf) ?_;intro r J' H a' w' k1 k2 X k4;simp only[St.mk.injEq]at k1;obtain⟨k1,rfl⟩:=k1;rw[k1,e]at X;have D:=XC (pis:=pis) E (listed:=listed) (i:=i) (by omega) am;refine ih k _ fr τ ε w' H a' (by simpa using R) l U hk (λj L hL=>?_) (λx b zu ZH BC=>?_) Vp V J3 aK (by rw[D];exact k2) (by rw[D];exact X) (by rw[D];exact S2.trans k4.Ua)
  .rw[jA (by omega),M j L hL];have:L≠i:=λe=>by have:=(g.lsm L (aS hL)).2;rw[e,P6]at this;simp at this
   simp[this]
  rw[D];exact W x b zu ZH λh=>BC ((jA (by omega)).2 (.inr h))
 have P6:(jh pis i).i.fD=G:=by rw[O];simpa using hs
 rcases g.SB i LO P6 with pR|pR;.
  obtain⟨j,u⟩:=cm.1 pR;have am:i ∉ fl:=λh=>(E.QI i h).2.1 pR;have tY:j<Y ls:=(ag.1 u).1;have b8:¬j<k:=λh=>ZJ ((M j i u).2 h);have br:j=k:=by
   refine cp λjw=>?_;have vO:k<Y ls:=by omega
   have h2:=g.agm k j i ls[k] (by omega) (aD vO) u;have h3:=Cx ls[k] (by have:=(g.lsm _ (eJ vO)).1;omega) h2;have:=(M k ls[k] (aD vO)).1 h3;omega
  subst br;have a9:j<k1:=by refine cp λh=>X1 ⟨by omega,λf hf=>?_⟩;exact Cx f (by have:=(E.QI f hf).1;omega) (E.late j i f (by omega) u hf)
  have bz:(ls.take k1)[j]?=S i:=by rw[fZ,aQ a9];exact u
  simp only[G5,bz,O]at J3;have b2:=Yg J3 (Cm pis fl listed) (by simp[Cm,TF]);refine opG Vv hS hF iu b2 ?_;intro r J' H a' w' k1 k2 X k4;obtain⟨bi,af,ac,a5,mq,gQ⟩:=k1;simp only at mq;subst mq;obtain⟨F,h1,h2,h3,h4⟩:=g.ai9 E (k:=j+1) (by omega) gQ;rw[e]at X;have D:=XC (pis:=pis) E (listed:=listed) (i:=i) (by omega) am;have oP:∀x∈tE pis bs m ls (j+1),¬oT (listed.setIfInBounds i θ) x:=by
   intro x b s;rw[ir]at b;rw[jA (by omega)]at s;rcases s with rfl|s;.rw[P6]at b;simp at b
   have:=a6 x b.1 b.2.1 λy v C=>hc x y (by omega) v s C;omega
  have Kf:∀t y,y<m->(jh pis y).d=S t->oT (listed.setIfInBounds i θ) y->F[t]?=(iM fr p.d r)[t]?:=by intro t y v N s;refine h3 t λx b au=>oP x b ?_;rw[g.dst x y t (ir.1 b).1 v au N];exact s
  have b1:Mb w' (af++(Cm pis fl listed++ac)) H F (uz pis m (listed.setIfInBounds i θ)) a':=by
   refine⟨X.1,by rw[h4];exact X.2.1,λt x b ch GK=>?_⟩;have b3:F[t]?=(iM fr p.d r)[t]?:=by
    rcases qy GK with⟨_,uN⟩|⟨y,v,N,s,_⟩;.exact h3 t λx b=>uN x (ir.1 b).1
    exact Kf t y v N s
   have Hr:chainB F ch=chainB (iM fr p.d r) ch:=by
    refine se λq hq=>?_;rcases qy GK with⟨rfl,_⟩|⟨y,v,N,s,rfl⟩;.simp at hq
    obtain⟨z,hz,bq,bv⟩:=g.chain y q v hq;exact Kf q.1 z hz bq (l y z (by omega) (by omega) s bv)
   rw[Hr];rw[b3]at b;exact X.2.2 t x b ch GK
  refine ih (j+1) _ F af ac w' H a' (by simpa using R) l U (by omega) (λy L hL=>?_) (λx b zu ZH BC=>?_) (a5.trans Vp) (λy f d v N=>?_) h1 aK (by rw[D];exact k2) (by rw[D];exact b1) (by rw[D];exact S2.trans k4.Ua)
  .rw[jA (by omega),M y L hL];constructor
   .rintro(rfl|h);.refine cp λjw=>?_;have h5:=g.agm j y L L (by omega) u hL;have:=g.lt LO LO h5;omega
    omega
   intro h;rcases jP y j with h5|h5;.exact .inr h5
   have:y=j:=by omega
   subst this;rw[hL]at u;simp only[ab]at u;exact .inl u
  .rw[D];by_cases a8:Mm bs ls x=j+1;.exact(h2 x (ir.2 ⟨b,zu,a8⟩)).le (acY af ac listed)
   have an:Mm bs ls x<=j:=by omega
   have a1:¬oT listed x:=λh=>BC ((jA (by omega)).2 (.inr h));have bu:¬tb bs i x=θ:=λh=>a1 (Cx x (by omega) h);have be:Fact (jh pis x) (iM fr p.d r) (af++(Cm pis fl listed++ac)):=by
    by_cases hr:(jh pis x).i.reads=θ;.exact(bi (jh pis x) (cv.2 ⟨x,by simp[aey,b,zu,hr,an,bu],rfl⟩)).fact
    have bc:(jh pis x).i.reads=G:=by simpa using hr
    refine Fact.still (Fact.agree (W x b zu an a1) (λt C=>?_) (λt C=>?_) vg) bc;.refine pd λN=>?_;have h5:=g.xR b LO (O▸N) C;have:=(g.QE x j i b zu u).1 h5;omega
    refine pd λN=>?_;have:=g.dst x i t b LO C (O▸N);subst this;rw[zu]at P6;simp at P6
   refine Fact.agree be (λt C=>?_) (λt C=>?_) h4;.refine h3 t λy v a0=>?_;rw[ir]at v;have:=g.mono x y t b zu v.1 v.2.1 a0 C;omega
   refine h3 t λy v a0=>?_;rw[ir]at v;have:=g.dst x y t b v.1 C a0;subst this;omega
  have h5:=V y f d v N;have a2:=(E.QI f (aS v)).1;have h6:F[d]?=fr[d]?:=by
   rw[h3 d λx b au=>?_];.refine pd λba=>?_;have:=g.dst f i d a2 LO N (O▸ba);exact am (this▸aS v)
   have:=g.dst f x d a2 (ir.1 b).1 N au;have h7:=(ir.1 b).2.1;obtain⟨d',T,zs,h8⟩:=(E.QI f (aS v)).2.2;rw[<- this,h8]at h7;simp[I.fD]at h7
  rw[xz]at h5 |-;intro t ap s;have h7:=h5 t ap (by rw[h4,vg]at s;exact s);simp only[ab]at ap;subst ap;rw[h6];exact h7
 obtain⟨j,u⟩:=cm.1 pR;obtain⟨_,sH,d,T,zs,ad⟩:=E.QI i pR;rw[O]at ad;have tY:j<Y fl:=(ag.1 u).1;have bx:listed.getD i G=G:=by cases h:listed.getD i G with|false=>rfl|true=>exact absurd h ZJ
 have a7:(τ++(Cm pis fl listed++ε))[n0+j]?=S .dead:=by rw[bn (by omega),Vp,ee,bg (by simp only[Cm,aa];omega)];simp only[Cm,bR,u,dV,bx,V7]
 have eb:TH (jh pis i)=.box T zs:=by rw[O,ad];rfl
 have D:τ++(Cm pis fl (listed.setIfInBounds i θ)++ε)=(τ++(Cm pis fl listed++ε)).set (n0+j) (.box T zs):=by rw[agc E (by omega) u,eb,dX _ _ (by omega),Vp,ee,jm _ _ (by simp only[Cm,aa];omega)]
 have b5:p.d=S d:=by rw[ad]
 have rj:=V j i d u (by rw[O];exact b5);have b0:Le (τ++(Cm pis fl listed++ε)) ((τ++(Cm pis fl listed++ε)).set (n0+j) (.box T zs)):=by
  intro id o ho;by_cases he:n0+j=id;.subst he;rw[a7]at ho;simp only[ab]at ho;exact .inl ho.symm
  rw[bN he];exact .inr ho
 refine V3 Vv ad hS hF iu a7 ?_;intro H a' w' k2 X k4;rw[rj,e]at X;refine ih k _ fr τ ε w' H a' (by simpa using R) l U hk (λy L hL=>?_) (λx b zu ZH BC=>?_) Vp V J3 aK (by rw[D];exact k2) (by rw[D];exact X) (by rw[D];exact S2.trans k4.Ua);.rw[jA (by omega),M y L hL];have:L≠i:=λe=>sH (e▸aS hL);simp[this]
 rw[D];exact(W x b zu ZH λh=>BC ((jA (by omega)).2 (.inr h))).le b0
def Hu(pis:List Pi)(fl:fb):List (Nat×Nat×aB):=fl.map λf=>match jh pis f with|⟨S d,_,.alloc T zs⟩=>(d,T,zs)|_=>(0,0,[])
def TG(a:List (Nat×Nat×aB)):List Ob:=a.map λx=>.box x.2.1 x.2.2
def Du:Nat->List (Nat×Nat×aB)->aB->aB|_,[],fr=>fr|n,x::r,fr=>Du (n+1) r (fr.set x.1 (.ptr n 0))
def CI{t:Nat}:∀{l:List (Nat×Nat×aB)} {n:Nat} {fr:aB},(∀x∈l,x.1≠t)->(Du n l fr)[t]?=fr[t]?|[],_,_,_=>rfl|x::l,n,fr,h=>by rw[Du,CI λy a=>h y (by simp[a]),bN (h x (by simp))]
def Iu:∀{l:List (Nat×Nat×aB)} {n:Nat} {fr:aB},Y (Du n l fr)=Y fr|[],_,_=>rfl|x::l,n,fr=>by rw[Du,Iu];simp
def Ws:∀{l:List (Nat×Nat×aB)} {n j:Nat} {fr:aB} {x:Nat×Nat×aB},l.Pairwise (λa b=>a.1≠b.1)->l[j]?=S x->x.1<Y fr->(Du n l fr)[x.1]?=S (.ptr (n+j) 0)
 |[],_,_,_,_,_,h,_=>by simp at h
 |y::l,n,0,fr,x,hp,h,hl=>by simp only[aC,ab]at h;subst h;rw[cy]at hp;rw[Du,CI λz c=>EM (hp.1 z c),aT hl,cu]
 |y::l,n,j+1,fr,x,hp,h,hl=>by rw[cy]at hp;rw[Du,Ws (j:=j) hp.2 (by simpa using h) (by simpa using hl)];congr 2;omega
def l8.oq{P:bG}{B:Nat}{f w:bQ}:∀(b:List Ob) {J:aj} {c:Mem},l8 P B f w J c->∃a,l8 P B f w (J++Go.Pm.oq b) a/\uo w J c w (J++Go.Pm.oq b) a
 |[],J,c,h=>⟨c,by simpa[Go.Pm.oq]using h,by simpa[Go.Pm.oq]using uo.refl w J c⟩
 |_::b,J,c,h=>by
  obtain⟨i,j⟩:=h.Aw (w':=w) .dead undef ⟨rfl,rfl,rfl,aM _,λ_ _ _=>rfl⟩ (by simp[nQ,undef]) λ_=>trivial;obtain⟨a,d,g⟩:=l8.oq b i;have e:J++[Ob.dead]++Go.Pm.oq b=J++Go.Pm.oq (.dead::b):=by simp[Go.Pm.oq]
  rw[e]at d g;exact⟨a,d,j.trans g⟩
def okF(pis:List Pi)(bs:fb)(m:Nat)(ls fl:fb)(k1:Nat):Bool :=
 (fl.all λf=>decide (f<m)&&(!ls.contains f&&match jh pis f with|⟨S _,[],.alloc _ _⟩=>θ|_=>G))&&(decide fl.Nodup&&(decide (k1<=Y ls)&&(ls.drop k1).all λL=>fl.all λf=>tb bs L f))
def aj4(h:okF pis bs m ls fl k1=θ):XOF pis bs m ls fl k1:=by
 simp only[okF,aZ,df,bE,dG]at h;obtain⟨j,o,c,l⟩:=h;refine⟨λf a=>?_,o,c,λk L f q g a=>l L ?_ f a⟩
 .obtain⟨p,n,b⟩:=j f a;refine⟨p,by simpa using n,?_⟩;split at b;.rename_i d T zs e;exact⟨d,T,zs,e⟩
  simp at b
 refine aS (i:=k - k1) ?_;rw[ei,<- g];congr 1;omega
def Lp{n B:Nat}{gs:fb}{K:ck}{Q:Exit->Act->bQ->Prop}(hp:wu P ops ops.toList=S pis)(iu:okX ops pis bs m ls fl=θ)(ac:okF pis bs m ls fl k1=θ) (ht:Lx (D0 pis m) (pis.drop m) gs=θ) {fr:aB} {J:aj} {w0 w:bQ} {μ:Mem} {a:Act} (h:E1 P (TG (Hu pis fl)) (K6 pis bs m ls 0 (ls.take k1)) (K6 pis bs m ls k1 (ls.drop k1)) ((tE pis bs m ls ls.length).map (jh pis)) (oC P gs (pis.drop m) K) (Du J.length (Hu pis fl) fr) J []) (hS:l8 P B w0 w J μ) (hF:FR w J μ fr a) (hQ:∀c w' o H,K c->l8 P B w0 w' c.J o->FR w' c.J o c.fr H->jI n w J μ w' c.J o->Q .normal H w'):wpAny P .any ops Q ops.size (Array.replicate ops.size G) a { w with drawn:=w.drawn+1 }:=by
 have hn:pis.length=ops.size:=by rw[(uR hp).1,bf]
 have F:=acm iu hn;have l:=aj4 ac;have am:TG (Hu pis fl)=TF pis fl:=by simp only[TG,Hu,TF,jQ];refine dA λf p=>?_;obtain⟨d,T,zs,e⟩:=(l.QI f p).2.2;simp[e,TH]
 rw[am]at h;have xY:∀(j f d:Nat),fl[j]?=S f->(jh pis f).d=S d->∃x,(Hu pis fl)[j]?=S x/\x.1=d:=by intro j f d v s;obtain⟨U,T,zs,e⟩:=(l.QI f (aS v)).2.2;rw[e]at s;simp only[ab]at s;exact⟨(U,T,zs),by simp[Hu,v,e],s⟩
 have V:∀x∈Hu pis fl,∃f,f∈fl/\(jh pis f).d=S x.1:=by intro x q;simp only[Hu,cv]at q;obtain⟨f,p,rfl⟩:=q;obtain⟨d,T,zs,e⟩:=(l.QI f p).2.2;exact⟨f,p,by simp[e]⟩
 have HT:(Hu pis fl).Pairwise (λa b=>a.1≠b.1):=by rw[Hu,EN];refine l.nd.imp_of_mem ?_;intro f g p hg jw he;obtain⟨d,T,zs,e⟩:=(l.QI f p).2.2;obtain⟨U,T',ap,e'⟩:=(l.QI g hg).2.2;simp only[e,e']at he;subst he;exact jw (F.dst f g d (l.QI f p).1 (l.QI g hg).1 (by rw[e]) (by rw[e']))
 obtain⟨R,TV⟩:=hS.grown (w':={ w with drawn:=w.drawn+1 }) ⟨rfl,rfl,rfl,aM _,λ_ _ _=>rfl⟩;obtain⟨O,A,D⟩:=R.oq (TF pis fl);have e0:J++oq (TF pis fl)=J++(oq (TF pis fl)++[]):=by rw[bI]
 rw[e0]at A D;have hk:=TV.eY.trans D.eY;have r:=hF.eY hk;obtain⟨N,h1,h2,h3,h4⟩:=F.ai9 l (k:=0) (jK _) (by simpa using h);have E:∀i,¬oT (Array.replicate ops.size G) i:=by intro i;simp only[oT,cZ,FN];split<;>simp
 have M:Cm pis fl (Array.replicate ops.size G)=oq (TF pis fl):=by
  simp only[Cm,oq,TF,jQ];refine dA λf _=>?_;have:(Array.replicate ops.size G).getD f G=G:=by cases hh:(Array.replicate ops.size G).getD f G with|false=>rfl|true=>exact absurd hh (E f)
  simp[this]
 refine Lw (n:=n) F l hp (λc w' o H k1 k2 k3 k4=>hQ c w' o H k1 k2 k3 (jI.trans hk.Ua k4)) ht ops.size 0 _ N J [] _ O a (by simp) (λi j _ _ u=>absurd u (E i)) (λi _ _=>E i) (jK _) (λj L hL=>⟨λu=>absurd u (E L),λh=>by omega⟩) (λi X hs an _=>by rw[M];exact h2 i (ir.2 ⟨X,hs,by omega⟩)) rfl (λj f d v s=>?_) h1 (by rw[hn];unfold NR;exact cE (kW _ _) (by simp)) (by rw[M];exact A) ?_ (by rw[M];exact jI.refl _ _ _ _)
 .have ad:=(l.QI f (aS v)).1;obtain⟨x,q,rfl⟩:=xY j f d v s;rw[xz];intro t z u;simp only[ab]at z;subst z;rw[h3 x.1 λy C af=>?_];.exact Ws HT q (by rwa [h4,Iu]at u)
  have:=F.dst f y x.1 ad (ir.1 C).1 s af;have h7:=(ir.1 C).2.1;obtain⟨U,T,zs,h8⟩:=(l.QI f (aS v)).2.2;rw[<- this,h8]at h7;simp[I.fD]at h7
 rw[M];refine⟨r.1,by rw[h4,Iu];exact r.2.1,λt x q ch GK=>?_⟩;rcases qy GK with⟨rfl,uN⟩|⟨y,C,s,u,_⟩
 .rw[h3 t λi X=>uN i (ir.1 X).1,CI λy C e=>?_]at q;.exact⟨λ_=>r.2.2 t x q,λh=>by simp[chainB]at h⟩
  obtain⟨f,p,W⟩:=V y C;exact uN f (l.QI f p).1 (e▸W)
 exact absurd u (E y)
end
variable(Q:bG)(X:Array Oper)(N:List Pi)(M:fb)(H:Nat){U:Array Oper}{T:bG}{J:fb}
inductive aJ where
 |skip
 |ij (gs:fb) (is:List Pi)
 |pO (ds:List (List Pi×Pi×List Pi)) (last:List Pi) (gs:fb) (tail:List Pi)
 |seq (a b:aJ)
 |ite (c:O) (a b:aJ)
 |block (id:Nat) (c:aJ)
 |loop (c:aJ)
 |exit (id:Nat)
 |ret
 |both (a b:aJ)
 |dfl (fls:List (Nat×Nat×aB)) (ds1 ds2:List (List Pi×Pi×List Pi)) (last:List Pi) (gs:fb) (tail:List Pi)
variable{R:aJ}
def Fv:fb:=N.filterMap λp=>if p.g.isEmpty then Z else p.d
def ami:Option aJ :=
 match wu Q X X.toList with|some pis=>if Lx [] pis (Fv pis)then S (.ij (Fv pis) pis)else Z|none=>Z
def EA:Option aJ :=
 if Q.follows .mixedOrders then match wu Q X X.toList with
  |some pis =>
   let m:=mX M (Y pis);let ls:=(List.range m).filter λi=>!(jh pis i).i.fD
   if okX X pis M m ls []&&Lx (D0 pis m) (pis.drop m) (Fv pis)then
    S (.pO (K6 pis M m ls 0 ls) ((tE pis M m ls (Y ls)).map (jh pis)) (Fv pis) (pis.drop m))else Z
  |none=>Z
 else Z
def ahk:Op->Bool
 |.alloc _|.box _ _=>θ
 |_=>G
def aiH:fb:=(List.range X.size).filter λi=>match X[i]? with|some o=>ahk o.op|none=>G
def Yd:Option aJ :=
 match aiH X with
 |[i,j]=>if i≠j/\i<X.size/\j<X.size/\Q.follows .mixedOrders=θ/\((List.range X.size).all λx=>x==i||(x==j||match X[x]? with|some o=>wE o.op|none=>θ))=θ then
   match EA Q (waitsFor X j i) (Region.before (waitsFor X j i)).toList,EA Q (wv (waitsFor X i j) i j) (Region.before (wv (waitsFor X i j) i j)).toList with
   |some a,S b=>S (.both a b)
   |_,_=>Z
  else Z
 |_=>Z
def atS(i:Nat):Bool:=match jh N i with
 |⟨S _,[],.alloc _ _⟩=>(List.range H).any λj=>!(jh N j).i.fD&&(j != i&&(!tb M i j&&!tb M j i))
 |_=>G
def cFl:Option aJ :=
 if Q.follows .mixedOrders then match wu Q X X.toList with
  |some pis =>
   let m:=mX M (Y pis);let fl:=(List.range m).filter (atS pis M m);let ls:=(List.range m).filter λi=>!(jh pis i).i.fD&&!fl.contains i;let k1:=Y (ls.filter λL=>!fl.all (tb M L))
   if okX X pis M m ls fl&&(okF pis M m ls fl k1&&Lx (D0 pis m) (pis.drop m) (Fv pis))then
    S (.dfl (Hu pis fl) (K6 pis M m ls 0 (ls.take k1)) (K6 pis M m ls k1 (ls.drop k1)) ((tE pis M m ls (Y ls)).map (jh pis)) (Fv pis) (pis.drop m))else Z
  |none=>Z
 else Z
def aeA:Option aJ :=
 match EA Q X (Region.before X).toList with
 |some c=>S c
 |none=>match Yd Q X with
  |some c=>S c
  |none=>cFl Q X (Region.before X).toList
def jx(P:bG):Code->Option aJ
 |.skip=>S .skip
 |.region _ ops G=>ami P ops
 |.region _ ops θ=>aeA P ops
 |.seq a b=>match jx P a,jx P b with
  |some a,S b=>S (.seq a b)
  |_,_=>Z
 |.cond c a b=>match cO c,jx P a,jx P b with
  |some c,S a,S b=>S (.ite c a b)
  |_,_,_=>Z
 |.block id c=>(jx P c).map (.block id)
 |.loop c=>(jx P c).map .loop
 |.exit id=>S (.exit id)
 |.ret=>S .ret
 |_=>Z
def mD(h:ami T U=S R):∃pis,wu T U U.toList=S pis/\Lx [] pis (Fv pis)=θ/\R=.ij (Fv pis) pis:=by
 unfold ami at h;split at h;.rename_i pis a;split at h<;>simp only[ab,reduceCtorEq]at h;rename_i b;exact⟨pis,a,b,h.symm⟩
 simp at h
def C9(h:EA T U J=S R): T.follows .mixedOrders=θ/\∃pis m ls,wu T U U.toList=S pis/\okX U pis J m ls []=θ/\Lx (D0 pis m) (pis.drop m) (Fv pis)=θ /\R=.pO (K6 pis J m ls 0 ls) ((tE pis J m ls (Y ls)).map (jh pis)) (Fv pis) (pis.drop m):=by
 unfold EA at h;split at h
 .rename_i c;split at h;.rename_i pis b;dsimp only at h;split at h<;>simp only[ab,reduceCtorEq]at h;rename_i a;rw[aZ]at a;exact⟨c,pis,_,_,b,a.1,a.2,h.symm⟩
  simp at h
 simp at h
def KQ(h:Yd T U=S R):∃i j a b,i≠j/\i<U.size/\j<U.size/\T.follows .mixedOrders=θ /\(∀x o,x≠i->x≠j->U[x]?=S o->wE o.op=θ)/\EA T (waitsFor U j i) (Region.before (waitsFor U j i)).toList=S a /\EA T (wv (waitsFor U i j) i j) (Region.before (wv (waitsFor U i j) i j)).toList=S b/\R=.both a b:=by
 unfold Yd at h;split at h
 .rename_i i j r;split at h
  .rename_i q;obtain⟨m,f,g,p,c⟩:=q;split at h<;>simp only[ab,reduceCtorEq]at h;rename_i a b k e;refine⟨i,j,a,b,m,f,g,p,λx o n l d=>?_,k,e,h.symm⟩;simp only[df,eU,iR,ez]at c;have:=c x (cY.1 d).1;rw[d]at this;rcases this with h|h|h;.exact absurd h n
   .exact absurd h l
   exact h
  simp at h
 simp at h
def TE(h:cFl T U J=S R): T.follows .mixedOrders=θ/\∃pis m ls fl k1,wu T U U.toList=S pis/\okX U pis J m ls fl=θ/\okF pis J m ls fl k1=θ/\Lx (D0 pis m) (pis.drop m) (Fv pis)=θ /\R=.dfl (Hu pis fl) (K6 pis J m ls 0 (ls.take k1)) (K6 pis J m ls k1 (ls.drop k1)) ((tE pis J m ls (Y ls)).map (jh pis)) (Fv pis) (pis.drop m):=by
 unfold cFl at h;split at h
 .rename_i b;split at h;.rename_i pis c;dsimp only at h;split at h<;>simp only[ab,reduceCtorEq]at h;rename_i a;rw[aZ,aZ]at a;exact⟨b,pis,_,_,_,_,c,a.1,a.2.1,a.2.2,h.symm⟩
  simp at h
 simp at h
def lz(h:aeA T U=S R): (∃l last f c,R=.pO l last f c/\EA T U (Region.before U).toList=S R)\/(∃a b,R=.both a b/\Yd T U=S R) \/(∃g ds1 ds2 last f c,R=.dfl g ds1 ds2 last f c/\cFl T U (Region.before U).toList=S R):=by
 unfold aeA at h;split at h;.rename_i k e;simp only[ab]at h;subst h;obtain⟨_,pis,m,ls,_,_,_,d⟩:=C9 e;exact .inl ⟨_,_,_,_,d,e⟩
 split at h;.rename_i k e;simp only[ab]at h;subst h;obtain⟨i,j,a,b,_,_,_,_,_,_,_,d⟩:=KQ e;exact .inr (.inl ⟨a,b,d,e⟩)
 obtain⟨_,pis,m,ls,fl,k1,_,_,_,_,d⟩:=TE h;exact .inr (.inr ⟨_,_,_,_,_,_,d,h⟩)
def cB(P:bG)(c:aJ)(K:bL)(st:St):Prop:=∀a,jx P a=S c->PW H P a K st
def cB.mono{n:Nat}{K c:bL}{st:St}(h:cB n T R K st)(f:∀e b,K e b->c e b):cB n T R c st :=λa d=>(h a d).mono f
section rules
variable {n:Nat} {P:bG} {K:bL} {st:St}
def cB.skip(h:K .normal st):cB n P .skip K st:=by
 intro b c;cases b;case skip=>exact PW.skip h
 all_goals first|(exfalso;revert c;simp only[jx];try ((repeat' split)<;>simp);done)|(rename_i _ ops a;exfalso;cases a<;>simp only[jx]at c<;>first|(obtain⟨_,_,_,h⟩:=mD c;simp at h;done)|(rcases lz c with⟨_,_,_,_,h,_⟩|⟨_,_,h,_⟩|⟨_,_,_,_,_,_,h,_⟩<;>simp at h;done))
def cB.ij{gs:fb}{d:List Pi}(h:oC P gs d (K .normal) st):cB n P (.ij gs d) K st:=by
 intro b c;cases b;case region id ops draw =>
  cases draw
  .simp only[jx]at c;obtain⟨u,k,r,i⟩:=mD c;simp only[aJ.ij.injEq]at i;obtain⟨rfl,rfl⟩:=i;intro B w0 w f a l o;refine wp_region ?_;have:=CJ (P:=P) (ops:=ops) (n:=n) (B:=B) (gs:=Fv d) (w0:=w0) (ws:=w) (σs:=st.J) (μs:=f) (K:=K .normal) (Q:=arZ P n B w0 w st.J f K)
    (λg t e v q m p s=>⟨g,e,q,m,p,s⟩) ops.toList 0 d [] st.fr st.J w f a (λj=>by simp) k r h l o.toI (jI.refl _ _ _ _);simp only[aG,List.map_id',bf]at this;exact this
  simp only[jx]at c;rcases lz c with⟨_,_,_,_,h,_⟩|⟨_,_,h,_⟩|⟨_,_,_,_,_,_,h,_⟩<;>simp at h
 all_goals first|(exfalso;revert c;simp only[jx];try ((repeat' split)<;>simp);done)
def cB.pO{j:List (List Pi×Pi×List Pi)}{last:List Pi}{g:fb}{b:List Pi}(h:zx P j last (oC P g b (K .normal)) st):cB n P (.pO j last g b) K st:=by
 intro d c;cases d;case region id ops draw =>
  cases draw;.simp only[jx]at c;obtain⟨_,_,_,h⟩:=mD c;simp at h
  simp only[jx]at c;rcases lz c with⟨_,_,_,_,_,c⟩|⟨_,_,h,_⟩|⟨_,_,_,_,_,_,h,_⟩;rotate_left;.simp at h
  .simp at h
  obtain⟨r,pis,m,ls,k,t,u,i⟩:=C9 c;simp only[aJ.pO.injEq]at i;obtain⟨rfl,rfl,rfl,rfl⟩:=i;intro B A w z a l p;exact Ru (n:=n) r k t u h l p λf x e y s o q v=>⟨f,e,s,o,q,v⟩
 all_goals first|(exfalso;revert c;simp only[jx];try ((repeat' split)<;>simp);done)
def NG{ops:Array Oper}{bs:fb}{c:aJ}(A:EA P ops bs=S c)(h:∃k last i f,c=.pO k last i f/\zx P k last (oC P i f (K .normal)) st) {B:Nat} {p w:bQ} {j:Mem} {a:Act} (r:l8 P B p w st.J j) (t:FR w st.J j st.fr a) : wpAny P .any ops (λe l g=>∃b d,K e b/\l8 P B p g b.J d/\FR g b.J d b.fr l/\jI n w st.J j g b.J d) ops.size (Array.replicate ops.size G) a { w with drawn:=w.drawn+1 }:=by obtain⟨C,pis,m,ls,q,x,y,rfl⟩:=C9 A;obtain⟨k,last,i,f,o,h⟩:=h;simp only[aJ.pO.injEq]at o;obtain⟨rfl,rfl,rfl,rfl⟩:=o;exact DD (n:=n) q x y h r t λb g d l v s u z=>⟨b,d,v,s,u,z⟩
def cB.both{x y:aJ}(h1:∃f last e c,x=.pO f last e c/\zx P f last (oC P e c (K .normal)) st)(q:∃f last e c,y=.pO f last e c/\zx P f last (oC P e c (K .normal)) st): cB n P (.both x y) K st:=by
 intro g d;cases g;case region id ops draw =>
  cases draw;.simp only[jx]at d;obtain⟨_,_,_,h⟩:=mD d;simp at h
  simp only[jx]at d;rcases lz d with⟨_,_,_,_,h,_⟩|⟨a,b,h,d⟩|⟨_,_,_,_,_,_,h,_⟩;.simp at h
  rotate_left;.simp at h
  obtain⟨i,j,z,D,u,p,v,s,t,r,o,m⟩:=KQ d;simp only[aJ.both.injEq]at m;obtain⟨rfl,rfl⟩:=m;intro B C w A a k l;refine Od s u p v t ?_ ?_;.have:=NG (n:=n) r h1 k l;rwa [nH]at this
  have:=NG (n:=n) o q k l;rwa [Ig,nH]at this
 all_goals first|(exfalso;revert d;simp only[jx];try ((repeat' split)<;>simp);done)
def cB.dfl{c:List (Nat×Nat×aB)}{ds1 ds2:List (List Pi×Pi×List Pi)}{last:List Pi}{j:fb}{b:List Pi} (h:E1 P (TG c) ds1 ds2 last (oC P j b (K .normal)) (Du st.J.length c st.fr) st.J []):cB n P (.dfl c ds1 ds2 last j b) K st:=by
 intro e d;cases e;case region id ops draw =>
  cases draw;.simp only[jx]at d;obtain⟨_,_,_,h⟩:=mD d;simp at h
  simp only[jx]at d;rcases lz d with⟨_,_,_,_,h,_⟩|⟨_,_,h,_⟩|⟨_,_,_,_,_,_,_,d⟩;.simp at h
  .simp at h
  obtain⟨s,pis,m,ls,fl,k1,l,u,g,v,k⟩:=TE d;simp only[aJ.dfl.injEq]at k;obtain⟨rfl,rfl,rfl,rfl,rfl,rfl⟩:=k;intro B C w A a o q;exact wp_region_any s (Lp (n:=n) l u g v h o q λi y f z t p r x=>⟨i,f,t,p,r,x⟩)
 all_goals first|(exfalso;revert d;simp only[jx];try ((repeat' split)<;>simp);done)
def cB.ret(h:K .ret st):cB n P .ret K st:=by
 intro b c;cases b;case ret=>exact PW.ret h
 all_goals first|(exfalso;revert c;simp only[jx];try ((repeat' split)<;>simp);done)|(rename_i _ ops a;exfalso;cases a<;>simp only[jx]at c<;>first|(obtain⟨_,_,_,h⟩:=mD c;simp at h;done)|(rcases lz c with⟨_,_,_,_,h,_⟩|⟨_,_,h,_⟩|⟨_,_,_,_,_,_,h,_⟩<;>simp at h;done))
def cB.exit{id:Nat}(h:K (.exit id) st):cB n P (.exit id) K st:=by
 intro c a;cases c;case exit id'=>simp only[jx,ab,aJ.exit.injEq]at a;subst a;exact PW.exit h
 all_goals first|(exfalso;revert a;simp only[jx];try ((repeat' split)<;>simp);done)|(rename_i _ ops b;exfalso;cases b<;>simp only[jx]at a<;>first|(obtain⟨_,_,_,h⟩:=mD a;simp at h;done)|(rcases lz a with⟨_,_,_,_,h,_⟩|⟨_,_,h,_⟩|⟨_,_,_,_,_,_,h,_⟩<;>simp at h;done))
def am4(n:Nat)(P:bG)(y:aJ)(K:bL):bL|.normal,st=>cB n P y K st|e,st=>K e st
def cB.seq{x y:aJ}(h:cB n P x (am4 n P y K) st):cB n P (.seq x y) K st:=by
 intro c a;cases c;case seq p q =>simp only[jx]at a;split at a<;>simp only[ab,reduceCtorEq,aJ.seq.injEq]at a;rename_i k j g f;obtain⟨rfl,rfl⟩:=a;refine PW.seq ((h p g).mono ?_);intro e i d;cases e<;>first|exact d q f|exact d
 all_goals first|(exfalso;revert a;simp only[jx];try ((repeat' split)<;>simp);done)|(rename_i _ ops b;exfalso;cases b<;>simp only[jx]at a<;>first|(obtain⟨_,_,_,h⟩:=mD a;simp at h;done)|(rcases lz a with⟨_,_,_,_,h,_⟩|⟨_,_,h,_⟩|⟨_,_,_,_,_,_,h,_⟩<;>simp at h;done))
def cB.block{id:Nat}{c:aJ}(h:cB n P c (FJ id K) st):cB n P (.block id c) K st:=by
 intro d a;cases d;case block id' c' =>simp only[jx,aL,aJ.block.injEq]at a;obtain⟨f,e,rfl,rfl⟩:=a;exact PW.block (h c' e)
 all_goals first|(exfalso;revert a;simp only[jx];try ((repeat' split)<;>simp);done)|(rename_i _ ops b;exfalso;cases b<;>simp only[jx]at a<;>first|(obtain⟨_,_,_,h⟩:=mD a;simp at h;done)|(rcases lz a with⟨_,_,_,_,h,_⟩|⟨_,_,h,_⟩|⟨_,_,_,_,_,_,h,_⟩<;>simp at h;done))
def cB.loop{c:aJ}(I:ck)(m:St->Nat)(h0:I st)(h:∀st,I st->cB n P c (ajd I m (m st) K) st):cB n P (.loop c) K st:=by
 intro d a;cases d;case loop c' =>simp only[jx,aL,aJ.loop.injEq]at a;obtain⟨g,f,rfl⟩:=a;exact PW.loop I m h0 λst e=>h st e c' f
 all_goals first|(exfalso;revert a;simp only[jx];try ((repeat' split)<;>simp);done)|(rename_i _ ops b;exfalso;cases b<;>simp only[jx]at a<;>first|(obtain⟨_,_,_,h⟩:=mD a;simp at h;done)|(rcases lz a with⟨_,_,_,_,h,_⟩|⟨_,_,h,_⟩|⟨_,_,_,_,_,_,h,_⟩<;>simp at h;done))
def cB.ite{c:O}{x y:aJ}{b:Bool}(m:ev st.fr c=.b b)(t:b=θ->cB n P x K st)(r:b=G->cB n P y K st):cB n P (.ite c x y) K st:=by
 intro f d;cases f;case cond c' p q =>
  simp only[jx]at d;split at d<;>simp only[ab,reduceCtorEq,aJ.ite.injEq]at d;rename_i z A v s u o;obtain⟨rfl,rfl,rfl⟩:=d;intro B l w k a i g;have j:=(m▸ix g s).xU;cases b;.exact wp_cond_false j (r rfl q o B l w k a i g)
  exact wp_cond_true j (t rfl p u B l w k a i g)
 all_goals first|(exfalso;revert d;simp only[jx];try ((repeat' split)<;>simp);done)|(rename_i _ ops e;exfalso;cases e<;>simp only[jx]at d<;>first|(obtain⟨_,_,_,h⟩:=mD d;simp at h;done)|(rcases lz d with⟨_,_,_,_,h,_⟩|⟨_,_,h,_⟩|⟨_,_,_,_,_,_,h,_⟩<;>simp at h;done))
end rules
variable(F:bG)(A:ck)(D:aB)(a:Nat)(E:aj){R:List O}{p:Mem}{B:Nat}{q:Nat×Bool}{T N:aB}{J o:aj}{X:bG}{e:bQ}{Q:ck}{d:dE}
inductive V.Wf:V->Prop
 |s (l:aR) (h:l.length<=maxLen):Wf (.s l)
 |sl (sz:Nat) (xs:fx) (h:xs.length<=maxLen) (hr:∀r∈xs,r.length=sz) (hx:∀i j x,gv xs i j=some x->Wf x):Wf (.sl sz xs)
 |agg (xs:aB) (h:∀(i:Nat) (x:V),xs[i]?=some x->Wf x):Wf (.agg xs)
 |b (x):Wf (.b x)
 |i (k n):Wf (.i k n)
 |u:Wf .u
 |nil:Wf .nil
 |lit (sz xs):Wf (.lit sz xs)
 |own (id g):Wf (.own id g)
 |sub (id g lo hi):Wf (.sub id g lo hi)
 |ptr (id off):Wf (.ptr id off)
 |ep (sz xs i off):Wf (.ep sz xs i off)
 |rp (id g i off):Wf (.rp id g i off)
 |mp (id):Wf (.mp id)
 |l0:Wf .l0
 |mV:Wf .mV
 |fn (f caps):Wf (.fn f caps)
 |jg (xs):Wf (.jg xs)
variable{v:V}
def VR.wf{c:Value}(h:VR e J p v c):v.Wf:=by induction h with|u c=>exact .u|b v=>exact .b v|i k n=>exact .i k n|s l v A y=>exact .s l y|nil=>exact .nil|FX j=>exact .sl j [] (by simp) (by simp) (by simp[gv])|sle j a=>exact .sl j [] (by simp) (by simp) (by simp[gv])|sl j m b o H f x E z D q ih=>exact .sl j m (cE x E) z ih|PO j=>exact .lit j _|lit j m b o f E z D q ih=>exact .lit j m|own id g c t h=>exact .own id g|sub id g F B c t h=>exact .sub id g F B|ptr id d b h y=>exact .ptr id d|ep j m i d b o f B z D q ih=>exact .ep j m i d|rp id g i d c t h=>exact .rp id g i d|mp id r h y=>exact .mp id|l0=>exact .l0|mV=>exact .mV|fn f w C A q ih=>exact .fn f w|agg m C A q ih=>exact .agg m ih|jg m C A q ih=>exact .jg m
def bT:Prop:=∀(id T:Nat) (a:aB),E[id]?=S (.box T a)->∀(j:Nat) (x:V),a[j]?=S x->x.Lt (Y E)
def l8.closed{w:bQ}(a:l8 X B e w J p):bT J:=by intro id T i h j x d;obtain⟨b,g,_,_,_,_,f⟩:=a.TI h;obtain⟨u,_,c⟩:=f j x d;exact c.lt
def Wk(P:bG)(n:Nat)(xs:aB)(J:aj)(c:aB)(d:aj):Prop :=∀(B:Nat) (e w:bQ) (b:Mem) (f:Array Value),l8 P B e w J b->CR w J b xs f->∃a,l8 P B e w d a/\CR w d a c f/\jI n w J b w d a
def Wk.refl:Wk X B D E D E:=λ_ _ _ c _ a b=>⟨c,a,b,jI.refl _ _ _ _⟩
def Wk.trans{b:aB}{c:aj}(h:Wk X B T J N o)(k:Wk X B N o b c):Wk X B T J b c:=by intro a f w i g j m;obtain⟨e,n,q,s⟩:=h a f w i g j m;obtain⟨d,r,p,l⟩:=k a f w e g n q;exact⟨d,r,p,s.trans l⟩
def cB.wk{c:aJ}{K:bL}(h:Wk X B T J N o)(k:cB B X c K ⟨N,o⟩):cB B X c K ⟨T,J⟩:=by intro d v b m w s a n f;obtain⟨i,t,l,p⟩:=h b m w s a.tmps n ⟨f.2.1.symm,f.2.2⟩;exact wp_mono (k d v b m w i a t ⟨f.1,l.1.symm,l.2⟩) λe z y ⟨j,g,u,r,x,q⟩=>⟨j,g,u,r,x,p.trans q⟩
def PC.wk{b args':aB}{Q:V->aj->Prop}(h:Wk X J.length b J args' o)(k:PC X B args' o Q):PC X B b J Q:=by intro a m w t i n g;obtain⟨d,y,j,p⟩:=h a m w t i n ⟨g.1.symm,g.2⟩;refine(k a m w d i y ⟨j.1.symm,j.2⟩).mono ?_;rintro e C ⟨r,v,f,c,rfl,z,s,A,q⟩;exact⟨r,v,f,c,rfl,z,s,A,λx u l=>q x u (p x u l l.lt)⟩
inductive Cv:V->V->Prop
 |refl (x):Cv x x
 |forget (x):Cv x .u
 |nil (sz):Cv .nil (.sl sz [])
 |lit (sz xs):Cv (.lit sz xs) (.sl sz xs)
 |agg (xs ys:aB) (hl:ys.length=xs.length) (h:∀(i:Nat) (x y:V),xs[i]?=some x->ys[i]?=some y->Cv x y):Cv (.agg xs) (.agg ys)
 |jg (xs ys:aB) (hl:ys.length=xs.length) (h:∀(i:Nat) (x y:V),xs[i]?=some x->ys[i]?=some y->Cv x y):Cv (.jg xs) (.jg ys)
def Cv.ok{x y:V}(h:Cv x y):∀{v:Value},VR e J p x v->VR e J p y v:=by
 induction h with
 |refl x=>exact λh=>h
 |forget x=>exact λ_=>.u _
 |nil q=>intro v h;rw[h.pJ];exact .FX _
 |lit q a =>
  intro v h;rcases h.wN with⟨rfl,rfl⟩|⟨b,o,f,rfl,r,n⟩;.exact .FX _
  exact .sl _ _ b o _ f (aM _) r n.1 n.2.1 n.2.2
 |agg a j d s ih =>
  intro v h;obtain⟨l,rfl,k,m⟩:=h.wO;refine .agg j l (by rw[d,k]) λi y g=>?_;have c:i<Y a:=by rw[<- d];exact(ag.1 g).1
  exact ih i a[i] y (aD c) g (m i _ (aD c))
 |jg a j d s ih =>
 intro v h;obtain⟨l,rfl,k,m⟩:=h.PT;refine .jg j l (by rw[d,k]) λi y g=>?_;have c:i<Y a:=by rw[<- d];exact(ag.1 g).1
 exact ih i a[i] y (aD c) g (m i _ (aD c))
inductive rk:aB->aB->Prop
 |nil:rk [] []
 |cons {x y xs ys} (h:Cv x y) (t:rk xs ys):rk (x::xs) (y::ys)
def rk.at{b a:aB}(h:rk b a):Y a=Y b/\∀(i:Nat) (x y:V),b[i]?=S x->a[i]?=S y->Cv x y:=by
 induction h with
 |nil=>simp
 |cons h t ih =>refine⟨by simp[ih.1],λi x y c d=>?_⟩;cases i with|zero=>simp only[aC,ab]at c d;subst c;subst d;exact h|succ i=>exact ih.2 i x y (by simpa using c) (by simpa using d)
def rk.refl:rk D D:=by induction D with|nil=>exact .nil|cons x D ih=>exact .cons (.refl x) ih
def Cv.iV(h:rk T N):Cv (.agg T) (.agg N):=.agg T N h.at.1 h.at.2
def Wk.fw{b ys:aB}(h:rk b ys):Wk X B b J ys J:=by
 intro a l w g m j e;obtain⟨d,k⟩:=h.at;refine⟨g,j,⟨by rw[d];exact e.1,λi y f=>?_⟩,jI.refl _ _ _ _⟩;have c:i<Y b:=by rw[<- d];exact(ag.1 f).1
 exact(k i b[i] y (aD c) f).ok (e.2 i _ (aD c))
def Wk.share{P:bG}{n:Nat}{xs:aB}{J:aj}{id E sz by' g:Nat}{sh:Bool}{rows:fx}(a:J[id]?=S (.row E sz by' g sh rows)):Wk P n xs J xs (J.set id (.row E sz by' g θ rows)):=by
 intro B O w p L k l;have d:id<J.length:=(ag.1 a).1;have c:=k.update (w':=w) (J':=J.set id (.row E sz by' g θ rows)) (μ':=p) id Z (grownBy_refl w Z) (by simp) (by simp) (λj F=>bN (λe=>F e.symm)) (λ_ _=>rfl)
  (λb q=>.inl ⟨_,a,by simp,q⟩)
  (λb r u o f _ s v H=>⟨v,λM m U=>by
   rw[a]at f;simp only[ab]at f;subst f;simp only[aT d,ab]at m;subst m;intro C;exact H ⟨id,_,a,s,λ_=>C rfl⟩⟩)
  (λT V h=>by rw[a]at h;simp at h) (λK E Q h=>by rw[a]at h;simp at h)
  (λR I D N A y _ h=>by
   simp only[aT d,ab,Ob.row.injEq]at h;obtain⟨rfl,rfl,rfl,rfl,rfl,rfl⟩:=h;exact⟨g,sh,rows,a,aM _,λ_=>⟨rfl,rfl⟩⟩)
  (λz o h=>by simp only[aT d,ab]at h;subst h;exact(k.obj id _ a).eY z.eY λ_ _=>rfl);exact⟨p,c.1,⟨l.1,λi x t=>(l.2 i x t).mono c.2⟩,c.2.eY.Ua⟩
def VR.Av{P w:bQ}{J:aj}{μ:Mem}(F:l8 X B P w J μ){id E c y g:Nat}{a:fx}(A:J[id]?=S (.row E c y g θ a))(d e:Nat)(T:d<=e)(R:e<=Y a): VR w J μ (.sl c ((a.drop d).take (e - d))) (pS (μ id) d e c):=by
 obtain⟨_,I,z⟩:=F.rowAt A;have L:Y ((a.drop d).take (e - d))=e - d:=by simp;omega
 rcases z with⟨p,O⟩|⟨b,n,M,p,_,W,V,_,z⟩
 .subst O;simp only[ai]at R;have k:d=0:=by omega
  have K:e=0:=by omega
  subst k;subst K;rw[p];exact .FX c
 rw[p];let f:Nat->Nat->Value:=λi j=>(w.cell? ⟨b,i*c+j,Z⟩).getD undef;have q:∀i j x,gv a i j=S x->w.cell? ⟨b,i*c+j,Z⟩=S (f i j)/\x.pure=θ/\VR w J μ x (f i j):=by
  intro i j x h;obtain⟨l,u,o,k⟩:=z i j x h;have:f i j=u:=by simp[f,o]
  exact⟨by rw[this];exact o,l,by rw[this];exact k⟩
 have v:∀i j x,gv a i j=S x->¬wr J μ b (i*c+j):=by
  rintro i j x h ⟨t,o2,l,o,k⟩;have Q:o2≠.dead:=by rintro rfl;exact k
  have:=F.sep id t _ o2 b A l (by simp) Q (by simp[p,nQ]) o;subst this;rw[A]at l;simp only[ab]at l;subst l;have K:=k rfl;obtain⟨r,m,D⟩:=ln h;have C:i<Y a:=(ag.1 m).1;have hj:j<c:=by rw[<- I r (aS m)];exact(ag.1 D).1
  have:(i+1)*c<=Y a*c:=cg _ C;rw[dK,jL]at this;omega
 have N:we w J μ a c b 0 f:=⟨I,λi j x h=>⟨by rw[aG];exact(q i j x h).1,by rw[aG];exact v i j x h,(q i j x h).2.1⟩,λi j x h=>(q i j x h).2.2⟩;by_cases H:n=d
 .have k:e - d=0:=by omega
  simp only[pS,H,aU,k,jE,iP];exact .sl c [] b 0 0 f (by simp) (by simp) (by simp) (by simp[gv]) (by simp[gv])
 simp only[pS,H,bw,dV,Addr.add_lit];have s:=N.sub d (e - d);have U:=VR.sl (w:=w) (J:=J) (μ:=μ) c _ b _ (n - d) _ (by rw[L];omega) (by omega) s.1 s.2.1 s.2.2;rwa [L]at U
def Ih{w:bQ}(j:l8 X B e w J p){id E f d g:Nat}{i:Bool}{a:fx}(h:J[id]?=S (.row E f d g i a)):pS (p id) 0 a.length f=p id:=by
 rcases(j.rowAt h).2.2 with⟨c,m⟩|⟨b,k,l,c,_⟩;.subst m;rw[c];rfl
 rw[c];simp[pS,Addr.add_lit]
def Wk.own{J:aj}{k id E sz by' g:Nat}{rows:fx}(f:J[id]?=S (.row E sz by' g θ rows))(j:T[k]?=S (.own id g)):Wk X B T J (T.set k (.sl sz rows)) J:=by
 intro a p w l q c d;have m:k<Y T:=(ag.1 j).1;refine⟨l,c,⟨by simp[d.1],λi y b=>?_⟩,jI.refl _ _ _ _⟩;by_cases h:i=k;.subst h;rw[aT m]at b;simp only[ab]at b;subst b;have n:=d.2 i _ j;have o:=n.nv f;rw[o];have:=VR.Av c f 0 rows.length (by omega) (aM _);rw[Ih c f]at this;simpa using this
 rw[bN (λe=>h e.symm)]at b;exact d.2 i y b
def Wk.sub{k id E n h g f c:Nat}{b:fx}(o:J[id]?=S (.row E n h g θ b))(m:T[k]?=S (.sub id g f c)):Wk X B T J (T.set k (.sl n ((b.drop f).take (c - f)))) J:=by
 intro a u w p v l j;have r:k<Y T:=(ag.1 m).1;refine⟨p,l,⟨by simp[j.1],λi y d=>?_⟩,jI.refl _ _ _ _⟩;by_cases c:i=k;.subst c;rw[aT r]at d;simp only[ab]at d;subst d;obtain⟨q,s,t⟩:=(j.2 i _ m).wM o;rw[t];exact VR.Av l o f _ q s
 rw[bN (λe=>c e.symm)]at d;exact j.2 i y d
def Wk.k9{P:bG}{n:Nat}{xs:aB}{J:aj}{k E sz by':Nat}(h:Ti P E sz by')(f:xs[k]?=S .nil):Wk P n xs J (xs.set k (.own J.length 0)) (J++[.row E sz by' 0 G []]):=by
 intro B m w μ o l b;have j:k<xs.length:=(ag.1 f).1;have c:=l.Aw (w':=w) (.row E sz by' 0 G []) (.slice Z 0 0) (grownBy_refl w Z) (by simp[nQ]) (λ_=>⟨h,[],World.ownsRow_nil w B E sz,by simp,by simp[gv]⟩);refine⟨_,c.1,⟨by simp[b.1],λi y a=>?_⟩,c.2.eY.Ua⟩;by_cases d:i=k;.subst d;rw[aT j]at a;simp only[ab]at a;subst a;rw[(b.2 i _ f).pJ];have:=VR.ue (w:=w) (J:=J++[.row E sz by' 0 G []]) (μ:=Bh μ J.length (.slice Z 0 0)) (id:=J.length) (E:=E) (sz:=sz) (by':=by') (g:=0) (sh:=G) (xs:=[]) (by simp);rwa [iy]at this
 rw[bN (λe=>d e.symm)]at a;exact(b.2 i y a).mono c.2
def oE(h:v.pure=θ)(m:Nat):v.Lt m:=by
 cases v<;>simp[V.pure]at h;.exact .b _
 .exact .i _ _
 .exact .s _
 exact .sl _ _
def VR.take{μ:Mem}{c:Value}(h:VR e J μ v c){m:Nat}(B:m<=Y J)(d:v.Lt m):VR e (J.take m) μ v c:=by
 have Q:∀b q,wr (J.take m) μ b q->wr J μ b q:=by
  rintro b q ⟨id,o,A,X,V⟩;refine⟨id,o,?_,X,V⟩;rw[fZ]at A;split at A;.exact A
  simp at A
 have D:∀{id:Nat} {o:Ob},id<m->((J.take m)[id]?=S o<->J[id]?=S o):=λh=>by rw[cD h]
 have w:Y (J.take m)=m:=by simp;omega
 induction h with
 |u c=>exact .u c
 |b v=>exact .b v
 |i k n=>exact .i k n
 |s l v p B=>exact .s l v p B
 |nil=>exact .nil
 |FX t=>exact .FX t
 |sle t a=>exact .sle t a
 |sl t x b o R f w U H y C ih =>exact .sl t x b o R f w U H (λi j v d=>⟨(y i j v d).1,λh=>(y i j v d).2.1 (Q _ _ h),(y i j v d).2.2⟩) (λi j v d=>ih i j v d (oE (y i j v d).2.2 m))
 |PO t=>exact .PO t
 |lit t x b o f U H y C ih =>exact .lit t x b o f U H (λi j v d=>⟨(y i j v d).1,λh=>(y i j v d).2.1 (Q _ _ h),(y i j v d).2.2⟩) (λi j v d=>ih i j v d (oE (y i j v d).2.2 m))
 |own id g c M h =>
  cases d with
  |own _ _ p=>exact .own id g c (by rw[w];exact p) λE t z I N x O=>h E t z I N x ((D p).1 O)
 |sub id g lo P c M h =>
  cases d with
  |sub _ _ _ _ p=>exact .sub id g lo P c (by rw[w];exact p) λE t z I N x O=>h E t z I N x ((D p).1 O)
 |ptr id q b h B =>
  cases d with
  |ptr _ _ p =>obtain⟨T,W,A⟩:=h;exact .ptr id q b ⟨T,W,(D p).2 A⟩ B
 |ep t x i q b o f P H y C ih =>exact .ep t x i q b o f P H (λj v d=>⟨(y j v d).1,λh=>(y j v d).2.1 (Q _ _ h),(y j v d).2.2⟩) (λj v d=>ih j v d (oE (y j v d).2.2 m))
 |rp id g i q c M h =>
  cases d with
  |rp _ _ _ _ p=>exact .rp id g i q c (by rw[w];exact p) λE t z I N x O=>h E t z I N x ((D p).1 O)
 |mp id r h B =>
  cases d with
  |mp _ p =>obtain⟨K,E,es,A⟩:=h;exact .mp id r ⟨K,E,es,(D p).2 A⟩ B
 |l0=>exact .l0
 |mV=>exact .mV
 |fn f F L p C ih =>
  cases d with
  |fn _ _ h=>exact .fn f F L p λi v d=>ih i v d (h i v d)
 |agg x L p C ih =>
  cases d with
  |agg _ h=>exact .agg x L p λi v d=>ih i v d (h i v d)
 |jg x L p C ih =>cases d with|jg _ h=>exact .jg x L p λi v d=>ih i v d (h i v d)
def Bu(h:v.vC=θ)(m:Nat):v.Lt m:=by
 cases v<;>simp[V.vC]at h;.exact .b _
 .exact .i _ _
 .exact .s _
 rename_i c;refine .agg _ λi v a=>?_;have:=h v (aS a);cases v<;>simp[V.am9]at this;.exact .b _
 .exact .i _ _
 exact .s _
def Bs(h:v.Hm=θ)(m:Nat):v.Lt m:=by
 by_cases a:∃b,v=.agg b;.obtain⟨b,rfl⟩:=a;simp only[V.Hm,df]at h;exact .agg _ λi v c=>oE (h v (aS c)) m
 refine oE ?_ m;cases v<;>first|exact h|exact absurd ⟨_,rfl⟩ a
def Wk.drop{P:bG}{n m:Nat}{xs:aB}{J:aj}(F:n<=m)(l:m<=Y J)(U:∀(i:Nat) (x:V),xs[i]?=S x->x.Lt m)(bc:∀(id T:Nat) (C:aB),id<m->J[id]?=S (.box T C)->∀(j:Nat) (x:V),C[j]?=S x->x.Lt m):Wk P n xs J xs (J.take m):=by
 intro B w0 w μ vs D O;have H:∀{id:Nat} {o:Ob},(J.take m)[id]?=S o->id<m/\J[id]?=S o:=by
  intro id o h;rw[fZ]at h;split at h;.exact⟨by assumption,h⟩
  simp at h
 refine⟨μ,⟨D.below,D.base,λid o ho=>?_,λi j oi W b M q f d c a=>D.sep i j oi W b (H M).2 (H q).2 f d c a⟩,⟨O.1,λi x t=>(O.2 i x t).take l (U i x t)⟩,λx v R hl=>R.take l (hl.mono F)⟩;obtain⟨N,y⟩:=H ho;have L:=D.obj id o y;cases o with
 |dead=>trivial
 |box T C =>obtain⟨b,us,f,d,c,a,s⟩:=L;exact⟨b,us,f,d,c,a,λj x q=>let ⟨u,p,I⟩:=s j x q;⟨u,p,I.take l (bc id T C N y j x q)⟩⟩
 |row E sz ac g sh Q =>obtain⟨f,z,d,c⟩:=L;exact⟨f,z,d,c.1,λi j x q=>let ⟨a,u,s,p⟩:=c.2 i j x q;⟨a,u,s,p.take l (oE a m)⟩⟩
 |map K E es =>obtain⟨r,A,clock,f,d,c,a⟩:=L;exact⟨r,A,clock,f,d,c,a.1,λi k x M=>let ⟨s,p,e,I,h8,X⟩:=a.2.1 i k x M;⟨s,p,e,I,h8.take l (Bu s m),X.take l (Bs p m)⟩,a.2.2⟩
def Wk.lS{P:bG}{n:Nat}{xs:aB}{J loc:aj}(b:n<=Y J)(c:bT J)(e:∀(i:Nat) (x:V),xs[i]?=some x->x.Lt (Y J)):Wk P n xs (J++loc) xs J:=by have:=Wk.drop (P:=P) (n:=n) (m:=Y J) (xs:=xs) (J:=J++loc) b (by simp) e (λid T f a h j x d=>c id T f (by rwa [bg a]at h) j x d);simpa using this
inductive Rs where
 |t (n:Nat)
 |c (n:Nat) (k:dE)
structure nR where
 nt:Nat
 rs:List Rs
 c:aJ
def cRs(P:bG):List ResultVar->Option (List Rs)
 |[]=>S []
 |.tmp t::r=>(cRs P r).map (.t t::·)
 |.cell t T::r=>match mo P T,P.info? T,cRs P r with
  |some θ,S b,S a=>S (.c t (S b.size)::a)
  |some G,S _,S a=>S (.c t Z::a)
  |_,_,_=>Z
def gK(b:Func):Option nR :=
 match b.body with
 |some a=>match jx F a,cRs F b.results.toList with
  |some c,S d=>S ⟨b.ntmps,d,c⟩
  |_,_=>Z
 |none=>Z
def yy(st:St):Rs->Option V
 |.t n=>S (st.fr.getD n .u)
 |.c n k=>match st.fr.getD n .u with
  |.ptr id off=>match st.J[id]? with
   |some (.box _ cs)=>match k with
    |none=>cs[off]?
    |some m=>if off+m<=Y cs then S (.agg ((cs.drop off).take m))else Z
   |_=>Z
  |_=>Z
def mS(st:St):List Rs->Option (aB)
 |[]=>S []
 |r::rs=>match yy st r,mS st rs with
  |some x,S a=>S (x::a)
  |_,_=>Z
def one:aB->V|[x]=>x|xs=>.jg xs
def zy(d:List Rs)(Q:V->aj->Prop)(e:Exit)(st:St):Prop :=(e=.normal\/e=.ret)/\∃b,mS st d=S b/\∃r c,Wk F a [one b] st.J [r] c/\Q r c
def Uy(b:Array Value):ResultVar->Sem Value
 |.tmp t=>pure (b.getD t undef)
 |.cell a t=>do loadVar t (<- asAddr (b.getD a undef))
def Uw(b:Func)(a:Array Value):results b a=(do let vs <- b.results.mapM (Uy a);pure (if h:vs.size=1 then vs[0]else .tuple vs)):=rfl
def F0{P:bG}{B:Nat}{R w:bQ}{st:St}{μ:Mem}{a:Act}(H:l8 P B R w st.J μ)(A:FR w st.J μ st.fr a):∀(l:List ResultVar) (q:List Rs) (s:aB),cRs P l=S q->mS st q=S s ->
  ∃o:List Value,(l.mapM (Uy a.tmps)).run P w=.ok o w/\Y o=Y s/\∀(i:Nat) (x:V),s[i]?=S x->VR w st.J μ x (o.getD i undef)
 |[],q,s,hc,hx=>by
  simp only[cRs,ab]at hc;subst hc;simp only[mS,ab]at hx;subst hx;exact⟨[],by simp,rfl,by simp⟩
 |r::l,q,s,hc,hx=>by
  have F:∃C d,q=C::d/\cRs P l=S d/\∀x,yy st C=S x->∃v,(Uy a.tmps r).run P w=.ok v w/\VR w st.J μ x v:=by
   cases r with
   |tmp t =>
    simp only[cRs,aL]at hc;obtain⟨d,f,rfl⟩:=hc;refine⟨.t t,d,rfl,f,λx h=>⟨_,rfl,?_⟩⟩;simp only[yy,ab]at h;subst h;exact A.at t
   |cell t T =>
    simp only[cRs]at hc
    have inner:∀(g:Bool) (m:TypeInfo),mo P T=S g->P.info? T=S m->∀x,yy st (.c t (if g then S m.size else Z))=S x->∃v,(do loadVar T (<- asAddr (a.tmps.getD t undef)):Sem Value).run P w=.ok v w/\VR w st.J μ x v:=by
     intro g m p e x h;simp only[yy]at h;split at h
     .rename_i id off Q;have f:=Q▸A.at t;obtain⟨b,N,I,_⟩:=f.yG;split at h
      .rename_i T' W X;obtain⟨b',o,n,hB,hh,jl,K⟩:=H.TI X;rw[N]at n;simp only[Value.pointer.injEq,ab,Addr.mk.injEq,cK]at n;subst n;have u:=SE (P:=P) (J:=st.J) (μ:=μ) (row:=W) (k:=if g then S m.size else Z) (b:=b) (off:=off) e (SM p) off (λj z hz=>K _ z hz)
       have he:(do loadVar T (<- asAddr (a.tmps.getD t undef)):Sem Value).run P w=(Instr.loadAt T (.pointer (S ⟨b,off,Z⟩))).run P w:=by
        rw[I];rfl
       rw[he];cases g
       .simp only[aP,bw]at h u;exact u.1 trivial x h
       .simp only[aU]at h u;split at h<;>simp only[ab,reduceCtorEq]at h;rename_i E;subst h;exact u.2 _ rfl E
      .simp at h
     .simp at h
    split at hc<;>simp only[ab,reduceCtorEq]at hc
    .rename_i m d p e f;exact⟨_,d,hc.symm,f,λx h=>inner θ m p e x h⟩
    .rename_i m d p e f;exact⟨_,d,hc.symm,f,λx h=>inner false m p e x h⟩
  obtain⟨C,d,rfl,f,h2⟩:=F;simp only[mS]at hx;split at hx<;>simp only[ab,reduceCtorEq]at hx;rename_i x ys zw O;subst hx;obtain⟨v,L,h4⟩:=h2 x zw;obtain⟨o,h5,U,M⟩:=F0 H A l d ys f O;refine⟨v::o,?_,by simp[U],λi y D=>?_⟩
  .simp only[List.mapM_cons,Sem.run_bind,L,Result.andThen_ok,h5,Sem.run_pure]
  .cases i with
   |zero=>simp only[aC,ab]at D;subst D;simpa using h4
   |succ i=>simpa using M i y (by simpa using D)
abbrev bh(P:Program)(f:Nat)(a:List V)(J:aj)(y:V):Prop:=PC P f a J λr b=>r=y/\b=J
def aW{P:bG}{f:Nat}{j:Func}{E:nR}{a:aB}{J:aj}{Q:V->aj->Prop}(hf:P.funcs[f]?=S j)(m:gK P j=S E) (h:bT J->(∀(i:Nat) (x:V),a[i]?=S x->x.Wf/\x.Lt (Y J))->cB J.length P E.c (zy P J.length E.rs Q) ⟨a++List.replicate (E.nt - Y a) .u,J⟩):PC P f a J Q:=by
 unfold gK at m;split at m
 .rename_i C hb;split at m<;>simp only[ab,reduceCtorEq]at m;rename_i c rs Hr XW;subst m;intro B H w M n U p;refine calls_of_wp hf hb ?_;have hF:FR w J M (a++List.replicate (j.ntmps - Y a) .u) { tmps:=n++Array.replicate (j.ntmps - n.size) undef,defers:=[] }:=by
   refine⟨rfl,by simp[p.1],λi x b=>?_⟩;by_cases T:i<Y a
   .rw[bg T]at b;have N:=p.2 i x b;have GG:i<n.size:=by rw[p.1];exact T
    have e:(n++Array.replicate (j.ntmps - n.size) undef).getD i undef=n.getD i undef:=by simp only[cZ,ma GG]
    simp only[e];exact N
   rw[bn (by omega)]at b;have:x=.u:=by have:=(ag.1 b).2;simpa using this.symm
   subst this;exact .u _
  refine wp_mono (h U.closed (λi x b=>⟨(p.2 i x b).wf,(p.2 i x b).lt⟩) C Hr B H w M _ U hF) ?_;rintro e W g ⟨R,d,hK,t,k,X⟩;obtain⟨he,F,zu,r,l,hw,hQ⟩:=hK;obtain⟨o,N,I,s⟩:=F0 t k j.results.toList rs F XW zu;have O:∃v,(results j W.tmps).run P g=.ok v g/\VR g R.J d (one F) v:=by
   have D:(results j W.tmps).run P g=.ok (if h:o.toArray.size=1 then o.toArray[0]else .tuple o.toArray) g:=by rw[Uw,Array.mapM_eq_mapM_toList];simp only[Sem.run_bind,Sem.run_map,N,Result.andThen_ok,Sem.run_pure]
   refine⟨_,D,?_⟩;match F,o,I,s with
   |[x],[u],_,s=>have:=s 0 x rfl;exact this
   |[],[],_,_=>exact .jg [] #[] rfl (by simp)
   |x::y::F,u::v::o,I,s =>
    have jw:¬((u::v::o).toArray.size=1):=by simp
    rw[dif_neg jw];exact .jg _ _ (by simpa using I.symm) λi z hz=>by have:=s i z hz;simpa[aA]using this
  obtain⟨v,D,K⟩:=O;obtain⟨L,h4,h5,h6⟩:=hw B H g d #[v] t ⟨rfl,λi x b=>by
   cases i with
   |zero=>simp only[aC,ab]at b;subst b;simpa using K
   |succ i=>simp at b⟩;have q:∃r A l d,Ending.returned v=.returned A/\Q r l/\l8 P B H g l d/\VR g l d r A/\uS w J M g l d :=
   ⟨r,v,l,L,rfl,hQ,h4,by have:=h5.2 0 r rfl;simpa using this,λx u b=>h6 x u (X x u b b.lt) b.lt⟩;rcases he with rfl|rfl;.exact⟨k.1,v,D,q⟩
  exact⟨k.1,v,D,q⟩
 simp at m
def gw(n:Nat)(P:bG)(c:aJ)(K:bL):Nat->ck
 |0,_=>False
 |N+1,st=>cB n P c (λe=>match e with
  |.normal=>gw n P c K N
  |e=>K e) st
def cB.kT{c:aJ}{K:bL}{st:St}(h:gw B X c K a st):cB B X (.loop c) K st:=by
 intro u p;cases u;case loop c' =>
  simp only[jx,aL,aJ.loop.injEq]at p;obtain⟨F,D,rfl⟩:=p;intro d z w y b C A;refine ze a (λk x t=>∃st2 m,gw B X F K k st2/\l8 X d z t st2.J m/\FR t st2.J m st2.fr x/\jI B w st.J y t st2.J m) ⟨st,y,h,C,A,jI.refl _ _ _ _⟩ ?_;rintro k x t ⟨st2,m,s,E,v,q⟩;cases k with
  |zero=>exact s.elim
  |succ k =>refine wp_mono (s c' D d z t m x E v) ?_;rintro e I H ⟨j,g,o,f,i,n⟩;cases e with|normal=>exact⟨k,Nat.lt_succ_self k,j,g,o,f,i,q.trans n⟩|exit id=>exact⟨j,g,o,f,i,q.trans n⟩|goto l=>exact⟨j,g,o,f,i,q.trans n⟩|ret=>exact⟨j,g,o,f,i,q.trans n⟩|panic c=>exact⟨j,g,o,f,i,q.trans n⟩|outgrown=>exact⟨j,g,o,f,i,q.trans n⟩
 all_goals first|(exfalso;revert p;simp only[jx];try ((repeat' split)<;>simp);done)|(rename_i _ ops r;exfalso;cases r<;>simp only[jx]at p<;>first|(obtain⟨_,_,_,h⟩:=mD p;simp at h;done)|(rcases lz p with⟨_,_,_,_,h,_⟩|⟨_,_,h,_⟩|⟨_,_,_,_,_,_,h,_⟩<;>simp at h;done))
def HA(id:Nat)(K:bL):bL|.exit id'=>if id'=id then K .normal else K (.exit id')|e=>K e
def ane(P:bG)(c:aJ)(K:bL)(N:Nat):bL|.normal=>gw a P c K N|e=>K e
def abr(K:bL):bL|.normal=>A|e=>K e
def Ya:aJ->(ck)->ck|.pO ds last gs tail,k,st=>zx F ds last (oC F gs tail k) st|_,_,_=>False
def Tq{c:aJ}{st:St}(h:Ya X c Q st):∃b last d a,c=.pO b last d a/\zx X b last (oC X d a Q) st:=by cases c with|pO b last d a=>exact⟨b,last,d,a,rfl,h⟩|_=>exact h.elim
def G7(n:Nat)(P:bG):aJ->(bL)->ck
 |.skip,K,st=>K .normal st
 |.ij gs is,K,st=>oC P gs is (K .normal) st
 |.pO ds last gs tail,K,st=>zx P ds last (oC P gs tail (K .normal)) st
 |.seq a b,K,st=>G7 n P a (abr (G7 n P b K) K) st
 |.ite c a b,K,st=>match ev st.fr c with
  |.b x=>(x=θ->G7 n P a K st)/\(x=G->G7 n P b K st)
  |_=>False
 |.block id c,K,st=>G7 n P c (HA id K) st
 |.loop c,K,st=>cB n P (.loop c) K st
 |.exit id,K,st=>K (.exit id) st
 |.ret,K,st=>K .ret st
 |.both a b,K,st=>Ya P a (K .normal) st/\Ya P b (K .normal) st
 |.dfl fls ds1 ds2 last gs tail,K,st=>E1 P (TG fls) ds1 ds2 last (oC P gs tail (K .normal)) (Du st.J.length fls st.fr) st.J []
def aq{n:Nat}{P:bG}:∀{c:aJ} {K:bL} {st:St},G7 n P c K st->cB n P c K st
 |.skip,_,_,h=>cB.skip h
 |.ij _ _,_,_,h=>cB.ij h
 |.pO _ _ _ _,_,_,h=>cB.pO h
 |.seq a b,K,st,h=>cB.seq ((aq (c:=a) h).mono λe g d=>by
   cases e with
   |normal=>exact aq (c:=b) d
   |_=>exact d)
 |.ite c a b,K,st,h=>by
  simp only[G7]at h;split at h;.rename_i x k;exact cB.ite k (λf=>aq (h.1 f)) λf=>aq (h.2 f)
  exact h.elim
 |.block id c,K,st,h=>cB.block ((aq (c:=c) h).mono λe g d=>by
   cases e with
   |exit i =>simp only[HA]at d;simp only[FJ];split at d<;>rename_i j<;>simp only[j,aU,bw]<;>exact d
   |_=>exact d)
 |.loop _,_,_,h=>h
 |.exit _,_,_,h=>cB.exit h
 |.ret,_,_,h=>cB.ret h
 |.both _ _,_,_,h=>cB.both (Tq h.1) (Tq h.2)
 |.dfl ..,_,_,h=>cB.dfl h
def aeB:TG []=[]:=rfl
def aav(d T:Nat)(zs:aB)(r:List (Nat×Nat×aB)):TG ((d,T,zs)::r)=.box T zs::TG r:=rfl
def aaf:oq []=[]:=rfl
def VM(o:Ob)(r:List Ob):oq (o::r)=.dead::oq r:=rfl
def abo(n:Nat)(fr:aB):Du n [] fr=fr:=rfl
def Yz(n d T:Nat)(zs:aB)(r:List (Nat×Nat×aB))(fr:aB):Du n ((d,T,zs)::r) fr=Du (n+1) r (fr.set d (.ptr n 0)):=rfl
def abz{c:aJ}{K:bL}{N:Nat}{st:St}(h:G7 B X c (ane B X c K N) st):gw B X c K (N+1) st:=by simp only[gw];exact(aq h).mono λe b a=>by cases e<;>exact a
def TK{id:Nat}{K:bL}:HA id K .normal=K .normal:=rfl
def aeF{id:Nat}{K:bL}:HA id K .ret=K .ret:=rfl
def aax{id:Nat}{K:bL}:HA id K (.exit id)=K .normal:=by simp only[HA,aU]
def aay{id a:Nat}{K:bL}:HA id K (.exit a)=if a=id then K .normal else K (.exit a):=rfl
def Rk{k:ck}{K:bL}:abr k K .normal=k:=rfl
def abq{k:ck}{K:bL}:abr k K .ret=K .ret:=rfl
def YA{k:ck}{K:bL}{id:Nat}:abr k K (.exit id)=K (.exit id):=rfl
def pI(r:Option (Prop×V))(d:dE)(K:ck)(fr:aB)(J:aj):Prop :=
 match r with|some (a,v)=>a/\K ⟨iM fr d v,J⟩|none=>False
def xI(r:Option (Prop×V×aj))(d:dE)(K:ck)(fr:aB):Prop :=
 match r with|some (a,v,b)=>a/\K ⟨iM fr d v,b⟩|none=>False
def qI(r:Option (Prop×V))(c:Bool)(d:dE)(K:ck)(fr:aB)(J:aj):Prop :=
 match r with|some (a,v)=>(c=θ->a)/\K ⟨iM fr d v,J⟩|none=>False
def afQ{a:Prop}{v:V}{d:dE}{K:ck}{fr:aB}{J:aj}:pI (S (a,v)) d K fr J=(a/\K ⟨iM fr d v,J⟩):=rfl
def afm{a:Prop}{v:V}{d:dE}{K:ck}{fr:aB}{b:aj}:xI (S (a,v,b)) d K fr=(a/\K ⟨iM fr d v,b⟩):=rfl
def afN{a:Prop}{v:V}{c:Bool}{d:dE}{K:ck}{fr:aB}{J:aj}:qI (S (a,v)) c d K fr J=((c=θ->a)/\K ⟨iM fr d v,J⟩):=rfl
def oy{i:I}{fr:aB}{J:aj}(a:i.fD=θ):gI X ⟨d,[],i⟩ Q ⟨fr,J⟩=pI (ct fr J i) d Q fr J:=by
 have b:=Dl (fr:=fr) (J:=J) a;simp only[gI];cases i<;>first|(simp[I.fD]at a;done)|skip
 all_goals
  simp only[oU,pI,b];generalize ct fr J _=r;cases r<;>rfl
def B5{i:I}(b:i.fD=G)(c:∀f a,i≠.call f a)(e:∀x a,i≠.wY x a):gI X ⟨d,[],i⟩ Q ⟨T,J⟩=xI (eZ T J i) d Q T:=by
 have g:ct T J i=Z:=by cases h:ct T J i with|none=>rfl|some r=>rw[DY h]at b;simp at b
 simp only[gI];cases i<;>first|(simp[I.fD]at b;done)|exact absurd rfl (c _ _)|exact absurd rfl (e _ _)|skip
 all_goals
  simp only[oU,xI,g];generalize eZ T J _=r;cases r<;>rfl
def alU{P:bG}{d:dE}{K:ck}{fr:aB}{J:aj}{x:O}:gI P ⟨d,[],.nL x⟩ K ⟨fr,J⟩=pI (ct fr J (.nL x)) d K fr J:=oy rfl
def ah3{P:bG}{d:dE}{K:ck}{fr:aB}{J:aj}{c a b:O}:gI P ⟨d,[],.pick c a b⟩ K ⟨fr,J⟩=pI (ct fr J (.pick c a b)) d K fr J:=oy rfl
def ad2{P:bG}{d:dE}{K:ck}{fr:aB}{J:aj}{zs:aB}{a:List (Nat×Nat×O)}:gI P ⟨d,[],.build zs a⟩ K ⟨fr,J⟩=pI (ct fr J (.build zs a)) d K fr J:=oy rfl
def Z4{P:bG}{d:dE}{K:ck}{fr:aB}{J:aj}{c:Nat}{a:List (dE)}{b:List O}:gI P ⟨d,[],.gM c a b⟩ K ⟨fr,J⟩=pI (ct fr J (.gM c a b)) d K fr J:=oy rfl
def ah9{P:bG}{d:dE}{K:ck}{fr:aB}{J:aj}{k:dE}{a:O}:gI P ⟨d,[],.load k a⟩ K ⟨fr,J⟩=pI (ct fr J (.load k a)) d K fr J:=oy rfl
def ad0{P:bG}{d:dE}{K:ck}{fr:aB}{J:aj}{x:O}:gI P ⟨d,[],.Cn x⟩ K ⟨fr,J⟩=pI (ct fr J (.Cn x)) d K fr J:=oy rfl
def al3{P:bG}{d:dE}{K:ck}{fr:aB}{J:aj}{a:BinOp}{x y:O}:gI P ⟨d,[],.bin a x y⟩ K ⟨fr,J⟩=pI (ct fr J (.bin a x y)) d K fr J:=oy rfl
def al4{P:bG}{d:dE}{K:ck}{fr:aB}{J:aj}{a:Bool}{b:fb}{x y:O}:gI P ⟨d,[],.beq a b x y⟩ K ⟨fr,J⟩=pI (ct fr J (.beq a b x y)) d K fr J:=oy rfl
def al5{P:bG}{d:dE}{K:ck}{fr:aB}{J:aj}{a:Bool}{x y:O}:gI P ⟨d,[],.bbq a x y⟩ K ⟨fr,J⟩=pI (ct fr J (.bbq a x y)) d K fr J:=oy rfl
def arI{P:bG}{d:dE}{K:ck}{fr:aB}{J:aj}{a:UnOp}{x:O}:gI P ⟨d,[],.un a x⟩ K ⟨fr,J⟩=pI (ct fr J (.un a x)) d K fr J:=oy rfl
def alZ{P:bG}{d:dE}{K:ck}{fr:aB}{J:aj}{k:IntKind}{x:O}:gI P ⟨d,[],.cvi k x⟩ K ⟨fr,J⟩=pI (ct fr J (.cvi k x)) d K fr J:=oy rfl
def al6{P:bG}{d:dE}{K:ck}{fr:aB}{J:aj}{x:O}:gI P ⟨d,[],.b2s x⟩ K ⟨fr,J⟩=pI (ct fr J (.b2s x)) d K fr J:=oy rfl
def adZ{P:bG}{d:dE}{K:ck}{fr:aB}{J:aj}{c:Nat}{x:O}{b a:Option O}:gI P ⟨d,[],.slice c x b a⟩ K ⟨fr,J⟩=pI (ct fr J (.slice c x b a)) d K fr J:=oy rfl
def Z2{P:bG}{d:dE}{K:ck}{fr:aB}{J:aj}{x:O}{b a:Option O}:gI P ⟨d,[],.yr x b a⟩ K ⟨fr,J⟩=pI (ct fr J (.yr x b a)) d K fr J:=oy rfl
def alX{P:bG}{d:dE}{K:ck}{fr:aB}{J:aj}{a:Nat}{x:O}:gI P ⟨d,[],.tU a x⟩ K ⟨fr,J⟩=pI (ct fr J (.tU a x)) d K fr J:=oy rfl
def alW{P:bG}{d:dE}{K:ck}{fr:aB}{J:aj}{a:Nat}{x i:O}:gI P ⟨d,[],.idx a x i⟩ K ⟨fr,J⟩=pI (ct fr J (.idx a x i)) d K fr J:=oy rfl
def ah2{P:bG}{d:dE}{K:ck}{fr:aB}{J:aj}{x i:O}:gI P ⟨d,[],.Rj x i⟩ K ⟨fr,J⟩=pI (ct fr J (.Rj x i)) d K fr J:=oy rfl
def alY{P:bG}{d:dE}{K:ck}{fr:aB}{J:aj}{k:Nat}{x:O}:gI P ⟨d,[],.ext k x⟩ K ⟨fr,J⟩=pI (ct fr J (.ext k x)) d K fr J:=oy rfl
def alV{P:bG}{d:dE}{K:ck}{fr:aB}{J:aj}{a:Bool}{x:O}:gI P ⟨d,[],.len a x⟩ K ⟨fr,J⟩=pI (ct fr J (.len a x)) d K fr J:=oy rfl
def ah7{P:bG}{d:dE}{K:ck}{fr:aB}{J:aj}{x y:O}:gI P ⟨d,[],.max2 x y⟩ K ⟨fr,J⟩=pI (ct fr J (.max2 x y)) d K fr J:=oy rfl
def ah6{P:bG}{d:dE}{K:ck}{fr:aB}{J:aj}{x y:O}:gI P ⟨d,[],.min2 x y⟩ K ⟨fr,J⟩=pI (ct fr J (.min2 x y)) d K fr J:=oy rfl
def ah8{P:bG}{d:dE}{K:ck}{fr:aB}{J:aj}{a:Nat}{z:V}{ok:Bool}{m k:O}:gI P ⟨d,[],.look a z ok m k⟩ K ⟨fr,J⟩=pI (ct fr J (.look a z ok m k)) d K fr J:=oy rfl
def ah5{P:bG}{d:dE}{K:ck}{fr:aB}{J:aj}{x:O}:gI P ⟨d,[],.LD x⟩ K ⟨fr,J⟩=pI (ct fr J (.LD x)) d K fr J:=oy rfl
def al2{P:bG}{d:dE}{K:ck}{fr:aB}{J:aj}{T:Nat}{x:O}:gI P ⟨d,[],.box T x⟩ K ⟨fr,J⟩=xI (eZ fr J (.box T x)) d K fr:=B5 rfl (by simp) (by simp)
def ad3{P:bG}{d:dE}{K:ck}{fr:aB}{J:aj}{T:Nat}{zs:aB}:gI P ⟨d,[],.alloc T zs⟩ K ⟨fr,J⟩=xI (eZ fr J (.alloc T zs)) d K fr:=B5 rfl (by simp) (by simp)
def adY{P:bG}{d:dE}{K:ck}{fr:aB}{J:aj}{k:Nat}{b:List (dE)}{a x:O}:gI P ⟨d,[],.store k b a x⟩ K ⟨fr,J⟩=xI (eZ fr J (.store k b a x)) d K fr:=B5 rfl (by simp) (by simp)
def al8{P:bG}{d:dE}{K:ck}{fr:aB}{J:aj}{E b a:Nat}{x y:O}:gI P ⟨d,[],.app E b a x y⟩ K ⟨fr,J⟩=xI (eZ fr J (.app E b a x y)) d K fr:=B5 rfl (by simp) (by simp)
def aib{P:bG}{d:dE}{K:ck}{fr:aB}{J:aj}{E:Nat}{x y:O}:gI P ⟨d,[],.apps E x y⟩ K ⟨fr,J⟩=xI (eZ fr J (.apps E x y)) d K fr:=B5 rfl (by simp) (by simp)
def arJ{P:bG}{d:dE}{K:ck}{fr:aB}{J:aj}{E b a:Nat}{zs:aB}{l c:O}:gI P ⟨d,[],.mk E b a zs l c⟩ K ⟨fr,J⟩=xI (eZ fr J (.mk E b a zs l c)) d K fr:=B5 rfl (by simp) (by simp)
def aia{P:bG}{d:dE}{K:ck}{fr:aB}{J:aj}{E e b:Nat}{a:List (dE)}{c:List O}:gI P ⟨d,[],.VZ E e b a c⟩ K ⟨fr,J⟩=xI (eZ fr J (.VZ E e b a c)) d K fr:=B5 rfl (by simp) (by simp)
def ad1{P:bG}{d:dE}{K:ck}{fr:aB}{J:aj}{T E:Nat}:gI P ⟨d,[],.JI T E⟩ K ⟨fr,J⟩=xI (eZ fr J (.JI T E)) d K fr:=B5 rfl (by simp) (by simp)
def ah4{P:bG}{d:dE}{K:ck}{fr:aB}{J:aj}{b:Nat}{a:List (dE)}{m k x:O}:gI P ⟨d,[],.UZ b a m k x⟩ K ⟨fr,J⟩=xI (eZ fr J (.UZ b a m k x)) d K fr:=B5 rfl (by simp) (by simp)
def aic{P:bG}{d:dE}{K:ck}{fr:aB}{J:aj}{n a:Nat}{x i:O}:gI P ⟨d,[],.TO n a x i⟩ K ⟨fr,J⟩=pI (ct fr J (.TO n a x i)) d K fr J:=oy rfl
def al7{P:bG}{d:dE}{K:ck}{fr:aB}{J:aj}{n:Nat}{x:O}:gI P ⟨d,[],.asl n x⟩ K ⟨fr,J⟩=pI (ct fr J (.asl n x)) d K fr J:=oy rfl
def al1{P:bG}{d:dE}{K:ck}{fr:aB}{J:aj}{f:Nat}{a:List O}:gI P ⟨d,[],.clo f a⟩ K ⟨fr,J⟩=pI (ct fr J (.clo f a)) d K fr J:=oy rfl
def al0{P:bG}{d:dE}{K:ck}{fr:aB}{J:aj}{a:Nat}{zs:aB}{x:O}:gI P ⟨d,[],.Ty a zs x⟩ K ⟨fr,J⟩=xI (eZ fr J (.Ty a zs x)) d K fr:=B5 rfl (by simp) (by simp)
def gX(p:Pi)(r:Option Bool)(K:ck)(fr:aB)(J:aj):Prop :=
 match r with
 |none=>False
 |some c=>match p.i with
  |.load k a=>match ev fr a with
   |.ptr _ _=>qI (ct fr J (.load k a)) c p.d K fr J
   |_=>∃v,(c=θ->∃b,ct fr J (.load k a)=S (b,v)/\b)/\K ⟨iM fr p.d v,J⟩
  |i=>qI (ct fr J i) c p.d K fr J
def o0{p:Pi}(e:p.g≠[])(b:(∀f a,p.i≠.call f a)/\∀x a,p.i≠.wY x a):gI X p Q ⟨T,J⟩=gX p (chainB T p.g) Q T J:=by
 obtain⟨d,g,i⟩:=p;cases g with
 |nil=>exact absurd rfl e
 |cons q h =>simp only[gI,gX];cases chainB T (q::h)with|none=>rfl|some c =>simp only[GL];cases i<;>first|rfl|exact absurd rfl (b.1 _ _)|exact absurd rfl (b.2 _ _)
def alI{P:bG}{d:dE}{q:Nat×Bool}{a:gd}{K:ck}{fr:aB}{J:aj}{x:O}:gI P ⟨d,q::a,.nL x⟩ K ⟨fr,J⟩=gX ⟨d,q::a,.nL x⟩ (chainB fr (q::a)) K fr J:=o0 (by simp) (by simp)
def ahU{P:bG}{d:dE}{q:Nat×Bool}{e:gd}{K:ck}{fr:aB}{J:aj}{c a b:O}:gI P ⟨d,q::e,.pick c a b⟩ K ⟨fr,J⟩=gX ⟨d,q::e,.pick c a b⟩ (chainB fr (q::e)) K fr J:=o0 (by simp) (by simp)
def adV{P:bG}{d:dE}{q:Nat×Bool}{a:gd}{K:ck}{fr:aB}{J:aj}{zs:aB}{b:List (Nat×Nat×O)}:gI P ⟨d,q::a,.build zs b⟩ K ⟨fr,J⟩=gX ⟨d,q::a,.build zs b⟩ (chainB fr (q::a)) K fr J:=o0 (by simp) (by simp)
def ZX{P:bG}{d:dE}{q:Nat×Bool}{b:gd}{K:ck}{fr:aB}{J:aj}{e:Nat}{a:List (dE)}{c:List O}:gI P ⟨d,q::b,.gM e a c⟩ K ⟨fr,J⟩=gX ⟨d,q::b,.gM e a c⟩ (chainB fr (q::b)) K fr J:=o0 (by simp) (by simp)
def ahZ{P:bG}{d:dE}{q:Nat×Bool}{b:gd}{K:ck}{fr:aB}{J:aj}{k:dE}{a:O}:gI P ⟨d,q::b,.load k a⟩ K ⟨fr,J⟩=gX ⟨d,q::b,.load k a⟩ (chainB fr (q::b)) K fr J:=o0 (by simp) (by simp)
def adU{P:bG}{d:dE}{q:Nat×Bool}{a:gd}{K:ck}{fr:aB}{J:aj}{x:O}:gI P ⟨d,q::a,.Cn x⟩ K ⟨fr,J⟩=gX ⟨d,q::a,.Cn x⟩ (chainB fr (q::a)) K fr J:=o0 (by simp) (by simp)
def alO{P:bG}{d:dE}{q:Nat×Bool}{a:gd}{K:ck}{fr:aB}{J:aj}{b:BinOp}{x y:O}:gI P ⟨d,q::a,.bin b x y⟩ K ⟨fr,J⟩=gX ⟨d,q::a,.bin b x y⟩ (chainB fr (q::a)) K fr J:=o0 (by simp) (by simp)
def alP{P:bG}{d:dE}{q:Nat×Bool}{b:gd}{K:ck}{fr:aB}{J:aj}{a:Bool}{c:fb}{x y:O}:gI P ⟨d,q::b,.beq a c x y⟩ K ⟨fr,J⟩=gX ⟨d,q::b,.beq a c x y⟩ (chainB fr (q::b)) K fr J:=o0 (by simp) (by simp)
def alQ{P:bG}{d:dE}{q:Nat×Bool}{b:gd}{K:ck}{fr:aB}{J:aj}{a:Bool}{x y:O}:gI P ⟨d,q::b,.bbq a x y⟩ K ⟨fr,J⟩=gX ⟨d,q::b,.bbq a x y⟩ (chainB fr (q::b)) K fr J:=o0 (by simp) (by simp)
def arH{P:bG}{d:dE}{q:Nat×Bool}{a:gd}{K:ck}{fr:aB}{J:aj}{b:UnOp}{x:O}:gI P ⟨d,q::a,.un b x⟩ K ⟨fr,J⟩=gX ⟨d,q::a,.un b x⟩ (chainB fr (q::a)) K fr J:=o0 (by simp) (by simp)
def alN{P:bG}{d:dE}{q:Nat×Bool}{a:gd}{K:ck}{fr:aB}{J:aj}{k:IntKind}{x:O}:gI P ⟨d,q::a,.cvi k x⟩ K ⟨fr,J⟩=gX ⟨d,q::a,.cvi k x⟩ (chainB fr (q::a)) K fr J:=o0 (by simp) (by simp)
def alR{P:bG}{d:dE}{q:Nat×Bool}{a:gd}{K:ck}{fr:aB}{J:aj}{x:O}:gI P ⟨d,q::a,.b2s x⟩ K ⟨fr,J⟩=gX ⟨d,q::a,.b2s x⟩ (chainB fr (q::a)) K fr J:=o0 (by simp) (by simp)
def adT{P:bG}{d:dE}{q:Nat×Bool}{a:gd}{K:ck}{fr:aB}{J:aj}{e:Nat}{x:O}{c b:Option O}:gI P ⟨d,q::a,.slice e x c b⟩ K ⟨fr,J⟩=gX ⟨d,q::a,.slice e x c b⟩ (chainB fr (q::a)) K fr J:=o0 (by simp) (by simp)
def ZW{P:bG}{d:dE}{q:Nat×Bool}{a:gd}{K:ck}{fr:aB}{J:aj}{x:O}{c b:Option O}:gI P ⟨d,q::a,.yr x c b⟩ K ⟨fr,J⟩=gX ⟨d,q::a,.yr x c b⟩ (chainB fr (q::a)) K fr J:=o0 (by simp) (by simp)
def alL{P:bG}{d:dE}{q:Nat×Bool}{b:gd}{K:ck}{fr:aB}{J:aj}{a:Nat}{x:O}:gI P ⟨d,q::b,.tU a x⟩ K ⟨fr,J⟩=gX ⟨d,q::b,.tU a x⟩ (chainB fr (q::b)) K fr J:=o0 (by simp) (by simp)
def alK{P:bG}{d:dE}{q:Nat×Bool}{a:gd}{K:ck}{fr:aB}{J:aj}{b:Nat}{x i:O}:gI P ⟨d,q::a,.idx b x i⟩ K ⟨fr,J⟩=gX ⟨d,q::a,.idx b x i⟩ (chainB fr (q::a)) K fr J:=o0 (by simp) (by simp)
def ahT{P:bG}{d:dE}{q:Nat×Bool}{a:gd}{K:ck}{fr:aB}{J:aj}{x i:O}:gI P ⟨d,q::a,.Rj x i⟩ K ⟨fr,J⟩=gX ⟨d,q::a,.Rj x i⟩ (chainB fr (q::a)) K fr J:=o0 (by simp) (by simp)
def alM{P:bG}{d:dE}{q:Nat×Bool}{a:gd}{K:ck}{fr:aB}{J:aj}{k:Nat}{x:O}:gI P ⟨d,q::a,.ext k x⟩ K ⟨fr,J⟩=gX ⟨d,q::a,.ext k x⟩ (chainB fr (q::a)) K fr J:=o0 (by simp) (by simp)
def alJ{P:bG}{d:dE}{q:Nat×Bool}{b:gd}{K:ck}{fr:aB}{J:aj}{a:Bool}{x:O}:gI P ⟨d,q::b,.len a x⟩ K ⟨fr,J⟩=gX ⟨d,q::b,.len a x⟩ (chainB fr (q::b)) K fr J:=o0 (by simp) (by simp)
def ahX{P:bG}{d:dE}{q:Nat×Bool}{a:gd}{K:ck}{fr:aB}{J:aj}{x y:O}:gI P ⟨d,q::a,.max2 x y⟩ K ⟨fr,J⟩=gX ⟨d,q::a,.max2 x y⟩ (chainB fr (q::a)) K fr J:=o0 (by simp) (by simp)
def ahW{P:bG}{d:dE}{q:Nat×Bool}{a:gd}{K:ck}{fr:aB}{J:aj}{x y:O}:gI P ⟨d,q::a,.min2 x y⟩ K ⟨fr,J⟩=gX ⟨d,q::a,.min2 x y⟩ (chainB fr (q::a)) K fr J:=o0 (by simp) (by simp)
def ahY{P:bG}{d:dE}{q:Nat×Bool}{a:gd}{K:ck}{fr:aB}{J:aj}{b:Nat}{z:V}{ok:Bool}{m k:O}:gI P ⟨d,q::a,.look b z ok m k⟩ K ⟨fr,J⟩=gX ⟨d,q::a,.look b z ok m k⟩ (chainB fr (q::a)) K fr J:=o0 (by simp) (by simp)
def ah0{P:bG}{d:dE}{q:Nat×Bool}{a:gd}{K:ck}{fr:aB}{J:aj}{n b:Nat}{x i:O}:gI P ⟨d,q::a,.TO n b x i⟩ K ⟨fr,J⟩=gX ⟨d,q::a,.TO n b x i⟩ (chainB fr (q::a)) K fr J:=o0 (by simp) (by simp)
def ahV{P:bG}{d:dE}{q:Nat×Bool}{a:gd}{K:ck}{fr:aB}{J:aj}{x:O}:gI P ⟨d,q::a,.LD x⟩ K ⟨fr,J⟩=gX ⟨d,q::a,.LD x⟩ (chainB fr (q::a)) K fr J:=o0 (by simp) (by simp)
def al(h:PC X B N J (λr a=>r=v/\a=o))(e:R.map (ev T)=N)(f:Q ⟨iM T d v,o⟩): gI X ⟨d,[],.call B R⟩ Q ⟨T,J⟩:=by subst e;exact h.mono λr a ⟨c,b⟩=>by subst c;subst b;exact f
def vY{x:O}{b:aB}(j:ev T x=.fn B N)(f:Ju X B=θ)(h:PC X B b J (λr a=>r=v/\a=o))(c:R.map (ev T)++N=b)(e:Q ⟨iM T d v,o⟩): gI X ⟨d,[],.wY x R⟩ Q ⟨T,J⟩:=by subst c;simp only[gI,oU,j];exact⟨f,h.mono λr a ⟨i,g⟩=>by subst i;subst g;exact e⟩
def dZ{a:V->aj->Prop}(h:PC X B N J a)(c:R.map (ev T)=N)(e:∀r b,a r b->Q ⟨iM T d r,b⟩): gI X ⟨d,[],.call B R⟩ Q ⟨T,J⟩:=by subst c;exact h.mono e
def bV{e:gd}{v:V}{c:Bool}(a:chainB T (q::e)=S c)(h:c=θ->PC X B N J (λr b=>r=v/\b=J))(g:R.map (ev T)=N)(f:Q ⟨iM T d v,J⟩): gI X ⟨d,q::e,.call B R⟩ Q ⟨T,J⟩:=by subst g;simp only[gI,a,GL];exact⟨λa=>(h a).mono λk b ⟨j,i⟩=>by subst j;subst i;exact f,λ_=>⟨v,f⟩⟩
def BL{g:gd}{x:O}{v:V}{c:Bool}(b:chainB T (q::g)=S c) (h:c=θ->∃f a,ev T x=.fn f a/\Ju X f=θ/\PC X f (R.map (ev T)++a) J (λr e=>r=v/\e=J)) (i:Q ⟨iM T d v,J⟩):gI X ⟨d,q::g,.wY x R⟩ Q ⟨T,J⟩:=by simp only[gI,b,GL];refine⟨λb=>?_,λ_=>⟨v,i⟩⟩;obtain⟨f,a,j,m,n⟩:=h b;rw[j];exact⟨m,n.mono λo e ⟨l,k⟩=>by subst l;subst k;exact i⟩
def TD{P:bG}{d:dE}{q:Nat×Bool}{i:gd}{f:Nat}{a:List O}{K:ck}{fr:aB}{J:aj}{g:aB}{Q:V->aj->Prop}{c:Bool}(b:chainB fr (q::i)=S c)(h:c=θ->PC P f g J Q)(j:a.map (ev fr)=g) (l:c=θ->∀r e,Q r e->K ⟨iM fr d r,e⟩) (k:c=G->∃v,K ⟨iM fr d v,J⟩):gI P ⟨d,q::i,.call f a⟩ K ⟨fr,J⟩:=by subst j;simp only[gI,b,GL];exact⟨λb=>(h b).mono (l b),k⟩
def amh(chk:List Pi)(a:List (List Pi×Pi×List Pi))(last:List Pi)(K:ck)(st:St):Prop:=(∀p∈chk,KO p st)/\zx F a last K st
def pw:aj->List Ob->List Ob->List Ob->(aj->aj->Prop)->Prop|τ,[],[],s,K=>K τ s|τ,[],X::Xs,b::s,K=>X=b/\pw τ [] Xs s K|τ,_::a,Xs,y::s,K=>pw (τ++[y]) a Xs s K|_,_,_,_,_=>False
def C3:∀{a:List Ob} {τ:aj} {Xs s:List Ob} {K:aj->aj->Prop},pw τ a Xs s K<->∃d ε,Y d=Y a/\s=d++(Xs++ε)/\K (τ++d) ε
 |[],τ,[],s,K=>by
  simp only[pw];constructor;.intro h;exact⟨[],s,rfl,rfl,by simpa using h⟩
  rintro⟨d,ε,e,rfl,c⟩;obtain rfl:=cd e;simpa using c
 |[],τ,X::Xs,[],K=>by simp only[pw,false_iff];rintro⟨d,ε,e,c,_⟩;simp at c
 |[],τ,X::Xs,b::s,K=>by
  simp only[pw,C3 (a:=[]) (Xs:=Xs)];constructor;.rintro⟨rfl,d,ε,e,rfl,c⟩;obtain rfl:=cd e;exact⟨[],ε,rfl,rfl,c⟩
  rintro⟨d,ε,e,c,f⟩;obtain rfl:=cd e;simp only[ay,aF,fF]at c;exact⟨c.1.symm,[],ε,rfl,c.2,f⟩
 |x::a,τ,Xs,[],K=>by
  simp only[pw,false_iff];rintro⟨d,ε,e,c,_⟩;cases d with
  |nil=>simp at e
  |cons y d=>simp at c
 |x::a,τ,Xs,y::s,K=>by
  simp only[pw,C3 (a:=a) (Xs:=Xs)];constructor;.rintro⟨d,ε,e,rfl,c⟩;exact⟨y::d,ε,by simp[e],rfl,by simpa using c⟩
  rintro⟨d,ε,e,c,f⟩;cases d with|nil=>simp at e|cons z d =>simp only[aF,fF]at c;obtain⟨rfl,rfl⟩:=c;exact⟨d,ε,by simpa using e,rfl,by simpa using f⟩
def grown_of{J J':aj}{a Xs b:List Ob}{K:aj->aj->Prop}(f:Y J'=Y J):grown (J++a) Xs (J'++b) K=pw J' a Xs b K:=by
 rw[amr,C3,grown];constructor
 .rintro⟨j,ε,d,g,h⟩;have e:=List.append_eq_append_iff.1 g;rcases e with⟨c,rfl,rfl⟩|⟨c,rfl,i⟩;.exact⟨c,ε,by simp[f]at d;exact d,rfl,h⟩
  have m:c=[]:=cd (by simp at d f;omega);subst m;simp only[bI,ay]at d i f h;have l:Y a=0:=by simp at d;omega
  exact⟨[],ε,by simp[l],i.symm,by simpa using h⟩
 rintro⟨k,ε,d,rfl,g⟩;exact⟨J'++k,ε,by simp[d,f],by simp,g⟩
def adR{J:aj}{a c b:List Ob}{K:aj->aj->Prop}:grown (J++a) c (J++b) K=pw J a c b K:=grown_of rfl
def ZV{J:aj}{Xs b:List Ob}{K:aj->aj->Prop}:grown J Xs (J++b) K=pw J [] Xs b K:=by have:=grown_of (J:=J) (J':=J) (a:=[]) (Xs:=Xs) (b:=b) (K:=K) rfl;rwa [bI]at this
def Vz{τ:aj}{s:List Ob}{K:aj->aj->Prop}:pw τ [] [] s K=K τ s:=by cases s<;>rfl
def VA{τ:aj}{X a:Ob}{b s:List Ob}{K:aj->aj->Prop}:pw τ [] (X::b) (a::s) K=(X=a/\pw τ [] b s K):=rfl
def Vy{τ:aj}{x y:Ob}{a b s:List Ob}{K:aj->aj->Prop}:pw τ (x::a) b (y::s) K=pw (τ++[y]) a b s K:=by cases b<;>rfl
def anb(bx:List Ob)(chk:List Pi)(ds1 ds2:List (List Pi×Pi×List Pi))(last:List Pi)(K:ck)(τ:aj)(a:List Ob)(st:St):Prop:=(∀p∈chk,KO p st)/\grown τ a st.J (E1 F bx ds1 ds2 last K st.fr)
def am7(bx:List Ob)(L:Pi)(chk:List Pi)(ds1 ds2:List (List Pi×Pi×List Pi))(last:List Pi)(K:ck)(τ ε:aj)(st:St):Prop:=V4 bx λa=>gI F L (anb F bx chk ds1 ds2 last K τ a) ⟨st.fr,τ++(a++ε)⟩
def am6(L:Pi)(chk:List Pi)(a:List (List Pi×Pi×List Pi))(last:List Pi)(K:ck)(τ:aj)(st:St):Prop:=gI F L (amh F chk a last K) ⟨st.fr,τ⟩
def aje(st:St):Prop:=A ⟨st.fr,E⟩
section
variable {P:bG} {bx:List Ob} {QE last:List Pi} {L:Pi} {chk:List Pi} {ds1 ds2:List (List Pi×Pi×List Pi)} {K:ck} {fr:aB} {τ ε:aj}
def abv:E1 P bx [] [] last K fr τ ε=oC P [] last (aje K (τ++(bx++ε))) ⟨fr,τ++(oq bx++ε)⟩:=rfl
def YC:E1 P bx [] ((QE,L,chk)::ds2) last K fr τ ε=oC P [] QE (am6 P L chk ds2 last K (τ++(bx++ε))) ⟨fr,τ++(oq bx++ε)⟩:=rfl
def YD:E1 P bx ((QE,L,chk)::ds1) ds2 last K fr τ ε=oC P [] QE (am7 P bx L chk ds1 ds2 last K τ ε) ⟨fr,τ++(oq bx++ε)⟩:=by cases ds2<;>rfl
end
variable{T:Mem}{B:Nat}{x:V}{v:Value}{J:aj}{X:bG}{R w:bQ}{U:fx}
def abw{P:bG}{last:List Pi}{K:ck}{st:St}:zx P [] last K st=oC P [] last K st:=rfl
def YE{P:bG}{QE:List Pi}{L:Pi}{chk:List Pi}{a:List (List Pi×Pi×List Pi)}{last:List Pi}{K:ck}{st:St}: zx P ((QE,L,chk)::a) last K st=oC P [] QE (gI P L (amh P chk a last K)) st:=rfl
def abx{P:bG}{a:fb}{K:ck}{fr:aB}{J:aj}:oC P a [] K ⟨fr,J⟩=K ⟨Ty a fr,J⟩:=rfl
def YF{P:bG}{b:fb}{p:Pi}{a:List Pi}{K:ck}{fr:aB}{J:aj}:oC P b (p::a) K ⟨fr,J⟩=gI P p (oC P b a K) ⟨fr,J⟩:=rfl
def jD{J l:aj}:(J++l)[Y J]?=l[0]?:=by rw[bn (aM _),iP]
def kO{J l:aj}{k:Nat}:(J++l)[Y J+k]?=l[k]?:=by rw[bn (aeZ _ _),ee]
def s8{J l:aj}{x:Ob}:(J++l).set J.length x=J++l.set 0 x:=by rw[dX _ _ (aM _),iP]
def kf{J l:aj}{k:Nat}{x:Ob}:(J++l).set (Y J+k) x=J++l.set k x:=by rw[dX _ _ (aeZ _ _),ee]
def aeL{J l:aj}:Y (J++l)=Y J+Y l:=ah
def kE(id g b:Nat)(a:fx):V->V|.own id' g'=>if id'=id/\g'=g then .sl b a else .own id' g'|.sub id' g' lo hi=>if id'=id/\g'=g then .sl b ((a.drop lo).take (hi - lo))else .sub id' g' lo hi|x=>x
def fz(id g sz:Nat)(rows:fx):V->V|.agg xs=>.agg (xs.map (kE id g sz rows))|x=>kE id g sz rows x
def ad4(b:l8 X B R w J T){id E d c g:Nat}(a:J[id]?=S (.row E d c g θ U))(h:VR w J T x v): VR w J T (kE id g d U x) v:=by
 unfold kE;split
 .split;.rename_i e;obtain⟨rfl,rfl⟩:=e;rw[h.nv a];have:=VR.Av b a 0 U.length (by omega) (aM _);rw[Ih b a]at this;simpa using this
  exact h
 .split;.rename_i e;obtain⟨rfl,rfl⟩:=e;obtain⟨i,j,f⟩:=h.wM a;rw[f];exact VR.Av b a _ _ i j
  exact h
 exact h
def arL(d:l8 X B R w J T){id E b a g:Nat}(c:J[id]?=S (.row E b a g θ U))(h:VR w J T x v): VR w J T (fz id g b U x) v:=by
 unfold fz;split;.rename_i l;obtain⟨m,rfl,j,k⟩:=h.wO;refine .agg _ _ (by simpa using j) λi y e=>?_;rw[bR,aL]at e;obtain⟨z,f,rfl⟩:=e;exact ad4 d c (k i z f)
 exact ad4 d c h
def Wk.fz{P:bG}{n:Nat}{xs:aB}{J:aj}(id:Nat){E sz by' g:Nat}{sh:Bool}{rows:fx}(c:J[id]?=S (.row E sz by' g sh rows)):
  Wk P n xs J (xs.map (Pm.fz id g sz rows)) (J.set id (.row E sz by' g θ rows)):=by refine Wk.trans (Wk.share c) ?_;have h:id<Y J:=(ag.1 c).1;intro B j w e k a b;refine⟨e,a,⟨by simp[b.1],λi y d=>?_⟩,jI.refl _ _ _ _⟩;rw[bR,aL]at d;obtain⟨z,f,rfl⟩:=d;exact arL a (by rw[aT h]) (b.2 i z f)
def Wk.one{e d:aB}{l:aj}(h:Wk X B e J d l)(o:Y d=Y e):Wk X B [Pm.one e] J [Pm.one d] l:=by
 intro a s w r v t n;have m:=n.2 0 _ rfl;have q:∀{p:bQ} {f:aB} {g:Array Value} {c:Mem},CR p l c f g->Y f≠1->VR p l c (Pm.one f) (.tuple g):=by intro p f g c b j;match f,b,j with|[],b,_=>exact .jg _ _ b.1 b.2|x::y::f,b,_=>exact .jg _ _ b.1 b.2|[x],_,j=>exact absurd rfl j
 by_cases b:Y e=1
 .match e,b,h,o,m with
  |[x],_,h,o,m =>match d,o,h with|[x'],_,h =>exact h a s w r v t ⟨n.1,λi y k=>n.2 i y k⟩
 have z:Pm.one e=.jg e:=by match e,b with|[],_=>rfl|x::y::e,_=>rfl|[x],b=>exact absurd rfl b
 rw[z]at m;obtain⟨g,u,j,A⟩:=m.PT;obtain⟨c,C,E,D⟩:=h a s w r g t ⟨j,A⟩;refine⟨c,C,⟨n.1,λi y k=>?_⟩,D⟩;cases i with|zero =>simp only[aC,ab]at k;subst k;rw[u];exact q E (by rw[o];exact b)|succ i=>simp at k
def dS{P:bG}{n:Nat}{b:List Rs}{Q:V->aj->Prop}{e:Exit}{st:St}{xs xs':aB}{a:aj}(c:e=.normal\/e=.ret)(f:mS st b=S xs)(g:Wk P n xs st.J xs' a)(h:Y xs'=Y xs)(d:Q (one xs') a): zy P n b Q e st:=⟨c,xs,f,_,_,g.one h,d⟩
def jt(m:Nat):aB->Prop|[]=>True|x::xs=>x.Lt m/\jt m xs
def ed{m:Nat}:∀{b:aB},jt m b<->∀(i:Nat) (x:V),b[i]?=S x->x.Lt m
 |[]=>by simp[jt]
 |y::b=>by
  rw[jt,ed];constructor;.rintro⟨c,d⟩ i x a;cases i with|zero=>simp only[aC,ab]at a;subst a;exact c|succ i=>exact d i x (by simpa using a)
  intro h;exact⟨h 0 y rfl,λi x a=>h (i+1) x (by simpa using a)⟩
section
variable {m:Nat}
def as5:V.u.Lt m<->True:=⟨λ_=>trivial,λ_=>.u⟩
def as6{x}:(V.b x).Lt m<->True:=⟨λ_=>trivial,λ_=>.b _⟩
def akj{k a}:(V.i k a).Lt m<->True:=⟨λ_=>trivial,λ_=>.i _ _⟩
def aqu{l}:(V.s l).Lt m<->True:=⟨λ_=>trivial,λ_=>.s _⟩
def akh:V.nil.Lt m<->True:=⟨λ_=>trivial,λ_=>.nil⟩
def aki{sz xs}:(V.lit sz xs).Lt m<->True:=⟨λ_=>trivial,λ_=>.lit _ _⟩
def Az{sz xs}:(V.sl sz xs).Lt m<->True:=⟨λ_=>trivial,λ_=>.sl _ _⟩
def aqy{sz xs i o}:(V.ep sz xs i o).Lt m<->True:=⟨λ_=>trivial,λ_=>.ep _ _ _ _⟩
def Zi:V.l0.Lt m<->True:=⟨λ_=>trivial,λ_=>.l0⟩
def Zh:V.mV.Lt m<->True:=⟨λ_=>trivial,λ_=>.mV⟩
def akg{id g}:(V.own id g).Lt m<->id<m:=⟨λh=>by cases h;assumption,λh=>.own _ _ h⟩
def ake{id g lo hi}:(V.sub id g lo hi).Lt m<->id<m:=⟨λh=>by cases h;assumption,λh=>.sub _ _ _ _ h⟩
def akf{id o}:(V.ptr id o).Lt m<->id<m:=⟨λh=>by cases h;assumption,λh=>.ptr _ _ h⟩
def aqv{id g i o}:(V.rp id g i o).Lt m<->id<m:=⟨λh=>by cases h;assumption,λh=>.rp _ _ _ _ h⟩
def aqw{id}:(V.mp id).Lt m<->id<m:=⟨λh=>by cases h;assumption,λh=>.mp _ h⟩
def akk{xs}:(V.agg xs).Lt m<->jt m xs:=by rw[ed];exact⟨λh=>by cases h;assumption,λh=>.agg _ h⟩
def akd{xs}:(V.jg xs).Lt m<->jt m xs:=by rw[ed];exact⟨λh=>by cases h;assumption,λh=>.jg _ h⟩
def aqx{f xs}:(V.fn f xs).Lt m<->jt m xs:=by rw[ed];exact⟨λh=>by cases h;assumption,λh=>.fn _ _ h⟩
end
variable{X:List Rs}{U:aB}{J T:aj}{R:bG}
def Wk.yQ{P:bG}{xs:aB}{J loc:aj}(a:bT J)(b:jt J.length xs):Wk P J.length xs (J++loc) xs J:=Wk.lS (aM _) a (ed.1 b)
def bA{Q:V->aj->Prop}{e:Exit}{a:aB}(b:bT J)(c:e=.normal\/e=.ret)(f:mS ⟨U,J++T⟩ X=S a)(d:jt J.length a)(g:Q (one a) J): zy R J.length X Q e ⟨U,J++T⟩:=dS c f (Wk.yQ b d) rfl g
def gm{y:V}(a:bT J)(b:mS ⟨U,J++T⟩ X=S [y])(c:jt J.length [y]):zy R J.length X (λr d=>r=y/\d=J) .ret ⟨U,J++T⟩:=bA a (.inr rfl) b c ⟨rfl,rfl⟩
def gx{Q:V->aj->Prop}{e:Exit}{xs ys:aB}(d:bT J)(b:e=.normal\/e=.ret)(f:mS ⟨U,J++T⟩ X=S xs)(a:rk xs ys)(g:jt J.length ys)(c:Q (one ys) J): zy R J.length X Q e ⟨U,J++T⟩:=dS b f ((Wk.fw a).trans (Wk.yQ d g)) a.at.1 c
end Go.Pm
