/- A part of a proof; the claim's last text says of what. -/
import Derived.Test.YtlakkaamfadipaaGreatDoorB8
set_option linter.all false

namespace Go.Pm
open Go Go.RowKit
def Ux:List Ob->(List Ob->Prop)->Prop
 |[],p=>p []
 |_::b,p=>∀X,Ux b λa=>p (X::a)
def nH(b:List Ob):List Ob:=b.map λ_=>.dead
def Wb:∀{b:List Ob} {p:List Ob->Prop},Ux b p->∀Xs,Xs.length=b.length->p Xs
 |[],p,h,Xs,hl=>by simp only[al,fG]at hl;subst hl;exact h
 |_::b,p,h,Xs,hl=>by
  cases Xs with
  |nil=>simp at hl
  |cons X Xs=>exact Wb (h X) Xs (by simpa using hl)
def grown(c:ak)(Xs:List Ob)(s:ak)(K:ak->ak->Prop):Prop:=∃a b,a.length=c.length/\s=a++(Xs++b)/\K a b
def Fz(P:bo)(c:List Ob):List (List Pi×Pi×List Pi)->List (List Pi×Pi×List Pi)->List Pi->(ca)->aB->ak->ak->Prop
 |[],[],last,K,fr,τ,ε=>oQ P [] last (λst=>K ⟨st.fr,τ++(c++ε)⟩) ⟨fr,τ++(nH c++ε)⟩
 |[],(Pf,L,chk)::ds,last,K,fr,τ,ε=>oQ P [] Pf (λb=>gI P L (λa=>(∀p∈chk,KB p a)/\Aa P ds last K a) ⟨b.fr,τ++(c++ε)⟩) ⟨fr,τ++(nH c++ε)⟩
 |(Pf,L,chk)::ds1,ds2,last,K,fr,τ,ε=>oQ P [] Pf (λb=>Ux c λd=>gI P L (λa=>(∀p∈chk,KB p a)/\grown τ d a.J (Fz P c ds1 ds2 last K a.fr)) ⟨b.fr,τ++(d++ε)⟩) ⟨fr,τ++(nH c++ε)⟩
def Sf(p:Pi):Ob:=match p.i with
 |.alloc T zs=>.box T zs
 |_=>.dead
def Sd(pis:List Pi)(fl:dK):List Ob:=fl.map λf=>Sf (ja pis f)
def Ch(pis:List Pi)(fl:dK)(listed:Array Bool):List Ob:=fl.map λf=>bif listed.getD f false then Sf (ja pis f)else .dead
structure XOF (pis:List Pi) (bs:dK) (m:Nat) (ls fl:dK) (k1:Nat):Prop where
 Pu:∀f∈fl,f<m/\f ∉ ls/\∃d T zs,ja pis f=⟨some d,[],.alloc T zs⟩
 nd:fl.Nodup
 kl:k1<=ls.length
 late:∀(k L f:Nat),k1<=k->ls[k]?=some L->f∈fl->tb bs L f=true
section
variable {P:bo} {ops:Array Oper} {pis:List Pi} {bs:dK} {m:Nat} {ls fl:dK} {k1:Nat}
def adv{listed:Array Bool}(h:∀f∈fl,oD listed f):Ch pis fl listed=Sd pis fl:=by
 refine eA λf a=>?_;have:listed.getD f false=true:=h f a;rw[this];rfl
def Le.mid{d a b e:ak}(h:Le a b)(f:a.length=b.length):Le (d++(a++e)) (d++(b++e)):=by
 intro id o c
 by_cases i:id<d.length
 .rw[ay i]at c |-;exact .inr c
 .rw[aU (by omega)]at c |-
  by_cases g:id - d.length<a.length
  .rw[ay g]at c;rw[ay (by omega)];exact h _ _ c
  .rw[aU (by omega)]at c;rw[aU (by omega),<- f];exact .inr c
def aaG(c b:ak)(listed:Array Bool):Le (c++(nH (Sd pis fl)++b)) (c++(Ch pis fl listed++b)):=by
 refine Le.mid (λid o a=>?_) (by simp[nH,Sd,Ch]);simp only[nH,Sd,jn,ck,aF]at a;obtain⟨_,_,rfl⟩:=a;exact .inl rfl
def Vs(h:XOF pis bs m ls fl k1){listed:Array Bool}{i:Nat}(hi:i<listed.size)(a:i ∉ fl):Ch pis fl (listed.setIfInBounds i true)=Ch pis fl listed:=by
 refine eA λf b=>?_;have c:=ju (listed:=listed) (j:=f) hi;have d:f≠i:=λe=>a (e▸b);simp only[d,nk,oD]at c;have:(listed.setIfInBounds i true).getD f false=listed.getD f false:=by cases g:listed.getD f false<;>simp_all
 rw[this]
def adu(h:XOF pis bs m ls fl k1){listed:Array Bool}{j f:Nat}(hi:f<listed.size)(a:fl[j]?=some f):Ch pis fl (listed.setIfInBounds f true)=(Ch pis fl listed).set j (Sf (ja pis f)):=by
 refine mS λx=>?_;have c:j<fl.length:=(ah.1 a).1
 by_cases b:j=x
 .subst b;rw[aL (by simpa[Ch]using c)];have:(listed.setIfInBounds f true).getD f false=true:=(ju hi).2 (.inl rfl);simp only[Ch,ck,a,cL,this,cond_true]
 .rw[bz b];simp only[Ch,ck];cases e:fl[x]? with
  |none=>rfl
  |some y =>
   have g:y≠f:=by
    rintro rfl;exact b ((List.getElem?_inj c h.nd).1 (a.trans e.symm))
   have d:=ju (listed:=listed) (j:=y) hi;simp only[g,nk,oD]at d;have:(listed.setIfInBounds f true).getD y false=listed.getD y false:=by cases i:listed.getD y false<;>simp_all
   simp only[cL,this]
def Hf(P:bo)(pis:List Pi)(bs:dK)(m:Nat)(ls fl:dK)(k1:Nat)(d:ca)(k:Nat)(fr:aB)(b e:ak):Prop :=
 match (ls.take k1)[k]? with
 |some L=>Ux (Sd pis fl) λc=>gI P (ja pis L) (λa=>(∀p∈(ab8 pis bs m ls k L).map (ja pis),KB p a)/\grown b c a.J
   (Fz P (Sd pis fl) (KZ pis bs m ls (k+1) ((ls.take k1).drop (k+1))) (KZ pis bs m ls k1 (ls.drop k1)) ((tC pis bs m ls ls.length).map (ja pis)) d a.fr)) ⟨fr,b++(c++e)⟩
 |none=>CA P pis bs m ls d k fr (b++(Sd pis fl++e))
def Ib.af7(c:Ib ops pis bs m ls fl)(D:XOF pis bs m ls fl k1){A:ca}{k:Nat}(G:k<=k1){fr:aB}{u x:ak}
  (h:Fz P (Sd pis fl) (KZ pis bs m ls k ((ls.take k1).drop k)) (KZ pis bs m ls k1 (ls.drop k1)) ((tC pis bs m ls ls.length).map (ja pis)) A fr u x) :
  ∃fr',Hf P pis bs m ls fl k1 A k fr' u x/\(∀i∈tC pis bs m ls k,Fact (ja pis i) fr' (u++(nH (Sd pis fl)++x)))/\(∀t,(∀i∈tC pis bs m ls k,(ja pis i).d≠some t)->fr'[t]?=fr[t]?)/\fr'.length=fr.length:=by
 have v:(tC pis bs m ls k).Pairwise (λi j=>∀t,(ja pis j).d=some t->t ∉ looks (ja pis i)/\(ja pis i).d≠some t):=by
  refine aol ?_ (List.Pairwise.filter _ arD);intro i j a n E t o
  replace a:=(gD (k:=k)).1 a
  replace n:=(gD (k:=k)).1 n
  refine⟨λr=>?_,λw=>?_⟩
  .have:=c.lt a.1 n.1 (c.yl a.1 n.1 o r);omega
  .have:=c.dst i j t a.1 n.1 w o;omega
 have p:∀i∈tC pis bs m ls k,∀t,(ja pis i).d=some t->t ∉ looks (ja pis i):=λi a t o r=>by
  rw[gD]at a;have:=c.lt a.1 a.1 (c.yl a.1 a.1 o r);omega
 have q:∀i∈tC pis bs m ls k,(ja pis i).i.fa=true:=λi a=>(gD.1 a).2.1;have F:=D.kl;have y:(ls.take k1).length=k1:=by rw[aP];omega
 by_cases H:k<k1
 .have e:(ls.take k1).drop k=(ls.take k1)[k]::(ls.take k1).drop (k+1):=dG (by omega);rw[e]at h;simp only[KZ,Fz]at h;obtain⟨fr',g,b,l,f⟩:=Fy _ _ h q v p;refine⟨fr',?_,b,l,f⟩;simp only[Hf,ax (show k<(ls.take k1).length by omega)];exact g
 .have s:k=k1:=by omega
  subst s;rw[List.drop_of_length_le (by omega)]at h;have B:(ls.take k)[k]?=none:=cI (by omega)
  by_cases z:k<ls.length
  .have e:ls.drop k=ls[k]::ls.drop (k+1):=dG z;rw[e]at h;simp only[KZ,Fz]at h;obtain⟨fr',g,b,l,f⟩:=Fy _ _ h q v p;refine⟨fr',?_,b,l,f⟩;simp only[Hf,B,CA,ax z];exact g
  .have C:k=ls.length:=by omega
   subst C;rw[ug]at h;simp only[KZ,Fz]at h;obtain⟨fr',g,b,l,f⟩:=Fy _ _ h q v p;refine⟨fr',?_,b,l,f⟩;have e:ls[ls.length]?=none:=cI (aD _);simp only[Hf,B,CA,e];exact g
def Lr(c:Ib ops pis bs m ls fl)(D:XOF pis bs m ls fl k1)(hp:zN P ops ops.toList=some pis){n B n0:Nat}{gs:dK}{w0 ws:bD}{σs:ak}{μs:Mem}{K:ca}{Q:Exit->Act->bD->Prop}
  (hQ:∀st w μ a,K st->lj P B w0 w st.J μ->FR w st.J μ st.fr a->jO n ws σs μs w st.J μ->Q .normal a w) (C:Pg (D0 pis m) (pis.drop m) gs=true) :
  ∀(fuel k:Nat) (listed:Array Bool) (fr:aB) (g s:ak) (w:bD) (μ:Mem) (a:Act),listed.size=ops.size ->
   (∀i j,i<pis.length->j<pis.length->oD listed i->tb bs i j=true->oD listed j)->(∀i,m<=i->i<pis.length->¬oD listed i)->k<=k1 ->
   (∀j L,ls[j]?=some L->(oD listed L<->j<k))->(∀i,i<m->(ja pis i).i.fa=true->Mm bs ls i<=k->¬oD listed i->Fact (ja pis i) fr (g++(Ch pis fl listed++s))) ->
   g.length=n0->(∀j f d,fl[j]?=some f->(ja pis f).d=some d->fX fr (some d) (.ptr (n0+j) 0)=fr) ->
   Hf P pis bs m ls fl k1 (oQ P gs (pis.drop m) K) k fr g s->Ni pis.length listed<=fuel ->
   lj P B w0 w (g++(Ch pis fl listed++s)) μ->LY w (g++(Ch pis fl listed++s)) μ fr (uE pis m listed) a->jO n ws σs μs w (g++(Ch pis fl listed++s)) μ->wpAny P .any ops Q fuel listed a w:=by
 have hn:pis.length=ops.size:=by rw[(uO hp).1,bh]
 have hm:=c.mn;have xd:=D.kl;have bU:(ls.take k1).length=k1:=by rw[aP];omega
 have done:∀(fuel k:Nat) (listed:Array Bool) (fr:aB) (g s:ak) (w:bD) (μ:Mem) (a:Act),listed.size=ops.size ->
   (∀i j,i<pis.length->j<pis.length->oD listed i->tb bs i j=true->oD listed j)->(∀i,m<=i->i<pis.length->¬oD listed i)->k=k1->(∀f∈fl,oD listed f) ->
   (∀j L,ls[j]?=some L->(oD listed L<->j<k))->(∀i,i<m->(ja pis i).i.fa=true->Mm bs ls i<=k->¬oD listed i->Fact (ja pis i) fr (g++(Ch pis fl listed++s))) ->
   Hf P pis bs m ls fl k1 (oQ P gs (pis.drop m) K) k fr g s->Ni pis.length listed<=fuel ->
   lj P B w0 w (g++(Ch pis fl listed++s)) μ->LY w (g++(Ch pis fl listed++s)) μ fr (uE pis m listed) a->jO n ws σs μs w (g++(Ch pis fl listed++s)) μ->wpAny P .any ops Q fuel listed a w:=by
  intro fuel k listed fr g s w μ a O hc BF hk yu H Y U hu hS hF OJ;subst hk;have en:(ls.take k)[k]?=none:=cI (by omega);simp only[Hf,en]at U;rw[adv yu]at Y hS hF OJ;exact DR c hp hQ C fuel k listed fr _ w μ a O yu hc BF xd H Y U hu hS hF OJ
 intro fuel
 induction fuel with
 |zero =>
  intro k listed fr g s w μ a O hc BF hk H Y TT R U hu hS hF OJ;have Rv:∀i,i<pis.length->oD listed i:=λi hi=>bN λh=>by have:=UO hi h;omega
  have iI:∀i,i<m->oD listed i:=λi hi=>Rv i (by omega)
  have xd:k=k1:=by
   refine bN λiR=>?_;have fk:k<ls.length:=by omega
   have:=(H k ls[k] (ax fk)).1 (iI _ (c.lsm _ (dC fk)).1);omega
  exact done 0 k listed fr g s w μ a O hc BF xd (λf hf=>iI f (D.Pu f hf).1) H Y U hu hS hF OJ
 |succ fuel ih =>
  intro k listed fr g s w μ a O hc BF hk H Y TT R U hu hS hF OJ
  by_cases VS:k=k1/\∀f∈fl,oD listed f
  .exact done _ k listed fr g s w μ a O hc BF VS.1 VS.2 H Y U hu hS hF OJ
  have a0:¬∀i,i<m->oD listed i:=by
   intro iI;refine VS ⟨?_,λf hf=>iI f (D.Pu f hf).1⟩;refine bN λiR=>?_;have fk:k<ls.length:=by omega
   have:=(H k ls[k] (ax fk)).1 (iI _ (c.lsm _ (dC fk)).1);omega
  refine⟨λh=>absurd (λi hi=>c.first O h i (by omega)) a0,λi hi=>?_⟩;obtain⟨b0,XQ,o,ho,_⟩:=Aw O hi;have ku:i<pis.length:=by omega
  have H0:∀j,j<pis.length->tb bs i j=true->oD listed j:=λj v C=>c.ready hn O hc hi v C
  have Z:i<m:=by
   refine bN λh=>a0 λj v=>?_;exact H0 j (by omega) (c.tail i j (by omega) ku (by omega))
  obtain⟨p,br,YV⟩:=(uO hp).2 i o (by simpa using ho);have M:ja pis i=p:=by simp[ja,aq,br]
  have ll:Sr (uE pis m listed) p:=M▸c.amz hc Z XQ H0
  have l:∀x j,x<pis.length->j<pis.length->oD (listed.setIfInBounds i true) x->tb bs x j=true->oD (listed.setIfInBounds i true) j:=by
   intro x j b v u C;rw[ju (by omega)]at u |-;rcases u with rfl|u
   .exact .inr (H0 j v C)
   .exact .inr (hc x j b v u C)
  have S:∀x,m<=x->x<pis.length->¬oD (listed.setIfInBounds i true) x:=by
   intro x b a9 u;rw[ju (by omega)]at u;rcases u with rfl|u
   .omega
   .exact BF x b a9 u
  have ap:Ni pis.length (listed.setIfInBounds i true)<=fuel:=by
   have:=UN ku (by omega:i<listed.size) XQ;omega
  have a3:∀x,x<m->(ja pis x).i.fa=true->(∀j,j<pis.length->tb bs x j=true->oD listed j)->Mm bs ls x<=k:=by
   intro x b hs a4;refine bN λfk=>?_;have h1:Mm bs ls x<=ls.length:=eB _ _;have h2:k<ls.length:=by omega
   have h3:=(c.Pf x k ls[k] b hs (ax h2)).2 (by omega);have h4:=a4 ls[k] (by have:=(c.lsm _ (dC h2)).1;omega) h3;have:=(H k ls[k] (ax h2)).1 h4;omega
  have e:Aj (uE pis m listed) p=uE pis m (listed.setIfInBounds i true):=by rw[<- M];exact c.Aj Z (by omega)
  simp only[wpOp,ho]
  by_cases hs:p.i.fa=true
  .
   have W:(ja pis i).i.fa=true:=by rw[M];exact hs
   have MW:i ∉ fl:=λh=>by
    obtain⟨d,T,zs,h2⟩:=(D.Pu i h).2.2;rw[h2]at W;simp[I.fa]at W
   have hf:=Y i Z W (a3 i Z W H0) XQ;rw[M]at hf;refine ahe YV hS hF ll (V0 hf) ?_;intro r J' G a' w' k1 k2 V k4;simp only[St.mk.injEq]at k1;obtain⟨k1,rfl⟩:=k1;rw[k1,e]at V;have E:=Vs (pis:=pis) D (listed:=listed) (i:=i) (by omega) MW;refine ih k _ fr g s w' G a' (by simpa using O) l S hk (λj L hL=>?_) (λx b X aa xc=>?_) TT R U ap (by rw[E];exact k2) (by rw[E];exact V) (by rw[E];exact OJ.trans k4.Wr)
   .rw[ju (by omega),H j L hL]
    have:L≠i:=λe=>by
     have:=(c.lsm L (bE hL)).2;rw[e,W]at this;simp at this
    simp[this]
   .rw[E];exact Y x b X aa λh=>xc ((ju (by omega)).2 (.inr h))
  .have W:(ja pis i).i.fa=false:=by rw[M];simpa using hs
   rcases c.Q5 i Z W with wh|wh
   .
    obtain⟨j,v⟩:=ed.1 wh;have MW:i ∉ fl:=λh=>(D.Pu i h).2.1 wh;have pR:j<ls.length:=(ah.1 v).1;have b1:¬j<k:=λh=>XQ ((H j i v).2 h)
    have VQ:j=k:=by
     refine bN λiR=>?_;have xd:k<ls.length:=by omega
     have h2:=c.adC k j i ls[k] (by omega) (ax xd) v;have h3:=H0 ls[k] (by have:=(c.lsm _ (dC xd)).1;omega) h2;have:=(H k ls[k] (ax xd)).1 h3;omega
    subst VQ
    have bw:j<k1:=by
     refine bN λh=>VS ⟨by omega,λf hf=>?_⟩;exact H0 f (by have:=(D.Pu f hf).1;omega) (D.late j i f (by omega) v hf)
    have bt:(ls.take k1)[j]?=some i:=by rw[ee,az bw];exact v
    simp only[Hf,bt,M]at U;have bm:=Wb U (Ch pis fl listed) (by simp[Ch,Sd]);refine opG YV hS hF ll bm ?_;intro r J' G a' w' k1 k2 V k4;obtain⟨bx,ad,ac,a2,ui,fD⟩:=k1;simp only at ui;subst ui;obtain⟨F,h1,h2,h3,h4⟩:=c.af7 D (k:=j+1) (by omega) fD;rw[e]at V;have E:=Vs (pis:=pis) D (listed:=listed) (i:=i) (by omega) MW
    have oC:∀x∈tC pis bs m ls (j+1),¬oD (listed.setIfInBounds i true) x:=by
     intro x b u;rw[gD]at b;rw[ju (by omega)]at u;rcases u with rfl|u
     .rw[W]at b;simp at b
     .have:=a3 x b.1 b.2.1 λy A C=>hc x y (by omega) A u C;omega
    have J1:∀t y,y<m->(ja pis y).d=some t->oD (listed.setIfInBounds i true) y->F[t]?=(fX fr p.d r)[t]?:=by
     intro t y A N u;refine h3 t λx b am=>oC x b ?_;rw[c.dst x y t (gD.1 b).1 A am N];exact u
    have a8:LY w' (ad++(Ch pis fl listed++ac)) G F (uE pis m (listed.setIfInBounds i true)) a':=by
     refine⟨V.1,by rw[h4];exact V.2.1,λt x b ch GZ=>?_⟩
     have Hq:F[t]?=(fX fr p.d r)[t]?:=by
      rcases qH GZ with⟨_,qg⟩|⟨y,A,N,u,_⟩
      .exact h3 t λx b=>qg x (gD.1 b).1
      .exact J1 t y A N u
     have JV:chainB F ch=chainB (fX fr p.d r) ch:=by
      refine sb λq hq=>?_;rcases qH GZ with⟨rfl,_⟩|⟨y,A,N,u,rfl⟩
      .simp at hq
      .obtain⟨z,hz,bu,be⟩:=c.chain y q A hq;exact J1 q.1 z hz bu (l y z (by omega) (by omega) u be)
     rw[JV];rw[Hq]at b;exact V.2.2 t x b ch GZ
    refine ih (j+1) _ F ad ac w' G a' (by simpa using O) l S (by omega) (λy L hL=>?_) (λx b X aa xc=>?_) (a2.trans TT) (λy f d A N=>?_) h1 ap (by rw[E];exact k2) (by rw[E];exact a8) (by rw[E];exact OJ.trans k4.Wr)
    .rw[ju (by omega),H y L hL];constructor
     .rintro(rfl|h)
      .refine bN λiR=>?_;have h5:=c.adC j y L L (by omega) v hL;have:=c.lt Z Z h5;omega
      .omega
     .intro h;rcases kE y j with h5|h5
      .exact .inr h5
      .have:y=j:=by omega
       subst this;rw[hL]at v;simp only[ae]at v;exact .inl v
    .rw[E]
     by_cases bv:Mm bs ls x=j+1
     .exact(h2 x (gD.2 ⟨b,X,bv⟩)).le (aaG ad ac listed)
     .have af:Mm bs ls x<=j:=by omega
      have a5:¬oD listed x:=λh=>xc ((ju (by omega)).2 (.inr h));have bi:¬tb bs i x=true:=λh=>a5 (H0 x (by omega) h)
      have HZ:Fact (ja pis x) (fX fr p.d r) (ad++(Ch pis fl listed++ac)):=by
       by_cases hr:(ja pis x).i.reads=true
       .exact(bx (ja pis x) (bF.2 ⟨x,by simp[ab8,b,X,hr,af,bi],rfl⟩)).fact
       .have a7:(ja pis x).i.reads=false:=by simpa using hr
        refine Fact.still (Fact.agree (Y x b X af a5) (λt C=>?_) (λt C=>?_) u4) a7
        .refine oP λN=>?_;have h5:=c.yl b Z (M▸N) C;have:=(c.Pf x j i b X v).1 h5;omega
        .refine oP λN=>?_;have:=c.dst x i t b Z C (M▸N);subst this;rw[X]at W;simp at W
      refine Fact.agree HZ (λt C=>?_) (λt C=>?_) h4
      .refine h3 t λy A aE=>?_;rw[gD]at A;have:=c.mono x y t b X A.1 A.2.1 aE C;omega
      .refine h3 t λy A aE=>?_;rw[gD]at A;have:=c.dst x y t b A.1 C aE;subst this;omega
    .have h5:=R y f d A N;have a1:=(D.Pu f (bE A)).1
     have h6:F[d]?=fr[d]?:=by
      rw[h3 d λx b am=>?_]
      .refine oP λba=>?_;have:=c.dst f i d a1 Z N (M▸ba);exact MW (this▸bE A)
      .have:=c.dst f x d a1 (gD.1 b).1 N am;have h7:=(gD.1 b).2.1;obtain⟨d',T,zs,h8⟩:=(D.Pu f (bE A)).2.2;rw[<- this,h8]at h7;simp[I.fa]at h7
     rw[xU]at h5 |-;intro t av u;have h7:=h5 t av (by rw[h4,u4]at u;exact u);simp only[ae]at av;subst av;rw[h6];exact h7
   .
    obtain⟨j,v⟩:=ed.1 wh;obtain⟨_,Ac,d,T,zs,ab⟩:=D.Pu i wh;rw[M]at ab;have pR:j<fl.length:=(ah.1 v).1
    have bn:listed.getD i false=false:=by
     cases h:listed.getD i false with
     |false=>rfl
     |true=>exact absurd h XQ
    have a6:(g++(Ch pis fl listed++s))[n0+j]?=some .dead:=by
     rw[aU (by omega),TT,fF,ay (by simp only[Ch,ag];omega)];simp only[Ch,ck,v,cL,bn,KT]
    have eb:Sf (ja pis i)=.box T zs:=by rw[M,ab];rfl
    have E:g++(Ch pis fl (listed.setIfInBounds i true)++s)=(g++(Ch pis fl listed++s)).set (n0+j) (.box T zs):=by
     rw[adu D (by omega) v,eb,dA _ _ (by omega),TT,fF,iu _ _ (by simp only[Ch,ag];omega)]
    have bq:p.d=some d:=by rw[ab]
    have pP:=R j i d v (by rw[M];exact bq)
    have bp:Le (g++(Ch pis fl listed++s)) ((g++(Ch pis fl listed++s)).set (n0+j) (.box T zs)):=by
     intro id o ho
     by_cases he:n0+j=id
     .subst he;rw[a6]at ho;simp only[ae]at ho;exact .inl ho.symm
     .rw[bz he];exact .inr ho
    refine Uw YV ab hS hF ll a6 ?_;intro G a' w' k2 V k4;rw[pP,e]at V;refine ih k _ fr g s w' G a' (by simpa using O) l S hk (λy L hL=>?_) (λx b X aa xc=>?_) TT R U ap (by rw[E];exact k2) (by rw[E];exact V) (by rw[E];exact OJ.trans k4.Wr)
    .rw[ju (by omega),H y L hL];have:L≠i:=λe=>Ac (e▸bE hL);simp[this]
    .rw[E];exact(Y x b X aa λh=>xc ((ju (by omega)).2 (.inr h))).le bp
def HA(pis:List Pi)(fl:dK):List (Nat×Nat×aB):=fl.map λf=>match ja pis f with
 |⟨some d,_,.alloc T zs⟩=>(d,T,zs)
 |_=>(0,0,[])
def Se(a:List (Nat×Nat×aB)):List Ob:=a.map λx=>.box x.2.1 x.2.2
def Dz:Nat->List (Nat×Nat×aB)->aB->aB
 |_,[],fr=>fr
 |n,x::r,fr=>Dz (n+1) r (fr.set x.1 (.ptr n 0))
def CK{t:Nat}:∀{l:List (Nat×Nat×aB)} {n:Nat} {fr:aB},(∀x∈l,x.1≠t)->(Dz n l fr)[t]?=fr[t]?
 |[],_,_,_=>rfl
 |x::l,n,fr,h=>by
  rw[Dz,CK λy a=>h y (by simp[a]),bz (h x (by simp))]
def ID:∀{l:List (Nat×Nat×aB)} {n:Nat} {fr:aB},(Dz n l fr).length=fr.length
 |[],_,_=>rfl
 |x::l,n,fr=>by rw[Dz,ID];simp
def UW:∀{l:List (Nat×Nat×aB)} {n j:Nat} {fr:aB} {x:Nat×Nat×aB},l.Pairwise (λa b=>a.1≠b.1)->l[j]?=some x->x.1<fr.length->(Dz n l fr)[x.1]?=some (.ptr (n+j) 0)
 |[],_,_,_,_,_,h,_=>by simp at h
 |y::l,n,0,fr,x,hp,h,hl=>by
  simp only[aM,ae]at h;subst h;rw[dx]at hp;rw[Dz,CK λz c=>YB (hp.1 z c),aL hl,de]
 |y::l,n,j+1,fr,x,hp,h,hl=>by
  rw[dx]at hp;rw[Dz,UW (j:=j) hp.2 (by simpa using h) (by simpa using hl)];congr 2;omega
def lj.nH{P:bo}{B:Nat}{w0 w:bD}:∀(b:List Ob) {J:ak} {μ:Mem},lj P B w0 w J μ->∃μ',lj P B w0 w (J++Go.Pm.nH b) μ'/\s7 w J μ w (J++Go.Pm.nH b) μ'
 |[],J,μ,h=>⟨μ,by simpa[Go.Pm.nH]using h,by simpa[Go.Pm.nH]using s7.refl w J μ⟩
 |_::b,J,μ,h=>by
  obtain⟨f,d⟩:=h.z6 (w':=w) .dead undef ⟨rfl,rfl,rfl,aD _,λ_ _ _=>rfl⟩ (by simp[lZ,undef]) λ_=>trivial;obtain⟨μ',c,a⟩:=lj.nH b f;have e:J++[Ob.dead]++Go.Pm.nH b=J++Go.Pm.nH (.dead::b):=by simp[Go.Pm.nH]
  rw[e]at c a;exact⟨μ',c,d.trans a⟩
def okF(pis:List Pi)(bs:dK)(m:Nat)(ls fl:dK)(k1:Nat):Bool :=
 (fl.all λf=>decide (f<m)&&(!ls.contains f&&match ja pis f with
  |⟨some _,[],.alloc _ _⟩=>true
  |_=>false))&&(decide fl.Nodup&&(decide (k1<=ls.length)&&(ls.drop k1).all λL=>fl.all λf=>tb bs L f))
def ahf(h:okF pis bs m ls fl k1=true):XOF pis bs m ls fl k1:=by
 simp only[okF,aJ,bY,aV,dm]at h;obtain⟨l,g,o,j⟩:=h;refine⟨λf a=>?_,g,o,λk L f q p a=>j L ?_ f a⟩
 .obtain⟨n,c,b⟩:=l f a;refine⟨n,by simpa using c,?_⟩;split at b
  .rename_i d T zs e;exact⟨d,T,zs,e⟩
  .simp at b
 .refine bE (i:=k - k1) ?_;rw[db,<- p];congr 1;omega
def Lk{n B:Nat}{gs:dK}{K:ca}{Q:Exit->Act->bD->Prop}(hp:zN P ops ops.toList=some pis)(ll:okX ops pis bs m ls fl=true)(M:okF pis bs m ls fl k1=true)
  (ht:Pg (D0 pis m) (pis.drop m) gs=true) {fr:aB} {J:ak} {w0 w:bD} {μ:Mem} {a:Act}
  (h:Fz P (Se (HA pis fl)) (KZ pis bs m ls 0 (ls.take k1)) (KZ pis bs m ls k1 (ls.drop k1)) ((tC pis bs m ls ls.length).map (ja pis)) (oQ P gs (pis.drop m) K) (Dz J.length (HA pis fl) fr) J [])
  (hS:lj P B w0 w J μ) (hF:FR w J μ fr a)
  (hQ:∀c w' μ' F,K c->lj P B w0 w' c.J μ'->FR w' c.J μ' c.fr F->jO n w J μ w' c.J μ'->Q .normal F w'):wpAny P .any ops Q ops.size (Array.replicate ops.size false) a { w with drawn:=w.drawn+1 }:=by
 have hn:pis.length=ops.size:=by rw[(uO hp).1,bh]
 have D:=Z6 ll hn;have l:=ahf M
 have N:Se (HA pis fl)=Sd pis fl:=by
  simp only[Se,HA,Sd,jn];refine eA λf o=>?_;obtain⟨d,T,zs,e⟩:=(l.Pu f o).2.2;simp[e,Sf]
 rw[N]at h
 have K8:∀(j f d:Nat),fl[j]?=some f->(ja pis f).d=some d->∃x,(HA pis fl)[j]?=some x/\x.1=d:=by
  intro j f d u s;obtain⟨S,T,zs,e⟩:=(l.Pu f (bE u)).2.2;rw[e]at s;simp only[ae]at s;exact⟨(S,T,zs),by simp[HA,u,e],s⟩
 have V:∀x∈HA pis fl,∃f,f∈fl/\(ja pis f).d=some x.1:=by
  intro x p;simp only[HA,bF]at p;obtain⟨f,o,rfl⟩:=p;obtain⟨d,T,zs,e⟩:=(l.Pu f o).2.2;exact⟨f,o,by simp[e]⟩
 have VL:(HA pis fl).Pairwise (λa b=>a.1≠b.1):=by
  rw[HA,YG];refine l.nd.imp_of_mem ?_;intro f g o hg iR he;obtain⟨d,T,zs,e⟩:=(l.Pu f o).2.2;obtain⟨S,T',ab,e'⟩:=(l.Pu g hg).2.2;simp only[e,e']at he;subst he;exact iR (D.dst f g d (l.Pu f o).1 (l.Pu g hg).1 (by rw[e]) (by rw[e']))
 obtain⟨W,YT⟩:=hS.grown (w':={ w with drawn:=w.drawn+1 }) ⟨rfl,rfl,rfl,aD _,λ_ _ _=>rfl⟩;obtain⟨G,Z,A⟩:=W.nH (Sd pis fl);have e0:J++nH (Sd pis fl)=J++(nH (Sd pis fl)++[]):=by rw[bL]
 rw[e0]at Z A;have hk:=YT.jF.trans A.jF;have q:=hF.jF hk;obtain⟨X,h1,h2,Y,h4⟩:=D.af7 l (k:=0) (fA _) (by simpa using h)
 have z:∀i,¬oD (Array.replicate ops.size false) i:=by
  intro i;simp only[oD,cx,Gw];split<;>simp
 have E:Ch pis fl (Array.replicate ops.size false)=nH (Sd pis fl):=by
  simp only[Ch,nH,Sd,jn];refine eA λf _=>?_
  have:(Array.replicate ops.size false).getD f false=false:=by
   cases hh:(Array.replicate ops.size false).getD f false with
   |false=>rfl
   |true=>exact absurd hh (z f)
  simp[this]
 refine Lr (n:=n) D l hp (λc w' μ' F k1 k2 k3 k4=>hQ c w' μ' F k1 k2 k3 (jO.trans hk.Wr k4)) ht ops.size 0 _ X J [] _ G a (by simp) (λi j _ _ r=>absurd r (z i)) (λi _ _=>z i) (fA _)
  (λj L hL=>⟨λr=>absurd r (z L),λh=>by omega⟩) (λi U hs aa _=>by rw[E];exact h2 i (gD.2 ⟨U,hs,by omega⟩)) rfl (λj f d u s=>?_) h1 (by rw[hn];unfold Ni;exact cu (eB _ _) (by simp)) (by rw[E];exact Z) ?_ (by rw[E];exact jO.refl _ _ _ _)
 .have O:=(l.Pu f (bE u)).1;obtain⟨x,p,rfl⟩:=K8 j f d u s;rw[xU];intro t v r;simp only[ae]at v;subst v;rw[Y x.1 λy C R=>?_]
  .exact UW VL p (by rwa [h4,ID]at r)
  .have:=D.dst f y x.1 O (gD.1 C).1 s R;have h7:=(gD.1 C).2.1;obtain⟨S,T,zs,h8⟩:=(l.Pu f (bE u)).2.2;rw[<- this,h8]at h7;simp[I.fa]at h7
 .rw[E];refine⟨q.1,by rw[h4,ID];exact q.2.1,λt x p ch GZ=>?_⟩;rcases qH GZ with⟨rfl,qg⟩|⟨y,C,s,r,_⟩
  .rw[Y t λi U=>qg i (gD.1 U).1,CK λy C e=>?_]at p
   .exact⟨λ_=>q.2.2 t x p,λh=>by simp[chainB]at h⟩
   .obtain⟨f,o,H⟩:=V y C;exact qg f (l.Pu f o).1 (e▸H)
  .exact absurd r (z y)
end
inductive bK where
 |skip
 |dv (gs:dK) (is:List Pi)
 |jH (ds:List (List Pi×Pi×List Pi)) (last:List Pi) (gs:dK) (tail:List Pi)
 |seq (a b:bK)
 |ite (c:O) (a b:bK)
 |block (id:Nat) (c:bK)
 |loop (c:bK)
 |exit (id:Nat)
 |ret
 |both (a b:bK)
 |YZ (fls:List (Nat×Nat×aB)) (ds1 ds2:List (List Pi×Pi×List Pi)) (last:List Pi) (gs:dK) (tail:List Pi)
def F2(pis:List Pi):dK:=pis.filterMap λp=>if p.g.isEmpty then none else p.d
def ajd(P:bo)(ops:Array Oper):Option bK :=
 match zN P ops ops.toList with
 |some pis=>if Pg [] pis (F2 pis)then some (.dv (F2 pis) pis)else none
 |none=>none
def E7(P:bo)(ops:Array Oper)(bs:dK):Option bK :=
 if P.follows .mixedOrders then match zN P ops ops.toList with
  |some pis =>
   let m:=mX bs pis.length;let ls:=(List.range m).filter λi=>!(ja pis i).i.fa
   if okX ops pis bs m ls []&&Pg (D0 pis m) (pis.drop m) (F2 pis)then
    some (.jH (KZ pis bs m ls 0 ls) ((tC pis bs m ls ls.length).map (ja pis)) (F2 pis) (pis.drop m))else none
  |none=>none
 else none
def aei:Op->Bool
 |.alloc _|.box _ _=>true
 |_=>false
def afG(ops:Array Oper):dK:=(List.range ops.size).filter λi=>match ops[i]? with
 |some o=>aei o.op
 |none=>false
def V9(P:bo)(ops:Array Oper):Option bK :=
 match afG ops with
 |[i,j]=>if i≠j/\i<ops.size/\j<ops.size/\P.follows .mixedOrders=true/\((List.range ops.size).all λx=>x==i||(x==j||match ops[x]? with|some o=>wJ o.op|none=>true))=true then
   match E7 P (waitsFor ops j i) (Region.before (waitsFor ops j i)).toList,E7 P (wE (waitsFor ops i j) i j) (Region.before (wE (waitsFor ops i j) i j)).toList with
   |some a,some b=>some (.both a b)
   |_,_=>none
  else none
 |_=>none
def apU(pis:List Pi)(bs:dK)(m i:Nat):Bool:=match ja pis i with
 |⟨some _,[],.alloc _ _⟩=>(List.range m).any λj=>!(ja pis j).i.fa&&(j != i&&(!tb bs i j&&!tb bs j i))
 |_=>false
def cFl(P:bo)(ops:Array Oper)(bs:dK):Option bK :=
 if P.follows .mixedOrders then match zN P ops ops.toList with
  |some pis =>
   let m:=mX bs pis.length;let fl:=(List.range m).filter (apU pis bs m);let ls:=(List.range m).filter λi=>!(ja pis i).i.fa&&!fl.contains i;let k1:=(ls.filter λL=>!fl.all (tb bs L)).length
   if okX ops pis bs m ls fl&&(okF pis bs m ls fl k1&&Pg (D0 pis m) (pis.drop m) (F2 pis))then
    some (.YZ (HA pis fl) (KZ pis bs m ls 0 (ls.take k1)) (KZ pis bs m ls k1 (ls.drop k1)) ((tC pis bs m ls ls.length).map (ja pis)) (F2 pis) (pis.drop m))else none
  |none=>none
 else none
def acb(P:bo)(ops:Array Oper):Option bK :=
 match E7 P ops (Region.before ops).toList with
 |some c=>some c
 |none=>match V9 P ops with
  |some c=>some c
  |none=>cFl P ops (Region.before ops).toList
def jI(P:bo):Code->Option bK
 |.skip=>some .skip
 |.region _ ops false=>ajd P ops
 |.region _ ops true=>acb P ops
 |.seq a b=>match jI P a,jI P b with
  |some a,some b=>some (.seq a b)
  |_,_=>none
 |.cond c a b=>match cO c,jI P a,jI P b with
  |some c,some a,some b=>some (.ite c a b)
  |_,_,_=>none
 |.block id c=>(jI P c).map (.block id)
 |.loop c=>(jI P c).map .loop
 |.exit id=>some (.exit id)
 |.ret=>some .ret
 |_=>none
def mF{P:bo}{ops:Array Oper}{c:bK}(h:ajd P ops=some c):∃pis,zN P ops ops.toList=some pis/\Pg [] pis (F2 pis)=true/\c=.dv (F2 pis) pis:=by
 unfold ajd at h;split at h
 .rename_i pis a;split at h<;>simp only[ae,reduceCtorEq]at h;rename_i b;exact⟨pis,a,b,h.symm⟩
 .simp at h
def C4{P:bo}{ops:Array Oper}{bs:dK}{c:bK}(h:E7 P ops bs=some c):
  P.follows .mixedOrders=true/\∃pis m ls,zN P ops ops.toList=some pis/\okX ops pis bs m ls []=true/\Pg (D0 pis m) (pis.drop m) (F2 pis)=true /\
   c=.jH (KZ pis bs m ls 0 ls) ((tC pis bs m ls ls.length).map (ja pis)) (F2 pis) (pis.drop m):=by
 unfold E7 at h;split at h
 .rename_i d;split at h
  .rename_i pis b;dsimp only at h;split at h<;>simp only[ae,reduceCtorEq]at h;rename_i a;rw[aJ]at a;exact⟨d,pis,_,_,b,a.1,a.2,h.symm⟩
  .simp at h
 .simp at h
def KD{P:bo}{ops:Array Oper}{c:bK}(h:V9 P ops=some c):∃i j a b,i≠j/\i<ops.size/\j<ops.size/\P.follows .mixedOrders=true /\
  (∀x o,x≠i->x≠j->ops[x]?=some o->wJ o.op=true)/\E7 P (waitsFor ops j i) (Region.before (waitsFor ops j i)).toList=some a /\
  E7 P (wE (waitsFor ops i j) i j) (Region.before (wE (waitsFor ops i j) i j)).toList=some b/\c=.both a b:=by
 unfold V9 at h;split at h
 .rename_i i j s;split at h
  .rename_i r;obtain⟨n,g,p,l,d⟩:=r;split at h<;>simp only[ae,reduceCtorEq]at h;rename_i a b q k;refine⟨i,j,a,b,n,g,p,l,λx o m f e=>?_,q,k,h.symm⟩;simp only[bY,eC,eD,cE]at d;have:=d x (cg.1 e).1;rw[e]at this;rcases this with h|h|h
   .exact absurd h m
   .exact absurd h f
   .exact h
  .simp at h
 .simp at h
def Sc{P:bo}{ops:Array Oper}{bs:dK}{c:bK}(h:cFl P ops bs=some c):
  P.follows .mixedOrders=true/\∃pis m ls fl k1,zN P ops ops.toList=some pis/\okX ops pis bs m ls fl=true/\okF pis bs m ls fl k1=true/\Pg (D0 pis m) (pis.drop m) (F2 pis)=true /\
   c=.YZ (HA pis fl) (KZ pis bs m ls 0 (ls.take k1)) (KZ pis bs m ls k1 (ls.drop k1)) ((tC pis bs m ls ls.length).map (ja pis)) (F2 pis) (pis.drop m):=by
 unfold cFl at h;split at h
 .rename_i d;split at h
  .rename_i pis b;dsimp only at h;split at h<;>simp only[ae,reduceCtorEq]at h;rename_i a;rw[aJ,aJ]at a;exact⟨d,pis,_,_,_,_,b,a.1,a.2.1,a.2.2,h.symm⟩
  .simp at h
 .simp at h
def lx{P:bo}{ops:Array Oper}{c:bK}(h:acb P ops=some c):
  (∃o last gs d,c=.jH o last gs d/\E7 P ops (Region.before ops).toList=some c)\/(∃a b,c=.both a b/\V9 P ops=some c) \/
   (∃k g l last gs d,c=.YZ k g l last gs d/\cFl P ops (Region.before ops).toList=some c):=by
 unfold acb at h;split at h
 .rename_i n f;simp only[ae]at h;subst h;obtain⟨_,pis,m,ls,_,_,_,e⟩:=C4 f;exact .inl ⟨_,_,_,_,e,f⟩
 .split at h
  .rename_i n f;simp only[ae]at h;subst h;obtain⟨i,j,a,b,_,_,_,_,_,_,_,e⟩:=KD f;exact .inr (.inl ⟨a,b,e,f⟩)
  .obtain⟨_,pis,m,ls,fl,k1,_,_,_,_,e⟩:=Sc h;exact .inr (.inr ⟨_,_,_,_,_,_,e,h⟩)
def bZ(n:Nat)(P:bo)(c:bK)(K:bl)(st:St):Prop:=∀a,jI P a=some c->PW n P a K st
def bZ.mono{n:Nat}{P:bo}{c:bK}{K d:bl}{st:St}(h:bZ n P c K st)(f:∀e b,K e b->d e b):bZ n P c d st :=
 λa g=>(h a g).mono f
section rules
variable {n:Nat} {P:bo} {K:bl} {st:St}
def bZ.skip(h:K .normal st):bZ n P .skip K st:=by
 intro a c;cases a
 case skip=>exact PW.skip h
 all_goals first|(exfalso;revert c;simp only[jI];try ((repeat' split)<;>simp);done)|(rename_i _ ops b;exfalso;cases b<;>simp only[jI]at c<;>first|(obtain⟨_,_,_,h⟩:=mF c;simp at h;done)|(rcases lx c with⟨_,_,_,_,h,_⟩|⟨_,_,h,_⟩|⟨_,_,_,_,_,_,h,_⟩<;>simp at h;done))
def bZ.dv{gs:dK}{d:List Pi}(h:oQ P gs d (K .normal) st):bZ n P (.dv gs d) K st:=by
 intro b c;cases b
 case region id ops draw =>
  cases draw
  .simp only[jI]at c;obtain⟨u,r,s,i⟩:=mF c;simp only[bK.dv.injEq]at i;obtain⟨rfl,rfl⟩:=i;intro B w0 w e a q o;refine wp_region ?_
   have:=IK (P:=P) (ops:=ops) (n:=n) (B:=B) (gs:=F2 d) (w0:=w0) (ws:=w) (σs:=st.J) (μs:=e) (K:=K .normal) (Q:=lP P n B w0 w st.J e K)
    (λg t f v m k p l=>⟨g,f,m,k,p,l⟩) ops.toList 0 d [] st.fr st.J w e a (λj=>by simp) r s h q o.toI (jO.refl _ _ _ _)
   simp only[aY,List.map_id',bh]at this;exact this
  .simp only[jI]at c;rcases lx c with⟨_,_,_,_,h,_⟩|⟨_,_,h,_⟩|⟨_,_,_,_,_,_,h,_⟩<;>simp at h
 all_goals first|(exfalso;revert c;simp only[jI];try ((repeat' split)<;>simp);done)
def bZ.jH{g:List (List Pi×Pi×List Pi)}{last:List Pi}{gs:dK}{b:List Pi}(h:Aa P g last (oQ P gs b (K .normal)) st):bZ n P (.jH g last gs b) K st:=by
 intro d c;cases d
 case region id ops draw =>
  cases draw
  .simp only[jI]at c;obtain⟨_,_,_,h⟩:=mF c;simp at h
  .simp only[jI]at c;rcases lx c with⟨_,_,_,_,_,c⟩|⟨_,_,h,_⟩|⟨_,_,_,_,_,_,h,_⟩
   rotate_left
   .simp at h
   .simp at h
   obtain⟨r,pis,m,ls,t,u,q,i⟩:=C4 c;simp only[bK.jH.injEq]at i;obtain⟨rfl,rfl,rfl,rfl⟩:=i;intro B z w v a s o;exact P9 (n:=n) r t u q h s o λf x e y l j p k=>⟨f,e,l,j,p,k⟩
 all_goals first|(exfalso;revert c;simp only[jI];try ((repeat' split)<;>simp);done)
def M7{ops:Array Oper}{bs:dK}{c:bK}(u:E7 P ops bs=some c)(h:∃f last gs d,c=.jH f last gs d/\Aa P f last (oQ P gs d (K .normal)) st)
  {B:Nat} {w0 w:bD} {μ:Mem} {a:Act} (t:lj P B w0 w st.J μ) (o:FR w st.J μ st.fr a) :
  wpAny P .any ops (λe g w'=>∃b μ',K e b/\lj P B w0 w' b.J μ'/\FR w' b.J μ' b.fr g/\jO n w st.J μ w' b.J μ') ops.size (Array.replicate ops.size false) a { w with drawn:=w.drawn+1 }:=by
 obtain⟨v,pis,m,ls,r,s,q,rfl⟩:=C4 u;obtain⟨f,last,gs,d,i,h⟩:=h;simp only[bK.jH.injEq]at i;obtain⟨rfl,rfl,rfl,rfl⟩:=i;exact DF (n:=n) r s q h t o λb w' μ' g l j p k=>⟨b,μ',l,j,p,k⟩
def bZ.both{x y:bK}(h1:∃f last gs c,x=.jH f last gs c/\Aa P f last (oQ P gs c (K .normal)) st)(o:∃f last gs c,y=.jH f last gs c/\Aa P f last (oQ P gs c (K .normal)) st):
  bZ n P (.both x y) K st:=by
 intro e d;cases e
 case region id ops draw =>
  cases draw
  .simp only[jI]at d;obtain⟨_,_,_,h⟩:=mF d;simp at h
  .simp only[jI]at d;rcases lx d with⟨_,_,_,_,h,_⟩|⟨a,b,h,d⟩|⟨_,_,_,_,_,_,h,_⟩
   .simp at h
   rotate_left
   .simp at h
   obtain⟨i,j,A,z,m,r,t,s,q,u,p,l⟩:=KD d;simp only[bK.both.injEq]at l;obtain⟨rfl,rfl⟩:=l;intro B C w v a k g;refine Nv s m r t q ?_ ?_
   .have:=M7 (n:=n) u h1 k g
    rwa [mV]at this
   .have:=M7 (n:=n) p o k g
    rwa [Iu,mV]at this
 all_goals first|(exfalso;revert d;simp only[jI];try ((repeat' split)<;>simp);done)
def bZ.YZ{c:List (Nat×Nat×aB)}{f g:List (List Pi×Pi×List Pi)}{last:List Pi}{gs:dK}{b:List Pi}
  (h:Fz P (Se c) f g last (oQ P gs b (K .normal)) (Dz st.J.length c st.fr) st.J []):bZ n P (.YZ c f g last gs b) K st:=by
 intro e d;cases e
 case region id ops draw =>
  cases draw
  .simp only[jI]at d;obtain⟨_,_,_,h⟩:=mF d;simp at h
  .simp only[jI]at d;rcases lx d with⟨_,_,_,_,h,_⟩|⟨_,_,h,_⟩|⟨_,_,_,_,_,_,_,d⟩
   .simp at h
   .simp at h
   obtain⟨u,pis,m,ls,fl,k1,x,y,i,t,l⟩:=Sc d;simp only[bK.YZ.injEq]at l;obtain⟨rfl,rfl,rfl,rfl,rfl,rfl⟩:=l;intro B D w z a v r;exact wp_region_any u (Lk (n:=n) x y i t h v r λk A j C q o s p=>⟨k,j,q,o,s,p⟩)
 all_goals first|(exfalso;revert d;simp only[jI];try ((repeat' split)<;>simp);done)
def bZ.ret(h:K .ret st):bZ n P .ret K st:=by
 intro a c;cases a
 case ret=>exact PW.ret h
 all_goals first|(exfalso;revert c;simp only[jI];try ((repeat' split)<;>simp);done)|(rename_i _ ops b;exfalso;cases b<;>simp only[jI]at c<;>first|(obtain⟨_,_,_,h⟩:=mF c;simp at h;done)|(rcases lx c with⟨_,_,_,_,h,_⟩|⟨_,_,h,_⟩|⟨_,_,_,_,_,_,h,_⟩<;>simp at h;done))
def bZ.exit{id:Nat}(h:K (.exit id) st):bZ n P (.exit id) K st:=by
 intro b a;cases b
 case exit id'=>simp only[jI,ae,bK.exit.injEq]at a;subst a;exact PW.exit h
 all_goals first|(exfalso;revert a;simp only[jI];try ((repeat' split)<;>simp);done)|(rename_i _ ops c;exfalso;cases c<;>simp only[jI]at a<;>first|(obtain⟨_,_,_,h⟩:=mF a;simp at h;done)|(rcases lx a with⟨_,_,_,_,h,_⟩|⟨_,_,h,_⟩|⟨_,_,_,_,_,_,h,_⟩<;>simp at h;done))
def aj2(n:Nat)(P:bo)(y:bK)(K:bl):bl
 |.normal,st=>bZ n P y K st
 |e,st=>K e st
def bZ.seq{x y:bK}(h:bZ n P x (aj2 n P y K) st):bZ n P (.seq x y) K st:=by
 intro b a;cases b
 case seq p q =>
  simp only[jI]at a;split at a<;>simp only[ae,reduceCtorEq,bK.seq.injEq]at a;rename_i j k f g;obtain⟨rfl,rfl⟩:=a;refine PW.seq ((h p f).mono ?_);intro e i d;cases e<;>first|exact d q g|exact d
 all_goals first|(exfalso;revert a;simp only[jI];try ((repeat' split)<;>simp);done)|(rename_i _ ops c;exfalso;cases c<;>simp only[jI]at a<;>first|(obtain⟨_,_,_,h⟩:=mF a;simp at h;done)|(rcases lx a with⟨_,_,_,_,h,_⟩|⟨_,_,h,_⟩|⟨_,_,_,_,_,_,h,_⟩<;>simp at h;done))
def bZ.block{id:Nat}{c:bK}(h:bZ n P c (Gm id K) st):bZ n P (.block id c) K st:=by
 intro b a;cases b
 case block id' c' =>
  simp only[jI,aF,bK.block.injEq]at a;obtain⟨f,e,rfl,rfl⟩:=a;exact PW.block (h c' e)
 all_goals first|(exfalso;revert a;simp only[jI];try ((repeat' split)<;>simp);done)|(rename_i _ ops d;exfalso;cases d<;>simp only[jI]at a<;>first|(obtain⟨_,_,_,h⟩:=mF a;simp at h;done)|(rcases lx a with⟨_,_,_,_,h,_⟩|⟨_,_,h,_⟩|⟨_,_,_,_,_,_,h,_⟩<;>simp at h;done))
def bZ.loop{c:bK}(I:ca)(m:St->Nat)(h0:I st)(h:∀st,I st->bZ n P c (agd I m (m st) K) st):bZ n P (.loop c) K st:=by
 intro b a;cases b
 case loop c' =>
  simp only[jI,aF,bK.loop.injEq]at a;obtain⟨g,f,rfl⟩:=a;exact PW.loop I m h0 λst e=>h st e c' f
 all_goals first|(exfalso;revert a;simp only[jI];try ((repeat' split)<;>simp);done)|(rename_i _ ops d;exfalso;cases d<;>simp only[jI]at a<;>first|(obtain⟨_,_,_,h⟩:=mF a;simp at h;done)|(rcases lx a with⟨_,_,_,_,h,_⟩|⟨_,_,h,_⟩|⟨_,_,_,_,_,_,h,_⟩<;>simp at h;done))
def bZ.ite{c:O}{x y:bK}{b:Bool}(o:ev st.fr c=.b b)(m:b=true->bZ n P x K st)(u:b=false->bZ n P y K st):bZ n P (.ite c x y) K st:=by
 intro e d;cases e
 case cond c' p q =>
  simp only[jI]at d;split at d<;>simp only[ae,reduceCtorEq,bK.ite.injEq]at d;rename_i v z A s t r;obtain⟨rfl,rfl,rfl⟩:=d;intro B j w i a l g;have k:=(o▸fu g s).vE;cases b
  .exact wp_cond_false k (u rfl q r B j w i a l g)
  .exact wp_cond_true k (m rfl p t B j w i a l g)
 all_goals first|(exfalso;revert d;simp only[jI];try ((repeat' split)<;>simp);done)|(rename_i _ ops f;exfalso;cases f<;>simp only[jI]at d<;>first|(obtain⟨_,_,_,h⟩:=mF d;simp at h;done)|(rcases lx d with⟨_,_,_,_,h,_⟩|⟨_,_,h,_⟩|⟨_,_,_,_,_,_,h,_⟩<;>simp at h;done))
end rules
inductive V.Wf:V->Prop
 |s (l:aG) (h:l.length<=maxLen):Wf (.s l)
 |sl (sz:Nat) (xs:dF) (h:xs.length<=maxLen) (hr:∀r∈xs,r.length=sz) (hx:∀i j x,gj xs i j=some x->Wf x):Wf (.sl sz xs)
 |agg (xs:aB) (h:∀(i:Nat) (x:V),xs[i]?=some x->Wf x):Wf (.agg xs)
 |b (x):Wf (.b x)
 |i (k n):Wf (.i k n)
 |u:Wf .u
 |nil:Wf .nil
 |lit (sz xs):Wf (.lit sz xs)
 |own (id g):Wf (.own id g)
 |sub (id g lo hi):Wf (.sub id g lo hi)
 |ptr (id off):Wf (.ptr id off)
 |ep (sz xs i off):Wf (.ep sz xs i off)
 |rp (id g i off):Wf (.rp id g i off)
 |mp (id):Wf (.mp id)
 |it (id):Wf (.it id)
 |Af (id n):Wf (.Af id n)
 |jG:Wf .jG
 |mu:Wf .mu
 |fn (f caps):Wf (.fn f caps)
 |iQ (xs):Wf (.iQ xs)
def VR.wf{w:bD}{J:ak}{μ:Mem}{x:V}{v:Value}(h:VR w J μ x v):x.Wf:=by
 induction h with
 |u v=>exact .u
 |b x=>exact .b x
 |i k n=>exact .i k n
 |s l x y m=>exact .s l m
 |nil=>exact .nil
 |K4 c=>exact .sl c [] (by simp) (by simp) (by simp[gj])
 |sle c a=>exact .sl c [] (by simp) (by simp) (by simp[gj])
 |sl c e b o E f j C z B p ih=>exact .sl c e (cu j C) z ih
 |Ou c=>exact .lit c _
 |lit c e b o f C z B p ih=>exact .lit c e
 |own id g v q h=>exact .own id g
 |sub id g F D v q h=>exact .sub id g F D
 |ptr id d b h m=>exact .ptr id d
 |ep c e i d b o f D z B p ih=>exact .ep c e i d
 |rp id g i d v q h=>exact .rp id g i d
 |mp id r h m=>exact .mp id
 |it id v h m=>exact .it id
 |Af id n b h m=>exact .Af id n
 |jG=>exact .jG
 |mu=>exact .mu
 |fn f t A y p ih=>exact .fn f t
 |agg e A y p ih=>exact .agg e ih
 |iQ e A y p ih=>exact .iQ e
def Ob.refs:Ob->aB
 |.box _ cs=>cs
 |.map _ _ es=>es.map (·.2)
 |.iter _ m _ _ _ _=>[.mp m]
 |_=>[]
def cn(J:ak):Prop:=∀(id:Nat) (o:Ob),J[id]?=some o->∀(j:Nat) (x:V),o.refs[j]?=some x->x.Lt J.length
def lj.closed{P:bo}{B:Nat}{w0 w:bD}{J:ak}{μ:Mem}(i:lj P B w0 w J μ):cn J:=by
 intro id o h j x a;cases o with
 |dead=>simp[Ob.refs]at a
 |row E F q g z G=>simp[Ob.refs]at a
 |box T D =>
  obtain⟨b,C,_,_,_,_,s⟩:=i.Wa h;obtain⟨u,_,f⟩:=s j x a;exact f.lt
 |map K E H =>
  obtain⟨r,l,clock,_,_,_,v⟩:=i.obj id _ h;simp only[Ob.refs,ck,aF]at a;obtain⟨⟨k,y⟩,p,rfl⟩:=a;obtain⟨_,_,e,_,_,f⟩:=v.2.1 j k y p;exact f.lt
 |iter st m E n A c =>
  have t:m<J.length:=by
   have:=i.obj id _ h;cases st
   .obtain⟨_,_,_,_,_,_,_,_,_,_,_,_,_,_,d,_⟩:=this;exact(ah.1 d).1
   .obtain⟨_,_,_,_,_,_,_,_,_,d,_⟩:=this;exact(ah.1 d).1
  cases j with
  |zero=>simp only[Ob.refs,aM,ae]at a;subst a;exact .mp _ t
  |succ j=>simp[Ob.refs]at a
def Wk(P:bo)(n:Nat)(xs:aB)(J:ak)(xs':aB)(J':ak):Prop :=
 ∀(B:Nat) (d w:bD) (b:Mem) (c:Array Value),lj P B d w J b->CR w J b xs c->∃a,lj P B d w J' a/\CR w J' a xs' c/\jO n w J b w J' a
def Wk.refl{P:bo}{n:Nat}(xs:aB)(J:ak):Wk P n xs J xs J:=λ_ _ _ b _ a c=>⟨b,a,c,jO.refl _ _ _ _⟩
def Wk.trans{P:bo}{n:Nat}{xs:aB}{J:ak}{xs':aB}{J':ak}{a:aB}{b:ak}(h:Wk P n xs J xs' J')(k:Wk P n xs' J' a b):Wk P n xs J a b:=by
 intro B e w g f p j;obtain⟨c,l,o,r⟩:=h B e w g f p j;obtain⟨d,m,q,i⟩:=k B e w c f l o;exact⟨d,m,q,r.trans i⟩
def bZ.wk{P:bo}{n:Nat}{c:bK}{K:bl}{fr fr':aB}{J J':ak}(h:Wk P n fr J fr' J')(k:bZ n P c K ⟨fr',J'⟩):bZ n P c K ⟨fr,J⟩:=by
 intro b v B l w m a u f;obtain⟨d,p,j,s⟩:=h B l w m a.tmps u ⟨f.2.1.symm,f.2.2⟩;exact wp_mono (k b v B l w d a p ⟨f.1,j.1.symm,j.2⟩) λe y x ⟨g,i,o,r,t,q⟩=>⟨g,i,o,r,t,s.trans q⟩
def PC.wk{P:bo}{f:Nat}{args args':aB}{J J':ak}{Q:V->ak->Prop}(h:Wk P J.length args J args' J')(k:PC P f args' J' Q):PC P f args J Q:=by
 intro B i w m g y l;obtain⟨a,o,d,s⟩:=h B i w m g y ⟨l.1.symm,l.2⟩;refine(k B i w a g o ⟨d.1.symm,d.2⟩).mono ?_;rintro e z ⟨r,v,b,c,rfl,n,q,t,p⟩;exact⟨r,v,b,c,rfl,n,q,t,λx u j=>p x u (s x u j j.lt)⟩
inductive Cv:V->V->Prop
 |refl (x):Cv x x
 |forget (x):Cv x .u
 |nil (sz):Cv .nil (.sl sz [])
 |lit (sz xs):Cv (.lit sz xs) (.sl sz xs)
 |agg (xs ys:aB) (hl:ys.length=xs.length) (h:∀(i:Nat) (x y:V),xs[i]?=some x->ys[i]?=some y->Cv x y):Cv (.agg xs) (.agg ys)
 |iQ (xs ys:aB) (hl:ys.length=xs.length) (h:∀(i:Nat) (x y:V),xs[i]?=some x->ys[i]?=some y->Cv x y):Cv (.iQ xs) (.iQ ys)
def Cv.ok{w:bD}{J:ak}{μ:Mem}{x y:V}(h:Cv x y):∀{v:Value},VR w J μ x v->VR w J μ y v:=by
 induction h with
 |refl x=>exact λh=>h
 |forget x=>exact λ_=>.u _
 |nil n=>intro v h;rw[h.tl];exact .K4 _
 |lit n a =>
  intro v h;rcases h.wZ with⟨rfl,rfl⟩|⟨b,o,f,rfl,p,j⟩
  .exact .K4 _
  .exact .sl _ _ b o _ f (aD _) p j.1 j.2.1 j.2.2
 |agg a l c q ih =>
  intro v h;obtain⟨k,rfl,m,g⟩:=h.mi;refine .agg l k (by rw[c,m]) λi y d=>?_;have e:i<a.length:=by rw[<- c];exact(ah.1 d).1
  exact ih i a[i] y (ax e) d (g i _ (ax e))
 |iQ a l c q ih =>
  intro v h;obtain⟨k,rfl,m,g⟩:=h.Oy;refine .iQ l k (by rw[c,m]) λi y d=>?_;have e:i<a.length:=by rw[<- c];exact(ah.1 d).1
  exact ih i a[i] y (ax e) d (g i _ (ax e))
inductive oJ:aB->aB->Prop
 |nil:oJ [] []
 |cons {x y xs ys} (h:Cv x y) (t:oJ xs ys):oJ (x::xs) (y::ys)
def oJ.at{xs ys:aB}(h:oJ xs ys):ys.length=xs.length/\∀(i:Nat) (x y:V),xs[i]?=some x->ys[i]?=some y->Cv x y:=by
 induction h with
 |nil=>simp
 |cons h t ih =>
  refine⟨by simp[ih.1],λi x y b a=>?_⟩;cases i with
  |zero=>simp only[aM,ae]at b a;subst b;subst a;exact h
  |succ i=>exact ih.2 i x y (by simpa using b) (by simpa using a)
def oJ.refl(xs:aB):oJ xs xs:=by
 induction xs with
 |nil=>exact .nil
 |cons x xs ih=>exact .cons (.refl x) ih
def Cv.Uy{xs ys:aB}(h:oJ xs ys):Cv (.agg xs) (.agg ys):=.agg xs ys h.at.1 h.at.2
def Wk.fg{P:bo}{n:Nat}{xs ys:aB}{J:ak}(h:oJ xs ys):Wk P n xs J ys J:=by
 intro B j w e k g a;obtain⟨d,f⟩:=h.at;refine⟨e,g,⟨by rw[d];exact a.1,λi y b=>?_⟩,jO.refl _ _ _ _⟩;have c:i<xs.length:=by rw[<- d];exact(ah.1 b).1
 exact(f i xs[i] y (ax c) b).ok (a.2 i _ (ax c))
def Wk.share{P:bo}{n:Nat}{xs:aB}{J:ak}{id E sz by' g:Nat}{sh:Bool}{rows:dF}(a:J[id]?=some (.row E sz by' g sh rows)):Wk P n xs J xs (J.set id (.row E sz by' g true rows)):=by
 intro B O w l L p k;have c:id<J.length:=(ah.1 a).1
 have d:=p.update (w':=w) (J':=J.set id (.row E sz by' g true rows)) (μ':=l) id none (grownBy_refl w none) (by simp) (by simp) (λj G=>bz (λe=>G e.symm)) (λ_ _=>rfl)
  (λb r=>.inl ⟨_,a,by simp,r⟩)
  (λb A u o f _ q D t=>⟨D,λR m S=>by
   rw[a]at f;simp only[ae]at f;subst f;simp only[aL c,ae]at m;subst m;intro v;exact t ⟨id,_,a,q,λ_=>v rfl⟩⟩)
  (λT M h=>by rw[a]at h;simp at h) (λK E Q h=>by rw[a]at h;simp at h)
  (λN s H I C z _ h=>by
   simp only[aL c,ae,Ob.row.injEq]at h;obtain⟨rfl,rfl,rfl,rfl,rfl,rfl⟩:=h;exact⟨g,sh,rows,a,aD _,λ_=>⟨rfl,rfl⟩⟩)
  (λy o h=>by
   simp only[aL c,ae]at h;subst h;exact(p.obj id _ a).jF y.jF λ_ _=>rfl)
 exact⟨l,d.1,⟨k.1,λi x F=>(k.2 i x F).mono d.2⟩,d.2.jF.Wr⟩
def VR.D7{P:bo}{B:Nat}{w0 w:bD}{J:ak}{μ:Mem}(F:lj P B w0 w J μ){id E sz by' g:Nat}{rows:dF}(q:J[id]?=some (.row E sz by' g true rows))(a hi:Nat)(O:a<=hi)(K:hi<=rows.length):
  VR w J μ (.sl sz ((rows.drop a).take (hi - a))) (pO (μ id) a hi sz):=by
 obtain⟨_,C,t⟩:=F.rowAt q;have z:((rows.drop a).take (hi - a)).length=hi - a:=by simp;omega
 rcases t with⟨l,M⟩|⟨b,h,I,l,_,S,Q,_,t⟩
 .subst M;simp only[al]at K;have d:a=0:=by omega
  have v:hi=0:=by omega
  subst d;subst v;rw[l];exact .K4 sz
 .rw[l];let f:Nat->Nat->Value:=λi j=>(w.cell? ⟨b,i*sz+j,none⟩).getD undef
  have p:∀i j x,gj rows i j=some x->w.cell? ⟨b,i*sz+j,none⟩=some (f i j)/\x.pure=true/\VR w J μ x (f i j):=by
   intro i j x c;obtain⟨e,u,k,d⟩:=t i j x c;have:f i j=u:=by simp[f,k]
   exact⟨by rw[this];exact k,e,by rw[this];exact d⟩
  have s:∀i j x,gj rows i j=some x->¬wr J μ b (i*sz+j):=by
   rintro i j x c ⟨o,y,e,k,d⟩;have G:y≠.dead:=by rintro rfl;exact d
   have:=F.sep id o _ y b q e (by simp) G (by simp[l,lZ]) k;subst this;rw[q]at e;simp only[ae]at e;subst e;have v:=d rfl;obtain⟨r,A,L⟩:=jz c;have m:i<rows.length:=(ah.1 A).1;have R:j<sz:=by rw[<- C r (bE A)];exact(ah.1 L).1
   have:(i+1)*sz<=rows.length*sz:=bI _ m;rw[cJ,ir]at this;omega
  have H:v7 w J μ rows sz b 0 f:=⟨C,λi j x c=>⟨by rw[aY];exact(p i j x c).1,by rw[aY];exact s i j x c,(p i j x c).2.1⟩,λi j x c=>(p i j x c).2.2⟩
  by_cases D:h=a
  .have d:hi - a=0:=by omega
   simp only[pO,D,aT,d,mA,jm];exact .sl sz [] b 0 0 f (by simp) (by simp) (by simp) (by simp[gj]) (by simp[gj])
  .simp only[pO,D,aS,cL,Addr.add_lit];have n:=H.sub a (hi - a);have N:=VR.sl (w:=w) (J:=J) (μ:=μ) sz _ b _ (h - a) _ (by rw[z];omega) (by omega) n.1 n.2.1 n.2.2
   rwa [z]at N
def PS{P:bo}{B:Nat}{w0 w:bD}{J:ak}{μ:Mem}(f:lj P B w0 w J μ){id E sz by' g:Nat}{sh:Bool}{rows:dF}(d:J[id]?=some (.row E sz by' g sh rows)):pO (μ id) 0 rows.length sz=μ id:=by
 rcases(f.rowAt d).2.2 with⟨a,e⟩|⟨b,h,c,a,_⟩
 .subst e;rw[a];rfl
 .rw[a];simp[pO,Addr.add_lit]
def Wk.own{P:bo}{n:Nat}{xs:aB}{J:ak}{k id E sz by' g:Nat}{rows:dF}(c:J[id]?=some (.row E sz by' g true rows))(h:xs[k]?=some (.own id g)):Wk P n xs J (xs.set k (.sl sz rows)) J:=by
 intro B p w l q d b;have j:k<xs.length:=(ah.1 h).1;refine⟨l,d,⟨by simp[b.1],λi y a=>?_⟩,jO.refl _ _ _ _⟩
 by_cases f:i=k
 .subst f;rw[aL j]at a;simp only[ae]at a;subst a;have o:=b.2 i _ h;have m:=o.mK c;rw[m];have:=VR.D7 d c 0 rows.length (by omega) (aD _);rw[PS d c]at this;simpa using this
 .rw[bz (λe=>f e.symm)]at a;exact b.2 i y a
def Wk.sub{P:bo}{n:Nat}{xs:aB}{J:ak}{k id E sz by' g b hi:Nat}{rows:dF}(d:J[id]?=some (.row E sz by' g true rows))(f:xs[k]?=some (.sub id g b hi)):Wk P n xs J (xs.set k (.sl sz ((rows.drop b).take (hi - b)))) J:=by
 intro B q w l r h c;have j:k<xs.length:=(ah.1 f).1;refine⟨l,h,⟨by simp[c.1],λi y a=>?_⟩,jO.refl _ _ _ _⟩
 by_cases hi:i=k
 .subst hi;rw[aL j]at a;simp only[ae]at a;subst a;obtain⟨p,m,o⟩:=(c.2 i _ f).wX d;rw[o];exact VR.D7 h d b _ p m
 .rw[bz (λe=>hi e.symm)]at a;exact c.2 i y a
def Wk.ij{P:bo}{n:Nat}{xs:aB}{J:ak}{k E sz by':Nat}(hT:Ti P E sz by')(f:xs[k]?=some .nil):Wk P n xs J (xs.set k (.own J.length 0)) (J++[.row E sz by' 0 false []]):=by
 intro B l w μ m j b;have h:k<xs.length:=(ah.1 f).1;have c:=j.z6 (w':=w) (.row E sz by' 0 false []) (.slice none 0 0) (grownBy_refl w none) (by simp[lZ]) (λ_=>⟨hT,[],World.ownsRow_nil w B E sz,by simp,by simp[gj]⟩);refine⟨_,c.1,⟨by simp[b.1],λi y a=>?_⟩,c.2.jF.Wr⟩
 by_cases d:i=k
 .subst d;rw[aL h]at a;simp only[ae]at a;subst a;rw[(b.2 i _ f).tl];have:=VR.uq (w:=w) (J:=J++[.row E sz by' 0 false []]) (μ:=yO μ J.length (.slice none 0 0)) (id:=J.length) (E:=E) (sz:=sz) (by':=by') (g:=0) (sh:=false) (xs:=[]) (by simp)
  rwa [gR]at this
 .rw[bz (λe=>d e.symm)]at a;exact(b.2 i y a).mono c.2
def qB{x:V}(h:x.pure=true)(m:Nat):x.Lt m:=by
 cases x<;>simp[V.pure]at h
 .exact .b _
 .exact .i _ _
 .exact .s _
 .exact .sl _ _
def VR.take{w:bD}{J:ak}{μ:Mem}{x:V}{v:Value}(h:VR w J μ x v){m:Nat}(C:m<=J.length)(d:x.Lt m):VR w (J.take m) μ x v:=by
 have Q:∀b p,wr (J.take m) μ b p->wr J μ b p:=by
  rintro b p ⟨id,o,A,W,Y⟩;refine⟨id,o,?_,W,Y⟩;rw[ee]at A;split at A
  .exact A
  .simp at A
 have D:∀{id:Nat} {o:Ob},id<m->((J.take m)[id]?=some o<->J[id]?=some o):=λh=>by rw[cz h]
 have q:(J.take m).length=m:=by simp;omega
 induction h with
 |u v=>exact .u v
 |b x=>exact .b x
 |i k n=>exact .i k n
 |s l x e C=>exact .s l x e C
 |nil=>exact .nil
 |K4 t=>exact .K4 t
 |sle t a=>exact .sle t a
 |sl t y b o S f q U N z I ih =>
  exact .sl t y b o S f q U N (λi j x d=>⟨(z i j x d).1,λh=>(z i j x d).2.1 (Q _ _ h),(z i j x d).2.2⟩) (λi j x d=>ih i j x d (qB (z i j x d).2.2 m))
 |Ou t=>exact .Ou t
 |lit t y b o f U N z I ih =>
  exact .lit t y b o f U N (λi j x d=>⟨(z i j x d).1,λh=>(z i j x d).2.1 (Q _ _ h),(z i j x d).2.2⟩) (λi j x d=>ih i j x d (qB (z i j x d).2.2 m))
 |own id g v L h =>
  cases d with
  |own _ _ e=>exact .own id g v (by rw[q];exact e) λE t B G M y H=>h E t B G M y ((D e).1 H)
 |sub id g Z R v L h =>
  cases d with
  |sub _ _ _ _ e=>exact .sub id g Z R v (by rw[q];exact e) λE t B G M y H=>h E t B G M y ((D e).1 H)
 |ptr id p b h C =>
  cases d with
  |ptr _ _ e =>
   obtain⟨T,P,A⟩:=h;exact .ptr id p b ⟨T,P,(D e).2 A⟩ C
 |ep t y i p b o f R N z I ih =>
  exact .ep t y i p b o f R N (λj x d=>⟨(z j x d).1,λh=>(z j x d).2.1 (Q _ _ h),(z j x d).2.2⟩) (λj x d=>ih j x d (qB (z j x d).2.2 m))
 |rp id g i p v L h =>
  cases d with
  |rp _ _ _ _ e=>exact .rp id g i p v (by rw[q];exact e) λE t B G M y H=>h E t B G M y ((D e).1 H)
 |mp id r h C =>
  cases d with
  |mp _ e =>
   obtain⟨K,E,es,A⟩:=h;exact .mp id r ⟨K,E,es,(D e).2 A⟩ C
 |it id v h C =>
  cases d with
  |it _ e =>
   obtain⟨st,m',E,n,X,c,A⟩:=h;exact .it id v ⟨st,m',E,n,X,c,(D e).2 A⟩ C
 |Af id n b h C =>
  cases d with
  |Af _ _ e =>
   obtain⟨T,P,A⟩:=h;exact .Af id n b ⟨T,P,(D e).2 A⟩ C
 |jG=>exact .jG
 |mu=>exact .mu
 |fn f O F e I ih =>
  cases d with
  |fn _ _ h=>exact .fn f O F e λi x d=>ih i x d (h i x d)
 |agg y F e I ih =>
  cases d with
  |agg _ h=>exact .agg y F e λi x d=>ih i x d (h i x d)
 |iQ y F e I ih =>
  cases d with
  |iQ _ h=>exact .iQ y F e λi x d=>ih i x d (h i x d)
def Ea{x:V}(h:x.yf=true)(m:Nat):x.Lt m:=by
 cases x<;>simp[V.yf]at h
 .exact .b _
 .exact .i _ _
 .exact .s _
 .rename_i c;refine .agg _ λi x a=>?_;have:=h x (bE a);cases x<;>simp[V.WI]at this
  .exact .b _
  .exact .i _ _
  .exact .s _
def map_lt{a:List (V×V)}{m:Nat}(h:∀(j:Nat) (x:V),(a.map (·.2))[j]?=some x->x.Lt m){i:Nat}{k x:V}(hi:a[i]?=some (k,x)):x.Lt m :=
 h i x (by rw[ck,hi];rfl)
def FX{P:bo}{B:Nat}{w:bD}{J:ak}{μ:Mem}{J':ak}{μ':Mem}{v:Value}{st:Bool}{m E n:Nat}{g:dK}{c:cU}(h:HE P B w J μ v (.iter st m E n g c))(h1:J'[m]?=J[m]?)(j:μ' m=μ m):HE P B w J' μ' v (.iter st m E n g c):=by
 have f:=Fa.same (w:=w) (w':=w) h1 j λ_ _=>rfl;cases st
 .obtain⟨r,i,since,a,d,e,l,k⟩:=h;exact⟨r,i,since,a,d,e,l,k.step f⟩
 .obtain⟨b,d,e⟩:=h;exact⟨b,d,e.step f⟩
def Wk.drop{P:bo}{n m:Nat}{xs:aB}{J:ak}(M:n<=m)(y:m<=J.length)(Y:∀(i:Nat) (x:V),xs[i]?=some x->x.Lt m)(L:∀(id:Nat) (o:Ob),id<m->J[id]?=some o->∀(j:Nat) (x:V),o.refs[j]?=some x->x.Lt m):Wk P n xs J xs (J.take m):=by
 intro B w0 w μ vs H Q
 have I:∀{id:Nat} {o:Ob},(J.take m)[id]?=some o->id<m/\J[id]?=some o:=by
  intro id o h;rw[ee]at h;split at h
  .exact⟨by assumption,h⟩
  .simp at h
 refine⟨μ,⟨H.below,H.base,λid o U=>?_,λi j S oj b F s q l f a=>H.sep i j S oj b (I F).2 (I s).2 q l f a⟩,⟨Q.1,λi x z=>(Q.2 i x z).take y (Y i x z)⟩,λx v hv X=>hv.take y (X.mono M)⟩;obtain⟨p,d⟩:=I U;have G:=H.obj id o d;cases o with
 |dead=>trivial
 |box T cs =>
  obtain⟨b,Z,q,l,f,a,t⟩:=G;exact⟨b,Z,q,l,f,a,λj x s=>let ⟨u,D,N⟩:=t j x s;⟨u,D,N.take y (L id _ p d j x s)⟩⟩
 |row E sz aa g sh O =>
  obtain⟨q,A,l,f⟩:=G;exact⟨q,A,l,f.1,λi j x s=>let ⟨a,u,t,D⟩:=f.2 i j x s;⟨a,u,t,D.take y (qB a m)⟩⟩
 |map K E es =>
  obtain⟨r,C,clock,q,l,f,a⟩:=G;exact⟨r,C,clock,q,l,f,a.1,λi k x F=>let ⟨t,D,e,N,W,h9⟩:=a.2.1 i k x F;⟨t,D,e,N,W.take y (Ea t m),h9.take y (map_lt (L id _ p d) F)⟩,a.2.2⟩
 |iter st R E n ps c =>
  have fk:R<m:=by
   have:=L id _ p d 0 (.mp R) rfl;cases this;assumption
  exact FX G (cz fk) rfl
def Wk.A2{P:bo}{n:Nat}{xs:aB}{J loc:ak}(d:n<=J.length)(c:cn J)(e:∀(i:Nat) (x:V),xs[i]?=some x->x.Lt J.length):Wk P n xs (J++loc) xs J:=by
 have:=Wk.drop (P:=P) (n:=n) (m:=J.length) (xs:=xs) (J:=J++loc) d (by simp) e (λid o a h j x b=>c id o (by rwa [ay a]at h) j x b);simpa using this
inductive Rs where
 |t (n:Nat)
 |c (n:Nat) (k:cU)
structure ux where
 nt:Nat
 rs:List Rs
 c:bK
def cRs(P:bo):List ResultVar->Option (List Rs)
 |[]=>some []
 |.tmp t::r=>(cRs P r).map (.t t::·)
 |.cell t T::r=>match jC P T,P.info? T,cRs P r with
  |some true,some b,some a=>some (.c t (some b.size)::a)
  |some false,some _,some a=>some (.c t none::a)
  |_,_,_=>none
def dY(P:bo)(b:Func):Option ux :=
 match b.body with
 |some a=>match jI P a,cRs P b.results.toList with
  |some c,some d=>some ⟨b.ntmps,d,c⟩
  |_,_=>none
 |none=>none
def xr(st:St):Rs->Option V
 |.t n=>some (st.fr.getD n .u)
 |.c n k=>match st.fr.getD n .u with
  |.ptr id off=>match st.J[id]? with
   |some (.box _ cs)=>match k with
    |none=>cs[off]?
    |some m=>if off+m<=cs.length then some (.agg ((cs.drop off).take m))else none
   |_=>none
  |_=>none
def ni(st:St):List Rs->Option (aB)
 |[]=>some []
 |r::rs=>match xr st r,ni st rs with
  |some x,some a=>some (x::a)
  |_,_=>none
def one:aB->V
 |[x]=>x
 |xs=>.iQ xs
def rG(P:bo)(n:Nat)(c:List Rs)(Q:V->ak->Prop)(e:Exit)(st:St):Prop :=
 (e=.normal\/e=.ret)/\∃b,ni st c=some b/\∃r a,Wk P n [one b] st.J [r] a/\Q r a
def S8(tmps:Array Value):ResultVar->Sem Value
 |.tmp t=>pure (tmps.getD t undef)
 |.cell a t=>do loadVar t (<- asAddr (tmps.getD a undef))
def S7(a:Func)(tmps:Array Value):results a tmps=(do let vs <- a.results.mapM (S8 tmps);pure (if h:vs.size=1 then vs[0]else .tuple vs)):=rfl
def GA{P:bo}{B:Nat}{w0 w:bD}{st:St}{μ:Mem}{a:Act}(F:lj P B w0 w st.J μ)(A:FR w st.J μ st.fr a):∀(l:List ResultVar) (q:List Rs) (xs:aB),cRs P l=some q->ni st q=some xs ->
  ∃o:List Value,(l.mapM (S8 a.tmps)).run P w=.ok o w/\o.length=xs.length/\∀(i:Nat) (x:V),xs[i]?=some x->VR w st.J μ x (o.getD i undef)
 |[],q,xs,hc,hx=>by
  simp only[cRs,ae]at hc;subst hc;simp only[ni,ae]at hx;subst hx;exact⟨[],by simp,rfl,by simp⟩
 |r::l,q,xs,hc,hx=>by
  have C:∃u d,q=u::d/\cRs P l=some d/\∀x,xr st u=some x->∃v,(S8 a.tmps r).run P w=.ok v w/\VR w st.J μ x v:=by
   cases r with
   |tmp t =>
    simp only[cRs,aF]at hc;obtain⟨d,f,rfl⟩:=hc;refine⟨.t t,d,rfl,f,λx h=>⟨_,rfl,?_⟩⟩;simp only[xr,ae]at h;subst h;exact A.at t
   |cell t T =>
    simp only[cRs]at hc
    have inner:∀(g:Bool) (m:TypeInfo),jC P T=some g->P.info? T=some m->∀x,xr st (.c t (if g then some m.size else none))=some x->∃v,(do loadVar T (<- asAddr (a.tmps.getD t undef)):Sem Value).run P w=.ok v w/\VR w st.J μ x v:=by
     intro g m p e x h;simp only[xr]at h;split at h
     .rename_i id off W;have f:=W▸A.at t;obtain⟨b,X,N,_⟩:=f.wY;split at h
      .rename_i T' K H;obtain⟨b',o,n,hB,hh,jD,Y⟩:=F.Wa H;rw[X]at n;simp only[Value.pointer.injEq,ae,Addr.mk.injEq,kP]at n;subst n;have s:=Q8 (P:=P) (J:=st.J) (μ:=μ) (row:=K) (k:=if g then some m.size else none) (b:=b) (off:=off) e (Ri p) off (λj z L=>Y _ z L)
       have O:(do loadVar T (<- asAddr (a.tmps.getD t undef)):Sem Value).run P w=(Instr.loadAt T (.pointer (some ⟨b,off,none⟩))).run P w:=by
        rw[N];rfl
       rw[O];cases g
       .simp only[aI,aS]at h s;exact s.1 trivial x h
       .simp only[aT]at h s;split at h<;>simp only[ae,reduceCtorEq]at h;rename_i E;subst h;exact s.2 _ rfl E
      .simp at h
     .simp at h
    split at hc<;>simp only[ae,reduceCtorEq]at hc
    .rename_i m d p e f;exact⟨_,d,hc.symm,f,λx h=>inner true m p e x h⟩
    .rename_i m d p e f;exact⟨_,d,hc.symm,f,λx h=>inner false m p e x h⟩
  obtain⟨u,d,rfl,f,G⟩:=C;simp only[ni]at hx;split at hx<;>simp only[ae,reduceCtorEq]at hx;rename_i x ys Q U;subst hx;obtain⟨v,M,I⟩:=G x Q;obtain⟨o,R,Z,S⟩:=GA F A l d ys f U;refine⟨v::o,?_,by simp[Z],λi y D=>?_⟩
  .simp only[List.mapM_cons,Sem.run_bind,M,Result.andThen_ok,R,Sem.run_pure]
  .cases i with
   |zero=>simp only[aM,ae]at D;subst D;simpa using I
   |succ i=>simpa using S i y (by simpa using D)
abbrev bM(P:Program)(f:Nat)(a:List V)(J:ak)(y:V):Prop:=PC P f a J λr b=>r=y/\b=J
def aZ{P:bo}{f:Nat}{g:Func}{A:ux}{args:aB}{J:ak}{Q:V->ak->Prop}(hf:P.funcs[f]?=some g)(m:dY P g=some A)
  (h:cn J->(∀(i:Nat) (x:V),args[i]?=some x->x.Wf/\x.Lt J.length)->bZ J.length P A.c (rG P J.length A.rs Q) ⟨args++List.replicate (A.nt - args.length) .u,J⟩):PC P f args J Q:=by
 unfold dY at m;split at m
 .rename_i o T;split at m<;>simp only[ae,reduceCtorEq]at m;rename_i c rs JV OF;subst m;intro B K w F k S q;refine calls_of_wp hf T ?_
  have hF:FR w J F (args++List.replicate (g.ntmps - args.length) .u) { tmps:=k++Array.replicate (g.ntmps - k.size) undef,defers:=[] }:=by
   refine⟨rfl,by simp[q.1],λi x a=>?_⟩
   by_cases O:i<args.length
   .rw[ay O]at a;have H:=q.2 i x a;have W:i<k.size:=by rw[q.1];exact O
    have e:(k++Array.replicate (g.ntmps - k.size) undef).getD i undef=k.getD i undef:=by
     simp only[cx,lC W]
    simp only[e];exact H
   .rw[aU (by omega)]at a
    have:x=.u:=by
     have:=(ah.1 a).2;simpa using this.symm
    subst this;exact .u _
  refine wp_mono (h S.closed (λi x a=>⟨(q.2 i x a).wf,(q.2 i x a).lt⟩) o JV B K w F _ S hF) ?_;rintro e N d ⟨I,b,hK,t,j,hk⟩;obtain⟨Z,D,BZ,r,n,Y,hQ⟩:=hK;obtain⟨l,H,E,p⟩:=GA t j g.results.toList rs D OF BZ
  have L:∃v,(results g N.tmps).run P d=.ok v d/\VR d I.J b (one D) v:=by
   have C:(results g N.tmps).run P d=.ok (if h:l.toArray.size=1 then l.toArray[0]else .tuple l.toArray) d:=by
    rw[S7,Array.mapM_eq_mapM_toList];simp only[Sem.run_bind,Sem.run_map,H,Result.andThen_ok,Sem.run_pure]
   refine⟨_,C,?_⟩
   match D,l,E,p with
   |[x],[u],_,p=>have:=p 0 x rfl;exact this
   |[],[],_,_=>exact .iQ [] #[] rfl (by simp)
   |x::y::D,u::v::l,E,p =>
    have iR:¬((u::v::l).toArray.size=1):=by simp
    rw[YA iR]
    exact .iQ _ _ (by simpa using E.symm) λi z X=>by
     have:=p i z X;simpa[aq]using this
  obtain⟨v,C,G⟩:=L
  obtain⟨M,U,h5,h6⟩:=Y B K d b #[v] t ⟨rfl,λi x a=>by
   cases i with
   |zero=>simp only[aM,ae]at a;subst a;simpa using G
   |succ i=>simp at a⟩
  have R:∃r s n b,Ending.returned v=.returned s/\Q r n/\lj P B K d n b/\VR d n b r s/\uc w J F d n b :=
   ⟨r,v,n,M,rfl,hQ,U,by have:=h5.2 0 r rfl;simpa using this,λx u a=>h6 x u (hk x u a a.lt) a.lt⟩
  rcases Z with rfl|rfl
  .exact⟨j.1,v,C,R⟩
  .exact⟨j.1,v,C,R⟩
 .simp at m
end Go.Pm
