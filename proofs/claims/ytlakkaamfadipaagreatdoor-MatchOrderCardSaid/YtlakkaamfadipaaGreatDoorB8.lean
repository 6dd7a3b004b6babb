/- A part of a proof; the claim's last text says of what. -/
import Derived.Test.YtlakkaamfadipaaGreatDoorB7
set_option linter.all false

namespace Go.Pm
open Go Go.RowKit
def I.os:I->List O
 |.gm x=>[x]
 |.pick c a b=>[c,a,b]
 |.box _ x=>[x]
 |.alloc _ _=>[]
 |.build _ parts=>parts.map (·.2.2)
 |.dH _ _ xs=>xs
 |.Sg _ _ _ _ xs=>xs
 |.load _ a=>[a]
 |.store _ _ a x=>[a,x]
 |.gU x=>[x]
 |.bin _ x y=>[x,y]
 |.beq _ _ x y=>[x,y]
 |.bbq _ x y=>[x,y]
 |.un _ x=>[x]
 |.cvi _ x=>[x]
 |.b2s x=>[x]
 |.slice _ x lo hi=>x::(lo.toList++hi.toList)
 |.za x lo hi=>x::(lo.toList++hi.toList)
 |.pq _ x=>[x]
 |.idx _ x i=>[x,i]
 |.Dy x i=>[x,i]
 |.Sl _ _ x i=>[x,i]
 |.asl _ x=>[x]
 |.ext _ x=>[x]
 |.len _ x=>[x]
 |.max2 x y=>[x,y]
 |.min2 x y=>[x,y]
 |.app _ _ _ x y=>[x,y]
 |.apps _ x y=>[x,y]
 |.mk _ _ _ _ l c=>[l,c]
 |.GP _ _=>[]
 |.look _ _ _ m k=>[m,k]
 |.FK _ _ m k x=>[m,k,x]
 |.Jj x=>[x]
 |.call _ args=>args
 |.uD x args=>x::args
 |.clo _ xs=>xs
 |.RZ _ _ x=>[x]
 |.Lx _ m k=>[m,k]
 |.Oi _ _ m k=>[m,k]
 |.Oh _ m s x=>[m,s,x]
 |.range x=>[x]
 |.next x=>[x]
 |.ent x=>[x]
 |.Wn _ x=>[x]
 |.SJ _ x i=>[x,i]
 |.clip _ x h m=>[x,h,m]
 |.PT x y=>[x,y]
 |.mkb _ _ l c=>[l,c]
 |.stop=>[]
def O.slot:O->dK
 |.t n=>[n]
 |.c _=>[]
def I.uA:I->List (Nat×fJ)
 |.pick (.t c) a b=>(c,[])::(a.slot.map (·,[(c,true)])++b.slot.map (·,[(c,false)]))
 |i=>(i.os.flatMap O.slot).map (·,[])
def I.fa:I->Bool
 |.box _ _|.alloc _ _|.store _ _ _ _|.app _ _ _ _ _|.apps _ _ _|.mk _ _ _ _ _ _|.mkb _ _ _ _|.Sg _ _ _ _ _|.GP _ _|.FK _ _ _ _ _|.RZ _ _ _|.Lx _ _ _|.Oi _ _ _ _|.Oh _ _ _ _|.range _|.next _|.call _ _|.uD _ _|.stop=>false
 |_=>true
def I.reads:I->Bool
 |.build _ _|.dH _ _ _|.load _ _|.gU _|.b2s _|.slice _ _ _ _|.pq _ _|.idx _ _ _|.len _ _|.Jj _|.look _ _ _ _ _|.ent _=>true
 |_=>false
section
variable {fr fr':aB} {J:ak}
def GJ{i:I}(h:∀x∈i.os,ev fr x=ev fr' x):bT fr J i=bT fr' J i:=by
 cases i with
 |build zs parts =>
  have g:∀p∈parts,ev fr p.2.2=ev fr' p.2.2:=λp d=>h _ (bF.2 ⟨p,d,rfl⟩)
  have s:(parts.map λ(e,j,x)=>(e,j,jw (ev fr x)))=parts.map λ(e,j,x)=>(e,j,jw (ev fr' x)) :=
   eA λp d=>by
    have u:=g p d;obtain⟨a,b,c⟩:=p;simp only at u |-;rw[u]
  have t:(∀p∈parts,kt J (ev fr p.2.2)=true)=(∀p∈parts,kt J (ev fr' p.2.2)=true) :=
   propext ⟨λk p d=>g p d▸k p d,λk p d=>(g p d).symm▸k p d⟩
  simp only[bT,s,t]
 |dH j o l =>
  have g:∀p∈l,ev fr p=ev fr' p:=λp d=>h _ d
  have s:(l.map λx=>eT o (jw (ev fr x)))=l.map λx=>eT o (jw (ev fr' x)) :=
   eA λp d=>by rw[g p d]
  have t:(∀p∈l,kt J (ev fr p)=true)=(∀p∈l,kt J (ev fr' p)=true) :=
   propext ⟨λk p d=>g p d▸k p d,λk p d=>(g p d).symm▸k p d⟩
  simp only[bT,s,t]
 |slice j x n m =>
  have r:=h x (by simp[I.os]);have v:∀y,n=some y->ev fr y=ev fr' y:=λy f=>h y (by simp[I.os,f]);have w:∀y,m=some y->ev fr y=ev fr' y:=λy f=>h y (by simp[I.os,f]);cases n<;>cases m<;>simp_all [bT]
 |za x n m =>
  have r:=h x (by simp[I.os]);have v:∀y,n=some y->ev fr y=ev fr' y:=λy f=>h y (by simp[I.os,f]);have w:∀y,m=some y->ev fr y=ev fr' y:=λy f=>h y (by simp[I.os,f]);cases n<;>cases m<;>simp_all [bT]
 |len q x =>
  have r:=h x (by simp[I.os]);cases q<;>simp only[bT,r]
 |_=>simp_all [bT,I.os]
def Px{i:I}(h:∀x∈i.os,ev fr x=ev fr' x):dE fr J i=dE fr' J i:=by
 cases i<;>simp_all [dE,I.os]
def Qv{J':ak}{i:I}(h:i.reads=false):bT fr J i=bT fr J' i:=by
 cases i<;>simp_all [bT,I.reads]
def DS{i:I}{r:Prop×V}(h:bT fr J i=some r):i.fa=true:=by
 cases i<;>simp_all [bT,I.fa]
def Di{i:I}(h:i.fa=true):dE fr J i=none:=by
 cases i<;>simp_all [dE,I.fa]
end
def chainB(fr:aB):fJ->Option Bool
 |[]=>some true
 |(t,b)::r=>match fr.getD t .u with
  |.b x=>match chainB fr r with
   |some y=>some ((x==b)&&y)
   |none=>none
  |_=>none
def Hc{fr:aB}:∀{ch:fJ},chainB fr ch=some true<->∀p∈ch,fr.getD p.1 .u=.b p.2
 |[]=>by simp[chainB]
 |(t,b)::r=>by
  have ih:=Hc (fr:=fr) (ch:=r);simp only[chainB,bC,forall_eq_or_imp];rw[<- ih];split
  .rename_i x c;split
   .rename_i y a;rw[c,a];cases x<;>cases b<;>cases y<;>simp
   .rename_i a;simp[a]
  .rename_i c;simp only[reduceCtorEq,acr,not_and];intro h;exact absurd h (c b)
def LU{fr:aB}{a b:fJ}(h:chainB fr b=some true)(d:a.isPrefixOf b=true):chainB fr a=some true:=by
 rw[Hc]at *;exact λp c=>h p ((List.isPrefixOf_iff_prefix.1 d).subset c)
def xC{fr:aB}:∀{a b:fJ},chainB fr (a++b)=match chainB fr a,chainB fr b with
  |some x,some y=>some (x&&y)
  |_,_=>none
 |[],b=>by simp only[bc,chainB];cases chainB fr b<;>simp
 |(t,w)::r,b=>by
  simp only[bJ,chainB,xC (a:=r) (b:=b)];cases fr.getD t .u<;>simp;cases chainB fr r<;>cases chainB fr b<;>simp[Bool.and_assoc]
def abx{fr:aB}{n m:Nat}{x y:V}(h:n≠m):(fr.set n x).getD m y=fr.getD m y:=by
 simp[aq,bz h]
def A8{fr:aB}{d:cU}{r:V}:∀{ch:fJ},(∀p∈ch,d≠some p.1)->chainB (fX fr d r) ch=chainB fr ch
 |[],_=>by simp[chainB]
 |(t,b)::ch,h=>by
  have ih:=A8 (fr:=fr) (d:=d) (r:=r) (ch:=ch) λp a=>h p (by simp[a]);have c:=h (t,b) (by simp);simp only[chainB,ih];cases d with
  |none=>rfl
  |some n =>
   have:n≠t:=λe=>c (by simp[e]);simp only[fX,abx this]
def ED(P:bo)(p:Pi)(c:Bool)(K:ca)(b:St):Prop :=
 match p.i with
 |.call f args=>(c=true->PC P f (args.map (ev b.fr)) b.J (λg J'=>K ⟨fX b.fr p.d g,J'⟩))/\(c=false->∃r,K ⟨fX b.fr p.d r,b.J⟩)
 |.uD x args=>(c=true->match ev b.fr x with
  |.fn f caps=>QZ P f=true/\PC P f (args.map (ev b.fr)++caps) b.J (λg J'=>K ⟨fX b.fr p.d g,J'⟩)
  |_=>False)/\(c=false->∃r,K ⟨fX b.fr p.d r,b.J⟩)
 |.load k a=>match ev b.fr a with
  |.ptr _ _=>match bT b.fr b.J (.load k a)with
   |some (e,v)=>(c=true->e)/\K ⟨fX b.fr p.d v,b.J⟩
   |none=>False
  |_=>∃v,(c=true->∃e,bT b.fr b.J (.load k a)=some (e,v)/\e)/\K ⟨fX b.fr p.d v,b.J⟩
 |i=>match bT b.fr b.J i with
  |some (e,v)=>(c=true->e)/\K ⟨fX b.fr p.d v,b.J⟩
  |none=>False
def gI(P:bo)(p:Pi)(K:ca)(a:St):Prop :=
 match p.g with
 |[]=>nQ P p K a
 |_::_=>match chainB a.fr p.g with
  |some c=>ED P p c K a
  |none=>False
def J2{P:bo}{p:Pi}{c:Bool}{K:ca}{b:St}(h:ED P p c K b)(q:∀f args,p.i≠.call f args)(s:∀x args,p.i≠.uD x args):
  ∃r,K ⟨fX b.fr p.d r,b.J⟩/\(c=true->nQ P p (λl=>l=⟨fX b.fr p.d r,b.J⟩) b):=by
 obtain⟨d,g,i⟩:=p;cases i with
 |call f args=>exact absurd rfl (q f args)
 |load k a =>
  simp only[ED]at h;split at h
  .split at h
   .rename_i m v j;exact⟨v,h.2,λe=>by simp only[nQ,j];exact⟨h.1 e,trivial⟩⟩
   .exact h.elim
  .obtain⟨v,u,n⟩:=h;refine⟨v,n,λe=>?_⟩;obtain⟨m,o,t⟩:=u e;simp only[nQ,o];exact⟨t,trivial⟩
 |uD x args=>exact absurd rfl (s x args)
 |next x=>simp[ED,bT]at h
 |_ =>
  simp only[ED]at h;split at h
  .rename_i m v j;exact⟨v,h.2,λe=>by simp only[nQ,j];exact⟨h.1 e,trivial⟩⟩
  .exact h.elim
def H6{fr fr':aB}{x:O}(h:∀s∈x.slot,fr.getD s .u=fr'.getD s .u):ev fr x=ev fr' x:=by
 cases x with
 |t n=>exact h n (by simp[O.slot])
 |c v=>rfl
def Zq{P:bo}{p:Pi}{K:ca}{fr fr':aB}{J:ak}(h:∀x∈p.i.os,ev fr x=ev fr' x)(b:nQ P p K ⟨fr,J⟩):
  nQ P p (λk=>∃r,k.fr=fX fr' p.d r/\K ⟨fX fr p.d r,k.J⟩) ⟨fr',J⟩:=by
 obtain⟨d,g,i⟩:=p
 by_cases t:∃f a,i=.call f a
 .obtain⟨f,a,rfl⟩:=t;have e:a.map (ev fr)=a.map (ev fr'):=eA λx B=>h x B;simp only[nQ]at b |-;rw[<- e];exact b.mono λr J' m=>⟨r,rfl,m⟩
 by_cases s:∃x a,i=.uD x a
 .obtain⟨x,a,rfl⟩:=s;have e:a.map (ev fr)=a.map (ev fr'):=eA λy A=>h y (by simp[I.os,A]);have j:=h x (by simp[I.os]);simp only[nQ]at b |-;rw[<- e,<- j];split at b
  .exact⟨b.1,b.2.mono λr J' m=>⟨r,rfl,m⟩⟩
  .exact b.elim
 by_cases u:∃x,i=.next x
 .obtain⟨x,rfl⟩:=u;have j:=h x (by simp[I.os]);simp only[nQ]at b |-;rw[<- j];split at b
  .exact⟨λC=>⟨_,rfl,b.1 C⟩,λq z=>⟨_,rfl,b.2 q z⟩⟩
  .exact b.elim
 .have w:=GJ (J:=J) h;have j:=Px (J:=J) h
  have o:∀(c:aB) (l:ca),nQ P ⟨d,g,i⟩ l ⟨c,J⟩=match bT c J i with
    |some (n,v)=>n/\l ⟨fX c d v,J⟩
    |none=>match dE c J i with
     |some (n,v,J')=>n/\l ⟨fX c d v,J'⟩
     |none=>False:=by
   intro c l;cases i<;>first|rfl|(exfalso;exact t ⟨_,_,rfl⟩)|(exfalso;exact s ⟨_,_,rfl⟩)|(exfalso;exact u ⟨_,rfl⟩)
  simp only at w j;rw[o]at b |-;rw[<- w,<- j];split at b
  .exact⟨b.1,_,rfl,b.2⟩
  .split at b
   .exact⟨b.1,_,rfl,b.2⟩
   .exact b.elim
def PV{P:bo}{p:Pi}{K:ca}{fr fr':aB}{J:ak}(h:∀s∈p.i.uA,chainB fr s.2=some true->fr.getD s.1 .u=fr'.getD s.1 .u)(m:nQ P p K ⟨fr,J⟩):
  nQ P p (λl=>∃r,l.fr=fX fr' p.d r/\K ⟨fX fr p.d r,l.J⟩) ⟨fr',J⟩:=by
 by_cases w:∃c a b,p.i=.pick (.t c) a b
 .obtain⟨c,x,y,n⟩:=w;obtain⟨d,g,i⟩:=p;simp only at n;subst n;have A:fr.getD c .u=fr'.getD c .u:=h (c,[]) (by simp[I.uA]) (by simp[chainB]);have o:fr.getD c .u=.b true->ev fr x=ev fr' x:=λk=>H6 λs f=>h (s,[(c,true)]) (by simp[I.uA,f]) (by simp only[chainB,k];rfl);have z:fr.getD c .u=.b false->ev fr y=ev fr' y:=λk=>H6 λs f=>h (s,[(c,false)]) (by simp[I.uA,f]) (by simp only[chainB,k];rfl);simp only[nQ,bT,ev]at m |-;rw[<- A];split at m
  .rename_i B v j;split at j
   .rename_i b k;simp only[ae,aQ]at j;obtain⟨rfl,rfl⟩:=j;refine⟨trivial,_,rfl,?_⟩
    have e:(match ev fr x,ev fr y with
      |.b p,.b q=>V.b (bif b then p else q)
      |p,q=>bif b then p else q)=(match ev fr' x,ev fr' y with
      |.b p,.b q=>V.b (bif b then p else q)
      |p,q=>bif b then p else q):=by
     have gen:∀p q:V,(match p,q with
      |.b p,.b q=>V.b (bif b then p else q)
      |p,q=>bif b then p else q)=bif b then p else q:=by
      intro p q;cases b<;>cases p<;>cases q<;>rfl
     rw[gen,gen];cases b
     .simp only[KT];exact z k
     .simp only[cond_true];exact o k
    exact Eq.mp (congrArg (λv=>K ⟨fX fr d v,J⟩) e) m.2
   .simp at j
  .rename_i j;split at j
   .simp at j
   .simp only[dE]at m
 .refine Zq (λx o=>H6 λs f=>h (s,[]) ?_ (by simp[chainB])) m
  have:p.i.uA=(p.i.os.flatMap O.slot).map (·,[]):=by
   unfold I.uA;split
   .rename_i c a b n;exact absurd ⟨c,a,b,n⟩ w
   .rfl
  rw[this];exact bF.2 ⟨s,nN.2 ⟨x,o,f⟩,rfl⟩
def LY(w:bD)(J:ak)(μ:Mem)(fr:aB)(c:Nat->Option (fJ))(a:Act):Prop :=
 a.defers=[]/\a.tmps.size=fr.length/\∀t x,fr[t]?=some x->∀b,c t=some b ->
  (chainB fr b=some true->VR w J μ x (a.tmps.getD t undef))/\(chainB fr b=some false->a.tmps.getD t undef=undef)
def mkF(a:Nat->Option (fJ))(fr:aB):aB:=fr.mapIdx λt x=>match a t with
 |some b=>if chainB fr b=some true then x else .u
 |none=>.u
def LY.mask{w:bD}{J:ak}{μ:Mem}{fr:aB}{b:Nat->Option (fJ)}{a:Act}(h:LY w J μ fr b a):FR w J μ (mkF b fr) a:=by
 refine⟨h.1,by simp[mkF,h.2.1],λt x c=>?_⟩;simp only[mkF,List.getElem?_mapIdx,aF]at c;obtain⟨y,d,rfl⟩:=c;split
 .rename_i e f;split
  .rename_i g;exact(h.2.2 t y d e f).1 g
  .exact .u _
 .exact .u _
def ahj{a:Nat->Option (fJ)}{fr:aB}{t:Nat}{ch:fJ}(hi:a t=some ch)(b:chainB fr ch=some true):(mkF a fr).getD t .u=fr.getD t .u:=by
 simp only[mkF,aq,List.getElem?_mapIdx,hi,b,aT];cases fr[t]?<;>rfl
structure Sr (inf:Nat->Option (fJ)) (p:Pi):Prop where
 uA:∀s∈p.i.uA,∃ch,inf s.1=some ch/\ch.isPrefixOf (p.g++s.2)=true
 guard:∀ch t b,p.g=ch++[(t,b)]->inf t=some ch
 fresh:∀d,p.d=some d->(∀q∈p.g,q.1≠d)/\∀t ch,inf t=some ch->∀q∈ch,q.1≠d
def Aj(a:Nat->Option (fJ))(p:Pi):Nat->Option (fJ):=λt=>if p.d=some t then some p.g else a t
def W3{a:Act}{d:cU}{v:Value}{t:Nat}(h:d≠some t):(a.put d v).tmps.getD t undef=a.tmps.getD t undef:=by
 cases d with
 |none=>rfl
 |some n =>
  have b:n≠t:=λe=>h (by simp[e]);simp only[Act.put,cx,eH b]
def Qp{a:Act}{v:Value}{t:Nat}(h:t<a.tmps.size):(a.put (some t) v).tmps.getD t undef=v:=by
 simp[Act.put,h]
def oP{fr:aB}{d:cU}{r:V}{t:Nat}(h:d≠some t):(fX fr d r)[t]?=fr[t]?:=by
 cases d with
 |none=>rfl
 |some n =>
  have a:n≠t:=λe=>h (by simp[e]);simp only[fX,bz a]
def u4{fr:aB}{d:cU}{r:V}:(fX fr d r).length=fr.length:=by cases d<;>simp[fX]
def Qo{a:Act}{d:cU}{v:Value}:(a.put d v).tmps.size=a.tmps.size/\(a.put d v).defers=a.defers:=by
 cases d<;>simp[Act.put]
def LY.yO{w w':bD}{J J':ak}{μ μ':Mem}{fr:aB}{f:Nat->Option (fJ)}{a:Act}{p:Pi}{r:V}{v:Value}(h:LY w J μ fr f a)(m:Sr f p)(s:uc w J μ w' J' μ')
  (h1:∀t,p.d=some t->t<fr.length->chainB fr p.g=some true->VR w' J' μ' r v) (o:chainB fr p.g=some false->v=undef):LY w' J' μ' (fX fr p.d r) (Aj f p) (a.put p.d v):=by
 refine⟨by rw[Qo.2];exact h.1,by rw[Qo.1,u4];exact h.2.1,λt x i k j=>?_⟩
 by_cases c:p.d=some t
 .have n:=m.fresh t c;simp only[Aj,c,aT,ae]at j;subst j
  have b:t<fr.length:=by
   have:=(ah.1 i).1;rwa [u4]at this
  rw[c]at i;simp only[fX,aL b,ae]at i;subst i;have e:chainB (fX fr p.d r) p.g=chainB fr p.g:=A8 λq l e=>n.1 q l (by rw[c]at e;exact(gy e).symm);rw[e,c,Qp (by rw[h.2.1];exact b)];exact⟨h1 t c b,o⟩
 .simp only[Aj,c,aS]at j;rw[oP c]at i;have e:chainB (fX fr p.d r) k=chainB fr k:=A8 λq l e=>(m.fresh q.1 e).2 t k j q l rfl;rw[e,W3 c];have:=h.2.2 t x i k j;exact⟨λu=>s _ _ (this.1 u),this.2⟩
def GI(P:bo)(p:Pi)(K:ca)(fr:aB)(J:ak):Prop :=
 ∃c,chainB fr p.g=some c/\((c=true/\∃b:ca,nQ P p b ⟨fr,J⟩/\∀a,b a->K a)\/(c=false/\∃r,K ⟨fX fr p.d r,J⟩))
def an4{P:bo}{p:Pi}{K:ca}{fr:aB}{J:ak}(h:gI P p K ⟨fr,J⟩):GI P p K fr J:=by
 unfold gI at h;split at h
 .rename_i o;exact⟨true,by rw[o];rfl,.inl ⟨rfl,K,h,λ_ h=>h⟩⟩
 .split at h
  .rename_i c b
   by_cases l:∃f a,p.i=.call f a
   .obtain⟨f,a,j⟩:=l;obtain⟨d,g,i⟩:=p;simp only at j;subst j;cases c with
    |true=>exact⟨true,b,.inl ⟨rfl,K,h.1 rfl,λ_ h=>h⟩⟩
    |false=>exact⟨false,b,.inr ⟨rfl,h.2 rfl⟩⟩
   by_cases k:∃x a,p.i=.uD x a
   .obtain⟨x,a,j⟩:=k;obtain⟨d,g,i⟩:=p;simp only at j;subst j;cases c with
    |true=>exact⟨true,b,.inl ⟨rfl,K,h.1 rfl,λ_ h=>h⟩⟩
    |false=>exact⟨false,b,.inr ⟨rfl,h.2 rfl⟩⟩
   obtain⟨r,m,n⟩:=J2 h (λf a e=>l ⟨f,a,e⟩) λx a e=>k ⟨x,a,e⟩;cases c with
   |true=>exact⟨true,b,.inl ⟨rfl,_,n rfl,λq e=>e▸m⟩⟩
   |false=>exact⟨false,b,.inr ⟨rfl,r,m⟩⟩
  .exact h.elim
def ahe{P:bo}{ops:Array Oper}{o:Oper}{p:Pi}(G:cPi P ops o=some p){f:Nat->Option (fJ)}{B:Nat}{w0 w:bD}{fr:aB}{J:ak}{μ:Mem}{a:Act}{K:ca}
  (hS:lj P B w0 w J μ) (D:LY w J μ fr f a) (O:Sr f p) (hK:GI P p K fr J) {R:Act->bD->Prop} {Q:Exit->Act->bD->Prop}
  (hR:∀r J' μ' U w',K ⟨fX fr p.d r,J'⟩->lj P B w0 w' J' μ'->LY w' J' μ' (fX fr p.d r) (Aj f p) U->uc w J μ w' J' μ'->R U w') :
  if Region.wanted o (yielded ops a.tmps)then o.wp P a w R Q\/(o.asks P a w/\LetsOut Q)else R (a.put o.dst undef) w:=by
 unfold cPi at G;split at G<;>simp only[ae,reduceCtorEq]at G;rename_i g m;obtain⟨i,u⟩:∃i,i=(compile P o).getD .stop:=⟨_,rfl⟩;rw[<- u]at G;subst G
 have L:∀M:ca,chainB fr g=some true->nQ P ⟨o.dst,g,i⟩ M ⟨fr,J⟩->(∀n,M n->K n)->o.wp P a w R Q:=by
  intro M W hs VP
  have hi:compile P o=some i:=by
   cases YV:compile P o with
   |none=>rw[YV]at u;simp only[ue]at u;subst u;simp[nQ,bT,dE]at hs
   |some j=>rw[YV]at u;simp only[kQ]at u;rw[u]
  have H:=PV (fr':=mkF f fr) (λs S Y=>by
   obtain⟨T,A,V⟩:=O.uA s S;exact(ahj A (LU (by rw[xC,W,Y];rfl) V)).symm) hs
  refine Oper.wp_mono ?_ (PU (p:=⟨o.dst,g,i⟩) hi rfl H hS D.mask);rintro U w' ⟨n,μ',⟨r,A,V⟩,h4,h5,h6,⟨v,rfl⟩,_⟩;have F:(mkF f fr).length=fr.length:=by simp[mkF]
  refine hR r n.J μ' _ w' (VP _ V) h4 (D.yO O h6 (λt E C _=>?_) λh=>by simp only at h;rw[W]at h;simp at h) h6;simp only at E A;have h7:=h5.2.2 t r (by rw[A,E];simp only[fX];rw[aL (by rw[F];exact C)])
  rwa [E,Qp (by rw[D.2.1];exact C)]at h7
 have guard:∀c,chainB fr g=some c->Region.wanted o (yielded ops a.tmps)=c:=by
  intro c l;cases e:o.guard with
  |none =>
   rw[e]at m;simp only[E4,ae]at m;subst m;simp only[chainB,ae]at l;subst l;simp[Region.wanted,e]
  |some jb =>
   obtain⟨j,b⟩:=jb;rw[e]at m;simp only[E4]at m;split at m<;>(try simp only[reduceCtorEq]at m);rename_i oj Z;split at m<;>simp only[ae,reduceCtorEq]at m;rename_i t T E W;subst m;have X:=O.guard T t b rfl;rw[xC]at l;split at l<;>simp only[ae,reduceCtorEq]at l;rename_i x y hx I;simp only[chainB]at I;split at I<;>simp only[ae,reduceCtorEq]at I;rename_i z N;simp only[df]at I
   have C:t<fr.length:=by
    rcases kE t fr.length with h|h
    .exact h
    .rw[aq,cI h]at N;simp at N
   have ft:fr[t]?=some (.b z):=by
    rw[aq,ax C]at N;rw[ax C];simpa using N
   have hv:=D.2.2 t _ ft T X;have B0:t<a.tmps.size:=by rw[D.2.1];exact C
   have k:yielded ops a.tmps j=match a.tmps.getD t undef with|.bool q=>some q|_=>none:=by
    unfold yielded;simp only[Z,gv,E];rw[bO B0];have:a.tmps.getD t undef=a.tmps[t]:=by simp[B0]
    rw[this];cases a.tmps[t]<;>rfl
   subst l I;cases x
   .rw[hv.2 hx]at k;simp only[undef]at k;simp[Region.wanted,e,k]
   .rw[(hv.1 hx).vE]at k;simp[Region.wanted,e,k]
 obtain⟨c,l,ui⟩:=hK;rcases ui with⟨rfl,M,H,A⟩|⟨rfl,r,H⟩
 .rw[az (guard true l)];exact .inl (L M l H A)
 .have hw:=guard false l;rw[hw];simp only[aI,aS];exact hR r J μ _ w H hS (D.yO (p:=⟨o.dst,g,i⟩) O (uc.refl _ _ _) (λt _ _ h=>by simp only at h;rw[l]at h;simp at h) λ_=>rfl) (uc.refl _ _ _)
def opG{P:bo}{ops:Array Oper}{o:Oper}{p:Pi}(i:cPi P ops o=some p){b:Nat->Option (fJ)}{B:Nat}{w0 w:bD}{fr:aB}{J:ak}{μ:Mem}{a:Act}{K:ca}
  (e:lj P B w0 w J μ) (j:LY w J μ fr b a) (f:Sr b p) (h:gI P p K ⟨fr,J⟩) {R:Act->bD->Prop} {Q:Exit->Act->bD->Prop}
  (g:∀r J' μ' c w',K ⟨fX fr p.d r,J'⟩->lj P B w0 w' J' μ'->LY w' J' μ' (fX fr p.d r) (Aj b p) c->uc w J μ w' J' μ'->R c w') :
  if Region.wanted o (yielded ops a.tmps)then o.wp P a w R Q\/(o.asks P a w/\LetsOut Q)else R (a.put o.dst undef) w :=
 ahe i e j f (an4 h) g
def RZ(gs:dK)(fr:aB):aB:=gs.foldl (λfr s=>fr.set s .u) fr
def oQ(P:bo)(gs:dK):List Pi->(ca)->ca
 |[],K,st=>K ⟨RZ gs st.fr,st.J⟩
 |p::ps,K,st=>gI P p (oQ P gs ps K) st
def ym(D:List (Nat×fJ))(t:Nat):fJ:=(D.lookup t).getD []
def ajk(D:List (Nat×fJ))(p:Pi):List (Nat×fJ):=match p.d with
 |some d=>(d,p.g)::D
 |none=>D
def Z7(D:List (Nat×fJ))(p:Pi):Bool :=
 p.i.uA.all (λs=>(ym D s.1).isPrefixOf (p.g++s.2)) &&
 (match p.g.getLast? with
  |none=>true
  |some q=>ym D q.1==p.g.dropLast) &&
 (match p.d with
  |none=>true
  |some d=>p.g.all (λq=>q.1 != d)&&D.all λe=>e.2.all λq=>q.1 != d)
def Pg:List (Nat×fJ)->List Pi->dK->Bool
 |D,[],gs=>D.all λe=>e.2.isEmpty||gs.contains e.1
 |D,p::ps,gs=>Z7 D p&&Pg (ajk D p) ps gs
def Er(D:List (Nat×fJ))(t:Nat):Option (fJ):=some (ym D t)
def FN{D:List (Nat×fJ)}{t:Nat}:ym D t=[]\/(t,ym D t)∈D:=by
 induction D with
 |nil=>exact .inl rfl
 |cons e D ih =>
  obtain⟨s,a⟩:=e;simp only[ym,acx]
  by_cases h:t=s
  .subst h;right;simp
  .have:(t==s)=false:=by simpa using h
   rw[this];simp only[ym]at ih;rcases ih with h|h
   .exact .inl h
   .exact .inr (eV _ h)
def QY{D:List (Nat×fJ)}{p:Pi}(h:Z7 D p=true):Sr (Er D) p:=by
 simp only[Z7,aJ,bY]at h;obtain⟨⟨l,e⟩,c⟩:=h;refine⟨λs j=>⟨_,rfl,l s j⟩,λi t b k=>?_,λd g=>?_⟩
 .rw[k]at e;simp only[jg,gG,mz,List.dropLast_concat,cE]at e;simp[Er,e]
 .rw[g]at c;simp only[aJ,bY,qT,fc]at c;refine⟨λq a=>c.1 q a,λt i f q a=>?_⟩;simp only[Er,ae]at f;subst f;rcases FN (D:=D) (t:=t)with h|h
  .rw[h]at a;simp at a
  .exact c.2 _ h q a
def L9{D:List (Nat×fJ)}{p:Pi}:Aj (Er D) p=Er (ajk D p):=by
 funext t;simp only[Aj,Er,ajk];cases b:p.d with
 |none=>simp
 |some d =>
  by_cases h:d=t
  .subst h;simp[ym]
  .have a:(t==d)=false:=by simpa using λe=>h e.symm
   simp[h,ym,acx,a]
def ab1:∀(gs:dK) (fr:aB) (t:Nat),(RZ gs fr)[t]?=if t∈gs then(fr[t]?).map (λ_=>V.u)else fr[t]?
 |[],fr,t=>by simp[RZ]
 |s::gs,fr,t=>by
  have ih:=ab1 gs (fr.set s .u) t;simp only[RZ,dW]at ih |-;rw[ih]
  by_cases a:s=t
  .subst a;simp only[bC,Ff,aT];rw[HJ];split<;>cases fr[s]?<;>rfl
  .rw[bz a];have:(t∈s::gs)<->t∈gs:=by simp[YB a]
   simp only[this]
def LY.ends{w:bD}{J:ak}{μ:Mem}{fr:aB}{D:List (Nat×fJ)}{gs:dK}{a:Act}(h:LY w J μ fr (Er D) a)(d:Pg D [] gs=true):FR w J μ (RZ gs fr) a:=by
 refine⟨h.1,?_,λt x b=>?_⟩
 .rw[h.2.1]
  have:∀(gs:dK) (fr:aB),(RZ gs fr).length=fr.length:=by
   intro gs
   induction gs with
   |nil=>intro fr;rfl
   |cons s gs ih=>intro fr;simp only[RZ,dW]at ih |-;rw[ih];simp
  rw[this]
 .rw[ab1]at b;split at b
  .rw[aF]at b;obtain⟨_,_,rfl⟩:=b;exact .u _
  .rename_i e;refine(h.2.2 t x b _ rfl).1 ?_
   have:ym D t=[]:=by
    rcases FN (D:=D) (t:=t)with h|h
    .exact h
    .simp only[Pg,bY]at d;have:=d _ h;simp only[eD,List.isEmpty_iff,List.contains_eq_mem,aV]at this;rcases this with c|c
     .exact c
     .exact absurd c e
   rw[this];simp[chainB]
def lP(P:bo)(n B:Nat)(w0 w:bD)(J:ak)(μ:Mem)(K:bl)(e:Exit)(c:Act)(w':bD):Prop :=
 ∃a b,K e a/\lj P B w0 w' a.J b/\FR w' a.J b a.fr c/\jO n w J μ w' a.J b
def IK{P:bo}{ops:Array Oper}{n B:Nat}{gs:dK}{w0 ws:bD}{σs:ak}{μs:Mem}{K:ca}{Q:Exit->Act->bD->Prop}
  (f:∀c w μ a,K c->lj P B w0 w c.J μ->FR w c.J μ c.fr a->jO n ws σs μs w c.J μ->Q .normal a w) :
  ∀(l:List Oper) (k:Nat) (b:List Pi) (D:List (Nat×fJ)) (fr:aB) (J:ak) (w:bD) (μ:Mem) (a:Act),(∀j,l[j]?=ops[k+j]?)->zN P ops l=some b->Pg D b gs=true->oQ P gs b K ⟨fr,J⟩ ->
   lj P B w0 w J μ->LY w J μ fr (Er D) a->jO n ws σs μs w J μ ->
   wpOps P ops Q ((List.range l.length).map (k+·)) a w
 |[],k,b,D,fr,J,w,μ,a,_,hc,hD,hr,hS,hF,hk=>by
  simp only[zN,ae]at hc;subst hc;exact f _ w μ a hr hS (hF.ends hD) hk
 |o::l,k,b,D,fr,J,w,μ,a,hl,hc,hD,hr,hS,hF,hk=>by
  simp only[zN]at hc;split at hc<;>simp only[ae,reduceCtorEq]at hc;rename_i p v t e;subst hc;simp only[Pg,aJ]at hD;have u:ops[k]?=some o:=by have:=hl 0;simpa using this.symm
  have y:(List.range (o::l).length).map (k+·)=k::(List.range l.length).map (k+1+·):=by
   rw[ai,KU,aH,jn];simp only[de];congr 1;apply eA;intro x _;simp only[Function.comp];omega
  rw[y];simp only[wpOps,u];refine opG t hS hF (QY hD.1) hr ?_;intro r J' d m h s i g q;rw[L9]at g;exact IK f l (k+1) v _ _ _ h d m (λj=>by have:=hl (j+1);rw[bX]at this;rw[this];congr 1;omega) e hD.2 s i g (hk.trans q.Wr)
def FR.toI{w:bD}{J:ak}{μ:Mem}{fr:aB}{a:Act}(h:FR w J μ fr a):LY w J μ fr (Er []) a :=
 ⟨h.1,h.2.1,λt x c d b=>by
  simp only[Er,ym,List.lookup_nil,ue,ae]at b;subst b;exact⟨λ_=>h.2.2 t x c,λh=>by simp[chainB]at h⟩⟩
def tb(bs:dK)(i j:Nat):Bool:=(bs.getD i 0).testBit j
def ja(pis:List Pi)(i:Nat):Pi:=pis.getD i ⟨none,[],.alloc 0 []⟩
def Mm(bs ls:dK)(i:Nat):Nat:=(ls.filter (tb bs i)).length
def tC(pis:List Pi)(bs:dK)(m:Nat)(ls:dK)(k:Nat):dK:=(List.range m).filter λi=>(ja pis i).i.fa&&Mm bs ls i==k
def ab8(pis:List Pi)(bs:dK)(m:Nat)(ls:dK)(k L:Nat):dK :=
 (List.range m).filter λi=>(ja pis i).i.fa&&((ja pis i).i.reads&&(decide (Mm bs ls i<=k)&&!tb bs L i))
def KZ(pis:List Pi)(bs:dK)(m:Nat)(ls:dK):Nat->dK->List (List Pi×Pi×List Pi)
 |_,[]=>[]
 |k,L::r=>((tC pis bs m ls k).map (ja pis),ja pis L,(ab8 pis bs m ls k L).map (ja pis))::KZ pis bs m ls (k+1) r
def KB(p:Pi)(a:St):Prop :=
 match chainB a.fr p.g with
 |some c=>match p.d with
  |some d=>c=true->∃b,bT a.fr a.J p.i=some (b,a.fr.getD d .u)/\b
  |none=>c=true->∃b r,bT a.fr a.J p.i=some (b,r)/\b
 |none=>False
def Aa(P:bo):List (List Pi×Pi×List Pi)->List Pi->(ca)->ca
 |[],last,K,st=>oQ P [] last K st
 |(Pf,L,chk)::ds,last,K,st=>oQ P [] Pf (λb=>gI P L (λa=>(∀p∈chk,KB p a)/\Aa P ds last K a) b) st
def looks(p:Pi):dK:=p.i.uA.map (·.1)++p.g.map (·.1)
def Fact(p:Pi)(fr:aB)(J:ak):Prop :=
 ∃c,chainB fr p.g=some c/\∃r,fX fr p.d r=fr/\(c=true->∃a,bT fr J p.i=some (a,r)/\a)
def Zu{fr:aB}{t:Nat}{r:V}:fr.set t r=fr<->(t<fr.length->fr[t]?=some r):=by
 constructor
 .intro h a;rw[<- h,aL a]
 .intro h;refine mS λi=>?_
  by_cases b:t=i
  .subst b;rw[HJ];rcases kE t fr.length with a|a
   .rw[h a];rfl
   .rw[cI a];rfl
  .rw[bz b]
def xU{fr:aB}{d:cU}{r:V}:fX fr d r=fr<->∀t,d=some t->t<fr.length->fr[t]?=some r:=by
 cases d with
 |none=>simp[fX]
 |some t=>simp only[fX,Zu,ae];exact⟨λh s a=>a▸h,λh=>h t rfl⟩
def Z5{i:I}{x:O}(e:x∈i.os){t:Nat}(d:t∈x.slot):t∈i.uA.map (·.1):=by
 unfold I.uA;split
 .rename_i c a b;simp only[I.os,bC,gw,s8]at e;rcases e with rfl|rfl|rfl
  .simp only[O.slot,cv]at d;simp[d]
  .simp[d]
  .simp[d]
 .simp only[jn,bF,nN,Function.comp];exact⟨t,⟨x,e,d⟩,rfl⟩
def sb{fr fr':aB}:∀{ch:fJ},(∀q∈ch,fr'[q.1]?=fr[q.1]?)->chainB fr' ch=chainB fr ch
 |[],_=>rfl
 |(t,b)::ch,h=>by
  have a:fr'[t]?=fr[t]?:=h (t,b) (by simp);have ih:=sb (fr:=fr) (fr':=fr') (ch:=ch) λq c=>h q (by simp[c]);simp only[chainB,ih,aq,a]
def GL{fr fr':aB}{J:ak}{p:Pi}(h:∀t∈p.i.uA.map (·.1),fr'[t]?=fr[t]?):bT fr' J p.i=bT fr J p.i :=
 GJ λx b=>H6 λs a=>by rw[aq,aq,h s (Z5 b a)]
def Fact.agree{p:Pi}{fr fr':aB}{J:ak}(h:Fact p fr J)(e:∀t∈looks p,fr'[t]?=fr[t]?)(g:∀t,p.d=some t->fr'[t]?=fr[t]?)(a:fr'.length=fr.length):Fact p fr' J:=by
 obtain⟨c,l,r,f,j⟩:=h;refine⟨c,by rw[sb λq k=>e q.1 (by simp only[looks,bP,bF];exact .inr ⟨q,k,rfl⟩)];exact l,r,?_,λm=>?_⟩
 .rw[xU]at f |-;intro t b i;rw[g t b];exact f t b (a▸i)
 .rw[GL λt b=>e t (by simp only[looks,bP];exact .inl b)];exact j m
def Fact.still{p:Pi}{fr:aB}{J J':ak}(h:Fact p fr J)(b:p.i.reads=false):Fact p fr J':=by
 obtain⟨c,d,r,a,e⟩:=h;exact⟨c,d,r,a,λf=>by rw[<- Qv (J:=J) b];exact e f⟩
def KB.fact{p:Pi}{f:St}(h:KB p f):Fact p f.fr f.J:=by
 unfold KB at h;split at h
 .rename_i c e;split at h
  .rename_i d a;refine⟨c,e,_,?_,h⟩;rw[xU];intro t b i;rw[a]at b;simp only[ae]at b;subst b;rw[aq,ax i];rfl
  .rename_i a
   by_cases g:c=true
   .obtain⟨l,r,k,j⟩:=h g;exact⟨c,e,r,by rw[a];rfl,λ_=>⟨l,k,j⟩⟩
   .exact⟨c,e,.u,by rw[a];rfl,λh=>absurd h g⟩
 .exact h.elim
def Yb{P:bo}{p:Pi}{K:ca}{fr:aB}{J:ak}(h:gI P p K ⟨fr,J⟩)(j:p.i.fa=true):
  ∃c r,chainB fr p.g=some c/\K ⟨fX fr p.d r,J⟩/\(c=true->∃a,bT fr J p.i=some (a,r)/\a):=by
 have l:∀o,nQ P p o ⟨fr,J⟩->∃r,o ⟨fX fr p.d r,J⟩/\∃a,bT fr J p.i=some (a,r)/\a:=by
  intro o b;obtain⟨d,g,i⟩:=p;cases i<;>first|(simp[I.fa]at j;done)|skip
  all_goals
   simp only[nQ]at b;split at b
   .rename_i a v z;exact⟨v,b.2,a,z,b.1⟩
   .rw[Di (by simpa using j)]at b;exact b.elim
 unfold gI at h;split at h
 .rename_i w;obtain⟨r,m,n⟩:=l _ h;exact⟨true,r,by rw[w];rfl,m,λ_=>n⟩
 .split at h
  .rename_i c t;obtain⟨r,m,n⟩:=J2 h (λf k e=>by rw[e]at j;simp[I.fa]at j) λx k e=>by rw[e]at j;simp[I.fa]at j
   by_cases q:c=true
   .obtain⟨u,s,y⟩:=l _ (n q);simp only[St.mk.injEq,kP]at s;subst q;refine⟨true,u,t,?_,λ_=>y⟩;rw[s];exact m
   .exact⟨c,r,t,m,λh=>absurd h q⟩
  .exact h.elim
def Fy{P:bo}{pis:List Pi}{K:ca}{J:ak}:∀(l:dK) (fr:aB),oQ P [] (l.map (ja pis)) K ⟨fr,J⟩->(∀i∈l,(ja pis i).i.fa=true) ->
  l.Pairwise (λi j=>∀t,(ja pis j).d=some t->t ∉ looks (ja pis i)/\(ja pis i).d≠some t)->(∀i∈l,∀t,(ja pis i).d=some t->t ∉ looks (ja pis i)) ->
  ∃fr',K ⟨fr',J⟩/\(∀i∈l,Fact (ja pis i) fr' J)/\(∀t,(∀i∈l,(ja pis i).d≠some t)->fr'[t]?=fr[t]?)/\fr'.length=fr.length
 |[],fr,h,_,_,_=>⟨fr,h,by simp,λ_ _=>rfl,rfl⟩
 |i::l,fr,h,hs,hp,Ew=>by
  simp only[aH,oQ]at h;obtain⟨c,r,v,o,x⟩:=Yb h (hs i (by simp));rw[dx]at hp;obtain⟨fr',u,w,f,m⟩:=Fy l _ o (λj a=>hs j (by simp[a])) hp.2 λj a=>Ew j (by simp[a])
  have n:∀t∈looks (ja pis i),fr'[t]?=fr[t]?:=λt b=>by
   rw[f t λj a e=>(hp.1 j a t e).1 b];exact oP λe=>Ew i (by simp) t e b
  refine⟨fr',u,λj a=>?_,λt b=>?_,by rw[m,u4]⟩
  .rcases bC.1 a with rfl|a
   .refine⟨c,by rw[sb λq s=>n q.1 (by simp only[looks,bP,bF];exact .inr ⟨q,s,rfl⟩)];exact v,r,?_,λy=>?_⟩
    .rw[xU];intro t b g;rw[f t λk p e=>(hp.1 k p t e).2 b,b];have:t<fr.length:=by rw[m,u4]at g;exact g
     simp only[fX,aL this]
    .rw[GL λt b=>n t (by simp only[looks,bP];exact .inl b)];exact x y
   .exact w j a
  .rw[f t λj a=>b j (by simp[a])];exact oP (b i (by simp))
structure Ib (ops:Array Oper) (pis:List Pi) (bs:dK) (m:Nat) (ls fl:dK):Prop where
 mn:m<=pis.length
 back:∀i o,ops[i]?=some o->∀e∈o.after,Region.binds .any e=true->e.on<i
 clo:∀(i j:Nat),i<pis.length->j<pis.length->tb bs i j=true->j<i/\∃o,ops[i]?=some o/\∃e∈o.after,Region.binds .any e=true/\(e.on=j\/tb bs e.on j=true)
 tail:∀(i j:Nat),m<=i->i<pis.length->j<i->tb bs i j=true
 dst:∀(i j:Nat) (t:Nat),i<m->j<m->(ja pis i).d=some t->(ja pis j).d=some t->i=j
 Q5:∀(i:Nat),i<m->(ja pis i).i.fa=false->i∈ls\/i∈fl
 lsm:∀L∈ls,L<m/\(ja pis L).i.fa=false
 adC:∀(j k L L':Nat),j<k->ls[j]?=some L'->ls[k]?=some L->tb bs L L'=true
 Pf:∀(i k L:Nat),i<m->(ja pis i).i.fa=true->ls[k]?=some L->(tb bs i L=true<->k<Mm bs ls i)
 slot:∀(i:Nat) (s:Nat×fJ) (j:Nat),i<m->s∈(ja pis i).i.uA->j<m->(ja pis j).d=some s.1->tb bs i j=true/\(ja pis j).g.isPrefixOf ((ja pis i).g++s.2)=true
 chain:∀(i:Nat) (q:Nat×Bool),i<m->q∈(ja pis i).g->∃j,j<m/\(ja pis j).d=some q.1/\tb bs i j=true
 last:∀(i:Nat) (ch:fJ) (t:Nat) (b:Bool) (j:Nat),i<m->(ja pis i).g=ch++[(t,b)]->j<m->(ja pis j).d=some t->(ja pis j).g=ch
 mono:∀(i j t:Nat),i<m->(ja pis i).i.fa=true->j<m->(ja pis j).i.fa=true->(ja pis j).d=some t->t∈looks (ja pis i)->Mm bs ls j<=Mm bs ls i
def uO{P:bo}{ops:Array Oper}:∀{l:List Oper} {a:List Pi},zN P ops l=some a->a.length=l.length/\∀(i:Nat) (o:Oper),l[i]?=some o->∃p,a[i]?=some p/\cPi P ops o=some p
 |[],a,h=>by simp only[zN,ae]at h;subst h;simp
 |o::l,a,h=>by
  simp only[zN]at h;split at h<;>simp only[ae,reduceCtorEq]at h;rename_i p j d c;subst h;obtain⟨g,e⟩:=uO c;refine⟨by simp[g],λi f b=>?_⟩;cases i with
  |zero=>simp only[aM,ae]at b;subst b;exact⟨p,rfl,d⟩
  |succ i=>exact e i f (by simpa using b)
abbrev oD(listed:Array Bool)(i:Nat):Prop:=listed.getD i false=true
def ju{listed:Array Bool}{i j:Nat}(hi:i<listed.size):oD (listed.setIfInBounds i true) j<->j=i\/oD listed j:=by
 simp only[oD,cx]
 by_cases h:i=j
 .subst h;simp[hi]
 .rw[eH h];simp[YB h]
def Aw{ops:Array Oper}{listed:Array Bool}{i:Nat}(f:listed.size=ops.size)(h:i∈Region.ready .any ops listed):
  i<ops.size/\¬oD listed i/\∃o,ops[i]?=some o/\∀e∈o.after,Region.binds .any e=true->oD listed e.on:=by
 obtain⟨a,o,b,d⟩:=mem_ready.1 h;have c:i<ops.size:=(cg.1 b).1;refine⟨c,?_,o,b,d⟩;simp only[oD,cx]at a |-;rw[bO (by rw[f];exact c)]at a |-;simp at a |-;exact a
section
variable {P:bo} {ops:Array Oper} {pis:List Pi} {bs:dK} {m:Nat} {ls fl:dK}
def Ib.ready(f:Ib ops pis bs m ls fl)(u:pis.length=ops.size){listed:Array Bool}(p:listed.size=ops.size)
  (r:∀i j,i<pis.length->j<pis.length->oD listed i->tb bs i j=true->oD listed j) {i:Nat} (h:i∈Region.ready .any ops listed) {j:Nat} (g:j<pis.length) (n:tb bs i j=true):oD listed j:=by
 obtain⟨v,s,o,d,q⟩:=Aw p h;obtain⟨w,t,a,e,k,c,b⟩:=f.clo i j (by omega) g n;rw[d]at a;simp only[ae]at a;subst a;have l:=q e k c;rcases b with rfl|b
 .exact l
 .have:=f.back i o d e k c;exact r e.on j (by omega) g l b
def Ib.first(g:Ib ops pis bs m ls fl){listed:Array Bool}(j:listed.size=ops.size)(h:Region.ready .any ops listed=[]):∀i,i<ops.size->oD listed i:=by
 intro i
 induction i using Nat.strongRecOn with
 |ind i ih =>
  intro b;refine bN λa=>?_
  have:i∈Region.ready .any ops listed:=by
   rw[mem_ready];refine⟨?_,ops[i],by simp[b],λe c f=>?_⟩
   .simp only[oD,cx]at a |-;rw[bO (by rw[j];exact b)]at a |-;simp at a |-;exact a
   .have d:=g.back i ops[i] (by simp[b]) e c f;exact ih e.on d (by omega)
  rw[h]at this;simp at this
def Mr{listed:Array Bool}(d:listed.size=ops.size)(h:∀i,i<ops.size->oD listed i):Region.ready .any ops listed=[]:=by
 refine dI.2 λi c=>?_;obtain⟨b,a,_⟩:=Aw d c;exact a (h i b)
def Ir(s:Ib ops pis bs m ls fl)(L:zN P ops ops.toList=some pis){n B:Nat}{gs:dK}{w0 ws:bD}{σs:ak}{μs:Mem}{K:ca}{Q:Exit->Act->bD->Prop}
  (H:∀k w μ a,K k->lj P B w0 w k.J μ->FR w k.J μ k.fr a->jO n ws σs μs w k.J μ->Q .normal a w) :
  ∀(fuel q:Nat) (listed:Array Bool) (D:List (Nat×fJ)) (fr:aB) (J:ak) (w:bD) (μ:Mem) (a:Act),m<=q->q<=pis.length->listed.size=ops.size->(∀i,i<pis.length->(oD listed i<->i<q))->pis.length - q<=fuel ->
   Pg D (pis.drop q) gs=true->oQ P gs (pis.drop q) K ⟨fr,J⟩->lj P B w0 w J μ->LY w J μ fr (Er D) a->jO n ws σs μs w J μ->wpAny P .any ops Q fuel listed a w:=by
 have Z:pis.length=ops.size:=by rw[(uO L).1,bh]
 intro fuel
 induction fuel with
 |zero =>
  intro q listed D fr J w μ a F U f c W b d y u t;have e:q=pis.length:=by omega
  subst e;rw[ug]at b d;refine wpAny_done (Mr f λi v=>(c i (by omega)).2 (by omega)) ?_ 0;exact H _ w μ a d y (u.ends b) t
 |succ fuel ih =>
  intro q listed D fr J w μ a F U f c W b d y u t
  by_cases e:q=pis.length
  .subst e;rw[ug]at b d;refine wpAny_done (Mr f λi v=>(c i (by omega)).2 (by omega)) ?_ _;exact H _ w μ a d y (u.ends b) t
  .have l:q<pis.length:=by omega
   refine⟨λh=>?_,λi v=>?_⟩
   .have:=s.first f h q (by omega);rw[c q l]at this;omega
   .obtain⟨h1,S,o,M,h4⟩:=Aw f v
    have A:i=q:=by
     have z:¬i<q:=λh=>S ((c i (by omega)).2 h);refine bN λiR=>?_
     have G:=s.ready Z f (λN j g x X T=>by
      rw[c N g]at X;have:=(s.clo N j g x T).1;exact(c j x).2 (by omega)) v l (s.tail i q (by omega) (by omega) (by omega))
     rw[c q l]at G;omega
    subst A;obtain⟨p,z,G⟩:=(uO L).2 i o (by simpa using M)
    have E:pis.drop i=p::pis.drop (i+1):=by
     rw[dG l];congr 1;rw[ax l]at z;simpa using z
    rw[E]at b d;simp only[Pg,aJ]at b;simp only[wpOp,M];refine opG G y u (QY b.1) d ?_;intro r J' C V R O Y I k4;rw[L9]at I;exact ih (i+1) _ _ _ J' R C V (by omega) (by omega) (by simpa using f) (λj x=>by rw[ju (by omega),c j x];omega) (by omega) b.2 O Y I (t.trans k4.Wr)
end
def uE(pis:List Pi)(m:Nat)(listed:Array Bool)(t:Nat):Option (fJ) :=
 match (List.range m).find? (λi=>(ja pis i).d==some t)with
 |none=>some []
 |some i=>if listed.getD i false then some (ja pis i).g else none
section
variable {P:bo} {ops:Array Oper} {pis:List Pi} {bs:dK} {m:Nat} {ls fl:dK}
def Ib.HM(e:Ib ops pis bs m ls fl){listed:Array Bool}{i t:Nat}(hi:i<m)(a:(ja pis i).d=some t):uE pis m listed t=if listed.getD i false then some (ja pis i).g else none:=by
 unfold uE;split
 .rename_i h;rw[List.find?_eq_none]at h;exact absurd (h i (eC.2 hi)) (by simp[a])
 .rename_i j h;have b:=Lb h;have c:=eC.1 (Fb h);simp only[cE]at b;rw[e.dst j i t c hi b a]
def L7{listed:Array Bool}{t:Nat}(h:∀i,i<m->(ja pis i).d≠some t):uE pis m listed t=some []:=by
 unfold uE;split
 .rfl
 .rename_i j a;have b:=Lb a;have c:=eC.1 (Fb a);simp only[cE]at b;exact absurd b (h j c)
def qH{listed:Array Bool}{t:Nat}{ch:fJ}(h:uE pis m listed t=some ch):
  (ch=[]/\∀i,i<m->(ja pis i).d≠some t)\/∃i,i<m/\(ja pis i).d=some t/\oD listed i/\ch=(ja pis i).g:=by
 unfold uE at h;split at h
 .rename_i a;rw[List.find?_eq_none]at a;simp only[ae]at h;exact .inl ⟨h.symm,λi l e=>a i (eC.2 l) (by simp[e])⟩
 .rename_i j b;have c:=Lb b;have k:=eC.1 (Fb b);simp only[cE]at c;split at h<;>simp only[ae,reduceCtorEq]at h;rename_i f;exact .inr ⟨j,k,c,f,h.symm⟩
def Ib.yl(a:Ib ops pis bs m ls fl){i j t:Nat}(hi:i<m)(e:j<m)(b:(ja pis j).d=some t)(c:t∈looks (ja pis i)):tb bs i j=true:=by
 simp only[looks,bP,bF]at c;rcases c with⟨s,k,rfl⟩|⟨q,l,rfl⟩
 .exact(a.slot i s j hi k e b).1
 .obtain⟨f,n,g,h⟩:=a.chain i q hi l;rw[a.dst j f _ e n b g];exact h
def Ib.lt(a:Ib ops pis bs m ls fl){i j:Nat}(hi:i<m)(b:j<m)(h:tb bs i j=true):j<i :=
 (a.clo i j (fv hi a.mn) (fv b a.mn) h).1
def Ib.amz(a:Ib ops pis bs m ls fl){listed:Array Bool}(D:∀i j,i<pis.length->j<pis.length->oD listed i->tb bs i j=true->oD listed j){i:Nat}(hi:i<m)(E:¬oD listed i)
  (r:∀j,j<pis.length->tb bs i j=true->oD listed j):Sr (uE pis m listed) (ja pis i):=by
 have F:=a.mn;refine⟨λs A=>?_,λu t b v=>?_,λd f=>⟨λq l e=>?_,λt u h q l e=>?_⟩⟩
 .by_cases p:∃j,j<m/\(ja pis j).d=some s.1
  .obtain⟨j,c,f⟩:=p;have:=a.slot i s j hi A c f;have z:=r j (by omega) this.1;refine⟨(ja pis j).g,?_,this.2⟩;rw[a.HM c f,z];rfl
  .exact⟨[],L7 λj c f=>p ⟨j,c,f⟩,by simp⟩
 .obtain⟨j,c,f,h⟩:=a.chain i (t,b) hi (by rw[v];simp);rw[a.HM c f,r j (by omega) h,a.last i u t b j hi v c f];rfl
 .obtain⟨j,c,k,h⟩:=a.chain i q hi l;rw[e]at k;have:=a.dst i j d hi c f k;subst this;have:=a.lt hi hi h;omega
 .rcases qH h with⟨rfl,_⟩|⟨j,c,B,C,rfl⟩
  .simp at l
  .obtain⟨x,o,w,n⟩:=a.chain j q c l;have y:=D j x (by omega) (by omega) C n;rw[e]at w;have:=a.dst i x d hi o f w;subst this;exact E y
def Ib.Aj(f:Ib ops pis bs m ls fl){listed:Array Bool}{i:Nat}(hi:i<m)(a:i<listed.size):Aj (uE pis m listed) (ja pis i)=uE pis m (listed.setIfInBounds i true):=by
 funext t;simp only[Pm.Aj]
 by_cases b:(ja pis i).d=some t
 .have:(listed.setIfInBounds i true).getD i false=true:=(ju a).2 (.inl rfl);rw[az b,f.HM hi b,this];rfl
 .rw[an b];unfold uE;split
  .rfl
  .rename_i j g;have c:=Lb g;simp only[cE]at c;have k:j≠i:=λe=>b (e▸c)
   have:(listed.setIfInBounds i true).getD j false=listed.getD j false:=by
    have h:=ju (listed:=listed) (j:=j) a;simp only[k,nk,oD]at h;cases l:listed.getD j false<;>simp_all
   rw[this]
def CA(P:bo)(pis:List Pi)(bs:dK)(m:Nat)(ls:dK)(b:ca)(k:Nat)(fr:aB)(J:ak):Prop :=
 match ls[k]? with
 |some L=>gI P (ja pis L) (λa=>(∀p∈(ab8 pis bs m ls k L).map (ja pis),KB p a)/\Aa P (KZ pis bs m ls (k+1) (ls.drop (k+1))) ((tC pis bs m ls ls.length).map (ja pis)) b a) ⟨fr,J⟩
 |none=>b ⟨fr,J⟩
def gD{k i:Nat}:i∈tC pis bs m ls k<->i<m/\(ja pis i).i.fa=true/\Mm bs ls i=k:=by
 simp[tC]
def Ib.af8(b:Ib ops pis bs m ls fl){w:ca}{k:Nat}(z:k<=ls.length){fr:aB}{J:ak}
  (h:Aa P (KZ pis bs m ls k (ls.drop k)) ((tC pis bs m ls ls.length).map (ja pis)) w ⟨fr,J⟩) :
  ∃fr',CA P pis bs m ls w k fr' J/\(∀i∈tC pis bs m ls k,Fact (ja pis i) fr' J)/\(∀t,(∀i∈tC pis bs m ls k,(ja pis i).d≠some t)->fr'[t]?=fr[t]?)/\fr'.length=fr.length:=by
 have x:(tC pis bs m ls k).Pairwise (λi j=>∀t,(ja pis j).d=some t->t ∉ looks (ja pis i)/\(ja pis i).d≠some t):=by
  refine aol ?_ (List.Pairwise.filter _ arD);intro i j a c y t f
  replace a:=(gD (k:=k)).1 a
  replace c:=(gD (k:=k)).1 c
  refine⟨λl=>?_,λr=>?_⟩
  .have:=b.lt a.1 c.1 (b.yl a.1 c.1 f l);omega
  .have:=b.dst i j t a.1 c.1 r f;omega
 have s:∀i∈tC pis bs m ls k,∀t,(ja pis i).d=some t->t ∉ looks (ja pis i):=λi a t f l=>by
  rw[gD]at a;have:=b.lt a.1 a.1 (b.yl a.1 a.1 f l);omega
 have u:∀i∈tC pis bs m ls k,(ja pis i).i.fa=true:=λi a=>(gD.1 a).2.1
 by_cases v:k<ls.length
 .have e:ls.drop k=ls[k]::ls.drop (k+1):=dG v;rw[e]at h;simp only[KZ,Aa]at h;obtain⟨fr',p,g,q,o⟩:=Fy _ _ h u x s;refine⟨fr',?_,g,q,o⟩;simp only[CA,ax v];exact p
 .have n:k=ls.length:=by omega
  subst n;rw[ug]at h;simp only[KZ,Aa]at h;obtain⟨fr',p,g,q,o⟩:=Fy _ _ h u x s;refine⟨fr',?_,g,q,o⟩;have e:ls[ls.length]?=none:=cI (aD _);simp only[CA,e];exact p
def Ni(n:Nat)(listed:Array Bool):Nat:=((List.range n).filter λi=>!listed.getD i false).length
def PA{n m:Nat}{listed:Array Bool}(b:m<=n)(h:∀i,m<=i->i<n->¬oD listed i):n - m<=Ni n listed:=by
 have e:List.range n=List.range m++(List.range (n - m)).map (m+·):=by rw[<- List.range_add];congr 1;omega
 unfold Ni;rw[e,kG,aj]
 have:((List.range (n - m)).map (m+·)).filter (λi=>!listed.getD i false)=(List.range (n - m)).map (m+·):=by
  rw[kg];intro i a;simp only[bF,eC]at a;obtain⟨j,c,rfl⟩:=a;have:=h (m+j) (by omega) (by omega);simpa[oD]using this
 rw[this];simp
def UO{n:Nat}{listed:Array Bool}{i:Nat}(hi:i<n)(h:¬oD listed i):0<Ni n listed:=by
 unfold Ni;rw[List.length_pos_iff_exists_mem];exact⟨i,by simp only[cZ,eC];exact⟨hi,by simpa[oD]using h⟩⟩
def UN{n:Nat}{listed:Array Bool}{i:Nat}(hi:i<n)(a:i<listed.size)(h:¬oD listed i):Ni n (listed.setIfInBounds i true)+1<=Ni n listed:=by
 induction n with
 |zero=>omega
 |succ n ih =>
  have d:∀l:Array Bool,Ni (n+1) l=Ni n l+if l.getD n false then 0 else 1:=by
   intro l;unfold Ni;rw[La,kG,aj];congr 1;rw[fx];cases o:l.getD n false<;>rfl
  rw[d,d]
  by_cases f:i=n
  .subst f;have g:(listed.setIfInBounds i true).getD i false=true:=(ju a).2 (.inl rfl);have b:listed.getD i false=false:=by simpa[oD]using h
   rw[g,b]
   have:Ni i (listed.setIfInBounds i true)=Ni i listed:=by
    unfold Ni;congr 1;refine Fj λj m=>?_;rw[eC]at m;have b:=ju (listed:=listed) (j:=j) a;have c:j≠i:=by omega
    simp only[c,nk,oD]at b;cases k:listed.getD j false<;>simp_all
   simp[this]
  .have g:=ih (by omega);have b:=ju (listed:=listed) (j:=n) a;have c:n≠i:=λe=>f e.symm;simp only[c,nk,oD]at b;have:(listed.setIfInBounds i true).getD n false=listed.getD n false:=by cases k:listed.getD n false<;>simp_all
   rw[this];omega
def D0(pis:List Pi)(m:Nat):List (Nat×fJ):=(List.range m).filterMap λi=>(ja pis i).d.map λd=>(d,(ja pis i).g)
def Q7{t:Nat}{x:fJ}:∀{D:List (Nat×fJ)},(∀v,(t,v)∈D->v=x)->(∃v,(t,v)∈D)->ym D t=x
 |[],_,h=>by obtain⟨v,c⟩:=h;simp at c
 |(s,v)::D,h,he=>by
  simp only[ym,acx]
  by_cases b:t=s
  .subst b;simp[h v (by simp)]
  .have f:(t==s)=false:=by simpa using b
   rw[f];refine Q7 (D:=D) (λv c=>h v (by simp[c])) ?_;obtain⟨d,a⟩:=he;rcases bC.1 a with e|a
   .simp only[aQ]at e;exact absurd e.1 b
   .exact⟨d,a⟩
def Ib.all(l:Ib ops pis bs m ls fl){listed:Array Bool}(h:∀i,i<m->oD listed i):uE pis m listed=Er (D0 pis m):=by
 funext t
 have f:∀v,(t,v)∈D0 pis m<->∃i,i<m/\(ja pis i).d=some t/\v=(ja pis i).g:=by
  intro v;simp only[D0,qW,eC,aF,aQ];constructor
  .rintro⟨i,a,d,b,rfl,rfl⟩;exact⟨i,a,b,rfl⟩
  .rintro⟨i,a,b,rfl⟩;exact⟨i,a,t,b,rfl,rfl⟩
 by_cases e:∃i,i<m/\(ja pis i).d=some t
 .obtain⟨i,a,b⟩:=e;rw[l.HM a b,h i a];simp only[aT,Er,ae];refine(Q7 (λv n=>?_) ⟨_,(f _).2 ⟨i,a,b,rfl⟩⟩).symm;obtain⟨j,o,k,rfl⟩:=(f v).1 n;rw[l.dst i j t a o b k]
 .rw[L7 λi a b=>e ⟨i,a,b⟩];simp only[Er,ae];rcases FN (D:=D0 pis m) (t:=t)with c|c
  .exact c.symm
  .obtain⟨i,a,b,_⟩:=(f _).1 c;exact absurd ⟨i,a,b⟩ e
end
def V0{P:bo}{p:Pi}{fr:aB}{J:ak}(h:Fact p fr J):GI P p (λa=>a=⟨fr,J⟩) fr J:=by
 obtain⟨c,f,r,b,j⟩:=h;cases c with
 |false=>exact⟨false,f,.inr ⟨rfl,r,by rw[b]⟩⟩
 |true =>
  obtain⟨m,e,l⟩:=j rfl;refine⟨true,f,.inl ⟨rfl,λa=>a=⟨fr,J⟩,?_,λ_ h=>h⟩⟩;obtain⟨d,g,i⟩:=p;have k:=DS e;cases i<;>first|(simp[I.fa]at k;done)|skip
  all_goals
   simp only[nQ];simp only at e b;rw[e];exact⟨l,by rw[b]⟩
section
variable {P:bo} {ops:Array Oper} {pis:List Pi} {bs:dK} {m:Nat} {ls fl:dK}
def DR(c:Ib ops pis bs m ls fl)(hp:zN P ops ops.toList=some pis){n B:Nat}{gs:dK}{w0 ws:bD}{σs:ak}{μs:Mem}{K:ca}{Q:Exit->Act->bD->Prop}
  (hQ:∀st w μ a,K st->lj P B w0 w st.J μ->FR w st.J μ st.fr a->jO n ws σs μs w st.J μ->Q .normal a w) (s:Pg (D0 pis m) (pis.drop m) gs=true) :
  ∀(fuel k:Nat) (listed:Array Bool) (fr:aB) (J:ak) (w:bD) (μ:Mem) (a:Act),listed.size=ops.size->(∀f∈fl,oD listed f) ->
   (∀i j,i<pis.length->j<pis.length->oD listed i->tb bs i j=true->oD listed j)->(∀i,m<=i->i<pis.length->¬oD listed i)->k<=ls.length ->
   (∀j L,ls[j]?=some L->(oD listed L<->j<k))->(∀i,i<m->(ja pis i).i.fa=true->Mm bs ls i<=k->¬oD listed i->Fact (ja pis i) fr J) ->
   CA P pis bs m ls (oQ P gs (pis.drop m) K) k fr J->Ni pis.length listed<=fuel ->
   lj P B w0 w J μ->LY w J μ fr (uE pis m listed) a->jO n ws σs μs w J μ->wpAny P .any ops Q fuel listed a w:=by
 have hn:pis.length=ops.size:=by rw[(uO hp).1,bh]
 have hm:=c.mn;intro fuel
 induction fuel with
 |zero =>
  intro k listed fr J w μ a M yu hc Z hk V K8 O hu hS W OJ;have Rv:∀i,i<pis.length->oD listed i:=λi A=>bN λh=>by have:=UO A h;omega
  have E:∀i,i<m->oD listed i:=λi A=>Rv i (by omega)
  have Y:k=ls.length:=by
   refine bN λiR=>?_;have fk:k<ls.length:=by omega
   have:=(V k ls[k] (ax fk)).1 (E _ (c.lsm _ (dC fk)).1);omega
  subst Y;have e:ls[ls.length]?=none:=cI (aD _);simp only[CA,e]at O;rw[c.all E]at W
  exact Ir c hp hQ 0 m listed _ fr J w μ a (aD _) hm M (λi A=>⟨λh=>bN λF=>Z i (by omega) A h,λh=>E i h⟩) (by
   have:=PA hm Z;omega) s O hS W OJ
 |succ fuel ih =>
  intro k listed fr J w μ a M yu hc Z hk V K8 O hu hS W OJ
  by_cases E:∀i,i<m->oD listed i
  .have Y:k=ls.length:=by
    refine bN λiR=>?_;have fk:k<ls.length:=by omega
    have:=(V k ls[k] (ax fk)).1 (E _ (c.lsm _ (dC fk)).1);omega
   subst Y;have e:ls[ls.length]?=none:=cI (aD _);simp only[CA,e]at O;rw[c.all E]at W
   exact Ir c hp hQ _ m listed _ fr J w μ a (aD _) hm M (λi A=>⟨λh=>bN λF=>Z i (by omega) A h,λh=>E i h⟩) (by
    have:=PA hm Z;omega) s O hS W OJ
  .refine⟨λh=>absurd (λi A=>c.first M h i (by omega)) E,λi A=>?_⟩;obtain⟨a6,XQ,o,ho,_⟩:=Aw M A;have ku:i<pis.length:=by omega
   have H0:∀j,j<pis.length->tb bs i j=true->oD listed j:=λj u s=>c.ready hn M hc A u s
   have C:i<m:=by
    refine bN λh=>E λj u=>?_;exact H0 j (by omega) (c.tail i j (by omega) ku (by omega))
   obtain⟨p,a0,YV⟩:=(uO hp).2 i o (by simpa using ho);have D:ja pis i=p:=by simp[ja,aq,a0]
   have ll:Sr (uE pis m listed) p:=D▸c.amz hc C XQ H0
   have l:∀x j,x<pis.length->j<pis.length->oD (listed.setIfInBounds i true) x->tb bs x j=true->oD (listed.setIfInBounds i true) j:=by
    intro x j b u g s;rw[ju (by omega)]at g |-;rcases g with rfl|g
    .exact .inr (H0 j u s)
    .exact .inr (hc x j b u g s)
   have U:∀x,m<=x->x<pis.length->¬oD (listed.setIfInBounds i true) x:=by
    intro x b aE g;rw[ju (by omega)]at g;rcases g with rfl|g
    .omega
    .exact Z x b aE g
   have ab:Ni pis.length (listed.setIfInBounds i true)<=fuel:=by
    have:=UN ku (by omega:i<listed.size) XQ;omega
   have ac:∀x,x<m->(ja pis x).i.fa=true->(∀j,j<pis.length->tb bs x j=true->oD listed j)->Mm bs ls x<=k:=by
    intro x b hs ad;refine bN λfk=>?_;have h1:Mm bs ls x<=ls.length:=eB _ _;have F:k<ls.length:=by omega
    have I:=(c.Pf x k ls[k] b hs (ax F)).2 (by omega);have h4:=ad ls[k] (by have:=(c.lsm _ (dC F)).1;omega) I;have:=(V k ls[k] (ax F)).1 h4;omega
   simp only[wpOp,ho]
   by_cases hs:p.i.fa=true
   .
    have H:(ja pis i).i.fa=true:=by rw[D];exact hs
    have hf:=K8 i C H (ac i C H H0) XQ;rw[D]at hf;refine ahe YV hS W ll (V0 hf) ?_;intro r J' G a' w' k1 k2 S k4;simp only[St.mk.injEq]at k1;obtain⟨k1,rfl⟩:=k1;rw[k1]at S;have e:Aj (uE pis m listed) p=uE pis m (listed.setIfInBounds i true):=by rw[<- D];exact c.Aj C (by omega)
    rw[e]at S;refine ih k _ fr J' w' G a' (by simpa using M) (λf hf=>(ju (by omega)).2 (.inr (yu f hf))) l U hk (λj L hL=>?_) (λx b N aa xc=>K8 x b N aa λh=>xc ((ju (by omega)).2 (.inr h))) O ab k2 S (OJ.trans k4.Wr);rw[ju (by omega),V j L hL]
    have:L≠i:=λe=>by
     have:=(c.lsm L (bE hL)).2;rw[e,H]at this;simp at this
    simp[this]
   .
    have H:(ja pis i).i.fa=false:=by rw[D];simpa using hs
    obtain⟨j,u⟩:=ed.1 ((c.Q5 i C H).resolve_right λh=>XQ (yu i h))
    have VQ:j=k:=by
     have h1:¬j<k:=λh=>XQ ((V j i u).2 h);refine bN λiR=>?_;have pR:=(ah.1 u).1;have Y:k<ls.length:=by omega
     have F:=c.adC k j i ls[k] (by omega) (ax Y) u;have I:=H0 ls[k] (by have:=(c.lsm _ (dC Y)).1;omega) F;have:=(V k ls[k] (ax Y)).1 I;omega
    subst VQ;have pR:j<ls.length:=(ah.1 u).1;simp only[CA,u,D]at O;refine opG YV hS W ll O ?_;intro r J' G a' w' k1 k2 S k4;obtain⟨a5,fD⟩:=k1;obtain⟨fr',h1,F,I,h4⟩:=c.af8 (k:=j+1) (by omega) fD;have e:Aj (uE pis m listed) p=uE pis m (listed.setIfInBounds i true):=by rw[<- D];exact c.Aj C (by omega)
    rw[e]at S
    have oC:∀x∈tC pis bs m ls (j+1),¬oD (listed.setIfInBounds i true) x:=by
     intro x b g;rw[gD]at b;rw[ju (by omega)]at g;rcases g with rfl|g
     .rw[H]at b;simp at b
     .have:=ac x b.1 b.2.1 λy v s=>hc x y (by omega) v g s;omega
    have J1:∀t y,y<m->(ja pis y).d=some t->oD (listed.setIfInBounds i true) y->fr'[t]?=(fX fr p.d r)[t]?:=by
     intro t y v T g;refine I t λx b am=>oC x b ?_;rw[c.dst x y t (gD.1 b).1 v am T];exact g
    have av:LY w' J' G fr' (uE pis m (listed.setIfInBounds i true)) a':=by
     refine⟨S.1,by rw[h4];exact S.2.1,λt x b ch GZ=>?_⟩
     have Hq:fr'[t]?=(fX fr p.d r)[t]?:=by
      rcases qH GZ with⟨_,qg⟩|⟨y,v,T,g,_⟩
      .exact I t λx b=>qg x (gD.1 b).1
      .exact J1 t y v T g
     have JV:chainB fr' ch=chainB (fX fr p.d r) ch:=by
      refine sb λq hq=>?_;rcases qH GZ with⟨rfl,_⟩|⟨y,v,T,g,rfl⟩
      .simp at hq
      .obtain⟨z,hz,a2,a1⟩:=c.chain y q v hq;exact J1 q.1 z hz a2 (l y z (by omega) (by omega) g a1)
     rw[JV];rw[Hq]at b;exact S.2.2 t x b ch GZ
    refine ih (j+1) _ fr' J' w' G a' (by simpa using M) (λf hf=>(ju (by omega)).2 (.inr (yu f hf))) l U (by omega) (λy L hL=>?_) (λx b N aa xc=>?_) h1 ab k2 av (OJ.trans k4.Wr)
    .rw[ju (by omega),V y L hL];constructor
     .rintro(rfl|h)
      .refine bN λiR=>?_;have h5:=c.adC j y L L (by omega) u hL;have:=c.lt C C h5;omega
      .omega
     .intro h;rcases kE y j with h5|h5
      .exact .inr h5
      .have:y=j:=by omega
       subst this;rw[hL]at u;simp only[ae]at u;exact .inl u
    .by_cases a3:Mm bs ls x=j+1
     .exact F x (gD.2 ⟨b,N,a3⟩)
     .have R:Mm bs ls x<=j:=by omega
      have af:¬oD listed x:=λh=>xc ((ju (by omega)).2 (.inr h));have a4:¬tb bs i x=true:=λh=>af (H0 x (by omega) h)
      have HZ:Fact (ja pis x) (fX fr p.d r) J':=by
       by_cases hr:(ja pis x).i.reads=true
       .exact(a5 (ja pis x) (bF.2 ⟨x,by simp[ab8,b,N,hr,R,a4],rfl⟩)).fact
       .have ap:(ja pis x).i.reads=false:=by simpa using hr
        refine Fact.still (Fact.agree (K8 x b N R af) (λt s=>?_) (λt s=>?_) u4) ap
        .refine oP λT=>?_;have h5:=c.yl b C (D▸T) s;have:=(c.Pf x j i b N u).1 h5;omega
        .refine oP λT=>?_;have:=c.dst x i t b C s (D▸T);subst this;rw[N]at H;simp at H
      refine Fact.agree HZ (λt s=>?_) (λt s=>?_) h4
      .refine I t λy v X=>?_;rw[gD]at v;have:=c.mono x y t b N v.1 v.2.1 X s;omega
      .refine I t λy v X=>?_;rw[gD]at v;have:=c.dst x y t b v.1 s X;subst this;omega
end
def okX(ops:Array Oper)(pis:List Pi)(bs:dK)(m:Nat)(ls fl:dK):Bool :=
 decide (m<=pis.length) &&
 (((List.range ops.size).all λi=>match ops[i]? with
  |some o=>o.after.toList.all λe=>!Region.binds .any e||decide (e.on<i)
  |none=>true) &&
 (((List.range pis.length).all λi=>(List.range pis.length).all λj=>!tb bs i j||(decide (j<i)&&match ops[i]? with
  |some o=>o.after.toList.any λe=>Region.binds .any e&&(e.on==j||tb bs e.on j)
  |none=>false)) &&
 (((List.range pis.length).all λi=>decide (i<m)||(List.range i).all λj=>tb bs i j) &&
 (((List.range m).all λi=>(List.range i).all λj=>match (ja pis i).d with
  |none=>true
  |some t=>(ja pis j).d != some t) &&
 (((List.range m).all λi=>(ja pis i).i.fa||(ls.contains i||fl.contains i)) &&
 ((ls.all λL=>decide (L<m)&&!(ja pis L).i.fa) &&
 (((List.range ls.length).all λk=>(List.range k).all λj=>tb bs (ls.getD k 0) (ls.getD j 0)) &&
 (((List.range m).all λi=>!(ja pis i).i.fa||(List.range ls.length).all λk=>tb bs i (ls.getD k 0)==decide (k<Mm bs ls i)) &&
 (((List.range m).all λi=>(ja pis i).i.uA.all λs=>(List.range m).all λj=>(ja pis j).d != some s.1||(tb bs i j&&(ja pis j).g.isPrefixOf ((ja pis i).g++s.2))) &&
 (((List.range m).all λi=>(ja pis i).g.all λq=>(List.range m).any λj=>(ja pis j).d==some q.1&&tb bs i j) &&
 (((List.range m).all λi=>match (ja pis i).g.getLast? with
  |none=>true
  |some q=>(List.range m).all λj=>(ja pis j).d != some q.1||(ja pis j).g==(ja pis i).g.dropLast) &&
 ((List.range m).all λi=>!(ja pis i).i.fa||(List.range m).all λj=>!(ja pis j).i.fa||match (ja pis j).d with
  |none=>true
  |some t=>!(looks (ja pis i)).contains t||decide (Mm bs ls j<=Mm bs ls i)))))))))))))
section
variable {P:bo} {ops:Array Oper} {pis:List Pi} {bs:dK} {m:Nat} {ls fl:dK}
def OQ{ls:dK}{k L:Nat}(h:ls[k]?=some L):ls.getD k 0=L:=by rw[aq,h];rfl
def Z6(h:okX ops pis bs m ls fl=true)(_hn:pis.length=ops.size):Ib ops pis bs m ls fl:=by
 simp only[okX,aJ,bY,eC,aV]at h;obtain⟨J,D,P,I,M,Q,K,O,R,S,E,y,v⟩:=h;constructor
 .exact J
 .intro i o u e B x;have:=D i (cg.1 u).1;rw[u]at this;simp only[bY,eD,dm,aV]at this;rcases this e (Array.mem_toList_iff.2 B)with h|h
  .rw[x]at h;simp at h
  .exact h
 .intro i j a c w;have:=P i a j c;rw[w]at this;simp only[fO,iY,aJ,aV]at this;refine⟨this.1,?_⟩;have h:=this.2;split at h
  .rename_i o u;simp only[acy,aJ,eD,cE]at h;obtain⟨e,B,x,z⟩:=h;exact⟨o,u,e,Array.mem_toList_iff.1 B,x,z⟩
  .simp at h
 .intro i j N a c;have:=I i a;simp only[eD,aV,bY,eC]at this;rcases this with h|h
  .omega
  .exact h j c
 .intro i j t a c f g
  have r:∀i j,i<m->j<i->(ja pis i).d=some t->(ja pis j).d=some t->False:=by
   intro i j a c f g;have:=M i a j c;rw[f]at this;simp only[qT,fc]at this;exact this g
  rcases Nat.lt_trichotomy i j with h|h|h
  .exact(r j i c h g f).elim
  .exact h
  .exact(r i j a h f g).elim
 .intro i a n;have:=Q i a;rw[n]at this;simpa using this
 .intro L l;have:=K L l;simpa using this
 .intro j k L U G A l;have:=O k (ah.1 l).1 j G
  rwa [OQ l,OQ A]at this
 .intro i k L a n l;have:=R i a;rw[n]at this;simp only[fO,iY,bY,eC,cE]at this;have:=this k (ah.1 l).1;rw[OQ l]at this;rw[this];simp
 .intro i s j a n c p;have:=S i a s n j c;simp only[eD,qT,fc,aJ]at this;rcases this with h|h
  .exact absurd p h
  .exact h
 .intro i q a H;have:=E i a q H;simp only[acy,eC,aJ,cE]at this;obtain⟨j,c,h⟩:=this;exact⟨j,c,h⟩
 .intro i T t b j a F c p;have:=y i a;rw[F]at this;simp only[jg,gG,mz,List.dropLast_concat,bY,eC,eD,qT,fc,cE]at this;rcases this j c with h|h
  .exact absurd p h
  .exact h
 .intro i j t a n c C p w;have:=v i a;rw[n]at this;simp only[fO,iY,bY,eC]at this;have:=this j c;rw[C,p]at this;simp only[fO,iY,eD,dm,aV]at this;rcases this with h|h
  .simp at h;exact absurd w h
  .exact h
def mX(bs:dK):Nat->Nat
 |0=>0
 |i+1=>if bs.getD i 0==2^i - 1 then mX bs i else i+1
def DF{n B:Nat}{gs:dK}{K:ca}{Q:Exit->Act->bD->Prop}(r:zN P ops ops.toList=some pis)(S:okX ops pis bs m ls []=true)
  (v:Pg (D0 pis m) (pis.drop m) gs=true) {fr:aB} {J:ak} {w0 w:bD} {μ:Mem} {a:Act}
  (h:Aa P (KZ pis bs m ls 0 ls) ((tC pis bs m ls ls.length).map (ja pis)) (oQ P gs (pis.drop m) K) ⟨fr,J⟩)
  (T:lj P B w0 w J μ) (N:FR w J μ fr a)
  (I:∀b w' μ' e,K b->lj P B w0 w' b.J μ'->FR w' b.J μ' b.fr e->jO n w J μ w' b.J μ'->Q .normal e w'):wpAny P .any ops Q ops.size (Array.replicate ops.size false) a { w with drawn:=w.drawn+1 }:=by
 have s:pis.length=ops.size:=by rw[(uO r).1,bh]
 have o:=Z6 S s;obtain⟨l,p⟩:=T.grown (w':={ w with drawn:=w.drawn+1 }) ⟨rfl,rfl,rfl,aD _,λ_ _ _=>rfl⟩;have c:=N.jF p.jF;obtain⟨fr',M,u,D,C⟩:=o.af8 (k:=0) (fA _) (by simpa using h)
 have f:∀i,¬oD (Array.replicate ops.size false) i:=by
  intro i;simp only[oD,cx,Gw];split<;>simp
 refine DR (n:=n) o r (λb w' μ' e H E A F=>I b w' μ' e H E A (jO.trans p.jF.Wr F)) v ops.size 0 _ fr' J _ μ a (by simp) (by simp) (λi j _ _ d=>absurd d (f i)) (λi _ _=>f i) (fA _)
  (λj L V=>⟨λd=>absurd d (f L),λh=>by omega⟩) (λi g R O _=>u i (gD.2 ⟨g,R,by omega⟩)) M (by rw[s];unfold Ni;exact cu (eB _ _) (by simp)) l ?_ (jO.refl _ _ _ _)
 refine⟨c.1,by rw[C];exact c.2.1,λt x q U G=>?_⟩;rcases qH G with⟨rfl,z⟩|⟨y,X,W,d,_⟩
 .rw[D t λi g=>z i (gD.1 g).1]at q;exact⟨λ_=>c.2.2 t x q,λh=>by simp[chainB]at h⟩
 .exact absurd d (f y)
def P9{id n B:Nat}{gs:dK}{K:ca}{Q:Exit->Act->bD->Prop}(g:P.follows .mixedOrders=true)(d:zN P ops ops.toList=some pis)(i:okX ops pis bs m ls []=true)
  (e:Pg (D0 pis m) (pis.drop m) gs=true) {fr:aB} {J:ak} {w0 w:bD} {μ:Mem} {a:Act}
  (h:Aa P (KZ pis bs m ls 0 ls) ((tC pis bs m ls ls.length).map (ja pis)) (oQ P gs (pis.drop m) K) ⟨fr,J⟩)
  (j:lj P B w0 w J μ) (k:FR w J μ fr a)
  (f:∀b w' μ' c,K b->lj P B w0 w' b.J μ'->FR w' b.J μ' b.fr c->jO n w J μ w' b.J μ'->Q .normal c w'):(Code.region id ops true).wp P Q a w :=
 wp_region_any g (DF d i e h j k f)
end
def OG(o:Oper)(j:Nat):Oper:={ o with after:=o.after.push { on:=j,ground:=.data } }
def waitsFor(ops:Array Oper)(i j:Nat):Array Oper:=ops.mapIdx λk o=>if k=i then OG o j else o
def mV(ops:Array Oper)(i j:Nat):(waitsFor ops i j).size=ops.size:=by simp[waitsFor]
def yW(ops:Array Oper)(i j k:Nat):(waitsFor ops i j)[k]?=(ops[k]?).map λo=>if k=i then OG o j else o:=by
 simp[waitsFor]
def lS{a:Region.Mode}{ops:Array Oper}{listed:Array Bool}{i j x:Nat}:x∈Region.ready a (waitsFor ops i j) listed<->x∈Region.ready a ops listed/\(x=i->listed.getD j false=true):=by
 simp only[Region.ready,cZ,eC,mV,yW];rw[and_assoc];refine and_congr_right λh=>?_;have f:ops[x]?=some ops[x]:=bO h;simp only[f,cL,kQ]
 by_cases e:x=i
 .subst e;have g:Region.binds a { on:=j,ground:=Ground.data }=true:=rfl;simp only[aT,OG,Array.all_push,g,fO,iY,aJ,forall_const];constructor
  .rintro⟨c,b,d⟩;exact⟨⟨c,b⟩,d⟩
  .rintro⟨⟨c,b⟩,d⟩;exact⟨c,b,d⟩
 .simp only[e,aS,Gt,kP]
def Lc(ops:Array Oper)(i j:Nat)(tmps:Array Value):yielded (waitsFor ops i j) tmps=yielded ops tmps:=by
 funext k;simp only[yielded,yW];cases ops[k]? with
 |none=>rfl
 |some o =>
  simp only[cL,gv]
  by_cases h:k=i<;>simp[h,OG]
section
variable {P:bo} {Q:Exit->Act->bD->Prop}
def yV{ops:Array Oper}{i j x:Nat}{K:Act->bD->Prop}{a:Act}{w:bD}:wpOp P (waitsFor ops i j) Q x K a w<->wpOp P ops Q x K a w:=by
 simp only[wpOp,yW,Lc];cases ops[x]? with
 |none=>exact Fk
 |some o =>
  simp only[cL]
  by_cases h:x=i
  .simp only[h,aT];exact Fk
  .simp only[h,aS]
def wJ:Op->Bool
 |.move _|.assign _|.alloc _|.box _ _|.load _ _|.store _ _ _|.fieldAddr _ _ _=>true
 |_=>false
def S6{s:Sem Value}{w w':bD}{n:Next}(h:(do pure (Next.value (<- s)):Sem Next).run P w=.ok n w'):∃v,n=.value v:=by
 rw[Sem.run_bind]at h;cases a:s.run P w with
 |ok v b =>
  rw[a]at h;simp only[Result.andThen_ok,Sem.run_pure,Result.ok.injEq]at h;exact⟨v,h.1.symm⟩
 |halt x b=>rw[a]at h;simp[Result.andThen]at h
def WK{s:Sem Unit}{w w':bD}{n:Next}(h:(do s;pure Next.skip:Sem Next).run P w=.ok n w'):n=.skip:=by
 rw[Sem.run_bind]at h;cases a:s.run P w with
 |ok v b =>
  rw[a]at h;simp only[Result.andThen_ok,Sem.run_pure,Result.ok.injEq]at h;exact h.1.symm
 |halt x b=>rw[a]at h;simp[Result.andThen]at h
def Ui{o:Oper}{c:Operand->Value}{w w':bD}{n:Next}(a:wJ o.op=true)(h:(execOp c o).run P w=.ok n w'):(∃v,n=.value v)\/n=.skip:=by
 obtain⟨d,b,t,p,e,g⟩:=o;simp only at a;cases b<;>simp only[wJ,aI]at a
 all_goals simp only[execOp]at h
 all_goals first
  |exact .inl (S6 h)
  |exact .inr (WK h)
  |(simp only[Sem.run_pure,Result.ok.injEq]at h;exact .inl ⟨_,h.1.symm⟩)
def agU{o:Oper}(e:wJ o.op=true){a:Act}{w:bD}{c d:Act->bD->Prop}(h1:o.wp P a w c Q)(b:o.wp P a w d Q):o.wp P a w (λa w=>c a w/\d a w) Q:=by
 unfold Oper.wp at *;generalize g:(execOp a.eval o).run P w=r at *;cases r with
 |ok n f =>
  rcases Ui e g with⟨v,rfl⟩|rfl
  .exact⟨h1,b⟩
  .exact⟨h1,b⟩
 |halt x f=>cases x<;>simp only[Oper.upon]at h1 b |-<;>exact h1
def Y5{ops:Array Oper}{x:Nat}(g:∀o,ops[x]?=some o->wJ o.op=true){e f:Act->bD->Prop}{a:Act}{w:bD}(h1:wpOp P ops Q x e a w)(b:wpOp P ops Q x f a w):
  wpOp P ops Q x (λa w=>e a w/\f a w) a w:=by
 unfold wpOp at *;cases d:ops[x]? with
 |none=>simp only[d]at h1 b |-;exact⟨h1,b⟩
 |some o =>
  simp only[d]at h1 b |-;split
  .rename_i c;simp only[c,aT]at h1 b;rcases h1 with h1|h1
   .rcases b with b|b
    .exact .inl (agU (g o d) h1 b)
    .exact .inr b
   .exact .inr h1
  .rename_i c;simp only[c]at h1 b;exact⟨h1,b⟩
def zW{e:Region.Mode}{ops:Array Oper}{i j:Nat}:∀(fuel:Nat) (listed:Array Bool) (a:Act) (w:bD),listed.getD j false=true->wpAny P e (waitsFor ops i j) Q fuel listed a w->wpAny P e ops Q fuel listed a w:=by
 intro fuel
 induction fuel with
 |zero =>
  intro listed a w b h;refine⟨?_,h.2⟩;refine dI.2 λx c=>?_;exact dI.1 h.1 x (lS.2 ⟨c,λ_=>b⟩)
 |succ fuel ih =>
  intro listed a w b h;refine⟨λg=>h.1 (dI.2 λx c=>dI.1 g x (lS.1 c).1),λx c=>?_⟩;have:=h.2 x (lS.2 ⟨c,λ_=>b⟩);rw[yV]at this;refine wpOp_mono (λa w k=>ih _ a w ?_ k) this;simp only[cx]at b |-
  by_cases d:x=j
  .subst d
   by_cases f:x<listed.size
   .simp[Bn,f]
   .rw[qY (by omega)]at b;simp at b
  .rw[eH d];exact b
def Py{m:Region.Mode}{ops:Array Oper}{i j:Nat}(q:i≠j)(s:∀x o,x≠i->x≠j->ops[x]?=some o->wJ o.op=true):
  ∀(fuel:Nat) (listed:Array Bool) (a:Act) (w:bD),listed.size=ops.size->i<ops.size->j<ops.size->wpAny P m (waitsFor ops i j) Q fuel listed a w->wpAny P m (waitsFor ops j i) Q fuel listed a w->wpAny P m ops Q fuel listed a w:=by
 intro fuel
 induction fuel with
 |zero =>
  intro listed a w h l n f g;refine⟨?_,f.2⟩;refine dI.2 λx b=>?_
  by_cases c:x=i
  .exact dI.1 g.1 x (lS.2 ⟨b,λe=>absurd (c.symm.trans e) q⟩)
  .exact dI.1 f.1 x (lS.2 ⟨b,λe=>absurd e c⟩)
 |succ fuel ih =>
  intro listed a w h l n f g;refine⟨λu=>f.1 (dI.2 λx b=>dI.1 u x (lS.1 b).1),λx b=>?_⟩
  by_cases c:x=i
  .have:=g.2 x (lS.2 ⟨b,λe=>absurd (c.symm.trans e) q⟩);rw[yV]at this;refine wpOp_mono (λa w d=>zW fuel _ a w ?_ d) this;subst c;simp[cx,Bn,h,l]
  .by_cases k:x=j
   .have:=f.2 x (lS.2 ⟨b,λe=>absurd e c⟩);rw[yV]at this;refine wpOp_mono (λa w d=>zW fuel _ a w ?_ d) this;subst k;simp[cx,Bn,h,n]
   .have p:=f.2 x (lS.2 ⟨b,λe=>absurd e c⟩);have r:=g.2 x (lS.2 ⟨b,λe=>absurd e k⟩);rw[yV]at p r;refine wpOp_mono (λa w d=>ih _ a w (by simp[h]) l n d.1 d.2) (Y5 (λo t=>s x o c k t) p r)
end
def sw(i j k:Nat):Nat:=if k=i then j else if k=j then i else k
def Is(i j k:Nat):sw i j (sw i j k)=k:=by
 simp only[sw]
 (repeat' split)<;>omega
def Mf{i j k n:Nat}(hi:i<n)(a:j<n):sw i j k<n<->k<n:=by
 simp only[sw]
 (repeat' split)<;>omega
def P8(i j:Nat)(o:Oper):Oper:={ o with after:=o.after.map λe=>{ e with on:=sw i j e.on },guard:=o.guard.map λg=>(sw i j g.1,g.2) }
def wE(ops:Array Oper)(i j:Nat):Array Oper:=ops.mapIdx λk o=>P8 i j ((ops[sw i j k]?).getD o)
def Iu(ops:Array Oper)(i j:Nat):(wE ops i j).size=ops.size:=by simp[wE]
def Fs{ops:Array Oper}{i j:Nat}(hi:i<ops.size)(b:j<ops.size)(k:Nat):(wE ops i j)[k]?=(ops[sw i j k]?).map (P8 i j):=by
 simp only[wE,L6]
 by_cases a:k<ops.size
 .have c:=(Mf (k:=k) hi b).2 a;simp[bO a,bO c]
 .have c:¬sw i j k<ops.size:=λh=>a ((Mf hi b).1 h);rw[qY (by omega),qY (by omega)];rfl
def acj(a:Region.Mode)(e:Edge)(n:Nat):Region.binds a { e with on:=n }=Region.binds a e:=rfl
def IM{c:Region.Mode}{ops:Array Oper}{listed a:Array Bool}{i j:Nat}(hi:i<ops.size)(b:j<ops.size)(e:∀k d,a.getD k d=listed.getD (sw i j k) d){x:Nat}:
  x∈Region.ready c (wE ops i j) a<->sw i j x∈Region.ready c ops listed:=by
 simp only[Region.ready,cZ,eC,Iu,Fs hi b,Mf hi b,e];refine and_congr_right λg=>?_;have f:=(Mf (k:=x) hi b).2 g;simp only[bO f,cL,kQ,P8,Array.all_map,Fl,acj,e,Is]
def SG{ops:Array Oper}{i j:Nat}(hi:i<ops.size)(a:j<ops.size)(tmps:Array Value)(k:Nat):yielded (wE ops i j) tmps (sw i j k)=yielded ops tmps k:=by
 simp only[yielded,Fs hi a,Is];cases ops[k]?<;>rfl
section
variable {P:bo} {Q:Exit->Act->bD->Prop}
def ac1{ops:Array Oper}{i j x:Nat}(hi:i<ops.size)(b:j<ops.size){K:Act->bD->Prop}{a:Act}{w:bD}:wpOp P (wE ops i j) Q x K a w<->wpOp P ops Q (sw i j x) K a w:=by
 simp only[wpOp,Fs hi b];cases ops[sw i j x]? with
 |none=>exact Fk
 |some o =>
  simp only[cL]
  have c:Region.wanted (P8 i j o) (yielded (wE ops i j) a.tmps)=Region.wanted o (yielded ops a.tmps):=by
   obtain⟨d,f,t,p,e,g⟩:=o;cases g with
   |none=>rfl
   |some g=>simp only[Region.wanted,P8,cL,SG hi b]
  rw[c];exact Fk
def Y6{o:Region.Mode}{ops:Array Oper}{i j:Nat}(hi:i<ops.size)(l:j<ops.size):∀(fuel:Nat) (listed b:Array Bool) (a:Act) (w:bD),listed.size=ops.size->b.size=ops.size->(∀k d,b.getD k d=listed.getD (sw i j k) d) ->
  wpAny P o (wE ops i j) Q fuel b a w->wpAny P o ops Q fuel listed a w:=by
 intro fuel
 induction fuel with
 |zero =>
  intro listed b a w n f m h;refine⟨?_,h.2⟩;refine dI.2 λx c=>?_;exact dI.1 h.1 (sw i j x) ((IM hi l m).2 (by rw[Is];exact c))
 |succ fuel ih =>
  intro listed b a w n f m h;refine⟨λr=>h.1 (dI.2 λx c=>dI.1 r _ ((IM hi l m).1 c)),λx c=>?_⟩;have:=h.2 (sw i j x) ((IM hi l m).2 (by rw[Is];exact c));rw[ac1 hi l,Is]at this
  have s:x<ops.size:=by
   simp only[Region.ready,cZ,eC]at c;exact c.1
  refine wpOp_mono (λa w g=>ih _ _ a w (by simp[n]) (by simp[f]) (λk d=>?_) g) this;have p:=m k d;simp only[cx]at p |-;have t:=(Mf (k:=x) hi l).2 s
  by_cases g:sw i j x=k
  .subst g;rw[Is,Nh (by omega),Nh (by omega)]
  .have q:x≠sw i j k:=λe=>g (by rw[e,Is]);rw[eH g,eH q];exact p
def Nv{ops:Array Oper}{id i j:Nat}{a:Act}{w:bD}(e:P.follows .mixedOrders=true)(f:i≠j)(hi:i<ops.size)(b:j<ops.size)(c:∀x o,x≠i->x≠j->ops[x]?=some o->wJ o.op=true)
  (h1:wpAny P .any (waitsFor ops j i) Q ops.size (Array.replicate ops.size false) a { w with drawn:=w.drawn+1 })
  (g:wpAny P .any (wE (waitsFor ops i j) i j) Q ops.size (Array.replicate ops.size false) a { w with drawn:=w.drawn+1 }):(Code.region id ops true).wp P Q a w:=by
 refine wp_region_any e (Py f c _ _ _ _ (by simp) hi b ?_ h1);refine Y6 (by rw[mV];exact hi) (by rw[mV];exact b) _ _ _ _ _ (by simp[mV]) (by simp[mV]) (λk d=>?_) g;simp only[cx,Gw,Mf hi b]
end
def Le(J J':ak):Prop:=∀(id:Nat) (o:Ob),J[id]?=some o->o=Ob.dead\/J'[id]?=some o
section
variable {J J':ak} (h:Le J J')
include h
theorem Le.box{id T:Nat}{cs:aB}(e:J[id]?=some (.box T cs)):J'[id]?=some (.box T cs):=(h id _ e).resolve_left (by simp)
theorem Le.row{id E sz by' g:Nat}{sh:Bool}{xs:dF}(e:J[id]?=some (.row E sz by' g sh xs)):J'[id]?=some (.row E sz by' g sh xs):=(h id _ e).resolve_left (by simp)
theorem Le.map{id K E:Nat}{a:List (V×V)}(e:J[id]?=some (.map K E a)):J'[id]?=some (.map K E a):=(h id _ e).resolve_left (by simp)
theorem M4{x:V}(a:kq J x=true):kq J' x=true:=by
 unfold kq at a |-
 repeat' split at a
 all_goals first|(simp at a;done)|skip
 all_goals first|(rename_i e;simp only[h.row e];exact a)|rfl
theorem Je{x:V}(a:kt J x=true):kt J' x=true:=by
 unfold kt at a |-;split at a
 .rw[bY]at a |-;exact λy b=>M4 h (a y b)
 .exact M4 h a
theorem WQ{sz:Nat}{x:V}{r:dF}(a:rowsOf J sz x=some r):rowsOf J' sz x=some r:=by
 unfold rowsOf at a |-;split at a<;>(try exact a)<;>split at a<;>(try (simp at a;done))
 all_goals (rename_i e;simp only[h.row e];exact a)
theorem Tx{b:Nat}{m k:V}{r:Option (Nat×V)}(a:ek J b m k=some r):ek J' b m k=some r:=by
 unfold ek at a |-;split at a<;>(try exact a);split at a<;>(try (simp at a;done));rename_i e;simp only[h.map e];exact a
theorem ZS{fr:aB}{i:I}{d:Prop}{r:V}(b:bT fr J i=some (d,r))(c:d):∃j,bT fr J' i=some (j,r)/\j:=by
 cases i
 case build zs parts =>
  simp only[bT]at b |-;split at b<;>simp only[ae,aQ,reduceCtorEq]at b;obtain⟨rfl,rfl⟩:=b;rename_i e;exact⟨_,by simp only[e],λp n=>Je h (c p n)⟩
 case dH sz szs xs =>
  simp only[bT,ae,aQ]at b |-;obtain⟨rfl,rfl⟩:=b;exact⟨_,⟨rfl,rfl⟩,λx f=>Je h (c.1 x f),c.2⟩
 case load k a =>
  simp only[bT]at b |-;split at b
  .split at b<;>(try (simp at b;done));rename_i e;simp only[h.box e];exact⟨d,b,c⟩
  .exact⟨d,b,c⟩
  .split at b<;>(try (simp at b;done));rename_i e;simp only[h.row e];exact⟨d,b,c⟩
  .simp at b
 case gU x =>
  simp only[bT]at b |-;split at b<;>(try exact⟨d,b,c⟩);split at b<;>(try (simp at b;done));rename_i e;simp only[h.row e];exact⟨d,b,c⟩
 case pq off x =>
  simp only[bT]at b |-;split at b<;>(try exact⟨d,b,c⟩);split at b<;>(try (simp at b;done));rename_i e;simp only[h.row e];exact⟨d,b,c⟩
 case b2s x =>
  simp only[bT]at b |-;split at b<;>(try (simp at b;done));rename_i e;simp only[WQ h e];exact⟨d,b,c⟩
 case look kd z ok m k =>
  simp only[bT]at b |-;split at b<;>(try (simp at b;done))
  all_goals (rename_i e;simp only[Tx h e];exact⟨d,b,c⟩)
 case Jj x =>
  simp only[bT]at b |-;split at b<;>(try exact⟨d,b,c⟩);split at b<;>(try (simp at b;done));rename_i e;simp only[h.map e];exact⟨d,b,c⟩
 case ent x =>
  simp only[bT]at b |-;split at b<;>(try (simp at b;done));split at b<;>(try (simp at b;done));rename_i s;split at b<;>(try (simp at b;done));rename_i u;simp only[(h _ _ s).resolve_left (by simp),h.map u];exact⟨d,b,c⟩
 case len str x =>
  cases str
  .simp only[bT]at b |-;split at b<;>(try exact⟨d,b,c⟩)
   all_goals
    split at b<;>(try (simp at b;done));rename_i e;simp only[h.row e];exact⟨d,b,c⟩
  .exact⟨d,b,c⟩
 case idx sz x i =>
  simp only[bT]at b |-;split at b<;>(try (simp at b;done));split at b<;>(try exact⟨d,b,c⟩)
  all_goals
   split at b<;>(try (simp at b;done));rename_i e;simp only[h.row e];exact⟨d,b,c⟩
 case slice sz x lo hi =>
  by_cases f:∃id g,ev fr x=.own id g
  .obtain⟨id,g,f⟩:=f;simp only[bT,f]at b |-;cases l:J[id]? with
   |none=>simp[l]at b
   |some o =>
    rcases h id o l with rfl|q
    .simp[l]at b
    .rw[l]at b;rw[q];exact⟨d,b,c⟩
  .have e:bT fr J' (.slice sz x lo hi)=bT fr J (.slice sz x lo hi):=by
    simp only[bT];cases t:ev fr x<;>first|rfl|(exact absurd ⟨_,_,t⟩ f)
   rw[e];exact⟨d,b,c⟩
 all_goals exact⟨d,b,c⟩
end
def Fact.le{J J':ak}{p:Pi}{fr:aB}(a:Fact p fr J)(h:Le J J'):Fact p fr J':=by
 obtain⟨c,e,r,b,g⟩:=a;exact⟨c,e,r,b,λi=>by obtain⟨j,d,f⟩:=g i;exact ZS h d f⟩
def abY{P:bo}{B:Nat}{w0 w:bD}{J:ak}{μ:Mem}(l:lj P B w0 w J μ){id:Nat}(c:J[id]?=some .dead)(T:Nat)(cs:aB)(d:Array Value)(h:CR w J μ cs d):
  ∃μ',lj P B w0 (w.alloc (.cells d T)) (J.set id (.box T cs)) μ'/\VR (w.alloc (.cells d T)) (J.set id (.box T cs)) μ' (.ptr id 0) (.pointer (some ⟨w.heap.size,0,none⟩))/\s7 w J μ (w.alloc (.cells d T)) (J.set id (.box T cs)) μ':=by
 have s:id<J.length:=(ah.1 c).1;have f:(J.set id (.box T cs))[id]?=some (.box T cs):=aL s
 have k:=l.update (w':=w.alloc (.cells d T)) (J':=J.set id (.box T cs)) (μ':=yO μ id (.pointer (some ⟨w.heap.size,0,none⟩))) id none (World.grownBy_alloc w _ none) (by simp) (by simp)
  (λj e=>bz (YB e)) (λj e=>sI μ _ _ j e) (λb g=>by rw[gR]at g;simp only[lZ,ae]at g;exact .inr (by omega))
  (λb q v o a m=>by rw[c]at a;simp only[ae]at a;exact absurd a.symm m)
  (λC r a=>by rw[c]at a;simp at a) (λK E A a=>by rw[c]at a;simp at a)
  (λE y n u t z _ a=>by rw[f]at a;simp at a)
  (λp o a=>by
   rw[f]at a;simp only[ae]at a;subst a;rw[gR];refine⟨w.heap.size,d,rfl,l.base,heap_alloc_new w _,h.1.symm,λj x i=>?_⟩;have e:j<d.size:=by rw[<- h.1];exact(ah.1 i).1
   exact⟨d[j],bO e,by have:=(h.2 j x i).mono p;simpa[e]using this⟩)
 exact⟨_,k.1,.ptr _ 0 _ ⟨T,cs,f⟩ (gR _ _ _),k.2⟩
def Uw{P:bo}{ops:Array Oper}{o:Oper}{p:Pi}{d T:Nat}{zs:aB}(m:cPi P ops o=some p)(C:p=⟨some d,[],.alloc T zs⟩){i:Nat->Option (fJ)}{B:Nat}{w0 w:bD}{fr:aB}{J:ak}{μ:Mem}{a:Act}
  (Y:lj P B w0 w J μ) (X:LY w J μ fr i a) (K:Sr i p) {id:Nat} (E:J[id]?=some .dead) {R:Act->bD->Prop} {Q:Exit->Act->bD->Prop}
  (L:∀μ' F w',lj P B w0 w' (J.set id (.box T zs)) μ'->LY w' (J.set id (.box T zs)) μ' (fX fr (some d) (.ptr id 0)) (Aj i p) F->uc w J μ w' (J.set id (.box T zs)) μ'->R F w') :
  if Region.wanted o (yielded ops a.tmps)then o.wp P a w R Q\/(o.asks P a w/\LetsOut Q)else R (a.put o.dst undef) w:=by
 unfold cPi at m;split at m<;>simp only[ae,reduceCtorEq]at m;rename_i g l;rw[C]at m;simp only[Pi.mk.injEq]at m;obtain⟨M,rfl,k⟩:=m
 have W:Region.wanted o (yielded ops a.tmps)=true:=by
  cases s:o.guard with
  |none=>simp[Region.wanted,s]
  |some Z =>
   obtain⟨j,b⟩:=Z;rw[s]at l;simp only[E4]at l;split at l<;>(try simp only[reduceCtorEq]at l);split at l<;>simp at l
 rw[az W];refine .inl ?_
 have e:compile P o=some (.alloc T zs):=by
  cases H:compile P o with
  |none=>rw[H]at k;simp at k
  |some j=>rw[H]at k;simp only[kQ]at k;rw[k]
 have U:∃t z,o.op=.alloc T/\P.info? T=some t/\t.zero=some z/\mP z.cells.toList=some zs:=by
  cases f:o.op
  case alloc T' =>
   simp only[compile,f]at e;split at e<;>(try simp only[reduceCtorEq]at e);rename_i t u;split at e<;>(try simp only[reduceCtorEq]at e);rename_i z A;simp only[aF,I.alloc.injEq]at e;obtain⟨S,y,rfl,rfl⟩:=e;exact⟨t,z,rfl,u,A,y⟩
  case call c =>
   exfalso;simp only[compile,f,pw]at e;revert e;(repeat' split)<;>simp
  case makeFunc fn first caps =>
   exfalso;cases fn<;>simp only[compile,f,reduceCtorEq]at e;revert e;split<;>simp
  case next x q =>
   exfalso;cases q<;>simp[compile,f]at e
  case makeMap T' n =>
   exfalso;cases n<;>simp only[compile,f,reduceCtorEq]at e;revert e;split<;>simp
  case slice T' x lo k mx =>
   exfalso;cases mx<;>cases lo<;>cases k<;>simp only[compile,f,reduceCtorEq]at e<;>(revert e;(repeat' split)<;>simp)
  all_goals
   exfalso;simp only[compile,f]at e;revert e
   (try (repeat' split))<;>simp
   all_goals (intro x _;split<;>simp)
 obtain⟨t,z,f,u,A,y⟩:=U
 have O:(execOp a.eval o).run P w=.ok (.value (.pointer (some ⟨w.heap.size,0,none⟩))) (w.alloc (.cells z.cells T)):=by
  simp[execOp,f,Instr.alloc,zeroValue,typeInfo,u,A,newVar,newRow]
 obtain⟨μ',V,N,G⟩:=abY Y E T _ _ (qQ (w:=w) (J:=J) (μ:=μ) y);unfold Oper.wp;rw[O];simp only[Oper.upon];rw[C]at K;have D:o.dst=some d:=M;rw[D];have:=X.yO (v:=.pointer (some ⟨w.heap.size,0,none⟩)) (r:=.ptr id 0) K G.jF (λ_ _ _ _=>N) (λh=>by simp[chainB]at h);rw[C]at L;exact L μ' _ _ V this G.jF
end Go.Pm
