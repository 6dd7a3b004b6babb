/- A part of a proof; the claim's last text says of what. -/
import Derived.Test.YtlakkaamfadipaaGreatDoorB17
set_option linter.all false

namespace Go.Bt
open Go Go.Pm
structure pA {α:Type} (c:α->α->Int):Prop where
 my:∀a b,c b a = - c a b
 trans:∀a b d,0<=c a b->0<=c b d->0<=c a d
def pA.self{α:Type}{c:α->α->Int}(h:pA c)(a:α):c a a=0:=by have:=h.my a a;omega
def pA.gt{α:Type}{c:α->α->Int}(h:pA c){a b d:α}(h1:0<c a b)(g:0<c b d):0<c a d:=by
 have k:=h.trans a b d (by omega) (by omega);rcases(by omega:0<c a d\/c a d=0)with e|e
 .exact e
 .have j:=h.my a d;have f:=h.trans d a b (by omega) (by omega);have i:=h.my d b;omega
def pA.on{α β:Type}{c:β->β->Int}(h:pA c)(f:α->β):pA λa b=>c (f a) (f b) :=
 ⟨λ_ _=>h.my _ _,λ_ _ _=>h.trans _ _ _⟩
def Ow{α:Type}(c d:α->α->Int)(a b:α):Int:=if c a b≠0 then c a b else d a b
def pA.lex{α:Type}{c d:α->α->Int}(h:pA c)(k:pA d):pA (Ow c d):=by
 refine⟨λa b=>?_,λa b e g f=>?_⟩
 .have g:=h.my a b;have f:=k.my a b;simp only[Ow];split<;>split<;>omega
 .have l:=h.my a b;have m:=h.my b e;have r:=h.trans a b e;have i:=h.trans e a b;have n:=h.my e b;have j:=h.my a e;have p:=h.trans b e a;have q:=h.my b a;have o:=k.trans a b e;simp only[Ow]at g f |-;split at g<;>split at f<;>split<;>omega
def EZ:pA ox:=by
 refine⟨λa b=>?_,λa b d=>?_⟩<;>simp only[ox]<;>(repeat' split)<;>omega
def Ii{a b:UInt8}:a<b<->a.toNat<b.toNat:=Fk
def gi:pA fS:=by
 have j:∀a b,fS b a = - fS a b:=by
  intro a
  induction a with
  |nil=>intro b;cases b<;>simp[fS]
  |cons x a ih =>
   intro b;cases b with
   |nil=>simp[fS]
   |cons y b =>
    simp only[fS,ih]
    by_cases e:x<y
    .have c:¬y<x:=by rw[Ii]at *;omega
     simp[e,c]
    .by_cases c:y<x<;>simp[e,c]
 refine⟨j,?_⟩;intro a
 induction a with
 |nil =>
  intro b d e c;cases b with
  |nil=>exact c
  |cons y b=>simp[fS]at e
 |cons x a ih =>
  intro b d e c;cases d with
  |nil=>simp[fS]
  |cons z d =>
   cases b with
   |nil=>simp[fS]at c
   |cons y b =>
    simp only[fS]at e c |-
    by_cases f:x<y
    .simp[f]at e
    .by_cases h:y<z
     .simp[h]at c
     .rw[an f]at e;rw[an h]at c;have i:¬x<z:=by rw[Ii]at *;omega
      rw[an i]
      by_cases g:z<x
      .rw[az g];decide
      .rw[an g];have k:¬y<x:=by rw[Ii]at *;omega
       have l:¬z<y:=by rw[Ii]at *;omega
       rw[an k]at e;rw[an l]at c;exact ih b d e c
def kh:∀{a b:aG},fS a b=0<->a=b:=by
 intro a
 induction a with
 |nil=>intro b;cases b<;>simp[fS]
 |cons x a ih =>
  intro b;cases b with
  |nil=>simp[fS]
  |cons y b =>
   simp only[fS]
   by_cases c:x<y
   .have:x≠y:=by rintro rfl;rw[Ii]at c;omega
    simp[c,this]
   .by_cases d:y<x
    .have:x≠y:=by rintro rfl;rw[Ii]at d;omega
     simp[c,d,this]
    .have:x=y:=by
      rw[Ii]at c d;exact uV.1 (by omega)
     simp[c,d,this,ih]
def fU:∀(x y:aG),Op.bytesLess x y=decide (fS x y<0)
 |[],[]=>rfl
 |[],_::_=>rfl
 |_::_,[]=>rfl
 |a::x,b::y=>by
  simp only[Op.bytesLess,fS]
  by_cases c:a<b
  .simp[c]
  .by_cases d:b<a
   .have:a≠b:=by rintro rfl;exact c d
    simp[c,d,this]
   .have e:a=b:=Fh (ud.1 d) (ud.1 c);subst e;simp[c,fU x y]
def lY{x y z:aG}(h1:fS x y<0)(f:fS y z<0):fS x z<0:=by
 have e:=gi.my x y;have g:=gi.my y z;have c:=gi.my x z;have:=gi.gt (a:=z) (b:=y) (d:=x) (by omega) (by omega);omega
def V5:∀(x y:aG),fS x y = -1\/fS x y=0\/fS x y=1
 |[],[]=>by simp[fS]
 |[],_::_=>by simp[fS]
 |_::_,[]=>by simp[fS]
 |a::x,b::y=>by
  have:=V5 x y;simp only[fS]
  (repeat' split)<;>omega
def ix(s:aG):aB:=[.s s]
def bS(l:List It):dq:=(l.filter λt=>t.awb==6).map im
abbrev GK:=aG×aG
def wA(k:GK):V:=.agg [.s k.1,.s k.2]
def F3(a b:GK):dD 4 (wA a) (wA b)=some (decide (a=b)):=by
 obtain⟨k,t⟩:=a;obtain⟨l,s⟩:=b;simp only[dD,wA,IA,ae];rw[cB];simp
def iD(C:List (GK×Int))(last:aG):dq->List (GK×Int)
 |[]=>bump C (last,[]) 1
 |w::r=>iD (bump C (last,w) 1) w r
abbrev Gr:=GK×Int
def yw(g:Gr):aB:=[.s g.1.1,.s g.1.2,.i .i64 g.2]
def J6(a b:GK):Int:=AK [fS a.1 b.1,fS a.2 b.2]
def G0(a b:Gr):Int:=J6 a.1 b.1
def dS(ws:dq):List Gr:=(iD [] [] ws).mergeSort λa b=>decide (G0 a b<=0)
def dX(t:It):It×Bool:=if t.awb=6\/t.awb=7\/t.awb=8\/t.awb=9\/t.awb=5 then(⟨t.awb,im t,0⟩,true)else(⟨t.awb,t.awd,0⟩,b9 t)
def CN{α:Type}[DecidableEq α](n:Nat)(C:List (α×Int)):Prop:=C.length<=n/\kC C/\∀k v,cX k C=some v->0<v/\v<=n
def CN.nil{α:Type}[DecidableEq α]:CN 0 ([]:List (α×Int)):=⟨aD _,by simp[kC],λk v h=>by simp[cX,gM]at h⟩
def CN.getD{α:Type}[DecidableEq α]{n:Nat}{C:List (α×Int)}(h:CN n C)(k:α):0<=(cX k C).getD 0/\(cX k C).getD 0<=n:=by
 cases a:cX k C with
 |none=>simp
 |some v=>have:=h.2.2 k v a;simp;omega
def CN.bump{α:Type}[DecidableEq α]{n:Nat}{C:List (α×Int)}(h:CN n C)(a:α):CN (n+1) (Bt.bump C a 1):=by
 refine⟨cu (Pz _ _ _) (by have:=h.1;omega),h.2.1.yO _ _,λk v b=>?_⟩;unfold Bt.bump at b;rw[jy]at b;have c:=h.getD a;split at b
 .simp only[ae]at b;omega
 .have:=h.2.2 k v b;omega
def mE:∀(ws:dq) (C:List (GK×Int)) (last:aG) (n:Nat),CN n C->CN (n+ws.length+1) (iD C last ws)
 |[],C,last,n,h=>h.bump _
 |w::r,C,last,n,h=>by
  have:=mE r (bump C (last,w) 1) w (n+1) (h.bump _);simp only[iD,ai];have e:n+(r.length+1)+1=n+1+r.length+1:=by omega
  rw[e];exact this
def tW{a:dK}(b:a.Nodup){q:Nat}(c:q∈a):a.Perm (q::a.filter λi=>i != q):=by
 refine(C9 b (gz.2 ⟨by simp,b.filter _⟩)).2 λx=>?_;simp only[bC,cZ,qT,fc]
 by_cases h:x=q
 .subst h;simp[c]
 .simp[h]
def sP{α:Type}(C:List α)(d:α):((List.range C.length).map λi=>C.getD i d)=C:=by
 apply mS;intro i;rw[ck]
 by_cases h:i<C.length
 .simp[np h,aq,ax h]
 .rw[cI (by simpa using acu h),cI (by omega)];rfl
def X6:pA J6:=by
 have h:=(gi.on (λk:GK=>k.1)).lex (gi.on (λk:GK=>k.2))
 have e:J6=Ow (λa b:GK=>fS a.1 b.1) (λa b=>fS a.2 b.2):=by
  funext a b;simp only[J6,AK,Ow];split
  .rfl
  .split<;>omega
 rw[e];exact h
def Ub{a b:GK}(h:J6 a b=0):a=b:=by
 simp only[J6,AK]at h;have c:fS a.1 b.1=0:=by split at h<;>omega
 have d:fS a.2 b.2=0:=by rw[an (by omega)]at h;split at h<;>omega
 exact Prod.ext (kh.1 c) (kh.1 d)
def rn:pA G0:=X6.on (λg:Gr=>g.1)
def X5(ws:dq):(dS ws).Pairwise λx y=>¬G0 y x<0:=by
 have:=wq (le:=λa b=>decide (G0 a b<=0)) (λa b c i g=>by
  simp only[aV]at *;have d:=rn.my a b;have e:=rn.my b c;have f:=rn.my a c;have j:=rn.trans c b a (by omega) (by omega);omega) (λa b=>by
  have d:=rn.my a b;simp only[eD,aV];omega) (iD [] [] ws)
 refine this.imp λ{a b} h=>?_;have d:=rn.my a b;simp only[aV]at h;omega
def lf(ws:dq):(dS ws).Perm (iD [] [] ws):=uz ..
def Re{C:List Gr}(h:kC C){a b:Gr}(d:a∈C)(g:b∈C)(e:a.1=b.1):a=b:=by
 have c:=oA h d;have f:=oA h g;rw[e,f]at c;exact Prod.ext e (gy c).symm
def LN{ws:dq}{l:List Gr}(c:l.Perm (iD [] [] ws))(f:l.Pairwise λx y=>¬G0 y x<0):l=dS ws:=by
 have hK:kC (iD [] [] ws):=(mE ws [] [] 0 CN.nil).2.1;refine pC (λa b d e x y=>?_) f (X5 ws) (c.trans (lf ws).symm);have g:=rn.my a b;exact Re hK (c.mem_iff.1 d) ((lf ws).mem_iff.1 e) (Ub (show J6 a.1 b.1=0 from(by unfold G0 at *;omega)))
def om(C:List (TK×Int)):List It->List (TK×Int)
 |[]=>C
 |t::r=>om (if(dX t).2 then bump C (gd (dX t).1) 1 else C) r
def NA(n:Int)(gs:List Gr):Int:=gs.foldl (λa g=>a+g.2) n
def L8(n:Int):List It->Int
 |[]=>n
 |t::r=>L8 (if(dX t).2&&!b9 (dX t).1 then n+weight (dX t).1 else n) r
def Md(n:Int):List It->Int
 |[]=>n
 |t::r=>Md (if(dX t).2&&b9 (dX t).1 then n+1 else n) r
structure Sm where
 jq:Int
 weight:Int
 tags:Int
def nh(l:List It):Sm:=⟨NA 0 (dS (bS l)),L8 0 l,Md 0 l⟩
def C3:∀(l:List It) (C:List (TK×Int)) (n:Nat),CN n C->CN (n+l.length) (om C l)
 |[],C,n,h=>h
 |t::r,C,n,h=>by
  simp only[om,ai];have e:n+(r.length+1)=n+1+r.length:=by omega
  rw[e];refine C3 r _ (n+1) ?_;split
  .exact h.bump _
  .exact⟨by have:=h.1;omega,h.2.1,λk v a=>by have:=h.2.2 k v a;omega⟩
def sF(l:List It):(bS l).length<=l.length:=by
 unfold bS;rw[ag];exact eB _ _
def zF(ws:dq):(dS ws).length<=ws.length+1:=by
 rw[(lf ws).length_eq];have:=(mE ws [] [] 0 CN.nil).1;omega
def J3(ws:dq):∀g∈dS ws,0<=g.2/\g.2<=(ws.length:Int)+1:=λg c=>by
 have a:=mE ws [] [] 0 CN.nil;have b:=oA a.2.1 ((lf ws).mem_iff.1 c);have:=a.2.2 _ _ b;omega
section
variable {α β:Type} [DecidableEq α] {kd:Nat} {ke:α->V} {ve:β->V}
def yI(p:∀a b,dD kd (ke a) (ke b)=some (decide (a=b)))(C:List (α×β))(a:α):
  (cX a C=none/\gV kd (ke a) (emap ke ve C) 0=some none/\(∀z,gV kd (ke a) (emap ke ve C++[(ke a,z)]) 0=some (some ((emap ke ve C).length,z))) /\
    (∀z,(emap ke ve C++[(ke a,z)])[(emap ke ve C).length]?=some (ke a,z))/\∀z v,(emap ke ve C++[(ke a,z)]).set (emap ke ve C).length (ke a,ve v)=emap ke ve (iZ C a v)) \/
  (∃i b,cX a C=some b/\gV kd (ke a) (emap ke ve C) 0=some (some (i,ve b))/\(emap ke ve C)[i]?=some (ke a,ve b)/\∀v,(emap ke ve C).set i (ke a,ve v)=emap ke ve (iZ C a v)):=by
 rcases oc (ve:=ve) p C a with⟨g,f,m⟩|⟨i,b,g,f,m⟩
 .refine .inl ⟨g,f,λz=>?_,λz=>by simp,λz v=>?_⟩
  .have d:∀(c:List (V×V)) (n:Nat),gV kd (ke a) c n=some none->gV kd (ke a) (c++[(ke a,z)]) n=some (some (n+c.length,z)):=by
    intro c
    induction c with
    |nil=>intro n _;simp[gV,p]
    |cons e c ih =>
     intro n h;simp only[gV,bJ]at h |-;split at h
     .simp at h
     .rw[ih _ h];simp;omega
     .simp at h
   simpa using d _ 0 f
  .rw[<- m v,dA _ _ (aD _)];simp
 .refine .inr ⟨i,b,g,f,?_,m⟩
  have d:∀(c:List (V×V)) (n:Nat) (r:Nat) (y:V),gV kd (ke a) c n=some (some (r,y))->∃j k,r=n+j/\c[j]?=some (k,y)/\dD kd (ke a) k=some true:=by
   intro c
   induction c with
   |nil=>intro n r y h;simp[gV]at h
   |cons e c ih =>
    intro n r y h;obtain⟨k,x⟩:=e;simp only[gV]at h;split at h
    .rename_i s;simp only[ae,aQ]at h;exact⟨0,k,by omega,by simp[h.2],s⟩
    .obtain⟨j,t,q,l,o⟩:=ih _ _ _ h;exact⟨j+1,t,by omega,by simpa using l,o⟩
    .simp at h
  obtain⟨j,k,q,l,o⟩:=d _ 0 i _ f;have:i=j:=by omega
  subst this;rw[l,Au o]
end
def Ab(p:Int×Int):aB:=[.i .i64 p.1,.i .i64 p.2]
def sS(p:Nat×Nat):V:=.own p.1 p.2
def mo(E g:Nat)(a:eR):Ob:=.row E 2 16 g false (a.map Ab)
structure lP {α:Type} [DecidableEq α] (E n:Nat) (T:ak) (G:List (α×(Nat×Nat))) (f:α->eR):Prop where
 nodup:(G.map (·.1)).Nodup
 row:∀k r g,cX k G=some (r,g)->∃j,r=n+j/\T[j]?=some (mo E g (f k))
 Ho:∀k,cX k G=none->f k=[]
 inj:∀k k' r g g',cX k G=some (r,g)->cX k' G=some (r,g')->k=k'
def still:Ob->Bool
 |.box _ _=>true
 |.map _ _ _=>true
 |.row _ sz _ _ _ _=>decide (2<sz)
 |_=>false
def si(T a:ak):Prop:=T.length<=a.length/\∀(j:Nat) (o:Ob),T[j]?=some o->still o=true->a[j]?=some o
def si.refl(T:ak):si T T:=⟨aD _,λ_ _ h _=>h⟩
def si.trans{a b c:ak}(h:si a b)(k:si b c):si a c:=⟨cu h.1 k.1,λj o e d=>k.2 j o (h.2 j o e d) d⟩
def si.app(T l:ak):si T (T++l):=⟨by simp,λj o h _=>by rw[ay (ah.1 h).1];exact h⟩
def si.set{T:ak}{j:Nat}{b:Ob}(h:T[j]?=some b)(c:still b=false)(o:Ob):si T (T.set j o) :=
 ⟨by simp,λi f a d=>by
  have:j≠i:=λe=>by subst e;rw[h]at a;rw[gy a,d]at c;cases c
  rw[bz this];exact a⟩
def si.setRow{T:ak}{j:Nat}{E b g:Nat}{sh:Bool}{xs:dF}(h:T[j]?=some (.row E 2 b g sh xs))(o:Ob):si T (T.set j o):=si.set h rfl o
section
variable {α:Type} [DecidableEq α] {E n:Nat} {T:ak} {G:List (α×(Nat×Nat))} {f:α->eR}
def lP.app(h:lP E n T G f)(l:ak):lP E n (T++l) G f :=
 ⟨h.nodup,λk r g b=>by
  obtain⟨j,c,a⟩:=h.row k r g b;exact⟨j,c,by rw[ay (ah.1 a).1];exact a⟩,h.Ho,h.inj⟩
def lP.other(h:lP E n T G f){j:Nat}(o:Ob)(b:∀k r g,cX k G=some (r,g)->r≠n+j):lP E n (T.set j o) G f :=
 ⟨h.nodup,λk r g a=>by
  obtain⟨i,d,c⟩:=h.row k r g a;have:=b k r g a;exact⟨i,d,by rw[bz (by omega)];exact c⟩,h.Ho,h.inj⟩
def zP(f:α->eR)(k:α)(p:Int×Int):α->eR:=λx=>if x=k then f x++[p]else f x
def amG(G:List (α×(Nat×Nat)))(a:α)(b:Nat×Nat):(iZ G a b).map (·.1)=if a∈G.map (·.1)then G.map (·.1)else G.map (·.1)++[a]:=by
 induction G with
 |nil=>simp[iZ]
 |cons p C ih =>
  simp only[iZ];split
  .rename_i h;subst h;simp
  .rename_i h;simp only[aH,ih]
   by_cases c:a∈C.map (·.1)
   .rw[az c,az (eV _ c)]
   .rw[an c,an (by simp only[bC];rintro(d|d);exact h d;exact c d)];rfl
def Tq{G:List (α×(Nat×Nat))}(h:(G.map (·.1)).Nodup)(a:α)(b:Nat×Nat):((iZ G a b).map (·.1)).Nodup:=by
 rw[amG];split
 .exact h
 .rename_i f;rw[iX];exact⟨h,by simp,λx d y c e=>by simp at c;subst c;subst e;exact f d⟩
def lP.add(h:lP E n T G f){k:α}{j g:Nat}(d:cX k G=some (n+j,g))(p:Int×Int):lP E n (T.set j (mo E (g+1) (f k++[p]))) (iZ G k (n+j,g+1)) (zP f k p):=by
 obtain⟨m,z,v⟩:=h.row k _ _ d;have:m=j:=by omega
 subst this;refine⟨Tq h.nodup _ _,λx r s a=>?_,λx a=>?_,λx q r t o a b=>?_⟩
 .rw[jy]at a;split at a
  .rename_i e;subst e;simp only[ae,aQ]at a;obtain⟨rfl,rfl⟩:=a;exact⟨m,rfl,by rw[aL (ah.1 v).1];simp[zP]⟩
  .rename_i e;obtain⟨i,u,w⟩:=h.row x r s a;have y:m≠i:=λc=>by subst c;exact e (h.inj x k r s g a (by rw[d,u]))
   exact⟨i,u,by rw[bz y,w];simp[zP,e]⟩
 .rw[jy]at a;split at a
  .simp at a
  .rename_i e;simp[zP,e,h.Ho x a]
 .rw[jy]at a b;split at a<;>split at b
  .rename_i l c;rw[l,c]
  .rename_i l c;simp only[ae,aQ]at a;rw[<- a.1]at b;exact absurd (h.inj q k _ o g b d) c
  .rename_i l c;simp only[ae,aQ]at b;rw[<- b.1]at a;exact absurd (h.inj x k _ t g a d) l
  .exact h.inj x q r t o a b
def lP.new(h:lP E n T G f){k:α}(q:cX k G=none)(p:Int×Int):lP E n (T++[mo E 0 [p]]) (iZ G k (n+T.length,0)) (zP f k p):=by
 have d:∀x r g,cX x G=some (r,g)->r<n+T.length:=λx r g a=>by
  obtain⟨i,j,c⟩:=h.row x r g a;have:=(ah.1 c).1;omega
 refine⟨Tq h.nodup _ _,λx r m a=>?_,λx a=>?_,λx t r l o a b=>?_⟩
 .rw[jy]at a;split at a
  .rename_i e;subst e;simp only[ae,aQ]at a;obtain⟨rfl,rfl⟩:=a;exact⟨T.length,rfl,by simp[zP,h.Ho _ q]⟩
  .rename_i e;obtain⟨i,j,c⟩:=h.row x r m a;exact⟨i,j,by rw[ay (ah.1 c).1,c];simp[zP,e]⟩
 .rw[jy]at a;split at a
  .simp at a
  .rename_i e;simp[zP,e,h.Ho x a]
 .rw[jy]at a b;split at a<;>split at b
  .rename_i s u;rw[s,u]
  .simp only[ae,aQ]at a;have:=d _ _ _ b;omega
  .simp only[ae,aQ]at b;have:=d _ _ _ a;omega
  .exact h.inj x t r l o a b
end
def kL{α β:Type}[DecidableEq α](k:α):∀(C:List (α×β)),k∈C.map (·.1)<->(cX k C).isSome
 |[]=>by simp[cX,gM]
 |p::C=>by
  have ih:=kL k C
  by_cases e:k=p.1
  .subst e;simp[cX,gM]
  .have a:cX k (p::C)=cX k C:=by
    unfold cX;rw[gM,an e];exact pt k C 1
   rw[a,<- ih];simp[e]
def yy{α β:Type}[DecidableEq α]{C D:List (α×β)}(c:(C.map (·.1)).Nodup)(h:D.Perm C)(k:α):cX k D=cX k C:=by
 have f:(D.map (·.1)).Nodup:=(h.map _).nodup_iff.2 c
 have a:∀{L:List (α×β)},(L.map (·.1)).Nodup->∀v,cX k L=some v<->(k,v)∈L:=by
  intro L
  induction L with
  |nil=>intro _ v;simp[cX,gM]
  |cons p L ih =>
   intro i v;have g:=gz.1 i
   by_cases e:k=p.1
   .subst e;have:cX p.1 (p::L)=some p.2:=by simp[cX,gM]
    rw[this];simp only[ae,bC];constructor
    .rintro rfl;exact .inl rfl
    .rintro(b|b)
     .rw[<- b]
     .exact absurd (bF.2 ⟨_,b,rfl⟩) g.1
   .have l:cX k (p::L)=cX k L:=by
     unfold cX;rw[gM,an e];exact pt k L 1
    rw[l,ih g.2 v,bC];constructor
    .exact .inr
    .rintro(b|b)
     .rw[<- b]at e;exact absurd rfl e
     .exact b
 cases d:cX k C with
 |none =>
  cases j:cX k D with
  |none=>rfl
  |some v=>exact absurd ((a c v).2 (h.mem_iff.1 ((a f v).1 j))) (by rw[d];simp)
 |some v=>exact(a f v).2 (h.mem_iff.2 ((a c v).1 d))
def oy{α:Type}[DecidableEq α](f:α->eR)(id:Int):List (α×Int)->α->eR
 |[]=>f
 |g::r=>oy (zP f g.1 (id,g.2)) id r
def K9{α β:Type}[DecidableEq α][DecidableEq β](G:List (α×(Nat×Nat)))(H:List (β×(Nat×Nat))):Prop:=∀k r g c a b,cX k G=some (r,g)->cX c H=some (a,b)->r≠a
section
variable {α β:Type} [DecidableEq α] [DecidableEq β] {G:List (α×(Nat×Nat))} {H:List (β×(Nat×Nat))}
def K9.symm(h:K9 G H):K9 H G:=λk r g f a d c b e=>h f a d k r g b c e.symm
def K9.add(h:K9 G H){k:α}{r g:Nat}(c:cX k G=some (r,g))(d:Nat):K9 (iZ G k (r,d)) H:=λx j i y e f a b=>by
 rw[jy]at a;split at a
 .simp only[ae,aQ]at a;rw[<- a.1];exact h _ _ _ _ _ _ c b
 .exact h _ _ _ _ _ _ a b
def K9.new{E n:Nat}{T:ak}{f:β->eR}(h:K9 G H)(c:lP E n T H f)(k:α)(m:Nat)(l:T.length<=m):K9 (iZ G k (n+m,0)) H:=λx g e y i o a b=>by
 rw[jy]at a;split at a
 .simp only[ae,aQ]at a;obtain⟨j,p,d⟩:=c.row _ _ _ b;have:=(ah.1 d).1;omega
 .exact h _ _ _ _ _ _ a b
end
def KL{α:Type}[DecidableEq α](id:Int)(k:α):∀(D:List (α×Int)) (f:α->eR),kC D->oy f id D k=f k++((cX k D).toList.map λc=>(id,c))
 |[],f,_=>by simp[oy,cX,gM]
 |g::r,f,h=>by
  have d:kC r:=by unfold kC at *;exact(gz.1 h).2
  have j:g.1 ∉ r.map (·.1):=by unfold kC at h;exact(gz.1 h).1
  have ih:=KL id k r (zP f g.1 (id,g.2)) d;simp only[oy];rw[ih]
  by_cases e:k=g.1
  .subst e
   have b:cX g.1 r=none:=by
    cases i:cX g.1 r with
    |none=>rfl
    |some v =>
     exfalso;refine j ?_;have:=(kL g.1 r).2 (by rw[i];rfl);exact this
   have a:cX g.1 (g::r)=some g.2:=by simp[cX,gM]
   simp[b,a,zP]
  .have a:cX k (g::r)=cX k r:=by
    unfold cX;rw[gM,an e];exact pt k r 1
   rw[a];simp[zP,e]
def Uz{α:Type}[DecidableEq α](f:α->eR)(id:Int)(D:List (α×Int))(g:α×Int):oy f id (D++[g])=zP (oy f id D) g.1 (id,g.2):=by
 induction D generalizing f with
 |nil=>rfl
 |cons x D ih=>simp only[bJ,oy,ih]
def M9{α:Type}[DecidableEq α](id:Int)(k:α):∀(D:List (α×Int)) (f:α->eR),(oy f id D k).length<=(f k).length+D.length
 |[],f=>by simp[oy]
 |g::r,f=>by
  have ih:=M9 id k r (zP f g.1 (id,g.2));have:(zP f g.1 (id,g.2) k).length<=(f k).length+1:=by unfold zP;split<;>simp
  simp only[oy,ai];omega
def Mk(s:Sm):aB:=[.i .i64 s.jq,.i .i64 s.weight,.i .i64 s.tags]
structure Sm.ok (s:Sm) (m:Int):Prop where
 p:0<=s.jq/\s.jq<=m
 w:0<=s.weight/\s.weight<=m
 t:0<=s.tags/\s.tags<=m
def Bb(a b c:Sm):Int:=mx (mx a.weight b.weight - c.weight+3*(a.tags+b.tags - 2*c.tags)) (4*(mx a.jq b.jq - c.jq+1).tdiv 2)
def sg(awr a:Int):Int:=if 100<a then -1 else if a<1\/awr<1 then 1073741824 else((if 1073741824<awr then 1073741824 else awr)*(100 - a)).tdiv 100
def US(x m:Int)(k:Int)(d:0<k)(h : -m<=x/\x<=m): -m<=x.tdiv k/\x.tdiv k<=m:=by
 by_cases c:0<=x
 .rw[eY c];have g:=Bl c (Int.le_of_lt d);have f:=HL k c;omega
 .have e:x = -(-x):=by omega
  rw[e,Int.neg_tdiv,eY (by omega)];have g:=Bl (a := -x) (b:=k) (by omega) (Int.le_of_lt d);have f:=HL (a := -x) k (by omega);omega
def Cd:Sm:=⟨0,0,0⟩
def Sm.add(a b:Sm):Sm:=⟨a.jq+b.jq,a.weight+b.weight,a.tags+b.tags⟩
def uS(s:Sm):V:=.agg (Mk s)
def Sm.size(s:Sm):Int:=s.jq+s.weight+s.tags
def Sm.nn(s:Sm):Prop:=0<=s.jq/\0<=s.weight/\0<=s.tags
abbrev wo:=Int×Sm
def B9(O:List wo)(i:wo):List wo:=iZ O i.1 (((cX i.1 O).getD Cd).add i.2)
def fV(O:List wo)(I:List wo):List wo:=I.foldl B9 O
def nL(I:List wo):Int:=(I.map λi=>i.2.size).sum
def YM(I:List wo):Prop:=∀i∈I,i.2.nn
def OB(m:Int)(O:List wo):Prop:=0<=m/\∀id s,cX id O=some s->s.ok m
def Sm.nn.size{s:Sm}(h:s.nn):0<=s.size:=by unfold Sm.size;obtain⟨a,b,c⟩:=h;omega
def OB.nil:OB 0 []:=⟨dJ _,λid s h=>by simp[cX,gM]at h⟩
def OB.getD{m:Int}{O:List wo}(h:OB m O)(id:Int):((cX id O).getD Cd).ok m:=by
 cases a:cX id O with
 |none=>exact⟨⟨dJ _,h.1⟩,⟨dJ _,h.1⟩,⟨dJ _,h.1⟩⟩
 |some s=>exact h.2 id s a
def OB.add{m:Int}{O:List wo}(h:OB m O){i:wo}(hi:i.2.nn):OB (m+i.2.size) (B9 O i):=by
 have j:=hi.size;refine⟨by have:=h.1;omega,λid s d=>?_⟩;unfold B9 at d;rw[jy]at d;have e:=h.getD i.1;obtain⟨f,g,k⟩:=hi;split at d
 .simp only[ae]at d;subst d;obtain⟨a,b,c⟩:=e;unfold Sm.size at *;exact⟨by simp only[Sm.add];omega,by simp only[Sm.add];omega,by simp only[Sm.add];omega⟩
 .obtain⟨a,b,c⟩:=h.2 id s d;exact⟨by omega,by omega,by omega⟩
def Bs{I:List wo}(h:YM I):0<=nL I:=by
 induction I with
 |nil=>exact dJ _
 |cons i I ih =>
  have c:=(h i (by simp)).size;have b:=ih λj a=>h j (by simp[a]);simp only[nL,aH,dw]at b |-;omega
def Fv(i:wo)(I:List wo):nL (i::I)=i.2.size+nL I:=by simp[nL]
def xS(I a:List wo):nL (I++a)=nL I+nL a:=by simp[nL]
def OB.mono{m d:Int}{O:List wo}(h:OB m O)(f:m<=d):OB d O:=⟨by have:=h.1;omega,λid s e=>by
 obtain⟨a,b,c⟩:=h.2 id s e;exact⟨by omega,by omega,by omega⟩⟩
def OB.apply{m:Int}:∀(I:List wo) {O:List wo},OB m O->YM I->OB (m+nL I) (fV O I)
 |[],O,h,_=>by simpa[nL,fV]using h
 |i::I,O,h,hn=>by
  have a:=h.add (hn i (by simp));have c:=OB.apply I a (λj b=>hn j (by simp[b]));rw[Fv,<- Int.add_assoc];exact c
def oK(c:Int)(a:eR):List wo:=a.map λp=>(p.1,⟨mn p.2 c,0,0⟩)
def uL(k:TK)(c:Int)(a:eR):List wo:=a.map λp=>(p.1,if qK k then⟨0,0,mn p.2 c⟩else⟨0,mn p.2 c*weight ⟨k.1,k.2,0⟩,0⟩)
def An{α:Type}(F:α->List wo){a b:List α}(h:a.Perm b):nL (a.flatMap F)=nL (b.flatMap F):=by
 induction h with
 |nil=>rfl
 |cons x _ ih=>simp only[eJ,xS,ih]
 |swap x y l=>simp only[eJ,xS];omega
 |trans _ _ d c=>exact d.trans c
def Uv(O I a:List wo):fV O (I++a)=fV (fV O I) a:=by simp[fV]
def Fo(x:It):0<=weight x/\weight x<=4:=by
 unfold weight
 repeat' split
 all_goals omega
def HR{k:TK}{c:Int}(f:0<=c){a:eR}(h:∀p∈a,0<=p.2):YM (uL k c a):=λi d=>by
 simp only[uL,bF]at d;obtain⟨q,e,rfl⟩:=d;have:=h q e;have b:0<=mn q.2 c:=by unfold mn;split<;>omega
 simp only;split
 .exact⟨dJ _,dJ _,b⟩
 .exact⟨dJ _,De b (Fo _).1,dJ _⟩
def VH{c:Int}(e:0<=c){a:eR}(h:∀p∈a,0<=p.2):YM (oK c a):=λi b=>by
 simp only[oK,bF]at b;obtain⟨q,d,rfl⟩:=b;have:=h q d;exact⟨by simp only[mn];split<;>omega,dJ _,dJ _⟩
def mR(id:Int)(s:Sm)(I:List wo):Sm:=I.foldl (λs i=>if i.1=id then s.add i.2 else s) s
def CY(id:Int):∀(I O:List wo),(cX id (fV O I)).getD Cd=mR id ((cX id O).getD Cd) I
 |[],O=>rfl
 |i::I,O=>by
  have h:=CY id I (B9 O i)
  have e:(cX id (B9 O i)).getD Cd=if i.1=id then((cX id O).getD Cd).add i.2 else(cX id O).getD Cd:=by
   unfold B9;rw[jy]
   by_cases a:i.1=id
   .subst a;simp
   .rw[an (λe=>a e.symm),an a]
  rw[e]at h;exact h
def BQ(id:Int)(s:Sm)(I a:List wo):mR id s (I++a)=mR id (mR id s I) a:=by simp[mR]
def Sm.add_assoc(a b c:Sm):(a.add b).add c=a.add (b.add c):=by simp only[Sm.add,SF]
def Sm.Yz(a b c:Sm):(a.add b).add c=(a.add c).add b:=by
 simp only[Sm.add,Sm.mk.injEq];omega
def Sm.aod(a:Sm):a.add Cd=a:=by simp[Sm.add,Cd]
def Gq(id:Int)(t:Sm):∀(I:List wo) (s:Sm),mR id (s.add t) I=(mR id s I).add t
 |[],s=>rfl
 |i::I,s=>by
  show mR id (if i.1=id then(s.add t).add i.2 else s.add t) I=(mR id (if i.1=id then s.add i.2 else s) I).add t
  by_cases h:i.1=id
  .rw[az h,az h,Sm.Yz,Gq id t I]
  .rw[an h,an h,Gq id t I]
def KM(id:Int)(a:List wo):∀(I:List wo) (s:Sm),mR id (mR id s I) a=mR id (mR id s a) I
 |[],s=>rfl
 |i::I,s=>by
  have e:∀s:Sm,mR id s (i::I)=mR id (if i.1=id then s.add i.2 else s) I:=λ_=>rfl;rw[e,e,KM id a I]
  by_cases h:i.1=id
  .rw[az h,az h,Gq]
  .rw[an h,an h]
def KN{α:Type}(id:Int)(F:α->List wo){a b:List α}(h:a.Perm b):∀s,mR id s (a.flatMap F)=mR id s (b.flatMap F):=by
 induction h with
 |nil=>intro s;rfl
 |cons x _ ih=>intro s;simp only[eJ,BQ,ih]
 |swap x y l=>intro s;simp only[eJ,BQ];rw[KM id (F x) (F y) s]
 |trans _ _ d c=>intro s;exact(d s).trans (c s)
def pos(d:Int):Int:=if 0<d then d else 0
def Dr{α:Type}{f g:α->Int}{K:List α}(h:∀k∈K,g k<=f k):eZ g K<=eZ f K:=by
 induction K with
 |nil=>exact dJ _
 |cons k K ih =>
  have c:=h k (by simp);have b:=ih λy a=>h y (by simp[a]);simp only[eZ,aH,dw]at b |-;omega
def Br{α:Type}{f g:α->Int}{K:List α}(hK:K.Nodup)(a:α){d:Int}(c:0<=d)(h0:g a<=f a+d)(h:∀k,k≠a->g k<=f k):eZ g K<=eZ f K+d:=by
 induction K with
 |nil=>simpa[eZ]using c
 |cons k K ih =>
  simp only[gz]at hK
  by_cases e:k=a
  .subst e;have b:eZ g K<=eZ f K:=Dr λx i=>h x (by rintro rfl;exact hK.1 i);simp only[eZ,aH,dw]at b |-;omega
  .have b:=ih hK.2;have j:=h k e;simp only[eZ,aH,dw]at b |-;omega
def Cz(t:It):Option TK:=if(dX t).2 then some (gd (dX t).1)else none
def gY(k:TK):List It->Int
 |[]=>0
 |x::l=>(if Cz x=some k then 1 else 0)+gY k l
def wK(k:TK):Int:=weight ⟨k.1,k.2,0⟩
def R8(t:It):(dX t).1.awb=t.awb:=by unfold dX;split<;>rfl
def Ai{a b:It}(h:a.awb=b.awb):weight a=weight b:=by unfold weight;rw[h]
def H8{x:It}{k:TK}(h:Cz x=some k):k.1=x.awb/\qK k=b9 x/\wK k=weight x:=by
 unfold Cz at h;split at h
 .simp only[ae]at h;subst h;have e:(gd (dX x).1).1=x.awb:=R8 x;refine⟨e,?_,Ai e⟩;unfold qK b9;rw[e]
 .cases h
def Kz{x:It}{k:TK}(h:Cz x=some k):single x=if qK k then 1 else wK k:=by
 obtain⟨_,b,a⟩:=H8 h;unfold single;rw[b,a]
def lV(a b:List It)(k:TK):Int:=if qK k then qS (gY k a - gY k b)else wK k*pos (gY k a - gY k b)
def afP(k:TK):0<=wK k:=(sH _).1
def Q9{K:List TK}(hK:K.Nodup)(x:It)(a b:List It):eZ (lV (x::a) b) K<=eZ (lV a b) K+single x:=by
 cases f:Cz x with
 |none =>
  have d:eZ (lV (x::a) b) K=eZ (lV a b) K:=gS λk _=>by simp[lV,gY,f]
  have g:=(iB x).1;omega
 |some c =>
  refine Br hK c (iB x).1 ?_ λk h=>?_
  .rw[Kz f];simp only[lV,gY,f,aT];split
   .unfold qS;(repeat' split)<;>omega
   .have d:pos (1+gY c a - gY c b)<=pos (gY c a - gY c b)+1:=by unfold pos;(repeat' split)<;>omega
    have g:=qG d (afP c);rw[lK,Int.mul_one]at g;exact g
  .have d:¬c=k:=λe=>h e.symm;simp[lV,gY,f,d]
def MJ{K:List TK}{u:It}(d:b9 u=false)(a b:List It):eZ (lV a (u::b)) K<=eZ (lV a b) K:=by
 refine Dr λk _=>?_
 by_cases c:Cz u=some k
 .have e:qK k=false:=by rw[(H8 c).2.1];exact d
  simp only[lV,gY,c,aT,e,aI,aS];refine qG ?_ (afP k);unfold pos;(repeat' split)<;>omega
 .simp[lV,gY,c]
def aaI{K:List TK}(hK:K.Nodup)(u:It)(a b:List It):eZ (lV a (u::b)) K<=eZ (lV a b) K+single u:=by
 cases g:b9 u with
 |false=>have:=MJ (K:=K) g a b;have:=(iB u).1;omega
 |true =>
  cases c:Cz u with
  |none =>
   have f:eZ (lV a (u::b)) K=eZ (lV a b) K:=gS λk _=>by simp[lV,gY,c]
   have j:=(iB u).1;omega
  |some d =>
   have i:qK d=true:=by rw[(H8 c).2.1];exact g
   refine Br hK d (iB u).1 ?_ λk h=>?_
   .rw[Kz c];simp only[lV,gY,c,aT,i];unfold qS;(repeat' split)<;>omega
   .have f:¬d=k:=λe=>h e.symm;simp[lV,gY,c,f]
def SM{x u:It}(h:gd x=gd u):Cz x=Cz u:=by
 simp only[gd,aQ]at h;obtain⟨a,b⟩:=h;unfold Cz dX im b9;rw[a,b]
def Ha{x u:It}{p:Int}(a:gh x u=some p)(j:Cz x≠Cz u):p=single x/\b9 x=false/\b9 u=false:=by
 unfold gh at a;split at a
 .rename_i h;exact absurd (SM ((wF x u).1 h)) j
 split at a
 .cases a
 rename_i b;have b:x.awb=u.awb:=by simpa using b
 split at a
 .rename_i c;have d:b9 x=false:=by simp[b9,c]
  have f:b9 u=false:=by simp[b9,<- b,c]
  split at a
  .rename_i e;refine absurd ?_ j;have e:im x=im u:=by simpa using e
   have g:u.awb=6:=by rw[<- b];exact c
   unfold Cz dX;simp only[c,g,Ff,aT,e,gd]
  .simp only[ae]at a;exact⟨by rw[<- a];simp[single,d],d,f⟩
 .rename_i c;split at a
  .rename_i i;have d:b9 x=false:=by unfold b9;rcases i with h|h|h|h<;>rw[h]<;>rfl
   have f:b9 u=false:=by unfold b9;rw[<- b];rcases i with h|h|h|h<;>rw[h]<;>rfl
   simp only[ae]at a;exact⟨by rw[<- a];simp[single,d],d,f⟩
  .cases a
def XH{K:List TK}(hK:K.Nodup){x u:It}{p:Int}(c:gh x u=some p)(a b:List It):eZ (lV (x::a) (u::b)) K<=eZ (lV a b) K+p:=by
 by_cases d:Cz x=Cz u
 .have f:eZ (lV (x::a) (u::b)) K=eZ (lV a b) K:=gS λk _=>by
   have e:gY k (x::a) - gY k (u::b)=gY k a - gY k b:=by simp only[gY,d];omega
   simp only[lV,e]
  have h:=(yH c).1;omega
 .obtain⟨f,_,g⟩:=Ha c d;have i:=Q9 hK x a (u::b);have j:=MJ (K:=K) g a b;omega
def VC{K:List TK}(hK:K.Nodup){a b:List It}{c:Int}(h:Al a b c):eZ (lV a b) K<=c:=by
 induction h with
 |nil =>
  have:eZ (lV [] []) K<=eZ (λ_=>0) K:=Dr λk _=>by simp[lV,gY,qS,pos]
  have e:eZ (λ_:TK=>(0:Int)) K=0:=by
   clear this hK
   induction K with
   |nil=>rfl
   |cons k K ih=>simp only[eZ,aH,dw]at ih |-;omega
  omega
 |del x h ih=>rename_i A B C;exact gF (Q9 hK x A B) (by omega)
 |ins u h ih=>rename_i A B C;exact gF (aaI hK u A B) (by omega)
 |pair x u d h ih=>rename_i A B C;exact gF (XH hK d A B) (by omega)
def Uq{x u:It}{p:Int}(h:gh x u=some p):gh u x=some p:=by
 have f:qz u x=qz x u:=by simp only[qz,aom (a:=u.awb),aom (a:=u.awd)]
 unfold gh at h |-;rw[f];split at h
 .rename_i d;rw[az d];exact h
 rename_i d;rw[an d];split at h
 .cases h
 rename_i c;have c:x.awb=u.awb:=by simpa using c
 rw[an (by simp[c]),<- c,Ai (a:=u) (b:=x) c.symm];have e:(im u==im x)=(im x==im u):=aom;rw[e];exact h
def Al.symm{a b:List It}{c:Int}(h:Al a b c):Al b a c:=by
 induction h with
 |nil=>exact .nil
 |del x h ih=>exact .ins x ih
 |ins u h ih=>exact .del u ih
 |pair x u d h ih=>exact .pair u x (Uq d) ih
def oq(g:GK)(last:aG):dq->Int
 |[]=>if(last,([]:aG))=g then 1 else 0
 |w::r=>(if(last,w)=g then 1 else 0)+oq g w r
def pg(a:aG)(d:dq)(c:aG)(b:dq)(g:GK):Int:=pos (oq g a d - oq g c b)
def xQ{α:Type}(K:List α):eZ (λ_=>0) K=0:=by
 induction K with
 |nil=>rfl
 |cons k K ih=>simp only[eZ,aH,dw]at ih |-;omega
section
variable {K:List GK} (hK:K.Nodup)
include hK
theorem XI(a b:aG):eZ (pg a [] b []) K<=if a=b then 0 else 1:=by
 split
 .rename_i h;subst h;have:eZ (pg a [] a []) K=eZ (λ_=>0) K:=gS λk _=>by simp[pg,pos]
  rw[this,xQ];exact dJ _
 .have:=Br (f:=λ_=>0) (g:=pg a [] b []) hK (a,[]) (d:=1) (by decide) (by simp only[pg,oq,pos];(repeat' split)<;>omega)
   (λk c=>by simp only[pg,oq,pos,an (λe=>c e.symm:¬(a,([]:aG))=k)];(repeat' split)<;>omega)
  rw[xQ]at this;omega
theorem FT(a w:aG)(c:dq)(d:aG)(b:dq):eZ (pg a (w::c) d b) K<=eZ (pg w c d b) K+1 :=
 Br hK (a,w) (by decide) (by simp only[pg,oq,pos];(repeat' split)<;>omega)
  (λk f=>by simp only[pg,oq,pos,an (λe=>f e.symm:¬(a,w)=k)];(repeat' split)<;>omega)
omit hK in
theorem FQ(a:aG)(b:dq)(d v:aG)(c:dq):eZ (pg a b d (v::c)) K<=eZ (pg a b v c) K :=
 Dr λk _=>by simp only[pg,oq,pos];(repeat' split)<;>omega
omit hK in
theorem TI(l w:aG)(b a:dq):eZ (pg l (w::b) l (w::a)) K=eZ (pg w b w a) K :=
 gS λk _=>by
  have e:oq k l (w::b) - oq k l (w::a)=oq k w b - oq k w a:=by simp only[oq];omega
  simp only[pg,e]
omit hK in
theorem mU(x:It)(l:List It):bS (x::l)=if x.awb=6 then im x::bS l else bS l:=by
 unfold bS
 by_cases h:x.awb=6
 .simp[h]
 .simp[h]
theorem Ra{a b:List It}{c:Int}(h:Al a b c):∃k:Int,0<=k/\4*k<=c/\∀f d,eZ (pg f (bS a) d (bS b)) K<=2*k+if f=d then 0 else 1:=by
 induction h with
 |nil=>exact⟨0,by decide,by decide,λf d=>by have:=XI hK f d;simpa[bS]using this⟩
 |del x h ih =>
  rename_i A B C;obtain⟨k,l,o,j⟩:=ih;have v:=iB x
  by_cases g:x.awb=6
  .have e:single x=4:=by simp[single,b9,weight,g]
   refine⟨k+1,by omega,by omega,λf d=>?_⟩;rw[mU,az g];have n:=gF (FT hK f (im x) (bS A) d (bS B)) (Pd (j (im x) d) 1);refine gF n ?_
   (repeat' split)<;>omega
  .refine⟨k,l,by omega,λf d=>?_⟩;rw[mU,an g];exact j f d
 |ins u h ih =>
  rename_i A B C;obtain⟨k,l,o,j⟩:=ih;have v:=iB u
  by_cases i:u.awb=6
  .have e:single u=4:=by simp[single,b9,weight,i]
   refine⟨k+1,by omega,by omega,λf d=>?_⟩;rw[mU,az i];refine gF (FQ f (bS A) d (im u) (bS B)) (gF (j f (im u)) ?_)
   (repeat' split)<;>omega
  .refine⟨k,l,by omega,λf d=>?_⟩;rw[mU,an i];exact j f d
 |pair x u m h ih =>
  rename_i A B C;obtain⟨k,l,o,j⟩:=ih;have y:=(yH m).1
  have s:x.awb=u.awb:=by
   unfold gh at m;split at m
   .rename_i h;simp only[qz,aJ,cE]at h;exact h.1
   split at m
   .cases m
   .rename_i h;simpa using h
  by_cases g:x.awb=6
  .have i:u.awb=6:=by rw[<- s];exact g
   by_cases q:im x=im u
   .refine⟨k,l,by omega,λf d=>?_⟩;rw[mU,mU,az g,az i,<- q];have p:=j (im x) (im x);rw[az rfl]at p
    by_cases r:f=d
    .subst r;rw[TI,az rfl];exact p
    .rw[an r];have n:=gF (FT hK f (im x) (bS A) d (im x::bS B)) (Pd (FQ (K:=K) (im x) (bS A) d (im x) (bS B)) 1);exact gF n (by omega)
   .have w:Cz x≠Cz u:=by
     unfold Cz dX;simp only[g,i,Ff,aT,gd,fc,ae,aQ,gA];exact q
    have t:=(Ha m w).1;have e:single x=4:=by simp[single,b9,weight,g]
    refine⟨k+1,by omega,by omega,λf d=>?_⟩;rw[mU,mU,az g,az i];have n:=gF (FT hK f (im x) (bS A) d (im u::bS B)) (Pd (gF (FQ (K:=K) (im x) (bS A) d (im u) (bS B)) (j (im x) (im u))) 1);refine gF n ?_
    (repeat' split)<;>omega
  .have i:¬u.awb=6:=by rw[<- s];exact g
   refine⟨k,l,by omega,λf d=>?_⟩;rw[mU,mU,an g,an i];exact j f d
end
def rz{α:Type}(f g:α->Int)(K:List α):eZ (λk=>f k+g k) K=eZ f K+eZ g K:=by
 induction K with
 |nil=>rfl
 |cons k K ih=>simp only[eZ,aH,dw]at ih |-;omega
def xR{α:Type}(f:α->Int){K L:List α}(hK:K.Nodup)(d:L.Nodup)(h:∀k,f k≠0->k∈K/\k∈L):eZ f K=eZ f L:=by
 have a:∀M:List α,eZ f M=eZ f (M.filter λk=>f k != 0):=λM=>by
  induction M with
  |nil=>rfl
  |cons k M ih =>
   simp only[eZ,aH,dw,fx]at ih |-
   by_cases c:f k=0
   .simp only[c,lA,aI,aS];omega
   .have:(f k != 0)=true:=by simpa using c
    rw[az this];simp only[aH,dw];omega
 rw[a K,a L];refine Fu f ((C9 (hK.filter _) (d.filter _)).2 λk=>?_);simp only[cZ,qT,fc];exact⟨λ⟨_,b⟩=>⟨(h k b).2,b⟩,λ⟨_,b⟩=>⟨(h k b).1,b⟩⟩
def sY(k:GK):∀(ws:dq) (C:List (GK×Int)) (last:aG),(cX k (iD C last ws)).getD 0=(cX k C).getD 0+oq k last ws
 |[],C,last=>by
  simp only[iD,oq,sZ]
  by_cases h:k=(last,[])<;>simp[h,eq_comm]
 |w::r,C,last=>by
  simp only[iD,oq];rw[sY k r,sZ]
  by_cases h:k=(last,w)
  .simp[h];omega
  .rw[an h,an (λe=>h e.symm)];omega
def H9(k:TK):∀(l:List It) (C:List (TK×Int)),(cX k (om C l)).getD 0=(cX k C).getD 0+gY k l
 |[],C=>by simp[om,gY]
 |t::r,C=>by
  simp only[om,gY];rw[H9 k r];unfold Cz
  by_cases h:(dX t).2=true
  .rw[az h,az h,sZ]
   by_cases a:k=gd (dX t).1
   .subst a;simp;omega
   .rw[an a,an (by simpa using λe=>a e.symm)];omega
  .rw[an h,an h];simp
def zH(k:GK):∀(ws:dq) (last:aG),0<=oq k last ws
 |[],last=>by simp only[oq];split<;>omega
 |w::r,last=>by have:=zH k r w;simp only[oq];split<;>omega
def xk(k:TK)(l:List It):0<=gY k l:=by
 induction l with
 |nil=>exact dJ _
 |cons x l ih=>simp only[gY];split<;>omega
def RY(k:TK)(l m:List It):gY k (l++m)=gY k l+gY k m:=by
 induction l with
 |nil=>simp[gY]
 |cons x l ih=>simp only[bJ,gY,ih];omega
def gK0(ws:dq):List GK:=(iD [] [] ws).map (·.1)
def cK0(l:List It):List TK:=(om [] l).map (·.1)
def F5(ws:dq):(gK0 ws).Nodup:=(mE ws [] [] 0 CN.nil).2.1
def Gj(l:List It):(cK0 l).Nodup:=(C3 l [] 0 CN.nil).2.1
def wS{α:Type}[DecidableEq α]{C:List (α×Int)}{k:α}(h:(cX k C).getD 0≠0):k∈C.map (·.1):=by
 induction C with
 |nil=>simp[cX,gM]at h
 |cons p C ih =>
  rw[ln]at h
  by_cases e:k=p.1
  .subst e;simp
  .rw[an e]at h;exact eV _ (ih h)
def VX{k:GK}{ws:dq}(h:oq k [] ws≠0):k∈gK0 ws:=wS (by rw[sY];simpa[cX,gM]using h)
def O7{k:TK}{l:List It}(h:gY k l≠0):k∈cK0 l:=wS (by rw[H9];simpa[cX,gM]using h)
def Ue{ws:dq}{g:Gr}(h:g∈iD [] [] ws):g.2=oq g.1 [] ws:=by
 have b:=oA (F5 ws) h;have a:=sY g.1 ws [] [];rw[b]at a;simpa[cX,gM]using a
def O4{l:List It}{p:TK×Int}(h:p∈om [] l):p.2=gY p.1 l:=by
 have b:=oA (Gj l) h;have a:=H9 p.1 l [];rw[b]at a;simpa[cX,gM]using a
def Nz:∀(gs:List Gr) (n:Int),NA n gs=n+(gs.map (·.2)).sum
 |[],n=>by simp[NA]
 |g::gs,n=>by
  have:=Nz gs (n+g.2);simp only[NA,dW,aH,dw]at this |-;rw[this];omega
def PO{l a:bH}(h:l.Perm a):l.sum=a.sum:=by
 have:=Fu (λx:Int=>x) h;simpa[eZ]using this
def Mx(ws:dq){K:List GK}(hK:K.Nodup)(a:∀k,oq k [] ws≠0->k∈K):NA 0 (dS ws)=eZ (λk=>oq k [] ws) K:=by
 rw[Nz,iK,PO ((lf ws).map (·.2))]
 have e:(iD [] [] ws).map (·.2)=(gK0 ws).map λk=>oq k [] ws:=by
  unfold gK0;rw[jn];exact eA λg b=>Ue b
 rw[e];exact xR _ (F5 ws) hK λk h=>⟨VX h,a k h⟩
def Iz(h:TK->Int){K:List TK}(hK:K.Nodup):∀(l:List It),(∀x∈l,∀k,Cz x=some k->k∈K)->eZ (λk=>h k*gY k l) K=(l.map λx=>match Cz x with|some k=>h k|none=>0).sum
 |[],_=>by
  have:eZ (λk=>h k*gY k []) K=eZ (λ_=>0) K:=gS λk _=>by simp[gY]
  rw[this,xQ];rfl
 |x::l,hm=>by
  have ih:=Iz h hK l λy d=>hm y (by simp[d]);simp only[aH,dw];rw[<- ih];cases b:Cz x with
  |none =>
   simp only[gY,b];rw[iK];exact gS λk _=>by simp
  |some a =>
   have c:=hm x (by simp) a b
   have e:eZ (λk=>h k*gY k (x::l)) K=eZ (λk=>(if a=k then h k else 0)+h k*gY k l) K:=gS λk _=>by
    simp only[gY,b,ae];split
    .rw[lK,Int.mul_one]
    .rw[iK,iK]
   rw[e,rz];congr 1;clear e ih hm
   induction K with
   |nil=>simp at c
   |cons k K ih =>
    simp only[gz]at hK;simp only[eZ,aH,dw]
    by_cases e:a=k
    .subst e
     have:eZ (λk=>if a=k then h k else 0) K=eZ (λ_=>0) K:=gS λk f=>by
      rw[an];rintro rfl;exact hK.1 f
     rw[xQ]at this;simp only[eZ]at this;simp[this]
    .have:=ih hK.2 (by rcases bC.1 c with rfl|h;exact absurd rfl e;exact h);simp only[eZ]at this;simp[this,e]
def hW(k:TK):Int:=if qK k then 0 else wK k
def hT(k:TK):Int:=if qK k then 1 else 0
def ab5(t:It)(h:(dX t).2=true):Cz t=some (gd (dX t).1):=by unfold Cz;rw[az h]
def ab4(t:It)(h:¬(dX t).2=true):Cz t=none:=by unfold Cz;rw[an h]
def UK:∀(l:List It) (n:Int),L8 n l=n+(l.map λx=>match Cz x with|some k=>hW k|none=>0).sum
 |[],n=>by simp[L8]
 |t::r,n=>by
  have ih:=UK r;simp only[L8,aH,dw];rw[ih]
  by_cases h:(dX t).2=true
  .rw[ab5 t h];have e:qK (gd (dX t).1)=b9 (dX t).1:=rfl;have a:wK (gd (dX t).1)=weight (dX t).1:=Ai rfl;simp only[h,cc,hW,e,a];cases b9 (dX t).1<;>simp<;>omega
  .rw[ab4 t h];simp only[h,dR,aI,aS];omega
def UQ:∀(l:List It) (n:Int),Md n l=n+(l.map λx=>match Cz x with|some k=>hT k|none=>0).sum
 |[],n=>by simp[Md]
 |t::r,n=>by
  have ih:=UQ r;simp only[Md,aH,dw];rw[ih]
  by_cases h:(dX t).2=true
  .rw[ab5 t h];have e:qK (gd (dX t).1)=b9 (dX t).1:=rfl;simp only[h,cc,hT,e];cases b9 (dX t).1<;>simp<;>omega
  .rw[ab4 t h];simp only[h,dR,aI,aS];omega
def V6{x:It}{l:List It}(a:x∈l){k:TK}(b:Cz x=some k):gY k l≠0:=by
 induction l with
 |nil=>simp at a
 |cons y l ih =>
  have:=xk k l;simp only[gY];rcases bC.1 a with rfl|h
  .rw[az b];omega
  .have:=ih h;split<;>omega
def UL{l:List It}{K:List TK}(hK:K.Nodup)(a:∀k,gY k l≠0->k∈K):L8 0 l=eZ (λk=>hW k*gY k l) K:=by
 rw[UK,iK,Iz hW hK l λx c k b=>a k (V6 c b)]
def UR{l:List It}{K:List TK}(hK:K.Nodup)(a:∀k,gY k l≠0->k∈K):Md 0 l=eZ (λk=>hT k*gY k l) K:=by
 rw[UQ,iK,Iz hT hK l λx c k b=>a k (V6 c b)]
def Sn{β:Type}(id:Int):∀(L:List (Int×β)) (F:Int×β->Option Sm) (s:Sm),(∀e∈L,e.1≠id)->mR id s (L.filterMap λe=>(F e).map λt=>(e.1,t))=s
 |[],F,s,_=>rfl
 |e::L,F,s,h=>by
  have a:=h e (by simp);have ih:=Sn id L F s λx b=>h x (by simp[b]);rw[lE];cases F e with
  |none=>exact ih
  |some t =>
   show mR id (if e.1=id then s.add t else s) _=s;rw[an a];exact ih
def KO{β:Type}:∀(L:List (Int×β)) (F:Int×β->Option Sm),(L.map (·.1)).Nodup->∀{e:Int×β},e∈L->∀s:Sm,mR e.1 s (L.filterMap λe=>(F e).map λt=>(e.1,t))=s.add ((F e).getD Cd)
 |[],F,_,e,a,s=>by simp at a
 |x::L,F,hn,e,a,s=>by
  simp only[aH,gz]at hn;rw[lE];rcases bC.1 a with rfl|a
  .have b:∀s,mR e.1 s (L.filterMap λe=>(F e).map λt=>(e.1,t))=s:=λs=>Sn e.1 L F s λy c h=>hn.1 (h▸bF.2 ⟨y,c,rfl⟩);cases f:F e with
   |none=>simp only[lJ,ue,Sm.aod];exact b s
   |some t =>
    show mR e.1 (if e.1=e.1 then s.add t else s) _=_;rw[az rfl,b];rfl
  .have d:x.1≠e.1:=λh=>hn.1 (h▸bF.2 ⟨e,a,rfl⟩);have ih:=KO L F hn.2 a s;cases f:F x with
   |none=>exact ih
   |some t =>
    show mR e.1 (if x.1=e.1 then s.add t else s) _=_;rw[an d];exact ih
def Vx{n:Int}(h:0<=n):mn 0 n=0:=by unfold mn;split<;>omega
abbrev Y0:=Int×(List It×Nat)
def Qs(L:List Y0)(k:GK):eR:=L.filterMap λe=>(cX k (iD [] [] (bS e.2.1))).map λc=>(e.1,c)
def Qt(L:List Y0)(k:TK):eR:=L.filterMap λe=>(cX k (om [] e.2.1)).map λc=>(e.1,c)
def aem{L:List Y0}(i:(L.map (·.1)).Nodup){e:Y0}(f:e∈L)(k:GK){c:Int}(g:0<=c)(s:Sm):mR e.1 s (oK c (Qs L k))=s.add ⟨mn (oq k [] (bS e.2.1)) c,0,0⟩:=by
 have h:=KO L (λe=>(cX k (iD [] [] (bS e.2.1))).map λv=>(⟨mn v c,0,0⟩:Sm)) i f s
 have d:oK c (Qs L k)=L.filterMap λe=>((cX k (iD [] [] (bS e.2.1))).map λv=>(⟨mn v c,0,0⟩:Sm)).map λt=>(e.1,t):=by
  unfold oK Qs;rw[List.map_filterMap];congr 1;funext e;cases cX k (iD [] [] (bS e.2.1))<;>rfl
 rw[d,h];congr 1;have a:=sY k (bS e.2.1) [] [];cases b:cX k (iD [] [] (bS e.2.1))with
 |none=>rw[b]at a;simp[cX,gM]at a;rw[<- a];simp[Cd,Vx g]
 |some v=>rw[b]at a;simp[cX,gM]at a;rw[<- a];rfl
def Es(k:TK)(m:Int):Sm:=if qK k then⟨0,0,m⟩else⟨0,m*wK k,0⟩
def aek{L:List Y0}(i:(L.map (·.1)).Nodup){e:Y0}(f:e∈L)(k:TK){c:Int}(g:0<=c)(s:Sm):mR e.1 s (uL k c (Qt L k))=s.add (Es k (mn (gY k e.2.1) c)):=by
 have h:=KO L (λe=>(cX k (om [] e.2.1)).map λv=>Es k (mn v c)) i f s
 have d:uL k c (Qt L k)=L.filterMap λe=>((cX k (om [] e.2.1)).map λv=>Es k (mn v c)).map λt=>(e.1,t):=by
  unfold uL Qt;rw[List.map_filterMap];congr 1;funext e;cases cX k (om [] e.2.1)<;>rfl
 rw[d,h];congr 1;have a:=H9 k e.2.1 [];cases b:cX k (om [] e.2.1)with
 |none=>rw[b]at a;simp[cX,gM]at a;rw[<- a];simp[Cd,Es,Vx g]
 |some v=>rw[b]at a;simp[cX,gM]at a;rw[<- a];rfl
def VF{L:List Y0}(b:(L.map (·.1)).Nodup){e:Y0}(a:e∈L):∀(gs:List Gr),(∀g∈gs,0<=g.2)->∀s:Sm,mR e.1 s (gs.flatMap λg=>oK g.2 (Qs L g.1))=s.add ⟨(gs.map λg=>mn (oq g.1 [] (bS e.2.1)) g.2).sum,0,0⟩
 |[],_,s=>by simp[mR,Sm.add]
 |g::gs,h,s=>by
  rw[eJ,BQ,aem b a g.1 (h g (by simp)),VF b a gs (λx c=>h x (by simp[c])),Sm.add_assoc];simp only[Sm.add,aH,dw,Cb]
def VG{L:List Y0}(b:(L.map (·.1)).Nodup){e:Y0}(a:e∈L):∀(D:List (TK×Int)),(∀p∈D,0<=p.2)->∀s:Sm,mR e.1 s (D.flatMap λp=>uL p.1 p.2 (Qt L p.1)) =
   s.add ⟨0,(D.map λp=>hW p.1*mn (gY p.1 e.2.1) p.2).sum,(D.map λp=>hT p.1*mn (gY p.1 e.2.1) p.2).sum⟩
 |[],_,s=>by simp[mR,Sm.add]
 |p::D,h,s=>by
  rw[eJ,BQ,aek b a p.1 (h p (by simp)),VG b a D (λx c=>h x (by simp[c])),Sm.add_assoc];simp only[Sm.add,aH,dw,Es,hW,hT];split<;>simp[Int.mul_comm]
def Ae(q s:List It):Sm :=
 ⟨eZ (λk=>mn (oq k [] (bS s)) (oq k [] (bS q))) (gK0 (bS q)),eZ (λk=>hW k*mn (gY k s) (gY k q)) (cK0 q),eZ (λk=>hT k*mn (gY k s) (gY k q)) (cK0 q)⟩
def aja{L:List Y0}(b:(L.map (·.1)).Nodup){e:Y0}(c:e∈L)(q:List It){D:List (TK×Int)}(j:D.Perm (om [] q)):
  (cX e.1 (fV (fV [] ((dS (bS q)).flatMap λg=>oK g.2 (Qs L g.1))) (D.flatMap λp=>uL p.1 p.2 (Qt L p.1)))).getD Cd=Ae q e.2.1:=by
 rw[CY,CY];have i:(cX e.1 ([]:List wo)).getD Cd=Cd:=rfl;rw[i,KN e.1 _ (lf _),KN e.1 _ j];have a:∀g∈iD [] [] (bS q),0<=g.2:=λg h=>by rw[Ue h];exact zH _ _ _
 have m:∀p∈om [] q,0<=p.2:=λp h=>by rw[O4 h];exact xk _ _
 rw[VF b c _ a,VG b c _ m]
 have l:(iD [] [] (bS q)).map (λg=>mn (oq g.1 [] (bS e.2.1)) g.2)=(gK0 (bS q)).map λk=>mn (oq k [] (bS e.2.1)) (oq k [] (bS q)):=by
  unfold gK0;rw[jn];exact eA λg a=>by rw[Ue a];rfl
 have d:∀h:TK->Int,(om [] q).map (λp=>h p.1*mn (gY p.1 e.2.1) p.2)=(cK0 q).map λk=>h k*mn (gY k e.2.1) (gY k q):=λh=>by
  unfold cK0;rw[jn];exact eA λp f=>by rw[O4 f];rfl
 rw[l,d,d];simp[Ae,Sm.add,Cd,eZ]
def Ls(q s:List It)(k:TK):Int:=hW k*pos (gY k q - gY k s)
def yE(q s:List It)(k:TK):Int:=hT k*qS (gY k q - gY k s)
def GV(q s:List It)(k:TK):lV q s k=Ls q s k+yE q s k:=by
 unfold lV Ls yE hW hT;split<;>simp
def aah(a b:Int):b=mn a b+pos (b - a):=by unfold mn pos;(repeat' split)<;>omega
def Vy(a b:Int):a=mn a b+pos (a - b):=by unfold mn pos;(repeat' split)<;>omega
def ahi(a b:Int):b+a=2*mn a b+qS (b - a):=by unfold mn qS;(repeat' split)<;>omega
def Nb(a b:Int):qS (a - b)=qS (b - a):=by unfold qS;(repeat' split)<;>omega
def MG{a:Int}(h:0<=a):mn a 0=0:=by unfold mn;split<;>omega
def uP(q s:List It):List TK:=cK0 (q++s)
def pz(q s:List It):(uP q s).Nodup:=Gj _
def Gp{q s:List It}{k:TK}(h:gY k q≠0):k∈uP q s:=O7 (by rw[RY];have:=xk k q;have:=xk k s;omega)
def KJ{q s:List It}{k:TK}(h:gY k s≠0):k∈uP q s:=O7 (by rw[RY];have:=xk k q;have:=xk k s;omega)
def O1(h:TK->Int)(q s:List It):eZ (λk=>h k*mn (gY k s) (gY k q)) (cK0 q)=eZ (λk=>h k*mn (gY k s) (gY k q)) (uP q s) :=
 xR _ (Gj q) (pz q s) λk b=>by
  have a:gY k q≠0:=λe=>b (by simp only[e];rw[MG (xk k s),Int.mul_zero]);exact⟨O7 a,Gp a⟩
def Zc(q s:List It):L8 0 q=(Ae q s).weight+eZ (Ls q s) (uP q s):=by
 rw[UL (pz q s) λk h=>Gp h];simp only[Ae];rw[O1,<- rz];refine gS λk _=>?_;simp only[Ls];rw[<- Int.mul_add,<- aah]
def Zb(q s:List It):L8 0 s=(Ae q s).weight+eZ (Ls s q) (uP q s):=by
 rw[UL (pz q s) λk h=>KJ h];simp only[Ae];rw[O1,<- rz];refine gS λk _=>?_;simp only[Ls];rw[<- Int.mul_add,<- Vy]
def Zn{α:Type}(c:Int)(f:α->Int)(K:List α):eZ (λk=>c*f k) K=c*eZ f K:=by
 induction K with
 |nil=>simp[eZ]
 |cons k K ih=>simp only[eZ,aH,dw]at ih |-;rw[ih,lK]
def ac5(q s:List It):Md 0 q+Md 0 s=2*(Ae q s).tags+eZ (yE q s) (uP q s):=by
 rw[UR (pz q s) λk h=>Gp h,UR (pz q s) λk h=>KJ h];simp only[Ae];rw[O1,<- rz,<- Zn,<- rz];refine gS λk _=>?_;simp only[yE];have h:=ahi (gY k s) (gY k q);have e:hT k*gY k q+hT k*gY k s=hT k*(gY k q+gY k s):=(lK ..).symm;rw[e,h,lK,Int.mul_left_comm]
def H7{k:TK}(c:qK k=true)(l:List It):lg k l=gY k l:=by
 induction l with
 |nil=>rfl
 |cons x l ih =>
  simp only[lg,gY,ih];congr 1
  have e:gd x=k<->Cz x=some k:=by
   constructor
   .rintro rfl;have a:b9 x=true:=c
    have b:dX x=(⟨x.awb,x.awd,0⟩,b9 x):=by
     unfold dX;rw[an];simp only[b9,eD,cE]at a;omega
    unfold Cz;rw[b];simp only[a,aT];rfl
   .intro h;have f:=H8 h;have a:b9 x=true:=by rw[<- f.2.1];exact c
    have b:dX x=(⟨x.awb,x.awd,0⟩,b9 x):=by
     unfold dX;rw[an];simp only[b9,eD,cE]at a;omega
    unfold Cz at h;rw[b]at h;simp only[a,aT,ae]at h;exact h
  by_cases h:gd x=k
  .rw[az h,az (e.1 h)]
  .rw[an h,an (λd=>h (e.2 d))]
def Iw(q s:List It):u3 q s=eZ (yE q s) (uP q s):=by
 rw[Ft]
 have g:(RK [] q++RM q [] s).Nodup:=by
  rw[iX];refine⟨FI _ _,FJ _ _ _,λx i y f=>?_⟩;rintro rfl;exact((wT _ _ _).1 i).2.2 ((uH _ _ _ _).1 f).2.2.1
 have e:eZ (λk=>qS (lg k q - lg k s)) (RK [] q++RM q [] s)=eZ (yE q s) (RK [] q++RM q [] s):=gS λk c=>by
  have a:qK k=true:=by
   rcases bP.1 c with h|h
   .exact((wT _ _ _).1 h).1
   .exact((uH _ _ _ _).1 h).1
  simp only[yE,hT,a,aT,Int.one_mul,H7 a]
 rw[e];refine xR _ g (pz q s) λk c=>?_
 have a:qK k=true:=by
  cases h:qK k with
  |true=>rfl
  |false=>exact absurd (by simp[yE,hT,h]) c
 by_cases d:gY k q=0
 .have b:gY k s≠0:=λb=>c (by simp[yE,d,b,qS]);refine⟨List.mem_append_right _ ((uH _ _ _ _).2 ⟨a,rfl,?_,?_⟩),KJ b⟩
  .rw[H7 a];exact d
  .rw[H7 a];exact b
 .exact⟨List.mem_append_left _ ((wT _ _ _).2 ⟨a,rfl,by rw[H7 a];exact d⟩),Gp d⟩
def O9(a b:dq):List GK:=(iD (iD [] [] a) [] b).map (·.1)
def vY(a b:dq):(O9 a b).Nodup:=(mE b _ [] _ (mE a [] [] 0 CN.nil)).2.1
def Sk(a b:dq)(k:GK):(cX k (iD (iD [] [] a) [] b)).getD 0=oq k [] a+oq k [] b:=by
 rw[sY,sY];simp[cX,gM]
def acp{a b:dq}{k:GK}(h:oq k [] a≠0):k∈O9 a b:=wS (by rw[Sk];have:=zH k a [];have:=zH k b [];omega)
def aji{a b:dq}{k:GK}(h:oq k [] b≠0):k∈O9 a b:=wS (by rw[Sk];have:=zH k a [];have:=zH k b [];omega)
def aob(q s:List It):(Ae q s).jq=eZ (λk=>mn (oq k [] (bS s)) (oq k [] (bS q))) (O9 (bS q) (bS s)) :=
 xR _ (F5 _) (vY _ _) λk b=>by
  have a:oq k [] (bS q)≠0:=λe=>b (by simp only[e];rw[MG (zH k _ _)]);exact⟨VX a,acp a⟩
def ado(q s:List It):NA 0 (dS (bS q))=(Ae q s).jq+eZ (pg [] (bS q) [] (bS s)) (O9 (bS q) (bS s)):=by
 rw[Mx _ (vY (bS q) (bS s)) λk h=>acp h,aob,<- rz];exact gS λk _=>aah _ _
def adn(q s:List It):NA 0 (dS (bS s))=(Ae q s).jq+eZ (pg [] (bS s) [] (bS q)) (O9 (bS q) (bS s)):=by
 rw[Mx _ (vY (bS q) (bS s)) λk h=>aji h,aob,<- rz];exact gS λk _=>Vy _ _
def acg(q s:List It):Bb (nh q) (nh s) (Ae q s)<=lI s q:=by
 have e:=Ce s q;have hK:=pz q s;have c:=VC hK e.symm;have b:=VC hK e
 have G:eZ (lV q s) (uP q s)=eZ (Ls q s) (uP q s)+eZ (yE q s) (uP q s):=by
  rw[<- rz];exact gS λk _=>GV q s k
 have A:eZ (lV s q) (uP q s)=eZ (Ls s q) (uP q s)+eZ (yE q s) (uP q s):=by
  rw[<- rz];refine gS λk _=>?_;rw[GV s q k];simp only[yE,Nb (gY k s)]
 have H:u3 s q=eZ (yE q s) (uP q s):=by
  have h:u3 s q=u3 q s:=by
   have a:=CG s q
   have u:eZ (yE s q) (uP s q)=eZ (yE q s) (uP q s):=by
    have:eZ (yE s q) (uP s q)=eZ (yE q s) (uP s q):=gS λk _=>by simp only[yE,Nb (gY k s)]
    rw[this];refine xR _ (pz s q) hK λk p=>?_
    by_cases c:gY k q=0
    .have b:gY k s≠0:=λb=>p (by simp[yE,c,b,qS]);exact⟨Gp b,KJ b⟩
    .exact⟨KJ c,Gp c⟩
   rw[Iw,Iw,u]
  rw[h,Iw]
 obtain⟨v,_,C,i⟩:=Ra (vY (bS q) (bS s)) e.symm;obtain⟨F,_,L,j⟩:=Ra (vY (bS q) (bS s)) e;have i:=i [] [];have j:=j [] [];rw[az rfl]at i j;have w:=Zc q s;have J:=Zb q s;have D:=ac5 q s;have B:=ado q s;have y:=adn q s;have E:=(UT s q).1;rw[EP]
 have l:∀f:GK->Int,(∀k,0<=f k)->∀K:List GK,0<=eZ f K:=λf t K=>by
  have:=Dr (f:=f) (g:=λ_=>0) (K:=K) λk _=>t k;rw[xQ]at this;exact this
 have I:=l (pg [] (bS q) [] (bS s)) (λk=>by unfold pg pos;split<;>omega) (O9 (bS q) (bS s));generalize eZ (lV q s) (uP q s)=x1 at *;generalize eZ (lV s q) (uP q s)=x2 at *;generalize eZ (Ls q s) (uP q s)=y1 at *;generalize eZ (Ls s q) (uP q s)=y2 at *;generalize eZ (yE q s) (uP q s)=z at *;generalize eZ (pg [] (bS q) [] (bS s)) (O9 (bS q) (bS s))=u1 at *;generalize eZ (pg [] (bS s) [] (bS q)) (O9 (bS q) (bS s))=u2 at *;simp only[Bb,nh];generalize (Ae q s).weight=cw at *;generalize (Ae q s).tags=ct at *;generalize (Ae q s).jq=cp at *;generalize tv s q=d at *;generalize u3 s q=r at *
 have n:mx (NA 0 (dS (bS q))) (NA 0 (dS (bS s))) - cp+1<=d.ediv 4*2+1/\0<=mx (NA 0 (dS (bS q))) (NA 0 (dS (bS s))) - cp+1:=by
  unfold mx;have:d.ediv 4=d / 4:=rfl;rw[this];split<;>omega
 rw[eY n.2]
 have x:(mx (NA 0 (dS (bS q))) (NA 0 (dS (bS s))) - cp+1) / 2<=d / 4:=by
  have:d.ediv 4=d / 4:=rfl;rw[this]at n;omega
 generalize (mx (NA 0 (dS (bS q))) (NA 0 (dS (bS s))) - cp+1) / 2=m at *
 have o:mx (L8 0 q) (L8 0 s) - cw+3*(Md 0 q+Md 0 s - 2*ct)<=d+2*r:=by
  unfold mx;split<;>omega
 unfold mx at o |-;split<;>omega
def ady(a b:Int):mx a b=mx b a:=by unfold mx;(repeat' split)<;>omega
def Of(q s:List It)(p:Int)(b:1<=p/\p<=100)(h:p<=eX s q)(m:q.length<=2^20)(l:s.length<=2^20):Bb (nh q) (nh s) (Ae q s)<=sg (mx (lq q) (lq s)) p:=by
 have k:=acg q s;have f:=Km s q;have i:=Bc s q;have e:mx (lq q) (lq s)=kJ s q:=ady _ _;rw[e];generalize Bb (nh q) (nh s) (Ae q s)=B at *;unfold eX at h;generalize kJ s q=T at *;generalize lI s q=d at *;unfold sg;rw[an (by omega)];split
 .omega
 .rename_i n;have hT:1<=T:=by omega
  rw[an (by omega)]at h;rw[an (by omega:¬(1073741824:Int)<T)];have j:0<=mx (T - d) 0:=by unfold mx;split<;>omega
  rw[eY (by omega)]at h;rw[eY (De (by omega) (by omega))]
  have a:p*T<=100*mx (T - d) 0:=by
   have:=Int.mul_le_of_le_ediv (by omega:(0:Int)<T) h;exact this
  refine(Int.le_ediv_iff_mul_le (by decide)).2 ?_;have g:1*T<=p*T:=zT b.1 (by omega);have c:mx (T - d) 0=T - d:=by unfold mx at a |-;split<;>simp_all<;>omega
  rw[c]at a;rw[Int.mul_sub,Int.mul_comm T p];omega
structure dM where
 id:Int
 key:aG
 en:En
 dz:List It
def dM.awa(s:dM):aB:=[.i .i64 s.id,.s s.key,.sl 3 (s.en.awc.map It.awa),.sl 3 (s.en.awf.map It.awa),.s s.en.bU,.s s.en.next,.s s.en.c8,.s s.en.cA,.i .i64 s.en.awh,.i .i64 s.en.awq,.sl 3 (s.dz.map It.awa)]
def xt{α:Type}(p:α->Bool)(l:List α):Nat:=(l.takeWhile p).length
def UZ{α:Type}(p:α->Bool)(l:List α):xt p l<=l.length:=qX (qU _)
def Bz{α:Type}{p:α->Bool}{l:List α}(h:l.Pairwise λa b=>p b=true->p a=true):∀(k:Nat) (y:α),l[k]?=some y->(p y=true<->k<xt p l):=by
 induction l with
 |nil=>intro k y h;simp at h
 |cons a l ih =>
  replace h:=dx.1 h
  intro k y c
  by_cases d:p a=true
  .have e:xt p (a::l)=xt p l+1:=by simp[xt,cy,d]
   cases k with
   |zero=>simp only[aM,ae]at c;subst c;rw[e];simp[d]
   |succ k =>
    have:=ih h.2 k y (by simpa using c);rw[this,e];omega
  .have e:xt p (a::l)=0:=by simp[xt,cy,d]
   rw[e];refine⟨λf=>?_,λh=>by omega⟩;cases k with
   |zero=>simp only[aM,ae]at c;subst c;exact absurd f d
   |succ k=>exact absurd (h.1 y (bE (by simpa using c)) f) d
def Qz{β:Type}{lt:β->β->Prop}[DecidableRel lt](d:∀x,¬lt x x)(m:∀x y z,lt x y->lt y z->lt x z){l:List β}(h:l.Pairwise lt){t:β}:t∈l<->l[xt (λx=>decide (lt x t)) l]?=some t:=by
 have f:l.Pairwise λa b=>decide (lt b t)=true->decide (lt a t)=true:=h.imp λ{a b} tV hb=>by
  simp only[aV]at hb |-;exact m _ _ _ tV hb
 refine⟨λp=>?_,bE⟩;obtain⟨k,c⟩:=ed.1 p;have j:=Bz f k t c;have j:¬k<xt (λx=>decide (lt x t)) l:=λh=>d t (by simpa using j.2 h);have g:=(ah.1 c).1
 have e:xt (λx=>decide (lt x t)) l=k:=by
  refine bN λr=>?_;have n:l[xt (λx=>decide (lt x t)) l]?=some l[xt (λx=>decide (lt x t)) l]:=ax (by omega);have o:=Bz f _ _ n;have i:=l4.1 h _ k (by omega:xt (λx=>decide (lt x t)) l<l.length) g (by omega);have q:l[k]=t:=by rw[ax g]at c;simpa using c
  rw[q]at i;have:=o.1 (by simpa using i);omega
 rw[e];exact c
abbrev kK(M:List dM):Prop:=(M.map dM.key).Pairwise λa b=>fS a b<0
def fN(M:List dM)(k:aG):Nat:=xt (λs=>decide (fS s.key k<0)) M
def Em(M:List dM)(k:aG):fN M k<=M.length:=UZ _ _
def sV{M:List dM}(h:kK M)(k:aG)(i:Nat)(x:dM)(d:M[i]?=some x):fS x.key k<0<->i<fN M k:=by
 have c:M.Pairwise λa b=>decide (fS b.key k<0)=true->decide (fS a.key k<0)=true:=(YG.1 h).imp λ{a b} tV hb=>by
  simp only[aV]at hb |-;exact lY tV hb
 have:=Bz c i x d;simpa[fN]using this
def ZU{α β:Type}(f:α->β)(p:β->Bool)(l:List α):xt p (l.map f)=xt (λx=>p (f x)) l:=by
 induction l with
 |nil=>rfl
 |cons a l ih =>
  simp only[xt,aH,cy]at ih |-;split
  .simp[ih]
  .rfl
def mJ{M:List dM}(h:kK M)(k:aG):k∈M.map dM.key<->∃x,M[fN M k]?=some x/\x.key=k:=by
 have:=Qz (lt:=λa b=>fS a b<0) (λx c=>by rw[gi.self]at c;omega) (λx y z=>lY) h (t:=k);rw[this,ZU,ck,aF];exact Fk
def Et(l:bH)(t:Int):Nat:=xt (λx=>decide (x<t)) l
def XP{l:bH}(h:l.Pairwise λa b=>a<b)(t:Int)(i:Nat)(x:Int)(d:l[i]?=some x):x<t<->i<Et l t:=by
 have c:l.Pairwise λa b=>decide (b<t)=true->decide (a<t)=true:=h.imp λ{a b} tV hb=>by
  simp only[aV]at hb |-;omega
 have:=Bz c i x d;simpa[Et]using this
def aen{l:bH}(h:l.Pairwise λa b=>a<b)(t:Int):t∈l<->l[Et l t]?=some t :=
 Qz (lt:=λa b:Int=>a<b) (λx e=>by omega) (λx y z d c=>by omega) h
def tX{e:En}:cj e=0<->cd e.awc=0/\cd e.awf=0/\oe e=true/\(parse e.bU).2.2=0/\(parse e.next).2.2=0/\(named e.c8&&named e.cA)=true/\¬(e.awh<0\/1073741824<e.awh\/e.awq<1\/3<e.awq):=by
 unfold cj;constructor
 .intro h;split at h
  .omega
  split at h
  .omega
  split at h
  .omega
  split at h
  .omega
  split at h
  .omega
  split at h
  .omega
  split at h
  .omega
  rename_i g d c f i a b;exact⟨by omega,by omega,by simpa using c,by omega,by omega,by simpa using a,b⟩
 .rintro⟨g,d,c,f,i,a,b⟩;rw[an (by omega),an (by omega),an (by rw[c];decide),an (by omega),an (by omega),an (by rw[a];decide),an b]
structure pL (k:Nat) (e:En):Prop where
 ok:cj e=0
 jr:e.awc.length<=40+k
 ie:bd e.awc<=400+4*k
 uk:e.awf.length<=100
 rv:bd e.awf<=900
 prev:e.bU.length<=7
 next:e.next.length<=7
 c8:e.c8.length<=3
 cA:e.cA.length<=3
def xo.toB{e:En}(h:xo e)(k:Nat):pL k e :=
 ⟨h.ok,by have:=h.jr;omega,by have:=h.ie;omega,h.uk,h.rv,h.prev,h.next,h.c8,h.cA⟩
def pL.mono{e:En}{k m:Nat}(h:pL k e)(a:k<=m):pL m e :=
 ⟨h.ok,by have:=h.jr;omega,by have:=h.ie;omega,h.uk,h.rv,h.prev,h.next,h.c8,h.cA⟩
def wB{f:List It}(h:cd f=0):bQ [] f=0:=by
 simp only[cd]at h;split at h
 .simp at h
 .exact h
def pL.src{e:En}{k:Nat}(h:pL k e):bQ [] e.awc=0:=wB (og h.ok).1
def pL.tgt{e:En}{k:Nat}(h:pL k e):bQ [] e.awf=0:=wB (og h.ok).2
def pL.awk{e:En}{k:Nat}(c:k<=20)(h:pL k e):e.awk:=by
 have:=og h.ok;have g:=h.jr;have d:=h.ie;have j:=h.uk;have f:=h.rv;have i:=h.prev;have b:=h.next;refine⟨by omega,by omega,by omega,by omega,by omega,by omega,λx a=>?_⟩;rcases bP.1 a with a|a
 .have:=Bp this.1 x a;omega
 .have:=Bp this.2 x a;omega
def Q0{f:List It}{x:It}(h:f≠[]):dO f x≠[]:=by
 unfold dO;split
 .simp
 split
 .exact h
 split
 .split<;>simp
 .simp
def PJ(f g:List It):bd (f++g)=bd f+bd g:=by
 induction f with
 |nil=>simp[bd]
 |cons x f ih=>simp only[bJ,bd,ih];omega
def Ds{f:List It}(h:bQ [] f=0)(b:f≠[])(t:aG):bQ [] (awl (f++[⟨1,t,0⟩]))=0/\awl (f++[⟨1,t,0⟩])≠[]/\(awl (f++[⟨1,t,0⟩])).length<=f.length+1/\bd (awl (f++[⟨1,t,0⟩]))<=bd f+t.length:=by
 have a:=pd (f++[⟨1,t,0⟩]);refine⟨(x9 t h).1,?_,?_,?_⟩
 .rw[fC (pc h)];exact Q0 b
 .have:=a.2;simpa using this
 .have:=a.1;rw[PJ]at this;simpa[bd]using this
def WC{e x:En}{k:Nat}(H:k<=20)(b:pL 0 e)(a:pL k x){t:aG}(F:t.length<=4):
  pL (k+1) ⟨gK (awl (x.awc++[⟨1,t,0⟩])) x.awf,iq (awl (x.awc++[⟨1,t,0⟩])) x.awf,e.bU,e.next,e.c8,e.cA,e.awh,e.awq⟩:=by
 obtain⟨i,u,K,I⟩:=Ds a.src (ou a.ok).nonempty t;generalize awl (x.awc++[⟨1,t,0⟩])=f at *;have hT:=a.tgt;have E:=a.jr;have J:=a.ie;have G:=a.uk;have L:=a.rv;generalize x.awf=g at *;have d:(cS f g).length<=999:=by have:=M5 f g;omega
 obtain⟨l,j⟩:=E5 i hT d;have m:=yJ f g;have w:bQ [] (gK f g)=0:=by rw[l];exact wU d m.1 i
 have y:bQ [] (iq f g)=0:=by rw[j];exact wU d m.2 hT
 have n:(gK f g).length=f.length:=by rw[l,ag]
 have B:(iq f g).length=g.length:=by rw[j,ag]
 have C:bd (gK f g)=bd f:=by rw[l,wC]
 have z:bd (iq f g)=bd g:=by rw[j,wC]
 obtain⟨o,A⟩:=R9 i hT d;have r:cd (gK f g)=0:=s4 w (by omega) (by omega);have D:cd (iq f g)=0:=s4 y (by omega) (by omega);have c:(gK f g).length≠0:=by rw[n];exact λh=>u (aW h)
 have s:oe ⟨gK f g,iq f g,e.bU,e.next,e.c8,e.cA,e.awh,e.awq⟩=true:=by
  simp only[oe,o,A,sW.2 rfl,df,dm,di,fc];exact c
 obtain⟨_,_,_,q,p,p6,v⟩:=tX.1 b.ok;exact⟨tX.2 ⟨r,D,s,q,p,p6,v⟩,by simp only[n];omega,by simp only[C];omega,by simp only[B];omega,by simp only[z];omega,b.prev,b.next,b.c8,b.cA⟩
def tx(f:List It):(dz f).length<=f.length+bd f:=by
 induction f with
 |nil=>simp[dz]
 |cons x f ih =>
  have:=Fq x;simp only[dz,eJ,aj,ai,bd]at ih |-;omega
def mr(id:Int)(l:eR):eR:=l.filter λp=>!(p.1==id)
def na{α β:Type}[DecidableEq α](C:List (α×β))(a:α):List (α×β):=C.filter λp=>!decide (p.1=a)
def AV{α β:Type}[DecidableEq α](x a:α)(C:List (α×β)):cX x (na C a)=if x=a then none else cX x C:=by
 induction C with
 |nil=>simp[na,cX,gM]
 |cons p C ih =>
  unfold na at ih |-;rw[fx]
  by_cases e:p.1=a
  .rw[an (by simp[e]),ih,ln]
   by_cases h:x=a
   .rw[az h,az h]
   .rw[an h,an h,an (λb=>h (b.trans e))]
  .rw[az (by simp[e]),ln,ln,ih]
   by_cases h:x=p.1
   .rw[az h,az h,an (λb=>e (h.symm.trans b))]
   .rw[an h,an h]
def EJ{α β:Type}[DecidableEq α]{kd:Nat}{ke:α->V}{ve:β->V}(c:∀a b,dD kd (ke a) (ke b)=some (decide (a=b)))(a:α):∀(C:List (α×β)) (n:Nat),(C.map (·.1)).Nodup->∀b,cX a C=some b ->
  ∃i,gV kd (ke a) (emap ke ve C) n=some (some (n+i,ve b))/\(emap ke ve C).eraseIdx i=emap ke ve (na C a)
 |[],n,_,b,h=>by simp[cX,gM]at h
 |p::C,n,hn,b,h=>by
  have g:=gz.1 hn;rw[ln]at h
  by_cases e:a=p.1
  .rw[az e]at h;cases h;refine⟨0,by simp[emap,gV,c,e],?_⟩
   have:na (p::C) a=C:=by
    unfold na;rw[kR (by simp[e]),kg.2];intro q j
    have:q.1≠a:=λl=>g.1 (by
     have:=gN (f:=(·.1)) j;rw[show q.1=p.1 from l.trans e]at this;exact this)
    simp[this]
   rw[this];simp[emap]
  .rw[an e]at h;obtain⟨i,k,d⟩:=EJ (ve:=ve) c a C (n+1) g.2 b h;refine⟨i+1,?_,?_⟩
   .have:gV kd (ke a) (emap ke ve (p::C)) n=gV kd (ke a) (emap ke ve C) (n+1):=by simp[emap,gV,c,e]
    rw[this,k];congr 3;omega
   .have:na (p::C) a=p::na C a:=by
     unfold na;rw[jJ (by simp;exact λh=>e h.symm)]
    rw[this];simp only[emap,aH,List.eraseIdx_cons_succ]at d |-;rw[d]
section
variable {α:Type} [DecidableEq α] {E n:Nat} {T:ak} {G:List (α×(Nat×Nat))} {f:α->eR}
def B5(f:α->eR)(k:α)(id:Int):α->eR:=λx=>if x=k then mr id (f x)else f x
def lP.cut(h:lP E n T G f){k:α}{j g:Nat}(l:cX k G=some (n+j,g))(id:Int)(d:Nat):lP E n (T.set j (mo E d (mr id (f k)))) (iZ G k (n+j,d)) (B5 f k id):=by
 obtain⟨o,y,u⟩:=h.row k _ _ l;have:o=j:=by omega
 subst this;refine⟨Tq h.nodup _ _,λx r d a=>?_,λx a=>?_,λx q r s p a b=>?_⟩
 .rw[jy]at a;split at a
  .rename_i e;subst e;simp only[ae,aQ]at a;obtain⟨rfl,rfl⟩:=a;exact⟨o,rfl,by rw[aL (ah.1 u).1];simp[B5]⟩
  .rename_i e;obtain⟨i,t,v⟩:=h.row x r d a;have w:o≠i:=λc=>by subst c;exact e (h.inj x k r d g a (by rw[l,t]))
   exact⟨i,t,by rw[bz w,v];simp[B5,e]⟩
 .rw[jy]at a;split at a
  .simp at a
  .rename_i e;simp[B5,e,h.Ho x a]
 .rw[jy]at a b;split at a<;>split at b
  .rename_i m c;rw[m,c]
  .rename_i m c;simp only[ae,aQ]at a;rw[<- a.1]at b;exact absurd (h.inj q k _ p g b l) c
  .rename_i m c;simp only[ae,aQ]at b;rw[<- b.1]at a;exact absurd (h.inj x k _ s g a l) m
  .exact h.inj x q r s p a b
def aab{β:Type}{G:List (α×β)}(h:(G.map (·.1)).Nodup)(k:α):((na G k).map (·.1)).Nodup :=
 h.sublist (List.filter_sublist.map _)
def lP.del(h:lP E n T G f){k:α}(d:f k=[]):lP E n T (na G k) f :=
 ⟨aab h.nodup k,λx r g a=>by
  rw[AV]at a;split at a
  .cases a
  .exact h.row x r g a,λx a=>by
  rw[AV]at a;split at a
  .rename_i e;rw[e,d]
  .exact h.Ho x a,λx j r i c a b=>by
  rw[AV]at a b;split at a
  .cases a
  .split at b
   .cases b
   .exact h.inj x j r i c a b⟩
def ov(f:α->eR)(id:Int):List (α×Int)->α->eR
 |[]=>f
 |g::r=>ov (B5 f g.1 id) id r
def Un(f:α->eR)(id:Int)(D:List (α×Int))(g:α×Int):ov f id (D++[g])=B5 (ov f id D) g.1 id:=by
 induction D generalizing f with
 |nil=>rfl
 |cons x D ih=>simp only[bJ,ov,ih]
def Xg(id:Int)(l:eR):mr id (mr id l)=mr id l:=by simp[mr]
def ES(id:Int)(k:α):∀(D:List (α×Int)) (f:α->eR),ov f id D k=if k∈D.map (·.1)then mr id (f k)else f k
 |[],f=>by simp[ov]
 |g::r,f=>by
  rw[ov,ES id k r]
  by_cases e:k=g.1
  .subst e;simp only[B5,aT,aH,bC,Ff,Xg,ite_self]
  .by_cases a:k∈r.map (·.1)
   .rw[az a,az (by simp only[aH,bC];exact .inr a),B5,an e]
   .rw[an a,an (by simp only[aH,bC];rintro(h|h);exact e h;exact a h),B5,an e]
end
def K9.del{α β:Type}[DecidableEq α][DecidableEq β]{G:List (α×(Nat×Nat))}{H:List (β×(Nat×Nat))}(h:K9 G H)(k:α):K9 (na G k) H:=λx f e y c d a b=>by
 rw[AV]at a;split at a
 .cases a
 .exact h _ _ _ _ _ _ a b
def PN{α:Type}[DecidableEq α](a:α)(v:Int):∀C:List (α×Int),((iZ C a v).map (·.2)).sum=(C.map (·.2)).sum - (cX a C).getD 0+v
 |[]=>by simp[iZ,cX,gM]
 |p::C=>by
  have ih:=PN a v C;rw[ln]
  by_cases h:a=p.1
  .simp only[iZ,az h,aH,dw,kQ];omega
  .simp only[iZ,an h,aH,dw,ih];omega
def Iy{α:Type}[DecidableEq α](C:List (α×Int))(a:α)(d:Int):((bump C a d).map (·.2)).sum=(C.map (·.2)).sum+d:=by
 unfold bump;rw[PN];omega
def J5:∀(ws:dq) (C:List (GK×Int)) (last:aG),((iD C last ws).map (·.2)).sum=(C.map (·.2)).sum+ws.length+1
 |[],C,last=>by simp only[iD,Iy];simp
 |w::r,C,last=>by simp only[iD,J5 r,Iy,ai];omega
def V7:∀(l:List It) (C:List (TK×Int)),((om C l).map (·.2)).sum<=(C.map (·.2)).sum+l.length
 |[],C=>by simp[om]
 |t::r,C=>by
  have h:=V7 r (if(dX t).2 then bump C (gd (dX t).1) 1 else C);simp only[om,ai];split at h
  .rename_i a;rw[Iy]at h;rw[az a];omega
  .rename_i a;rw[an a];omega
def J4(ws:dq):((dS ws).map (·.2)).sum=(ws.length:Int)+1:=by
 rw[PO ((lf ws).map (·.2)),J5];simp
def ael(c:Int)(d:0<=c)(N:Nat):∀a:eR,a.length<=N->nL (oK c a)<=N*c:=by
 have b:∀a:eR,nL (oK c a)<=a.length*c:=by
  intro a
  induction a with
  |nil=>simp[nL,oK]
  |cons p a ih =>
   have h:mn p.2 c<=c:=by unfold mn;split<;>omega
   have e:(((p::a).length:Nat):Int)*c=a.length*c+c:=by simp only[ai,Bk,acV];omega
   rw[e];simp only[nL,oK,aH,dw,Sm.size]at ih |-;omega
 intro a f;refine gF (b a) (zT (by omega) d)
def aej(k:TK)(c:Int)(m:0<=c)(N:Nat):∀a:eR,(∀p∈a,0<=p.2)->a.length<=N->nL (uL k c a)<=N*(4*c):=by
 have b:∀a:eR,(∀p∈a,0<=p.2)->nL (uL k c a)<=a.length*(4*c):=by
  intro a
  induction a with
  |nil=>intro _;simp[nL,uL]
  |cons p a ih =>
   intro d;have ih:=ih λx j=>d x (by simp[j]);have f:=d p (by simp);have h:0<=mn p.2 c/\mn p.2 c<=c:=by unfold mn;split<;>omega
   have i:=Fo ⟨k.1,k.2,0⟩;have l:mn p.2 c*weight ⟨k.1,k.2,0⟩<=mn p.2 c*4:=qG i.2 h.1;have e:(((p::a).length:Nat):Int)*(4*c)=a.length*(4*c)+4*c:=by simp only[ai,Bk,acV];omega
   rw[e];simp only[nL,uL,aH,dw,Sm.size]at ih |-
   by_cases g:qK k=true
   .simp only[g,aT]at ih |-;omega
   .simp only[g,aI,aS]at ih |-;omega
 intro a f d;refine gF (b a f) (zT (by omega) (by omega))
def Ro(N:Nat)(f:GK->eR)(a:∀k,(f k).length<=N):∀gs:List Gr,(∀g∈gs,0<=g.2)->nL (gs.flatMap λg=>oK g.2 (f g.1))<=N*(gs.map (·.2)).sum
 |[],_=>by simp[nL]
 |g::gs,h=>by
  have d:=ael g.2 (h g (by simp)) N (f g.1) (a _);have c:=Ro N f a gs λx b=>h x (by simp[b]);rw[eJ,xS,aH,dw,lK];omega
def Rn(N:Nat)(f:TK->eR)(a:∀k,(f k).length<=N)(h0:∀k,∀p∈f k,0<=p.2):∀D:List (TK×Int),(∀p∈D,0<=p.2)->nL (D.flatMap λp=>uL p.1 p.2 (f p.1))<=N*(4*(D.map (·.2)).sum)
 |[],_=>by simp[nL]
 |p::D,h=>by
  have d:=aej p.1 p.2 (h p (by simp)) N (f p.1) (h0 _) (a _);have c:=Rn N f a h0 D λx b=>h x (by simp[b]);rw[eJ,xS,aH,dw,lK 4,lK];omega
def Za:∀(l:List It) (n:Int),n<=L8 n l/\L8 n l<=n+4*l.length
 |[],n=>by simp[L8]
 |t::r,n=>by
  have h:=Za r (if(dX t).2&&!b9 (dX t).1 then n+weight (dX t).1 else n);have b:=Fo (dX t).1;simp only[L8,ai];split at h
  .rename_i a;rw[az a];omega
  .rename_i a;rw[an a];omega
def Zk:∀(l:List It) (n:Int),n<=Md n l/\Md n l<=n+l.length
 |[],n=>by simp[Md]
 |t::r,n=>by
  have h:=Zk r (if(dX t).2&&b9 (dX t).1 then n+1 else n);simp only[Md,ai];split at h
  .rename_i a;rw[az a];omega
  .rename_i a;rw[an a];omega
def PM(l:List It)(h:l.length<2^27):(nh l).ok (2^40)/\0<=lq l/\lq l<=2^40:=by
 have d:=Za l 0;have b:=Zk l 0;have e:=Dl l;have c:=sF l;have a:NA 0 (dS (bS l))=((bS l).length:Int)+1:=by rw[Nz,J4];omega
 refine⟨⟨?_,?_,?_⟩,by omega,by omega⟩
 .simp only[nh,a];omega
 .simp only[nh];omega
 .simp only[nh];omega
def RH{k:TK}{l:List It}{v:Int}(h:cX k (om [] l)=some v):0<=v:=by
 have:=(C3 l [] 0 CN.nil).2.2 k v h;omega
def Uc{k:GK}{ws:dq}{v:Int}(h:cX k (iD [] [] ws)=some v):0<=v:=by
 have:=(mE ws [] [] 0 CN.nil).2.2 k v h;omega
def Ck:List It:=[⟨1,[83,97,118,101],0⟩]
def TL:En:=⟨Ck,[⟨1,[83,105,99,104,101,114,110],0⟩],[97],[98],[],[],0,3⟩
def kQr:Qr:=⟨Ck,[97],[98],0,50,5⟩
def kPn:Pn:=⟨3,[],[],0,10⟩
def amJ:cj TL=0:=by decide +kernel
def ahN:fi kQr=0:=by decide +kernel
def apc:rk []=0:=by decide +kernel
def Jz:dz Ck=[⟨6,[83,97,118,101],0⟩]:=by rfl
def aee:(qL TL [kPn] kQr).awa=[.i .i64 0,.i .i64 100,.i .i64 2,.i .i64 10,.i .i64 92]:=by rfl
end Go.Bt
