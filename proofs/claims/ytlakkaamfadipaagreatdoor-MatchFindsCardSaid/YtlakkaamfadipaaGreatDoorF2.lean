/- A part of a proof; the claim's last text says of what. -/
import Derived.Test.YtlakkaamfadipaaGreatDoorB20
import Derived.Test.YtlakkaamfadipaaGreatDoorF1
set_option linter.all false
set_option maxHeartbeats 4000000

namespace Go.Bt
open Go Go.Pm
def rm:∀p:UInt8,(gE p).2=true->gn (gE p).1.toNat=p:=eP (by decide +kernel)
def A7:∀b:UInt8,(b==13||ei b==1)=true->du b=[92,120,gn (b.toNat / 16),gn (b.toNat % 16)]:=eP (by decide +kernel)
def qh(p q:UInt8):(fQ p q).toNat / 16=(gE p).1.toNat/\(fQ p q).toNat % 16=(gE q).1.toNat:=by
 have a:=tT p;have b:=tT q
 have:(fQ p q).toNat=16*(gE p).1.toNat+(gE q).1.toNat:=by
  simp only[fQ,C8];omega
 omega
def je:∀c:UInt8,cQ c=true->∃i:Fin 10,c=UInt8.ofNat (48+i.val)/\((c.toNat:Int) - 48)=i.val:=by
 intro c h;refine⟨⟨c.toNat - 48,by simp[cQ]at h;omega⟩,?_,?_⟩
 .simp only[cQ,aJ,aV]at h;have:48+(c.toNat - 48)=c.toNat:=by omega
  simp[this]
 .simp only[cQ,aJ,aV]at h;simp only;omega
def EW:∀i:Fin 10,i.val≠0->d3 i.val=[UInt8.ofNat (48+i.val)]:=by decide +kernel
def EU:∀i j:Fin 10,i.val≠0->d3 (10*i.val+j.val)=[UInt8.ofNat (48+i.val),UInt8.ofNat (48+j.val)]:=by decide +kernel
def ET:∀i j k:Fin 10,i.val≠0->d3 (100*i.val+10*j.val+k.val)=[UInt8.ofNat (48+i.val),UInt8.ofNat (48+j.val),UInt8.ofNat (48+k.val)]:=by decide +kernel
def iS{a:aG}(h:(awn a).2=true):a=Lib.itoa (awn a).1/\1<=(awn a).1/\(awn a).1<=999:=by
 simp only[awn]at h |-
 by_cases c:a.length<1\/3<a.length\/a.getD 0 0=48
 .rw[az c]at h;simp at h
 .rw[an c]at h |-
  by_cases b:a.all cQ=true
  .rw[az b]
   match a,c,b with
   |[x],c,b =>
    simp only[gO,oL,df]at b;obtain⟨i,d,l⟩:=je x b
    have f:i.val≠0:=by
     intro e;apply c;right;right;rw[aA,d,e];rfl
    have e:cR 0 [x]=(i.val:Int):=by simp[cR];omega
    simp only[e];rw[oH _ (by omega),EW i f,<- d];exact⟨rfl,by omega,by omega⟩
   |[x,y],c,b =>
    simp only[gO,oL,df,aJ]at b;obtain⟨i,d,l⟩:=je x b.1;obtain⟨j,g,m⟩:=je y b.2
    have f:i.val≠0:=by
     intro e;apply c;right;right;rw[aA,d,e];rfl
    have e:cR 0 [x,y]=((10*i.val+j.val:Nat):Int):=by simp[cR];omega
    simp only[e];rw[oH _ (by omega),EU i j f,<- d,<- g];exact⟨rfl,by omega,by omega⟩
   |[x,y,z],c,b =>
    simp only[gO,oL,df,aJ]at b;obtain⟨i,d,l⟩:=je x b.1;obtain⟨j,g,m⟩:=je y b.2.1;obtain⟨k,n,o⟩:=je z b.2.2
    have f:i.val≠0:=by
     intro e;apply c;right;right;rw[aA,d,e];rfl
    have e:cR 0 [x,y,z]=((100*i.val+10*j.val+k.val:Nat):Int):=by simp[cR];omega
    simp only[e];rw[oH _ (by omega),ET i j k f,<- d,<- g,<- n];exact⟨rfl,by omega,by omega⟩
   |[],c,_=>simp at c
   |_::_::_::_::_,c,_=>simp at c
  .rw[an b]at h;simp at h
def gW{s:aG}{c:UInt8}(h:(cutAt s c).2.2=true):s=(cutAt s c).1++c::(cutAt s c).2.1:=by
 simp only[cutAt]at h |-
 by_cases d:0<=Lib.indexByte s c
 .rw[az d]
  have b:∀s:aG,0<=Lib.indexByte s c->s=s.take (Lib.indexByte s c).toNat++c::s.drop ((Lib.indexByte s c).toNat+1):=by
   intro s
   induction s with
   |nil=>intro h;simp[Lib.indexByte]at h
   |cons a s ih =>
    intro h;have j:=mZ c s
    by_cases f:a=c
    .subst f;simp[Lib.indexByte]
    .have i:(a==c)=false:=by simpa using f
     simp only[Lib.indexByte,i,aI,aS]at h |-
     by_cases e:(Lib.indexByte s c == -1)=true
     .rw[az e]at h;omega
     .rw[an e]at h |-;have k:Lib.indexByte s c ≠ -1:=by simpa using e
      have g:(Lib.indexByte s c+1).toNat=(Lib.indexByte s c).toNat+1:=by omega
      rw[g];simp only[dt,iJ,bJ];rw[<- ih (by omega)]
  exact b s d
 .rw[an d]at h;simp at h
def qj{s:aG}{c:UInt8}(h:awt s [c]=true):s=s.take (s.length - 1)++[c]:=by
 simp only[awt,aJ,aV,cE,ai,al,aY]at h;rw[<- h.2,dZ]
def ql{s:aG}{c:UInt8}(h:aws s [c]=true):s=c::s.drop 1:=by
 simp only[aws,aJ,aV,cE,ai,al,aY]at h;cases s with
 |nil=>simp at h
 |cons a s=>simp at h;simp[h]
def xP{t:aG}(h:(iL t).2=true):(iL t).1.awb≠1/\bG none (iL t).1=true/\cK (iL t).1=60::(t++[62]):=by
 unfold iL at h |-;dsimp only at h |-;cases f:aws t [47]with
 |true =>
  simp only[f,aT,fO,dR,aI,aS]at h |-
  by_cases a:((cutAt (t.drop 1) 58).2.2&&(awn (cutAt (t.drop 1) 58).1).2)=true
  .rw[az a]at h |-;dsimp only at h |-;simp only[aJ]at a;obtain⟨d,c,e⟩:=iS a.2;have b:=gW a.1;have i:=ql f;refine⟨by decide,?_,?_⟩
   .simp only[bG];rw[an (by decide),an (by decide),an (by decide),az (by decide)];simp only[h,c,e,fW,df]
   .simp only[cK];rw[an (by decide),an (by decide),az (by decide),<- d]
    conv=>rhs;rw[i,b]
    simp
  .rw[an a]at h;simp at h
 |false =>
  simp only[f,aI,aS,iw,cc]at h |-;cases g:awt (cutAt t 58).2.1 [47]with
  |true =>
   simp only[g,aT]at h |-
   by_cases a:((cutAt t 58).2.2&&(awn (cutAt t 58).1).2)=true
   .rw[az a]at h |-;dsimp only at h |-;simp only[aJ]at a;obtain⟨d,c,e⟩:=iS a.2;have b:=gW a.1;have i:=qj g;have h:cV ((cutAt t 58).2.1.take ((cutAt t 58).2.1.length - 1))=true:=by simpa using h
    refine⟨by decide,?_,?_⟩
    .simp only[bG];rw[an (by decide),an (by decide),az (.inr (by decide))];simp only[h,c,e,fW,df]
    .simp only[cK];rw[an (by decide),an (by decide),an (by decide),az (by decide),<- d]
     conv=>rhs;rw[b]
     conv=>rhs;rw[i]
     simp
   .rw[an a]at h;simp at h
  |false =>
   simp only[g,aI,aS]at h |-
   by_cases a:((cutAt t 58).2.2&&(awn (cutAt t 58).1).2)=true
   .rw[az a]at h |-;dsimp only at h |-;simp only[aJ]at a;obtain⟨d,c,e⟩:=iS a.2;have b:=gW a.1;have h:cV (cutAt t 58).2.1=true:=by simpa using h
    refine⟨by decide,?_,?_⟩
    .simp only[bG];rw[an (by decide),an (by decide),az (.inl (by decide))];simp only[h,c,e,fW,df]
    .simp only[cK];rw[an (by decide),az (by decide),<- d]
     conv=>rhs;rw[b]
     simp
   .rw[an a]at h;simp at h
def mN{s:aG}(l:s≠[])(h:(aX s).2.2=true):
  ((∃c,(aX s).1=⟨1,[c],0⟩/\s=du c++s.drop (aX s).2.1.toNat) \/
   ((aX s).1.awb≠1/\bG none (aX s).1=true/\s=cK (aX s).1++s.drop (aX s).2.1.toNat)):=by
 simp only[aX]at h |-
 by_cases f:s.getD 0 0=92
 .left;rw[az f]at h |-;simp only at h |-;refine⟨_,rfl,?_⟩
  match s,l,f,h with
  |[a],_,f,h=>simp[dj]at h
  |a::d::r,_,f,h =>
   simp only[aA]at f;subst f
   by_cases o:d=92\/d=60\/d=123
   .have e:dj (92::d::r)=(d,2,true):=by simp only[iV,az o]
    rw[e];rcases o with rfl|rfl|rfl<;>simp[show du 92=[92,92]by decide,show du 60=[92,60]by decide,show du 123=[92,123]by decide]
   .by_cases y:d=110
    .subst y;have e:dj (92::110::r)=(10,2,true):=by simp only[iV];rfl
     rw[e];simp[show du 10=[92,110]by decide]
    .by_cases d3:d=116
     .subst d3;have e:dj (92::116::r)=(9,2,true):=by simp only[iV];rfl
      rw[e];simp[show du 9=[92,116]by decide]
     .by_cases z:d=120
      .subst z
       match r,h with
       |[],h=>simp[dj]at h
       |[_],h=>simp[dj]at h
       |p::q::r,h =>
        have e:dj (92::120::p::q::r)=(fQ p q,4,(gE p).2&&(gE q).2&&(fQ p q==13||ei (fQ p q)==1)):=by
         simp only[iV];rw[an (by decide),an (by decide),an (by decide),az (by decide),an (by simp)];simp only[aA,aR]
        rw[e]at h |-;simp only[aJ]at h;have n:=qh p q;rw[A7 _ h.2,n.1,n.2,rm p h.1.1,rm q h.1.2];simp
      .have e:dj (92::d::r)=(0,0,false):=by simp only[iV,o,y,d3,z,aS]
       rw[e]at h;simp at h
  |[],l,_,_=>exact absurd rfl l
 .rw[an f]at h |-
  by_cases g:s.getD 0 0=60
  .right;rw[az g]at h |-
   by_cases i:Lib.indexByte s 62<0
   .rw[az i]at h;simp at h
   .rw[an i]at h |-;simp only at h |-;have x:(cutAt s 62).2.2=true:=by simp only[cutAt];rw[az (by omega)]
    have v:=gW x;have k:(cutAt s 62).1=s.take (Lib.indexByte s 62).toNat:=by simp only[cutAt];rw[az (by omega)]
    have j:(cutAt s 62).2.1=s.drop ((Lib.indexByte s 62).toNat+1):=by simp only[cutAt];rw[az (by omega)]
    obtain⟨C,A,B⟩:=xP h;refine⟨C,A,?_⟩;have n:=lW s 62 (by rw[g];decide) i
    have t:s.take (Lib.indexByte s 62).toNat=60::(s.take (Lib.indexByte s 62).toNat).drop 1:=by
     cases s with
     |nil=>exact absurd rfl l
     |cons a s =>
      simp only[aA]at g;subst g;obtain⟨m,u⟩:∃m,(Lib.indexByte (60::s) 62).toNat=m+1:=⟨(Lib.indexByte (60::s) 62).toNat - 1,by omega⟩;rw[u];simp
    rw[B];have w:(Lib.indexByte s 62+1).toNat=(Lib.indexByte s 62).toNat+1:=by omega
    rw[w]
    conv=>lhs;rw[v,k,j,t]
    simp
  .rw[an g]at h |-
   by_cases b:s.getD 0 0=123
   .right;rw[az b]at h |-
    by_cases i:Lib.indexByte s 125<0\/awj ((s.take (Lib.indexByte s 125).toNat).drop 1)=false
    .rw[az i]at h;simp at h
    .rw[an i]at h |-;simp only[uy]at i;simp only;have D:awj ((s.take (Lib.indexByte s 125).toNat).drop 1)=true:=by simpa using i.2
     have x:(cutAt s 125).2.2=true:=by simp only[cutAt];rw[az (by omega)]
     have v:=gW x;have k:(cutAt s 125).1=s.take (Lib.indexByte s 125).toNat:=by simp only[cutAt];rw[az (by omega)]
     have j:(cutAt s 125).2.1=s.drop ((Lib.indexByte s 125).toNat+1):=by simp only[cutAt];rw[az (by omega)]
     have n:=lW s 125 (by rw[b];decide) i.1;refine⟨by decide,?_,?_⟩
     .simp only[bG];rw[an (by decide),az (by decide),D];rfl
     .have t:s.take (Lib.indexByte s 125).toNat=123::(s.take (Lib.indexByte s 125).toNat).drop 1:=by
       cases s with
       |nil=>exact absurd rfl l
       |cons a s =>
        simp only[aA]at b;subst b;obtain⟨m,u⟩:∃m,(Lib.indexByte (123::s) 125).toNat=m+1:=⟨(Lib.indexByte (123::s) 125).toNat - 1,by omega⟩;rw[u];simp
      simp only[cK];rw[an (by decide),an (by decide),an (by decide),an (by decide),az (by decide)];have w:(Lib.indexByte s 125+1).toNat=(Lib.indexByte s 125).toNat+1:=by omega
      rw[w]
      conv=>lhs;rw[v,k,j,t]
      simp
   .left;rw[an b]at h |-;simp only at h |-;cases s with
    |nil=>exact absurd rfl l
    |cons a s =>
     simp only[aA]at h;refine⟨a,by simp,?_⟩;simp[du,h]
def cY(before:List It)(x:It):Int:=if bG before.getLast? x=false then 1 else if(b9 x&&!fits before x)=true then 7 else 0
def kY:∀(rest pre:List It) (x:It),bQ pre (x::rest)=if cY pre x≠0 then cY pre x else bQ (pre++[x]) rest:=by
 intro rest pre x;simp only[bQ,cY];split
 .simp
 .split<;>simp
def eW(s:aG):It×Int:=if(aX s).2.2=true then((aX s).1,(aX s).2.1)else(gH,0)
def nv{s:aG}(h:(aX s).2.2=false):eW s=(gH,0):=by simp[eW,h]
def kV(a:Int)(t:aG):It×Bool :=
 let k:=min 4 (t.takeWhile cQ).length
 if k=0\/t.length<=k\/t.getD 0 0=48\/999<cR 0 (t.take k)\/t.getD k 0≠58 then(gH,false)else
 if(a=3/\awj (t.drop (k+1))=false)\/(a≠3/\cV (t.drop (k+1))=false)then(gH,false)else(⟨a,t.drop (k+1),cR 0 (t.take k)⟩,true)
def rC(t:aG):It×Bool :=
 if aws t [47]=true then kV 3 (t.drop 1)else if awt t [47]=true then kV 4 (t.take (t.length - 1))else kV 2 t
def tL(c:Int)(a b:aG)(cut:Bool):It×Bool :=
 if(cut&&(awn a).2)=true then(if(if c=3 then awj b else cV b)=true then(⟨c,b,(awn a).1⟩,true)else(gH,false))else(gH,false)
def pV{a b:aG}(h:∀c∈a,cQ c=true):(a++58::b).takeWhile cQ=a:=by
 induction a with
 |nil=>simp[show cQ 58=false by decide]
 |cons x a ih =>
  have e:cQ x=true:=h x (by simp);simp[e,ih λc d=>h c (by simp[d])]
def oN{n:Nat}{t:aG}(h:n<=(t.takeWhile cQ).length):∀c∈t.take n,cQ c=true:=by
 intro c a
 have e:t.take n=(t.takeWhile cQ).take n:=by
  have:=lQ (p:=cQ) (l:=t)
  conv=>lhs;rw[<- this]
  rw[dL h]
 rw[e]at a;have b:=cF a;exact bY.1 (UG (p:=cQ) (l:=t)) c b
def A5{a b c d:UInt8}{r:aG}(h:cQ a=true)(f:a≠48)(i:cQ b=true)(j:cQ c=true)(g:cQ d=true):999<cR 0 [a,b,c,d]:=by
 simp only[cQ,aJ,aV]at h i j g;have:a.toNat≠48:=λe=>f (uV.1 e);simp only[cR,dW,tf];omega
def kU(g:Int)(t:aG):kV g t=tL g (cutAt t 58).1 (cutAt t 58).2.1 (cutAt t 58).2.2:=by
 by_cases q:((cutAt t 58).2.2&&(awn (cutAt t 58).1).2)=true
 .have p:=q;simp only[aJ]at p;obtain⟨P,Q,I⟩:=iS p.2;have f:=gW p.1;generalize S:(cutAt t 58).1=a at *;generalize o:(cutAt t 58).2.1=b at *;have y:=AP (awn a).1 ⟨Q,I⟩;rw[<- P]at y;have B:=p.2;simp only[awn]at B
  by_cases i:a.length<1\/3<a.length\/a.getD 0 0=48
  .rw[az i]at B;simp at B
  .have e:a.all cQ=true:=bY.2 y.2.1;have A:(awn a).1=cR 0 a:=by simp only[awn,an i,e,aT]
   have C:min 4 (t.takeWhile cQ).length=a.length:=by rw[f,pV y.2.1];omega
   have G:t.take a.length=a:=by rw[f];simp
   have F:t.drop (a.length+1)=b:=by rw[f];simp
   have N:¬t.length<=a.length:=by rw[f];simp
   have H:t.getD 0 0=a.getD 0 0:=by
    rw[f];cases a with
    |nil=>simp at i
    |cons x a=>rfl
   have z:t.getD a.length 0=58:=by rw[f];simp[aq]
   simp only[kV,tL,q,aT,C,G,F,H,z]
   rw[an (by
    simp only[uy]at i |-;exact⟨by omega,N,i.2.2,by rw[<- A];omega,by simp⟩)]
   by_cases l:g=3
   .simp only[l,gA,aT,fc,eN,HG,s8,A]
    by_cases o:awj b=true<;>simp[o]
   .simp only[l,HG,aS,fc,cP,gA,nk,A]
    by_cases o:cV b=true<;>simp[o]
 .simp only[tL,an q,kV];refine az ?_;apply bN;intro D;apply q;simp only[uy,Dd,Nat.not_le,YJ]at D;obtain⟨R,u,s,w,E⟩:=D;generalize C:min 4 (t.takeWhile cQ).length=k at *;have e:=oN (n:=k) (t:=t) (by omega)
  have f:t=t.take k++58::t.drop (k+1):=by
   conv=>lhs;rw[<- List.take_append_drop k t]
   congr 1;rw[dG u];congr 1;rw[aq,ax u]at E;simpa using E
  have K:(58:UInt8) ∉ t.take k:=λO=>absurd (e _ O) (by decide)
  have v:cutAt t 58=(t.take k,t.drop (k+1),true):=by
   conv=>lhs;rw[f]
   exact tZ K
  rw[v];have j:(t.take k).length=k:=by rw[aP];omega
  have J:(t.take k).getD 0 0=t.getD 0 0:=by
   cases t with
   |nil=>simp
   |cons x t =>
    obtain⟨m,rfl⟩:∃m,k=m+1:=⟨k - 1,by omega⟩;rfl
  have M:k<=3:=by
   apply bN;intro h;have L:k=4:=by omega
   subst L
   match t,u,e,s,w with
   |a::b::c::d::r,_,e,s,w =>
    have:=A5 (r:=r) (e a (by simp)) (by simpa using s) (e b (by simp)) (e c (by simp)) (e d (by simp));simp only[dt,mA]at w;omega
   |[],h,_,_,_=>simp at h
   |[_],h,_,_,_=>simp at h
   |[_,_],h,_,_,_=>simp at h
   |[_,_,_],h,_,_,_=>simp at h
  simp only[cc,awn];rw[an (by rw[j,J];simp only[uy];exact⟨by omega,by omega,s⟩),az (bY.2 e)]
def AL(p:It×Bool):It×Bool:=if p.2=true then p else(gH,false)
def nC(c:Int)(a b:aG)(cut:Bool):
  AL (if(cut&&(awn a).2)=true then(⟨c,b,(awn a).1⟩,if c=3 then awj b else cV b)else(⟨0,[],0⟩,false))=tL c a b cut:=by
 simp only[tL]
 by_cases d:(cut&&(awn a).2)=true
 .rw[az d,az d];simp only[AL];generalize (if c=3 then awj b else cV b)=X;cases X<;>rfl
 .rw[an d,an d];rfl
def gr{t:aG}{x c:UInt8}:awt (t++[x]) [c]=(x==c):=by
 simp[awt]
def qk{a b:aG}:awt (a++58::b) [47]=awt b [47]:=by
 rcases dn b with c|⟨d,x,c⟩
 .subst c;rw[gr];rfl
 .rw[da]at c;subst c;rw[gr,show a++58::(d++[x])=(a++58::d)++[x]by simp,gr]
def mf{s:aG}{c:UInt8}(h:c ∉ s):cutAt s c=(s,[],false):=by
 simp only[cutAt,rX h];rfl
def yG{s:aG}{c:UInt8}(h:c∈s):(cutAt s c).2.2=true:=by
 simp only[cutAt];rw[az (mb h)]
def km{c:UInt8}:∀{s:aG},c ∉ s.take (Lib.indexByte s c).toNat
 |[]=>by simp
 |a::s=>by
  by_cases d:a=c
  .subst d;simp[Lib.indexByte]
  .have g:(a==c)=false:=by simpa using d
   have h:=mZ c s;simp only[Lib.indexByte,g,aI,aS]
   by_cases e:(Lib.indexByte s c == -1)=true
   .rw[az e];simp
   .rw[an e];have i:Lib.indexByte s c ≠ -1:=by simpa using e
    have f:(Lib.indexByte s c+1).toNat=(Lib.indexByte s c).toNat+1:=by omega
    rw[f,dt];intro b;rcases bC.1 b with b|b
    .exact d b.symm
    .exact km b
def r8{s:aG}{c:UInt8}(h:c∈s):c ∉ (cutAt s c).1:=by
 simp only[cutAt];rw[az (mb h)];exact km
def DC(t:aG):rC t=AL (iL t):=by
 unfold rC iL;dsimp only;cases s:aws t [47]with
 |true =>
  simp only[aT,fO,dR,aI,aS];rw[kU,<- nC];rfl
 |false =>
  simp only[aI,aS,iw,cc]
  by_cases c:(58:UInt8)∈t
  .have g:=yG c;have l:=r8 c;have i:=gW g;generalize p:(cutAt t 58).1=a at *;generalize q:(cutAt t 58).2.1=b at *;have o:awt t [47]=awt b [47]:=by conv=>lhs;rw[i,qk]
   rw[o];cases d:awt b [47]with
   |true =>
    simp only[aT];have f:b≠[]:=by rintro rfl;simp[awt]at d
    have n:t.take (t.length - 1)=a++58::b.take (b.length - 1):=by
     have r:=cT.2 f;rw[i];simp only[aj,ai];rw[acw,bW (by omega)];have:a.length+(b.length+1) - 1 - a.length=(b.length - 1)+1:=by omega
     rw[this,dt]
    rw[kU,n,tZ l,<- nC,g]
   |false =>
    simp only[aI,aS];rw[kU,p,q,g,<- nC]
  .have e:(58:UInt8) ∉ t.take (t.length - 1):=λh=>c (cF h);have j:∀k,kV k t=(gH,false):=λk=>by rw[kU,mf c];rfl
   have m:kV 4 (t.take (t.length - 1))=(gH,false):=by rw[kU,mf e];rfl
   rw[mf c,j,m];simp[AL]
def xW{s:aG}(h0:s.getD 0 0=60):eW s=if Lib.indexByte s 62<0 then(gH,0)else
  (if(rC ((s.take (Lib.indexByte s 62).toNat).drop 1)).2=true then((rC ((s.take (Lib.indexByte s 62).toNat).drop 1)).1,Lib.indexByte s 62+1)else(gH,0)):=by
 have e:aX s=if Lib.indexByte s 62<0 then(gH,0,false)else((iL ((s.take (Lib.indexByte s 62).toNat).drop 1)).1,Lib.indexByte s 62+1,(iL ((s.take (Lib.indexByte s 62).toNat).drop 1)).2):=by
  simp only[aX,h0];rw[an (by decide),az trivial]
 rw[eW,e]
 by_cases a:Lib.indexByte s 62<0
 .simp[a]
 .rw[an a,an a,DC,AL];generalize iL ((s.take (Lib.indexByte s 62).toNat).drop 1)=p;obtain⟨x,b⟩:=p;cases b<;>rfl
def vg{s:aG}{c:UInt8}(h:aws s (du c)=true):eW s=(⟨1,[c],0⟩,((du c).length:Int)):=by
 have e:s=du c++s.drop (du c).length:=by
  simp only[aws,aJ,aV,cE]at h
  conv=>lhs;rw[<- List.take_append_drop (du c).length s,h.2]
 rw[eW,e,yD];simp
def kZ{x:It}(c:x.awb≠1)(h:bG none x=true):∃r,cK x=60::r\/(cK x=123::(x.awd++[125])/\awj x.awd=true):=by
 simp only[bG,an c]at h;simp only[cK,an c]
 by_cases b:x.awb=5
 .rw[az b,aJ]at h;refine⟨[],.inr ⟨?_,h.1⟩⟩;simp[b]
 .rw[an b]at h
  by_cases a:x.awb=2
  .exact⟨_,.inl (by rw[az a])⟩
  .by_cases e:x.awb=4
   .exact⟨_,.inl (by rw[an a,an (by omega),az e])⟩
   .rw[an (by omega)]at h
    by_cases d:x.awb=3
    .exact⟨_,.inl (by rw[an a,az d])⟩
    .rw[an d]at h;simp at h
def vf{s:aG}(j:s≠[])(d:s.getD 0 0≠60)(e:s.getD 0 0≠123)(h:∀c,aws s (du c)=false):eW s=(gH,0):=by
 refine nv ?_;apply bN;intro i;rcases mN j (by simpa using i)with⟨c,_,a⟩|⟨f,g,a⟩
 .have:=h c;rw[a]at this;simp[aws]at this
 .obtain⟨r,b|⟨b,_⟩⟩:=kZ f g
  .rw[b]at a;rw[a]at d;simp at d
  .rw[b]at a;rw[a]at e;simp at e
def uY:∀c:UInt8,(du c).getD 0 0≠123/\du c≠[]:=eP (by decide +kernel)
def u9{s:aG}{k:Nat}(d:s.getD 0 0=123)(i:1<=k)(c:k<s.length)(f:s.getD k 0=125)(h:awj ((s.take k).drop 1)=true):
  eW s=(⟨5,(s.take k).drop 1,0⟩,(k:Int)+1):=by
 have e:s=123::((s.take k).drop 1++125::s.drop (k+1)):=by
  cases s with
  |nil=>simp at c
  |cons a s =>
   simp only[aA]at d;subst d;obtain⟨m,rfl⟩:∃m,k=m+1:=⟨k - 1,by omega⟩;simp only[ai]at c;have b:m<s.length:=by omega
   simp only[dt,iJ,mD];congr 1
   conv=>lhs;rw[<- List.take_append_drop m s]
   congr 1;rw[dG b];congr 1;rw[aR,aq,ax b]at f;simpa using f
 have g:((s.take k).drop 1).length=k - 1:=by rw[bA,aP];omega
 have:=yC ((s.take k).drop 1) (s.drop (k+1)) h;rw[<- e]at this;rw[eW,this];simp only[aT,g];congr 1;omega
def rD{s:aG}(g:s.getD 0 0=123)(h:∀k,1<=k->k<s.length->k<=25->¬(s.getD k 0=125/\awj ((s.take k).drop 1)=true)):eW s=(gH,0):=by
 have o:s≠[]:=by rintro rfl;simp at g
 refine nv ?_;apply bN;intro l;rcases mN o (by simpa using l)with⟨c,_,f⟩|⟨m,n,f⟩
 .have b:=uY c;rw[f]at g;cases j:du c with
  |nil=>exact b.2 j
  |cons a w =>
   rw[j]at g b;exact b.1 (by simpa using g)
 .obtain⟨r,b|⟨b,i⟩⟩:=kZ m n
  .rw[b]at f;rw[f]at g;simp at g
  .rw[b]at f;generalize (aX s).1.awd=t at *
   have p:t.length<=24:=by
    cases t with
    |nil=>simp
    |cons c t =>
     simp only[awj,aJ,aV]at i;exact i.1.1
   generalize s.drop (aX s).2.1.toNat=d at f;have e:s=(123::t)++125::d:=by rw[f];simp
   refine h (t.length+1) (by omega) (by rw[e];simp) (by omega) ⟨?_,?_⟩
   .rw[e];rw[show t.length+1=(123::t).length by simp,WJ]
   .rw[e];rw[show t.length+1=(123::t).length by simp];simpa using i
def dU:Nat->List It->Int->aG->Int->List It×Int×Int
 |0,_,_,_,at'=>([],at',2)
 |_+1,f,_,[],_=>(f,0,0)
 |n+1,f,len,c::l,at' =>
  let p:=eW (c::l)
  if p.2=0 then([],at',2)else if p.1.awb≠1/\cY f p.1≠0 then([],at',cY f p.1)else
  let g:=awl (f++[p.1])
  if 512<g.length\/1024<len+1 then([],at',3)else dU n g (len+1) ((c::l).drop p.2.toNat) (at'+p.2)
def qb{f:List It}{t:aG}{c:UInt8}(h:∀x,f.getLast?=some x->x.awb≠1):dO (closed f t) ⟨1,[c],0⟩=closed f (t++[c]):=by
 by_cases a:t=[]
 .subst a;rw[iP];simp only[dO,closed,fc,eN,aS,bc];rw[an (by simp),an (by simp)];cases b:f.getLast? with
  |none=>rfl
  |some y=>simp only[an (h y b)]
 .simp[dO,closed,a]
def tM{f:List It}{t:aG}(b:awl f=f)(h:∀x,f.getLast?=some x->x.awb≠1):awl (closed f t)=closed f t:=by
 by_cases a:t=[]
 .subst a;rw[iP];exact b
 .have e:closed f t=f++[⟨1,t,0⟩]:=by simp[closed,a]
  rw[e,fC b];simp only[dO,fc,eN,aS,an a];cases c:f.getLast? with
  |none=>rfl
  |some y=>simp only[an (h y c)]
def xX:∀(n:Nat) (f:List It) (t l:aG) (d:Int),bQ [] (closed f t)=0->(∀x,f.getLast?=some x->x.awb≠1)->awl f=f ->
  dU n (closed f t) ((awr f+t.length:Nat):Int) l d=nV n (kT f t) l d:=by
 intro n
 induction n with
 |zero=>intros;rfl
 |succ n ih =>
  intro f t l d j m v;have o:=tM (t:=t) v m;cases l with
  |nil=>simp only[dU,nV,vi]
  |cons c l =>
   have u:bQ [] f=0:=by
    simp only[closed]at j;split at j
    .exact j
    .rw[fp]at j;exact j.1
   simp only[dU,nV]
   by_cases g:(aX (c::l)).2.2=true
   .have E:=(od (s:=c::l) (by simp)).2.2 g;have B:eW (c::l)=((aX (c::l)).1,(aX (c::l)).2.1):=by rw[eW,az g]
    simp only[B,g,mg,aS];rw[an (by omega)];rcases mN (s:=c::l) (by simp) g with⟨b,a,_⟩|⟨a,p,_⟩
    .rw[a,vk,an (by simp),fC o,qb m]
     have k:(512<(closed f (t++[b])).length\/(1024:Int)<((awr f+t.length:Nat):Int)+1)<->ic f t ⟨1,[b],0⟩:=by
      simp only[ic,px,aj,ai,al,fc,eN,nk]
      by_cases r:t.length=0
      .rw[az (by omega),an (by omega),az r];omega
      .rw[az (by omega),az (by omega),an r];omega
     by_cases e:ic f t ⟨1,[b],0⟩
     .rw[az (k.2 e),az e];simp
     .rw[an (λh=>e (k.1 h)),an e];simp only[fc,eN,aS];have i:closed f (t++[b])=f++[⟨1,t++[b],0⟩]:=by simp[closed]
      have q:bQ [] (closed f (t++[b]))=0:=by
       rw[i,fp];refine⟨u,?_,by simp[b9]⟩;simp only[bG,aT,bc,aJ];refine⟨⟨by simp,by simp⟩,?_⟩;cases z:f.getLast? with
       |none=>rfl
       |some y=>simpa using m y z
      have:=ih f (t++[b]) ((c::l).drop (aX (c::l)).2.1.toNat) (d+(aX (c::l)).2.1) q m v;rw[<- this];congr 1;simp;omega
    .rw[vj _ _ _ a,vS u p]
     have D:cY (closed f t) (aX (c::l)).1=if(b9 (aX (c::l)).1&&!fits (closed f t) (aX (c::l)).1)=true then 7 else 0:=by
      simp only[cY,jv a,p];simp
     rw[D]
     by_cases i:(b9 (aX (c::l)).1&&!fits (closed f t) (aX (c::l)).1)=true
     .simp[i,a]
     .rw[an i,an i,an (by simp),fC o,lT a]
      have k:(512<(closed f t++[(aX (c::l)).1]).length\/(1024:Int)<((awr f+t.length:Nat):Int)+1)<->ic f t (aX (c::l)).1:=by
       simp only[ic,a,px,aj,ai,al,fc,cP,Ff,aT];omega
      by_cases e:ic f t (aX (c::l)).1
      .rw[az (k.2 e),az e];simp
      .rw[an (λh=>e (k.1 h)),an e];simp only[fc,eN,aS]
       have q:bQ [] (closed (closed f t++[(aX (c::l)).1]) [])=0:=by
        rw[iP,fp];refine⟨j,?_,by simpa using i⟩;rw[jv a];exact p
       have C:awl (closed f t++[(aX (c::l)).1])=closed f t++[(aX (c::l)).1]:=by
        rw[fC o,lT a]
       have:=ih (closed f t++[(aX (c::l)).1]) [] ((c::l).drop (aX (c::l)).2.1.toNat) (d+(aX (c::l)).2.1) q (by
        intro x w;simp only[jg,gG,mz,ae]at w;subst w;exact a) C
       rw[<- this,iP];congr 1;have A:wid (aX (c::l)).1=1:=by simp[wid,a]
       simp[ka,mH,nr,A]
   .have g:(aX (c::l)).2.2=false:=by simpa using g
    rw[nv g];simp[g]
def oR:∀(n:Nat) (f:List It) (len:Int) (l:aG) (a:Int),(dU n f len l a).2.2=0->(dU n f len l a).2.1=0
 |0,_,_,_,_,h=>by simp[dU]at h
 |n+1,f,len,[],a,_=>rfl
 |n+1,f,len,c::l,a,h=>by
  simp only[dU]at h |-;split
  .rename_i d;rw[az d]at h;simp at h
  .rename_i d;rw[an d]at h;split
   .rename_i b;rw[az b]at h;exact absurd h b.2
   .rename_i b;rw[an b]at h;split
    .rename_i e;rw[az e]at h;simp at h
    .rename_i e;rw[an e]at h;exact oR n _ _ _ _ h
def nR:∀(n:Nat) (f:List It) (len:Int) (l:aG) (a:Int),(dU n f len l a).2.2≠0->(dU n f len l a).1=[]
 |0,_,_,_,_,_=>rfl
 |n+1,f,len,[],a,h=>by simp[dU]at h
 |n+1,f,len,c::l,a,h=>by
  simp only[dU]at h |-;split
  .rfl
  .rename_i b;rw[an b]at h;split
   .rfl
   .rename_i e;rw[an e]at h;split
    .rfl
    .rename_i d;rw[an d]at h;exact nR n _ _ _ _ h
def qe{x:It}(b:x.awb≠1)(h:bG none x=true):x.awd.length<=(cK x).length:=by
 simp only[bG,an b]at h;simp only[cK,an b]
 by_cases a:x.awb=2
 .simp[a];omega
 .by_cases e:x.awb=3
  .simp[e];omega
  .by_cases d:x.awb=4
   .simp[d];omega
   .by_cases c:x.awb=5
    .simp[c];omega
    .simp[a,e,d,c]at h
def u7{s:aG}(d:s≠[]):(eW s).2≠0->1<=(eW s).2/\(eW s).2<=s.length/\((eW s).1.awd.length:Int)<=(eW s).2:=by
 have h:=od d;simp only[eW]
 by_cases a:(aX s).2.2=true
 .rw[az a];intro _;have b:=h.2.2 a;refine⟨b.1,b.2,?_⟩;have i:(s.drop (aX s).2.1.toNat).length=s.length - (aX s).2.1.toNat:=bA ..;rcases mN d a with⟨c,e,_⟩|⟨f,g,k⟩
  .rw[e];simp;omega
  .have l:=qe f g;have j:=congrArg List.length k;rw[aj,i]at j;simp only;omega
 .rw[an a];simp
def nw(s:aG):List It×Int×Int:=dU (s.length+1) [] 0 s 0
def rE(s:aG):nw s=parse s:=by
 have:=xX (s.length+1) [] [] s 0 (by simp[closed,bQ]) (by simp) rfl;rw[iP]at this;exact this
def uI:∀{x y:aG},x<y<->fS x y<0
 |[],[]=>by simp[fS]
 |[],_::_=>by simp[fS]
 |_::_,[]=>by simp[fS]
 |a::x,b::y=>by
  rw[L4,uI (x:=x) (y:=y)];simp only[fS]
  by_cases c:a<b
  .simp[c]
  .by_cases d:b<a
   .have:a≠b:=by rintro rfl;exact c d
    simp[c,d,this]
   .have e:a=b:=Fh (ud.1 d) (ud.1 c);subst e;simp[c]
def AO(out:dq)(k:aG):Bool :=
 match out.getLast? with
 |none=>false
 |some x=>!Op.bytesLess x k
def ph:List En->dq->dq×Bool
 |[],out=>(out,true)
 |e::r,out=>if cj e≠0 then([],false)else if AO out (cq e)=true then([],false)else ph r (out++[cq e])
def keysOf(m:List En):dq×Bool:=if 1024<m.length then([],false)else ph m []
def KA(l:dq):Prop:=l.Pairwise λa b=>fS a b<0
def rl:∀(m:List En) (out:dq),(∀e∈m,cj e=0)->KA (out++m.map cq)->ph m out=(out++m.map cq,true)
 |[],out,_,_=>by simp[ph]
 |e::r,out,h,ha=>by
  simp only[ph];rw[an (by simp[h e (by simp)]),an ?_,rl r _ (λx a=>h x (by simp[a])) (by simpa using ha)]
  .simp
  .simp only[AO];rcases dn out with rfl|⟨o,x,rfl⟩
   .simp
   .simp only[da,jg,gG,mz,fU];simp only[KA,aH,da,jf]at ha;have:=ha.2.2 x (by simp) (cq e) (by simp);simp[this]
def pK(k:aG)(l:dq):Nat:=l.countP λy=>decide (y<k)
def find(m:List En)(k:aG):Int :=
 if(keysOf m).2=false\/pK k (keysOf m).1=(keysOf m).1.length\/(keysOf m).1.getD (pK k (keysOf m).1) []≠k then -1 else pK k (keysOf m).1
structure nj (m:List En):Prop where
 len:m.length<=1024
 ok:∀e∈m,cj e=0
 s6:KA (m.map cq)
def nj.keys{m:List En}(h:nj m):keysOf m=(m.map cq,true):=by
 have a:=h.len;simp only[keysOf];rw[an (by omega),rl m [] h.ok (by simpa using h.s6)];simp
end Go.Bt
namespace Go.Proofs.Tryz
open Go Go.Pm Go.Bt
def Ek{n:Nat}{J:ak}{K:bl}(a:List It)(c:a.length<2^63):∀(rest pre:List It) (acc:Int),a=pre++rest ->
  ((fj 3 (fh (.I (eQ acc rest)) (fj 24 fo))) λj=>K (.exit 0) ⟨j,J⟩) ->
  fm n prog rU K (rest.length+1) ⟨(.sl 3 (a.map It.awa)::uu 2 (.I acc::uu 2 (.I a.length::.I pre.length::uu 20 []))),J⟩:=by
 intro rest
 induction rest with
 |nil =>
  intro pre acc d b;have d:=cN d
  subst d;refine ar λR f=>?_;simp only[rU,VV,seval];exact⟨λh=>by simp at h,λ_=>b ..⟩
 |cons x rest ih =>
  intro pre acc d b;subst d
  have i:=dh pre x (by simp at c;omega)
  refine ar λR f=>?_;simp only[rU,It.awa,VV,seval];have e:eQ acc (x::rest)=eQ (IntKind.i64.wrap (acc+width x)) rest:=rfl;rw[e]at b;refine⟨λ_=>⟨by simp;omega,λh=>⟨by simp;omega,?_⟩,λh=>?_⟩,λh=>by simp at h<;>omega⟩
  .have h:x.awb=1:=by simpa using h
   have g:width x=x.awd.length:=by simp[width,h]
   rw[g]at b;refine f _ (aK ?_ (ih (pre++[x]) _ (by simp) b));rw[i];repeat' constructor
  .have h:¬x.awb=1:=by simpa using h
   have g:width x=1:=by simp[width,h]
   rw[g]at b;refine f _ (aK ?_ (ih (pre++[x]) _ (by simp) b));rw[i];repeat' constructor
def tG(a:List It)(J:ak):bM prog 102 [.sl 3 (a.map It.awa)] J (.I (eQ 0 a)):=by
 refine aZ func102 QX.2 λd c=>au ?_;have b:=mG (c 0 _ rfl).1;rw[ag]at b;simp only[QX,SS,seval];simp only[ag,VV,seval];refine bZ.aK ?_ (a.length+1) (Ek a b a [] 0 rfl ?_)
 .repeat' constructor
 .simp only[JE];intros;simp only[VV,seval];exact aO (.inr rfl) rfl ⟨rfl,rfl⟩
def kF(b:UInt8)(J:ak):bM prog 212 [.i .u8 b.toNat] J (.I (ei b)):=by
 refine aZ func212 QJ.2 λg d=>au ?_;simp only[QJ,SS,seval];simp only[W,seval];clear d g;refine⟨λa=>?_,λa=>⟨λe=>?_,λe=>⟨λc=>?_,λc=>⟨λf=>?_,λf=>?_⟩⟩⟩⟩<;>refine aO (.inr rfl) rfl ⟨?_,rfl⟩<;>simp at*<;> simp only[Pm.one,ei,aA,aR,V.i.injEq,gA]<;>(repeat' split)<;>omega
def Ee{n:Nat}{J:ak}{K:bl}(s:aG)(d:s.length<2^63):∀(rest pre:aG),s=pre++rest->pre≠[] ->
  (rest.all fw=true->((fj 44 fo) λi=>K (.exit 0) ⟨i,J⟩))->(rest.all fw=false->((fj 2 (fh (.b false) (fj 41 fo))) λi=>K .ret ⟨i,J⟩)) ->
  fm n prog o7 K (rest.length+1) ⟨(.s s::uu 2 (.I pre.length::uu 40 [])),J⟩:=by
 intro rest
 induction rest with
 |nil =>
  intro pre a j g f;have a:=cN a
  subst a;refine ar λR k=>?_;simp only[o7,VV,seval];exact⟨λh=>by simp at h,λ_=>g rfl ..⟩
 |cons c rest ih =>
  intro pre a j g f;subst a;have o:0<pre.length:=cT.2 j;have l:decide ((0:Int)<pre.length)=true:=by simp;omega
  refine ar λR k=>?_;simp only[o7,l,VV,seval]
  have m:fw c=((decide (97<=(c.toNat:Int))&&decide ((c.toNat:Int)<=122))||((decide (48<=(c.toNat:Int))&&decide ((c.toNat:Int)<=57))||((c.toNat:Int)==45))):=by
   rw[cB];simp[fw];omega
  rw[<- m];refine⟨λ_=>⟨by simp;omega,λh=>?_,λh=>?_⟩,λh=>by simp at h<;>omega⟩
  .have e:(c::rest).all fw=rest.all fw:=by simp[h]
   rw[e]at g f;refine k _ (aK ?_ (ih (pre++[c]) (by simp) (by simp) g f));rw[cm (by simp at d;omega)];simp only[aj,ai,al]
   repeat' constructor
  .exact f (by simp[h]) ..
def fY(s:aG)(J:ak):bM prog 161 [.s s] J (.b (awj s)):=by
 refine aZ func161 QO.2 λl g=>au ?_;have a:=Dj (g 0 _ rfl).1;simp only[QO,SS,seval];simp only[VV,seval];cases s with
 |nil =>
  refine⟨λ_=>aO (.inr rfl) rfl ⟨rfl,rfl⟩,nofun⟩
 |cons c r =>
  refine⟨λh=>?_,λh=>?_⟩
  .refine aO (.inr rfl) rfl ⟨?_,rfl⟩;simp at h;simp[Pm.one,awj];omega
  .simp at h;refine bZ.uh (r.length+2) (ar λR i=>?_);simp only[o7,aA,VV,Int.reduceBEq,Int.reduceBNe,Nat.reduceAdd,Nat.reduceSub,Nat.reduceLeDiff,Nat.reduceEqDiff,Int.reduceToNat,reduceIte,reduceCtorEq]
   have j:((decide (97<=(c.toNat:Int))&&decide ((c.toNat:Int)<=122))||(decide ((0:Int)<0)&&((decide (48<=(c.toNat:Int))&&decide ((c.toNat:Int)<=57))||((c.toNat:Int)==45))))=decide (97<=c.toNat/\c.toNat<=122):=by
    rw[cB];simp;omega
   have k:(c::r).length<=24:=by simp;omega
   rw[j];refine⟨λ_=>⟨by simp,λd=>?_,λd=>?_⟩,λh=>by simp at h<;>omega⟩
   .have e:awj (c::r)=r.all fw:=by
     simp only[awj,d,k,fW,cc]
    refine i _ (aK ?_ (Ee (c::r) a r [c] rfl (by simp) (λf=>?_) (λf=>?_)))
    .rw[show IntKind.i64.wrap (0+1)=(([c].length:Nat):Int)from IntWalk.i64_in _ (by decide)]
     repeat' constructor
    .simp only[JE];intros;simp only[VV,seval];exact aO (.inr rfl) rfl ⟨by simp only[Pm.one,e,f,aA,aR],rfl⟩
    .simp only[JE];intros;simp only[VV,seval];exact aO (.inr rfl) rfl ⟨by simp only[Pm.one,e,f,aA,aR],rfl⟩
   .refine aO (.inr rfl) rfl ⟨?_,rfl⟩;have e:awj (c::r)=false:=by simp only[awj,d,gB,dR]
    rw[e];rfl
def IS(S:ak)(a:Nat)(g:a<S.length)(l:bH)(k:Nat)(u:k<2^47):
  PC prog 13 [.ptr a 0] (gT S a l k) (λr J'=>∃(q:Qr) (k':Nat),r=.agg q.awa/\Wl q/\(k<=k'/\k'<=k+300)/\J'=gT S a l k'):=by
 refine aZ func13 p13.2 λs t=>?_;simp only[p13,SS,seval];refine bZ.cut λR f=>?_;simp only[bf,VV,seval];refine f _ ?_;clear f R;refine bZ.cut λR f=>?_;simp only[bf,jt,nb,eK,ki,VV,seval];refine cD (Kk S a g l k (by omega) _) rfl ?_;rintro _ _ ⟨e,b,rfl,m,v,rfl⟩;simp only[En.awa,bf,jt,nb,eK,ki,VV,seval];refine f _ (au ?_);clear f R;simp only[bf,jt,nb,eK,ki,V.pure,VV,seval];refine cD (ff S a g l b (by omega) 90 (by decide) (by decide) _) rfl ?_;rintro _ _ ⟨h,rfl,o,rfl⟩;simp only[bf,jt,nb,eK,ki,V.pure,VV,seval];refine cD (ff S a g l (b+1) (by omega) 102 (by decide) (by decide) _) rfl ?_;rintro _ _ ⟨d,rfl,w,rfl⟩;have j:IntKind.i64.wrap (1+d)=1+d:=IntWalk.i64_in _ (by omega);simp only[j,bf,jt,nb,eK,ki,V.pure,VV,seval];refine cD (ff S a g l (b+1+1) (by omega) 12 (by decide) (by decide) _) rfl ?_;rintro _ _ ⟨c,rfl,n,rfl⟩;have p:IntKind.i64.wrap (1+c)=1+c:=IntWalk.i64_in _ (by omega);simp only[j,p,bf,jt,nb,eK,ki,V.pure,VV,seval]
 have i:∀loc:ak,Wk prog S.length [.agg (Qr.awa ⟨e.awc,e.bU,e.next,h,1+d,1+c⟩)] (gT S a l (b+1+1+1)++loc) [.agg (Qr.awa ⟨e.awc,e.bU,e.next,h,1+d,1+c⟩)] (gT S a l (b+1+1+1)):=λloc=>by
  have:=Wk.vN (P:=prog) (xs:=[.agg (Qr.awa ⟨e.awc,e.bU,e.next,h,1+d,1+c⟩)]) (loc:=loc) (fB (k':=b+1+1+1) s) (by simp only[Qr.awa,bf,LW]);rw[bf]at this;exact this
 exact fH (xs':=[.agg (Qr.awa ⟨e.awc,e.bU,e.next,h,1+d,1+c⟩)]) (.inr rfl) (by simp only[ni,xr,jt,VV,seval];rfl) (i _) rfl ⟨_,b+1+1+1,rfl,⟨⟨e,m,rfl,rfl,rfl⟩,o,by simp only;omega,by simp only;omega⟩,by omega,rfl⟩
def IU(S:ak)(a:Nat)(b:a<S.length)(l:bH)(k:Nat)(c:k<2^47)(loc:ak):
  PC prog 13 [.ptr a 0] (gT S a l k++loc) (λr J'=>∃(q:Qr) (k':Nat),r=.agg q.awa/\Wl q/\(k<=k'/\k'<=k+300)/\J'=gT S a l k'++loc):=by
 rw[oF b];refine(IS (S++loc) a (by rw[aj];omega) l k c).mono ?_;rintro r J' ⟨q,k',f,d,g,e⟩;exact⟨q,k',f,d,g,by rw[e,oF b]⟩
def vM(S:ak)(a:Nat)(d:a<S.length)(l:bH)(k:Nat)(j:k<2^45)(N:Nat)(p:N<=20):
  PC prog 17 [.ptr a 0,.I N] (gT S a l k) (λr J'=>∃(out:List En) (k':Nat),r=.sl 8 (out.map En.awa)/\(∀o∈out,pL out.length o)/\out.length<=N/\k'<=k+1000*N+1/\J'=gT S a l k'):=by
 refine aZ func17 p17.2 λc h=>au ?_;have b:IntKind.i64.wrap ((N:Int)+1)=((N+1:Nat):Int):=cm (by omega);simp only[p17,SS,seval];simp only[bf,b,VV,seval];refine cD (qD S a d l k (by omega) ((N+1:Nat):Int) (by omega) (by omega)) rfl ?_;rintro _ _ ⟨v,rfl,n,rfl⟩;obtain⟨m,rfl⟩:∃m:Nat,v=m:=⟨v.toNat,by omega⟩;simp only[bf,b,VV,seval]
 refine bZ.wk (((Wk.fg (ys:=(.ptr a 0::uu 4 (.nil::.I m::uu 52 []))) (by repeat' constructor)).trans (Wk.ij (P:=prog) (J:=gT S a l (k+1)) (k:=5) Iq rfl)).trans (Wk.fg (ys:=(.ptr a 0::uu 4 (.own S.length 0::.I m::uu 52 []))) ?_))
  (bZ.uh (m+1) (Oj S a d l (k+1) (by omega) (fB c) m (by omega) m (k+1) [] 0 (aD _) (by simp) (by simp) (by omega) ?_))
 .simp only[bf,ai,al,VV,seval]
  repeat' constructor
 intro k' out g e f i;simp only[JE];intros;simp only[qq,bf,jt,nb,eK,ki,VV,seval];refine fH (xs':=[.sl 8 (out.map En.awa)]) (.inr rfl) rfl ((Wk.fz S.length (E:=37) (sz:=8) (by':=128) (g:=g) (sh:=false) (rows:=out.map En.awa) (by rw[jt];rfl)).trans ?_) rfl ⟨out,k',rfl,e,by omega,by omega,rfl⟩;rw[eK];simp only[aH,bR,ev,fX,aA,aR,fK,iE,fz,oa,jx,aT];have:=Wk.vN (P:=prog) (xs:=[.sl 8 (out.map En.awa)]) (loc:=[Ob.row 37 8 128 g true (out.map En.awa)]) (fB (k':=k') c) (by simp only[bf,LW]);rw[bf]at this;exact this
def AB{q:Qr}(h1:bQ [] q.awc=0)(a:q.awc≠[])(c:q.awc.length<=100)(b:bd q.awc<=900)(i:(parse q.bU).2.2=0)(d:(parse q.next).2.2=0)(g:0<=q.now/\q.now<90)(f:1<=q.threshold/\q.threshold<=102)(e:1<=q.gJ/\q.gJ<=12):fi q=0:=by
 unfold fi;rw[an (by rw[s4 h1 c b];decide),an (λh=>a (aW h)),an (by omega),an (by omega),an (by omega)]
def A1{e:En}{k:Nat}(d:k<=20)(h:pL k e){n t m:Int}(c:0<=n/\n<90)(b:1<=t/\t<=102)(a:1<=m/\m<=12):UC ⟨e.awc,e.bU,e.next,n,t,m⟩:=by
 have p:=tX.1 h.ok;have f:=h.jr;have g:=h.ie;exact⟨AB h.src (ou h.ok).nonempty (by simp only;omega) (by simp only;omega) p.2.2.2.1 p.2.2.2.2.1 c b a,by simp only;omega,by simp only;omega,h.prev,h.next⟩
def Gc{e:En}{k:Nat}(o:k<=20)(h:pL k e){s:aG}(l:s.length<=4){n t m:Int}(d:0<=n/\n<90)(b:1<=t/\t<=102)(c:1<=m/\m<=12):UC ⟨awl (e.awc++[⟨1,s,0⟩]),e.bU,e.next,n,t,m⟩:=by
 have p:=tX.1 h.ok;have g:=h.jr;have j:=h.ie;obtain⟨f,a,i,q⟩:=Ds h.src (ou h.ok).nonempty s;exact⟨AB f a (by simp only;omega) (by simp only;omega) p.2.2.2.1 p.2.2.2.2.1 d b c,by simp only;omega,by simp only;omega,h.prev,h.next⟩
set_option maxRecDepth 20000 in
def AN(S:ak)(a:Nat)(z:a<S.length)(l:bH)(k:Nat)(hk:k<2^45)(f:List En)(LL:∀e∈f,pL f.length e)(Y:f.length<=20):
  PC prog 19 [.ptr a 0,.sl 8 (f.map En.awa)] (gT S a l k) (λr J'=>∃(q:Qr) (k':Nat),r=.agg q.awa/\UC q/\k'<=k+1000/\J'=gT S a l k'):=by
 refine aZ func19 p19.2 λZ dN=>?_;simp only[p19,SS,seval];refine bZ.cut λR o=>?_;simp only[bf,VV,seval];refine o _ ?_;clear o R;refine bZ.cut λR o=>?_;simp only[bf,jt,nb,eK,ki,VV,seval];refine cD (IU S a z l k (by omega) _) rfl ?_;rintro _ _ ⟨q,i,rfl,⟨⟨e,hE,U,T,N⟩,G,B,K⟩,tn,rfl⟩;simp only[Qr.awa,bf,jt,nb,eK,ki,VV,seval];refine o _ (bZ.fg (fr':=(.ptr a 0::.sl 8 (f.map En.awa)::uu 2 (.ptr S.length 0::.ptr (S.length+1) 0::uu 37 []))) ?_ (by repeat' constructor));clear o R;refine bZ.HC λR o=>?_;have C:=hE.toB 0
 have E:UC q:=by
  have:=A1 (by omega) C G B K;obtain⟨qs,qp,qn,qw,qt,qm⟩:=q;simp only at U T N this;rw[U,T,N];exact this
 have g:∀(q:Qr) (d:Nat) (ext:ak) {m:aB},UC q->d<=k+1000->oJ m (uu 4 (.ptr S.length 0::.ptr (S.length+1) 0::uu 37 []))->R ⟨m,gT S a l d++(.box 24 [.nil,.s [],.s [],.I 0,.I 0,.I 0]::.box 24 q.awa::ext)⟩:=by
  intro q d ext m hq L D;refine o _ (bZ.fg (au ?_) D);simp only[Qr.awa,bf,jt,nb,eK,ki,V.pure,VV,seval]
  have H:∀loc:ak,Wk prog S.length [.agg q.awa] (gT S a l d++loc) [.agg q.awa] (gT S a l d):=λloc=>by
   have:=Wk.vN (P:=prog) (xs:=[.agg q.awa]) (loc:=loc) (fB (k':=d) Z) (by simp only[Qr.awa,bf,LW]);rw[bf]at this;exact this
  exact fH (xs':=[.agg q.awa]) (.inr rfl) (by simp only[ni,xr,jt,VV,seval];rfl) (H _) rfl ⟨_,d,rfl,hq,L,rfl⟩
 refine bZ.cut λW F=>?_
 have skip:∀(d:Nat) {m:aB},d<=i+1->oJ m (uu 1 (.sl 8 (f.map En.awa)::uu 2 (.ptr S.length 0::.ptr (S.length+1) 0::uu 10 (.b false::uu 26 []))))->W ⟨m,gT S a l d++[.box 24 [.nil,.s [],.s [],.I 0,.I 0,.I 0],.box 24 q.awa]⟩:=by
  intro d m L D;refine F _ (bZ.fg (bZ.ahP rfl (au ?_)) D);simp only[VV,seval];exact g q d [] E (by omega) (by repeat' constructor)
 simp only[bf,jt,nb,eK,ki,ag,VV,seval]
 by_cases X:f=[]
 .have p:decide ((0:Int)<(f.length:Int))=false:=by simp[X]
  refine ua (Q:=λ_ _=>True) (c:=false) (by simp only[p,VV,seval]<;>rfl) (λh=>by simp at h) rfl (λh=>by simp at h) λ_=>⟨.I 0,?_⟩;simp only[p,VV,seval];refine skip i (by omega) ?_
  repeat' constructor
 have wy:=cT.2 X;have p:decide ((0:Int)<(f.length:Int))=true:=by simp;omega
 refine ua (c:=true) (by simp only[p,VV,seval]<;>rfl) (λ_=>ff S a z l i (by omega) 4 (by decide) (by decide) _) rfl ?_ (λh=>by simp at h);rintro _ _ _ ⟨v,rfl,hv,rfl⟩
 by_cases M:0<v
 .have A:decide (0<v)=true:=by simp[M]
  simp only[p,A,VV,seval];refine F _ (bZ.fg (fr':=(.ptr a 0::.sl 8 (f.map En.awa)::uu 2 (.ptr S.length 0::.ptr (S.length+1) 0::uu 10 (.b true::uu 26 [])))) (bZ.ahO rfl ?_) (by repeat' constructor));clear F skip W;refine bZ.cut λR6 t=>?_;simp only[bf,jt,nb,eK,ki,ag,VV,seval];refine cD (ff S a z l (i+1) (by omega) f.length (by omega) (by omega) _) rfl ?_;rintro _ _ ⟨j,rfl,O,rfl⟩;simp only[bf,jt,nb,eK,ki,ag,VV,seval];obtain⟨x,J,Pp⟩:=Ul (out:=f) (n:=j.toNat) (by omega);have y:=LL x J;simp only[Pp,En.awa,V.pure,VV,seval];refine⟨⟨O.1,O.2⟩,?_⟩;refine t _ (bZ.fg (fr':=(.ptr a 0::uu 3 (.ptr S.length 0::.ptr (S.length+1) 0::.ptr (S.length+2) 0::uu 36 []))) ?_ (by repeat' constructor));clear t R6;refine bZ.cut λR7 u=>?_;simp only[Qr.awa,bf,jt,nb,eK,ki,V.pure,VV,seval];refine u _ (bZ.fg (fr':=(.ptr a 0::uu 3 (.ptr S.length 0::.ptr (S.length+1) 0::uu 37 []))) (au ?_) (by repeat' constructor));clear u R7;simp only[bf,jt,nb,eK,ki,V.pure,VV,seval];refine cD (ff S a z l (i+1+1) (by omega) 2 (by decide) (by decide) _) rfl ?_;rintro _ _ ⟨w,rfl,wx,rfl⟩;have b1:=y.jr;have b2:=y.ie;simp only[bf,jt,nb,eK,ki,V.pure,VV,seval];refine⟨λh=>?_,λh=>?_⟩
  .refine ml (zs:=[.sl 3 (x.awc.map It.awa),.sl 3 ([(⟨1,[32,114,101,100],0⟩:It)].map It.awa)]) (.cons (.refl _) (.cons (.lit _ _) .nil)) (jW x.awc [⟨1,[32,114,101,100],0⟩] (by omega) (by simp) (by omega) (by simp[bd]) _) ?_;simp only[bf,jt,nb,eK,ki,V.pure,VV,seval];refine g ⟨awl (x.awc++[⟨1,[32,114,101,100],0⟩]),x.bU,x.next,q.now,q.threshold,q.gJ⟩ (i+1+1+1) _ (Gc Y y (by simp) G B K) (by omega) ?_
   repeat' constructor
  .refine g ⟨x.awc,x.bU,x.next,q.now,q.threshold,q.gJ⟩ (i+1+1+1) _ (A1 Y y G B K) (by omega) ?_
   repeat' constructor
 .have A:decide (0<v)=false:=by simpa using M
  simp only[p,A,VV,seval];refine skip (i+1) (by omega) ?_
  repeat' constructor
def nA:dq:=[[],[],[97,110,110]]
def l8:dq:=[[],[],[113]]
def vt:(∀s∈nA,named s=true)/\∀s∈l8,named s=true:=by decide +kernel
def Ud{o r k:Int}{a p:aG}(f:0<=o/\o<4)(c:a∈nA)(b:p∈l8)(d:0<=r/\r<=58)(e:0<=k/\k<12):xn ⟨o,a,p,r,k⟩:=by
 refine⟨?_,d⟩;unfold oX;simp only;rw[an (by omega),an (by rw[vt.1 a c,vt.2 p b];decide)]
def SO:Ti prog 84 5 56:=qJ (by kernel_rfl)
def rM(g:Nat)(sh:Bool)(f:List Pn):Ob:=.row 84 5 56 g sh (f.map Pn.awa)
def Tu{a b:Int}(d:0<=a/\a<3)(c:0<=b/\b<30):0<=a*b/\a*b<=58:=by
 have h:a=0\/a=1\/a=2:=by omega
 rcases h with rfl|rfl|rfl<;>omega
def Ki{x:V}:(∃a:Prop,some (True,x)=some (a,x)/\a)=True:=agI ⟨True,rfl,trivial⟩
set_option maxRecDepth 20000 in
def TG(S:ak)(a:Nat)(e:a<S.length)(l:bH){K:bl}(u:Nat)(Ht:u<2^46)(Y:cn (gT S a l u))(N:Nat)(hN:N<=20):∀(m:Nat) (k:Nat) (out:List Pn) (g:Nat),m<=N->out.length+m<=N->(∀o∈out,xn o)->k+1000*m<=u+1000*N ->
  (∀(k:Nat) (out:List Pn) (g:Nat),(∀o∈out,xn o)->out.length<=N->k<=u+1000*N->((fj 5 (fh (.own S.length g) (fj 33 fo))) λZZ=>K (.exit 0) ⟨ZZ,gT S a l k++[rM g false out]⟩)) ->
  fm S.length prog D5 K (m+1) ⟨(.ptr a 0::uu 4 (.own S.length g::.I m::uu 32 [])),gT S a l k++[rM g false out]⟩:=by
 intro m
 induction m with
 |zero =>
  intro k out g hm vI y hk G;refine ar λR U=>?_;simp only[D5,VV,seval];exact⟨λh=>by simp at h,λ_=>G k out g y (by omega) (by omega) ..⟩
 |succ m ih =>
  intro k out g hm vI y hk G;have hw:IntKind.i64.wrap (((m+1:Nat):Int) - 1)=(m:Int):=by rw[IntWalk.i64_in _ (by omega)];omega
  refine sN λR U=>?_;simp only[D5];refine bZ.cut λR1 Q=>?_;simp only[VV,seval];refine⟨λ_=>?_,λh=>by simp at h<;>omega⟩;refine Q _ (bZ.fg (fr':=(.ptr a 0::uu 4 (.own S.length g::.I (m+1:Nat)::uu 32 []))) ?_ (by repeat' constructor));clear Q R1;refine bZ.HC λZ X=>bZ.lZ ?_
  have again:∀(b:List Pn) (c d:Nat) (ext:ak) {H:aB},(∀o∈b,xn o)->b.length<=out.length+1->d<=k+1000->oJ H (.ptr a 0::uu 4 (.own S.length c::.I (m+1:Nat)::uu 32 []))->Z ⟨H,gT S a l d++(rM c false b::ext)⟩:=by
   intro b c d ext H c1 c2 c3 hc;refine X _ (bZ.fg (au ?_) hc);simp only[hw,VV,seval]
   have wx:Wk prog S.length (.ptr a 0::uu 4 (.own S.length c::.I m::uu 32 [])) (gT S a l d++(rM c false b::ext)) (.ptr a 0::uu 4 (.own S.length c::.I m::uu 32 [])) (gT S a l d++[rM c false b]):=by
    have:=Wk.A2 (P:=prog) (n:=S.length) (xs:=(.ptr a 0::uu 4 (.own S.length c::.I m::uu 32 []))) (J:=gT S a l d++[rM c false b]) (loc:=ext) (by simp[bf]) (cC (fB Y) (by simp[rM])) (gZ.1 (by
     rw[aj,bf];simp only[ai,al,ajl,acs 1 e,aY,LW]))
    rwa [bk,fI]at this
   exact U _ (rF ((Wk.fg (by repeat' constructor)).trans wx) (ih d b c (by omega) (by omega) c1 (by omega) G))
  refine au ?_;simp only[rM,bf,jt,nb,eK,ki,V.pure,ag,VV,seval];refine cD (ff S a e l k (by omega) 4 (by decide) (by decide) _) rfl ?_;rintro _ _ ⟨w,rfl,LH,rfl⟩;simp only[bf,jt,nb,eK,ki,V.pure,VV,seval];refine cD (ff S a e l (k+1) (by omega) 3 (by decide) (by decide) _) rfl ?_;rintro _ _ ⟨A,rfl,TR,rfl⟩;obtain⟨O,v,i⟩:=lk (ws:=nA) (n:=A.toNat) (by simp[nA];omega);simp only[nA,aH,bR]at i;have p:(0<=A/\A<3)=True:=agI TR;simp only[i,p,Ki,gA,bf,jt,nb,eK,ki,V.pure,VV,seval];refine cD (ff S a e l (k+1+1) (by omega) 3 (by decide) (by decide) _) rfl ?_;rintro _ _ ⟨D,rfl,x,rfl⟩;obtain⟨L,MT,j⟩:=lk (ws:=l8) (n:=D.toNat) (by simp[l8];omega);simp only[l8,aH,bR]at j;have t:(0<=D/\D<3)=True:=agI x;simp only[i,j,p,t,Ki,gA,bf,jt,nb,eK,ki,V.pure,VV,seval];refine cD (ff S a e l (k+1+1+1) (by omega) 3 (by decide) (by decide) _) rfl ?_;rintro _ _ ⟨q,rfl,F,rfl⟩;simp only[i,j,p,t,Ki,gA,bf,jt,nb,eK,ki,V.pure,VV,seval];refine cD (ff S a e l (k+1+1+1+1) (by omega) 30 (by decide) (by decide) _) rfl ?_;rintro _ _ ⟨r,rfl,M,rfl⟩;have B:=Tu F M;have T:IntKind.i64.wrap (q*r)=q*r:=IntWalk.i64_in _ (by omega);simp only[T,i,j,p,t,Ki,gA,bf,jt,nb,eK,ki,V.pure,VV,seval];refine cD (ff S a e l (k+1+1+1+1+1) (by omega) 12 (by decide) (by decide) _) rfl ?_;rintro _ _ ⟨E,rfl,C,rfl⟩;simp only[T,i,j,p,t,Ki,gA,bf,jt,nb,eK,ki,ag,V.pure,VV,seval];refine⟨⟨by omega,by simp only[maxLen];omega⟩,?_⟩
  have W:out.map Pn.awa++[[.I w,.s O,.s L,.I (q*r),.I E]]=(out++[(⟨w,O,L,q*r,E⟩:Pn)]).map Pn.awa:=by
   simp[Pn.awa]
  rw[W];refine again (out++[⟨w,O,L,q*r,E⟩]) (g+1) (k+1+1+1+1+1+1) [] ?_ (by simp) (by omega) ?_
  .intro z f;rcases bP.1 f with f|f
   .exact y z f
   .rw[cv]at f;subst f;exact Ud LH v MT B C
  .repeat' constructor
def zn(S:ak)(a:Nat)(d:a<S.length)(l:bH)(k:Nat)(j:k<2^45)(N:Nat)(p:N<=20):
  PC prog 18 [.ptr a 0,.I N] (gT S a l k) (λr J'=>∃(out:List Pn) (k':Nat),r=.sl 5 (out.map Pn.awa)/\(∀o∈out,xn o)/\out.length<=N/\k'<=k+1000*N+1/\J'=gT S a l k'):=by
 refine aZ func18 c18 λc h=>au ?_;have b:IntKind.i64.wrap ((N:Int)+1)=((N+1:Nat):Int):=cm (by omega);simp only[p18,SS,seval];simp only[bf,b,VV,seval];refine cD (qD S a d l k (by omega) ((N+1:Nat):Int) (by omega) (by omega)) rfl ?_;rintro _ _ ⟨v,rfl,n,rfl⟩;obtain⟨m,rfl⟩:∃m:Nat,v=m:=⟨v.toNat,by omega⟩;simp only[bf,b,VV,seval]
 refine bZ.wk (((Wk.fg (ys:=(.ptr a 0::uu 4 (.nil::.I m::uu 32 []))) (by repeat' constructor)).trans (Wk.ij (P:=prog) (J:=gT S a l (k+1)) (k:=5) SO rfl)).trans (Wk.fg (ys:=(.ptr a 0::uu 4 (.own S.length 0::.I m::uu 32 []))) ?_))
  (bZ.uh (m+1) (TG S a d l (k+1) (by omega) (fB c) m (by omega) m (k+1) [] 0 (aD _) (by simp) (by simp) (by omega) ?_))
 .simp only[bf,ai,al,VV,seval]
  repeat' constructor
 intro k' out g e f i;simp only[JE];intros;simp only[rM,bf,jt,nb,eK,ki,VV,seval];refine fH (xs':=[.sl 5 (out.map Pn.awa)]) (.inr rfl) rfl ((Wk.fz S.length (E:=84) (sz:=5) (by':=56) (g:=g) (sh:=false) (rows:=out.map Pn.awa) (by rw[jt];rfl)).trans ?_) rfl ⟨out,k',rfl,e,by omega,by omega,rfl⟩;rw[eK];simp only[aH,bR,ev,fX,aA,aR,fK,iE,fz,oa,jx,aT];have:=Wk.vN (P:=prog) (xs:=[.sl 5 (out.map Pn.awa)]) (loc:=[Ob.row 84 5 56 g true (out.map Pn.awa)]) (fB (k':=k') c) (by simp only[bf,LW]);rw[bf]at this;exact this
def Ed{n:Nat}{J:ak}{K:bl}(s:aG)(a:s.length<2^63):∀(rest pre:aG),s=pre++rest ->
  (rest.all (λb=>!fT b)=true->((fh (.s s) (fj 66 fo)) λi=>K (.exit 0) ⟨i,J⟩))->(rest.all (λb=>!fT b)=false->((fj 2 (fh (.b false) (fj 64 fo))) λi=>K .ret ⟨i,J⟩)) ->
  fm n prog rP K (rest.length+1) ⟨(.s s::uu 2 (.I pre.length::uu 63 [])),J⟩:=by
 intro rest
 induction rest with
 |nil =>
  intro pre f g d;have f:=cN f
  subst f;refine ar λR j=>?_;simp only[rP,VV,seval];exact⟨λh=>by simp at h,λ_=>g rfl ..⟩
 |cons c rest ih =>
  intro pre f g d;subst f
  have k:fT c=(((((decide ((c.toNat:Int)<32)||decide (126<(c.toNat:Int)))||((c.toNat:Int)==60))||((c.toNat:Int)==62))||((c.toNat:Int)==123))||((c.toNat:Int)==125)):=by
   clear g d ih a;revert c;exact eP (by decide +kernel)
  refine ar λR j=>?_;simp only[rP,VV,seval];rw[<- k];refine⟨λ_=>⟨by simp;omega,λh=>?_,λh=>?_⟩,λh=>by simp at h<;>omega⟩
  .exact d (by simp[h]) ..
  .have e:(c::rest).all (λb=>!fT b)=rest.all (λb=>!fT b):=by simp[h]
   rw[e]at g d;refine j _ (aK ?_ (ih (pre++[c]) (by simp) g d));rw[cm (by simp at a;omega)];simp only[aj,ai,al]
   repeat' constructor
def A6(s:aG):ga s=(awj (cW s)&&(decide ((cW s).length=s.length)||decide ((cW s).length+1<s.length))):=by
 have e:=mL s 32
 by_cases h:0<=Lib.indexByte s 32
 .have a:cutAt s 32=(s.take (Lib.indexByte s 32).toNat,s.drop ((Lib.indexByte s 32).toNat+1),true):=by simp only[cutAt,az h]
  have b:cW s=s.take (Lib.indexByte s 32).toNat:=by simp only[cW,a]
  simp only[ga,a,b];have c:(s.take (Lib.indexByte s 32).toNat).length=(Lib.indexByte s 32).toNat:=by rw[aP];omega
  have d:(s.drop ((Lib.indexByte s 32).toNat+1)).length=s.length - ((Lib.indexByte s 32).toNat+1):=by simp
  simp only[c,d,fO,iY];congr 1;rw[cB];simp;omega
 .have a:cutAt s 32=(s,[],false):=by simp only[cutAt,an h]
  have b:cW s=s:=by simp only[cW,a]
  simp only[ga,a,b];simp
def jj(s:aG)(J:ak):bM prog 162 [.s s] J (.b (cV s)):=by
 refine aZ func162 QN.2 λq k=>au ?_;have a:=Dj (k 0 _ rfl).1;simp only[QN,SS,seval];simp only[VV,seval];refine⟨λh=>?_,λh=>?_⟩
 .refine aO (.inr rfl) rfl ⟨?_,rfl⟩;have h:¬s.length<=64:=by simp at h;omega
  simp[Pm.one,cV,kn,h]
 have f:s.length<=64:=by simp at h;omega
 refine bZ.aK ?_ (s.length+1) (Ed s a s [] rfl (λe=>?_) (λe=>?_))
 .repeat' constructor
 .simp only[JE];intros;simp only[VV,seval];refine aw (oz s _) rfl ?_;simp only[VV,seval];refine aw (fY (cW s) _) rfl ?_;simp only[VV,seval];have n:(cW s).length<=s.length:=(uU s 32).1;have j:IntKind.i64.wrap (((cW s).length:Int)+1)=((cW s).length:Int)+1:=IntWalk.i64_in _ (by omega);have o:(((cW s).length:Int)==(s.length:Int))=decide ((cW s).length=s.length):=by rw[cB];simp;omega
  have i:decide (((cW s).length:Int)+1<(s.length:Int))=decide ((cW s).length+1<s.length):=by rw[cB];simp;omega
  rw[j,o,i,<- A6]
  have g:ga s=true->0<s.length:=λh=>by
   cases s with
   |nil=>revert h;decide
   |cons c s=>simp
  refine⟨λh=>?_,?_⟩
  .have h:ga s=true:=by simpa using h
   have:=g h;rw[IntWalk.i64_in _ (by omega)];omega
  .refine aO (.inr rfl) rfl ⟨?_,rfl⟩;cases d:ga s with
   |false=>simp[Pm.one,cV,d]
   |true =>
    have p:=g d;have m:(IntKind.i64.wrap ((s.length:Int) - 1)).toNat=s.length - 1:=by rw[IntWalk.i64_in _ (by omega)];omega
    simp only[Pm.one,aA,aR,m,cV,kn,d,e,cc,df,f,fW];have l:s.length≠0:=by omega
    simp only[l,fc,cP,fW,cc,V.b.injEq];rw[cB];simp;omega
 .simp only[JE];intros;exact aO (.inr rfl) rfl ⟨by simp[Pm.one,cV,e],rfl⟩
def rh(b:Bool)(n:Int):(b&&decide (1<=n)&&decide (n<=999))=!(!b||decide (n<1)||decide (999<n)):=by
 rw[cB];simp[Dd]
def Ej{J:ak}{K:bl}(a:List It)(x:It)(r:cn J)(c:a.length<2^63):∀(rest pre:List It),a=pre++rest ->
  ((rest.all λy=>!dP x y)=true->((fj 114 fo) λm=>K (.exit 1) ⟨m,J++[.box 61 x.awa]⟩))->((rest.all λy=>!dP x y)=false->∀loc,((fj 4 (fh (.I 7) (fj 109 fo))) λm=>K .ret ⟨m,J++(.box 61 x.awa::loc)⟩)) ->
  fm J.length prog nB K (rest.length+1) ⟨(.sl 3 (a.map It.awa)::uu 2 (.ptr J.length 0::uu 75 (.I a.length::.I pre.length::uu 33 []))),J++[.box 61 x.awa]⟩:=by
 intro rest
 induction rest with
 |nil =>
  intro pre d i g;have d:=cN d
  subst d;refine ar λR f=>?_;simp only[nB,VV,seval];exact⟨λh=>by simp at h,λ_=>i rfl ..⟩
 |cons y rest ih =>
  intro pre d i g;subst d
  have p:=dh pre y (by simp at c;omega)
  have next:dP x y=false->∀{loc:ak} {R:ca} {n:aB},(∀b,fm J.length prog nB K (rest.length+1) b->R b) ->
    oJ n (.sl 3 ((pre++y::rest).map It.awa)::uu 2 (.ptr J.length 0::uu 75 (.I (pre++y::rest).length::.I (IntKind.i64.wrap ((pre.length:Int)+1))::uu 33 [])))->R ⟨n,J++(.box 61 x.awa::loc)⟩:=by
   intro q loc R n f o;rw[p]at o;have e:((y::rest).all λy=>!dP x y)=rest.all λy=>!dP x y:=by simp[q]
   rw[e]at i g;refine f _ (cG [_] loc (cC r (by simp only[mC,It.awa,LW];simp)) o ?_ (ih (pre++[y]) (by simp) i g));simp only[LW,ai,al,aY];omega
  refine ar λR f=>?_;simp only[nB,It.awa,VV,seval];refine⟨λ_=>⟨by simp;omega,?_⟩,λh=>by simp at h<;>omega⟩;refine aw (oT y _) rfl ?_;simp only[VV,seval];have l:dP x y=(!(!b9 y||y.id != x.id)&&(x.awb != 3||y.awb != 2||!(cW y.awd==x.awd))):=rfl;refine⟨λh=>?_,λh=>?_⟩
  .refine next (by rw[l,h];rfl) f ?_
   repeat' constructor
  .refine bB (by simp only[VV,seval]<;>rfl) (λ_=>oz y.awd _) rfl ?_;simp only[VV,seval];refine⟨λj=>?_,λj=>?_⟩
   .have k:dP x y=true:=by rw[l,h];simpa[bne]using j
    exact g (by simp[k]) _ ..
   .have k:dP x y=false:=by rw[l,h];simpa[bne]using j
    refine next k f ?_
    repeat' constructor
set_option maxRecDepth 4000 in
def oU(before:List It)(x:It)(J:ak):bM prog 103 [.sl 3 (before.map It.awa),.agg x.awa] J (.I (cY before x)):=by
 refine aZ func103 acd λd A=>au ?_;have b:=mG (A 0 _ rfl).1;rw[ag]at b;simp only[QW,SS,seval]
 have loop:∀{s:aB},bG before.getLast? x=true->b9 x=true->oJ s (.sl 3 (before.map It.awa)::uu 2 (.ptr J.length 0::uu 75 (.I before.length::.I ((0:Nat):Int)::uu 33 []))) ->
   bZ J.length prog (.loop nB) (B8 1 (Lh (Fm J.length prog (.seq (.dv [] [⟨some 4,[],.gm (.c (.I 0))⟩]) .ret) (rG prog J.length [.t 4] λr q=>r=.I (cY before x)/\q=J)) (rG prog J.length [.t 4] λr q=>r=.I (cY before x)/\q=J)))
    ⟨s,J++[.box 61 x.awa]⟩:=by
  intro s w j L;refine bZ.aK L (before.length+1) (Ej before x d b before [] rfl (λv=>?_) (λv=>?_))
  .simp only[JE];intros;simp only[VV,seval];refine bg d (.inr rfl) (by simp only[RS,seval];rfl) (by simp[LW]) ⟨?_,rfl⟩;have u:fits before x=true:=v;simp[Pm.one,cY,w,j,u]
  .simp only[JE];intros;simp only[VV,seval];refine bg d (.inr rfl) (by simp only[RS,seval];rfl) (by simp[LW]) ⟨?_,rfl⟩;have u:fits before x=false:=v;simp[Pm.one,cY,w,j,u]
 have early:b9 x=false->cY before x=if bG before.getLast? x=false then 1 else 0:=by
  intro h;simp[cY,h]
 by_cases g:x.awb=1
 .have l:b9 x=false:=by simp[b9,g]
  rw[early l];rcases dn before with o|⟨i,y,o⟩
  .subst o;have p:decide ((0:Int)<(([]:aB).length:Int))=false:=rfl;simp only[It.awa,g,bR,p,VV,seval];refine⟨λh=>by simp at h,.I 0,λh=>by simp at h,?_⟩;simp only[VV,seval];refine⟨λh=>?_,λh=>?_⟩ <;>
   .refine bg d (.inr rfl) (by simp only[RS,seval];rfl) (by simp[LW]) ⟨?_,rfl⟩;have a:bG ([]:List It).getLast? x=!(x.awd==[]||x.id != 0):=by simp[bG,g,bne]
    rw[a,h];rfl
  .rw[da]at o;subst o
   have F:IntKind.i64.wrap (((i++[y]).length:Int) - 1)=i.length:=by
    have:(i++[y]).length<2^63:=b;rw[IntWalk.i64_in _ (by simp at this |-;omega)];simp
   have z:gj (List.map It.awa (i++[y])) i.length 0=some (.I y.awb):=by
    rw[qR];rfl
   have p:decide ((0:Int)<((List.map It.awa (i++[y])).length:Int))=true:=by simp
   have a:bG (i++[y]).getLast? x=!((x.awd==[]||x.id != 0)||y.awb==1):=by simp[bG,g,bne]
   rw[a];simp only[It.awa,g,VV,seval];simp only[p,ag,F,ao,z,VV,seval];refine⟨λ_=>by simp;omega,.I y.awb,λ_=>?_,?_⟩
   .rfl
   have G:decide ((0:Int)<((i++[y]).length:Int))=true:=by simp
   simp only[G,VV,seval];refine⟨λh=>?_,λh=>?_⟩ <;>
   .refine bg d (.inr rfl) (by simp only[RS,seval];rfl) (by simp[LW]) ⟨?_,rfl⟩;rw[h];rfl
 by_cases n:x.awb=5
 .have l:b9 x=false:=by simp[b9,n]
  rw[early l];have a:bG before.getLast? x=!(!awj x.awd||x.id != 0):=by simp[bG,n,bne]
  rw[a];simp only[It.awa,n,VV,seval];refine aw (fY _ _) rfl ?_;simp only[VV,seval];refine⟨λh=>?_,λh=>?_⟩ <;>
  .refine bg d (.inr rfl) (by simp only[RS,seval];rfl) (by simp[LW]) ⟨?_,rfl⟩;rw[h];rfl
 have e:bG before.getLast? x=false->cY before x=1:=λh=>by simp[cY,h]
 have skip:bG before.getLast? x=true->b9 x=false->cY before x=0:=λh B=>by simp[cY,h,B]
 by_cases f:x.awb=2\/x.awb=4
 .have j:b9 x=true:=by simp[b9];rcases f with h|h<;>simp[h]
  have a:bG before.getLast? x=!(!cV x.awd||decide (x.id<1)||decide (999<x.id)):=by
   rw[<- rh];simp[bG,f,g,n]
  rcases f with k|k
  .rw[It.awa,k]at loop;simp only[It.awa,k,VV,seval];refine aw (jj _ _) rfl ?_;simp only[VV,seval];refine⟨λh=>?_,λh=>loop (by rw[a,h];rfl) j (by simp only[ag,ey];repeat' constructor)⟩;refine bg d (.inr rfl) (by simp only[RS,seval];rfl) (by simp[LW]) ⟨?_,rfl⟩;rw[e (by rw[a,h];rfl)];rfl
  .rw[It.awa,k]at loop;simp only[It.awa,k,VV,seval];refine aw (jj _ _) rfl ?_;simp only[VV,seval];refine⟨λh=>?_,λh=>loop (by rw[a,h];rfl) j (by simp only[ag,ey];repeat' constructor)⟩;refine bg d (.inr rfl) (by simp only[RS,seval];rfl) (by simp[LW]) ⟨?_,rfl⟩;rw[e (by rw[a,h];rfl)];rfl
 by_cases m:x.awb=3
 .have j:b9 x=true:=by simp[b9,m]
  have a:bG before.getLast? x=!(!awj x.awd||decide (x.id<1)||decide (999<x.id)):=by
   rw[<- rh];simp[bG,m]
  rw[It.awa,m]at loop;simp only[It.awa,m,VV,seval];refine aw (fY _ _) rfl ?_;simp only[VV,seval];refine⟨λh=>?_,λh=>loop (by rw[a,h];rfl) j (by simp only[ag,ey];repeat' constructor)⟩;refine bg d (.inr rfl) (by simp only[RS,seval];rfl) (by simp[LW]) ⟨?_,rfl⟩;rw[e (by rw[a,h];rfl)];rfl
 .have H:(x.awb==1)=false:=by simpa using g
  have K:(x.awb==2)=false:=by simp;omega
  have D:(x.awb==3)=false:=by simpa using m
  have E:(x.awb==4)=false:=by simp;omega
  have C:(x.awb==5)=false:=by simpa using n
  have a:bG before.getLast? x=false:=by simp[bG,g,f,m,n]
  rw[e a];simp only[It.awa,H,K,D,E,C,VV,seval];exact gq d (by rfl) (by simp[LW])
def Jw{J:ak}{K:bl}(a:List It)(l:cn J)(d:a.length<2^63):∀(rest pre:List It),a=pre++rest ->
  (bQ pre rest=0->((fj 30 fo) λi=>K (.exit 0) ⟨i,J⟩))->(bQ pre rest≠0->((fj 2 (fh (.I (bQ pre rest)) (fj 27 fo))) λi=>K .ret ⟨i,J⟩)) ->
  fm J.length prog wP K (rest.length+1) ⟨(.sl 3 (a.map It.awa)::uu 13 (.I a.length::.I pre.length::uu 14 [])),J⟩:=by
 intro rest
 induction rest with
 |nil =>
  intro pre c g b;have c:=cN c
  subst c;refine ar λR j=>?_;simp only[wP,VV,seval];exact⟨λh=>by simp at h,λ_=>g rfl ..⟩
 |cons y rest ih =>
  intro pre c g b;subst c;refine ar λR j=>?_;have k:List.take pre.length (List.map It.awa (pre++y::rest))=pre.map It.awa:=by simp
  simp only[wP,It.awa,VV,seval];refine⟨λ_=>?_,λh=>by simp at h;omega⟩;refine⟨by simp;omega,by simp;omega,?_⟩;rw[k];refine aw (oU pre y _) rfl ?_;simp only[VV,seval];refine⟨λh=>?_,λh=>?_⟩
  .have f:cY pre y≠0:=by simpa using h
   have e:bQ pre (y::rest)=cY pre y:=by rw[kY,az f]
   rw[e]at b;exact b f ..
  .have f:cY pre y=0:=by simpa using h
   have e:bQ pre (y::rest)=bQ (pre++[y]) rest:=by rw[kY,f];simp
   rw[e]at g b;refine j _ (aK ?_ (ih (pre++[y]) (by simp) g b));rw[cm (by simp at d;omega)];simp only[aj,ai,al]
   repeat' constructor
def jo(a:List It)(J:ak):bM prog 46 [.sl 3 (a.map It.awa)] J (.I (cd a)):=by
 refine aZ func46 p46.2 λf e=>au ?_;have b:=mG (e 0 _ rfl).1;rw[ag]at b;simp only[p46,SS,seval];simp only[ag,VV,seval];refine bB (by simp only[VV,seval]<;>rfl) (λ_=>tG a _) rfl ?_;simp only[ag,VV,seval];refine⟨λh=>?_,λh=>?_⟩
 .refine aO (.inr rfl) (by simp only[RS,seval];rfl) ⟨?_,rfl⟩;simp at h;have:512<a.length\/1024<eQ 0 a:=by omega
  simp only[Pm.one,cd,this,aT,aA,aR]
 .simp at h;have d:¬(512<a.length\/1024<eQ 0 a):=by omega
  refine bZ.aK ?_ (a.length+1) (Jw a f b a [] rfl (λc=>?_) (λc=>?_))
  .simp only[VV,seval]
   repeat' constructor
  .simp only[JE];intros;simp only[VV,seval];exact aO (.inr rfl) (by simp only[RS,seval];rfl) ⟨by simp only[Pm.one,cd,d,c,aS,aA,aR],rfl⟩
  .simp only[JE];intros;simp only[VV,seval];exact aO (.inr rfl) (by simp only[RS,seval];rfl) ⟨by simp only[Pm.one,cd,d,aS,aA,aR],rfl⟩
def qu{n:Nat}(h:¬n<10):Lib.decDigits n=Lib.decDigits (n / 10)++[UInt8.ofNat (48+n % 10)]:=by
 rw[Lib.decDigits,YA h]
def tY{n:Nat}:UInt8.ofNat ((IntKind.u8.wrap (IntKind.i64.wrap (48+(n:Int).tmod 10))).toNat)=UInt8.ofNat (48+n % 10):=by
 have h:(n:Int).tmod 10=((n % 10:Nat):Int):=by rw[Dc (by omega)];rfl
 rw[h,IntWalk.i64_in _ (by omega)]
 have a:IntKind.u8.wrap (48+((n % 10:Nat):Int))=((48+n % 10:Nat):Int):=by
  rw[IntWalk.u8_in _ (by omega)];omega
 rw[a];rfl
def xh{n:Nat}(h:n<2^62):IntKind.i64.wrap ((n:Int).tdiv 10)=((n / 10:Nat):Int):=by
 have e:(n:Int).tdiv 10=((n / 10:Nat):Int):=by rw[eY (by omega)];rfl
 rw[e,IntWalk.i64_in _ (by omega)]
def Ec{J:ak}{K:bl}:∀(k n:Nat) (s:aG),n<10^(k+1)->n<2^62->s.length+k<2^40 ->
  (((fj 2 (fh (.s (Lib.decDigits n++s)) (fj 14 fo))) λf=>K .ret ⟨f,J⟩)) ->
  fm J.length prog oY K (k+1) ⟨(.I n::uu 2 (.s s::uu 13 [])),J⟩:=by
 have last:∀(k n:Nat) (s:aG),n<10->n<2^62->s.length+k<2^40->(((fj 2 (fh (.s (Lib.decDigits n++s)) (fj 14 fo))) λf=>K .ret ⟨f,J⟩)) ->
   fm J.length prog oY K (k+1) ⟨(.I n::uu 2 (.s s::uu 13 [])),J⟩:=by
  intro k n s d b c a;refine ar λR i=>?_;simp only[oY,xh b,tY,VV,Int.reduceBEq,Int.reduceBNe,Nat.reduceAdd,Nat.reduceSub,Nat.reduceLeDiff,Nat.reduceEqDiff,Int.reduceToNat,reduceIte,reduceCtorEq];rw[Lib.decDigits_one d]at a;have e:n % 10=n:=by omega
  have l:n / 10=0:=by omega
  rw[e,l];exact⟨by decide,by simp[maxLen];omega,by decide,λh=>a ..,nofun⟩
 intro k
 induction k with
 |zero=>intro n s g b c a;exact last 0 n s (by omega) b c a
 |succ k ih =>
  intro n s g b c a
  by_cases d:n<10
  .exact last (k+1) n s d b c a
  .rw[qu d,bk]at a;have j:n / 10<10^(k+1):=by rw[Nat.pow_succ]at g;omega
   refine ar λR i=>?_;simp only[oY,xh b,tY,VV,Int.reduceBEq,Int.reduceBNe,Nat.reduceAdd,Nat.reduceSub,Nat.reduceLeDiff,Nat.reduceEqDiff,Int.reduceToNat,reduceIte,reduceCtorEq];refine⟨by decide,by simp[maxLen];omega,by decide,λh=>by simp at h;omega,λh=>?_⟩;refine i _ (aK ?_ (ih (n / 10) (UInt8.ofNat (48+n % 10)::s) j (by omega) (by simp;omega) a))
   repeat' constructor
def rK(n:Nat)(a:n<2^62)(J:ak):bM prog 244 [.I n] J (.s (Lib.decDigits n)):=by
 refine aZ func244 QH.2 λc b=>au ?_;simp only[QH,SS,seval];simp only[VV,seval];refine bZ.aK ?_ 19 (Ec 18 n [] (by omega) a (by simp) ?_)
 .repeat' constructor
 .simp only[JE];intros;simp only[VV,seval];exact aO (.inr rfl) (by simp only[RS,seval];rfl) ⟨by simp[Pm.one],rfl⟩
def rL(n:Nat)(b:n<2^62)(J:ak):bM prog 204 [.I n] J (.s (Lib.itoa n)):=by
 refine aZ func204 QK.2 λf d=>au ?_;have c:decide ((n:Int)<0)=false:=by simp
 have a:(if(n:Int)<0 then(0:Int)else n)=n:=an (by omega);simp only[QK,SS,seval];simp only[c,a,VV,seval];refine aw (rK n b _) rfl ?_;simp only[VV,seval];refine aO (.inr rfl) (by simp only[RS,seval];rfl) ⟨?_,rfl⟩;have e:Lib.itoa (n:Int)=Lib.decDigits n:=by unfold Lib.itoa;rw[an (by omega)];rfl
 rw[e];rfl
def uX:∀c:UInt8,((((c.toNat:Int)==92||(c.toNat:Int)==60)||(c.toNat:Int)==123)=true->du c=[92,c]) /\
  ((((c.toNat:Int)==92||(c.toNat:Int)==60)||(c.toNat:Int)==123)=false->(((c.toNat:Int)==10)=true->du c=[92,110]) /\
  (((c.toNat:Int)==10)=false->(((c.toNat:Int)==9)=true->du c=[92,116]) /\
  (((c.toNat:Int)==9)=false->(((c.toNat:Int)==13||ei c==1)=true->du c=[92,120,gn (c.toNat / 16),gn (c.toNat % 16)]) /\
  (((c.toNat:Int)==13||ei c==1)=false->du c=[c])))):=eP (by decide +kernel)
def JR:∀c:UInt8,(0<=IntKind.u8.wrap ((c.toNat:Int).tdiv 16)/\IntKind.u8.wrap ((c.toNat:Int).tdiv 16)<((16:Nat):Int))/\(0<=(c.toNat:Int).tmod 16/\(c.toNat:Int).tmod 16<((16:Nat):Int)) /\
  ([48,49,50,51,52,53,54,55,56,57,97,98,99,100,101,102]:aG).getD (IntKind.u8.wrap ((c.toNat:Int).tdiv 16)).toNat 0=gn (c.toNat / 16) /\
  ([48,49,50,51,52,53,54,55,56,57,97,98,99,100,101,102]:aG).getD ((c.toNat:Int).tmod 16).toNat 0=gn (c.toNat % 16):=eP (by decide +kernel)
def mI(c:UInt8)(J:ak):bM prog 164 [.i .u8 c.toNat] J (.s (du c)):=by
 refine aZ func164 QL.2 λo n=>au ?_;obtain⟨h,f⟩:=uX c;simp only[QL,SS,seval];simp only[VV,seval];refine⟨λa=>⟨by decide,?_⟩,λa=>⟨λb=>?_,λb=>⟨λd=>?_,λd=>?_⟩⟩⟩
 .exact aO (.inr rfl) (by simp only[RS,seval];rfl) ⟨by rw[h a];rfl,rfl⟩
 .exact aO (.inr rfl) (by simp only[RS,seval];rfl) ⟨by rw[(f a).1 b];rfl,rfl⟩
 .exact aO (.inr rfl) (by simp only[RS,seval];rfl) ⟨by rw[((f a).2 b).1 d];rfl,rfl⟩
 .have g:=((f a).2 b).2 d;refine bB (by simp only[VV,seval]<;>rfl) (λ_=>kF c _) rfl ?_;simp only[VV,Int.reduceBEq,Int.reduceBNe,Nat.reduceAdd,Nat.reduceSub,Nat.reduceLeDiff,Nat.reduceEqDiff,Int.reduceToNat,reduceIte,reduceCtorEq];obtain⟨m,l,k,j⟩:=JR c;refine⟨λe=>⟨by decide,m,by decide,l,by decide,?_⟩,λe=>?_⟩
  .refine aO (.inr rfl) (by simp only[RS,seval];rfl) ⟨?_,rfl⟩;rw[g.1 e,<- k,<- j];rfl
  .exact aO (.inr rfl) (by simp only[RS,seval];rfl) ⟨by rw[g.2 e];rfl,rfl⟩
def Q1(c:UInt8):((c.toNat:Int) != 62)=(c != 62):=by revert c;exact eP (by decide +kernel)
def ER(c:UInt8):(decide (48<=(c.toNat:Int))&&decide ((c.toNat:Int)<=57))=cQ c:=by revert c;exact eP (by decide +kernel)
def A4{pre:aG}{c:UInt8}(a:∀c∈pre,cQ c=true)(d:pre.length<=4)(b:cQ c=true):
  IntKind.i64.wrap (IntKind.i64.wrap (10*cR 0 pre)+IntKind.i64.wrap (IntKind.u8.wrap ((c.toNat:Int) - 48)))=cR 0 (pre++[c]):=by
 have h:=zK pre 0 pre.length rfl (bY.2 a) (dJ 0)
 have g:(10:Int)^pre.length<=10^4:=by
  have:pre.length=0\/pre.length=1\/pre.length=2\/pre.length=3\/pre.length=4:=by omega
  rcases this with h|h|h|h|h<;>rw[h]<;>decide
 simp only[cQ,aJ,aV]at b;have e:IntKind.u8.wrap ((c.toNat:Int) - 48)=(c.toNat:Int) - 48:=IntWalk.u8_in _ (by omega);have f:cR 0 pre<10000:=by omega
 rw[e,IntWalk.i64_in (10*cR 0 pre) (by omega),IntWalk.i64_in ((c.toNat:Int) - 48) (by omega),IntWalk.i64_in _ (by omega)];simp[cR]
def uZ{pre rest:aG}(a:∀c∈pre,cQ c=true):((pre++rest).takeWhile cQ).length=pre.length+(rest.takeWhile cQ).length:=by
 rw[Bi a,aj]
set_option maxRecDepth 4000 in
def yi{n:Nat}{J:ak}{K:bl}(A:V)(s:aG)(b:s.length<2^62):∀(rest pre:aG),s=pre++rest ->
  (((fh (.s s) (fj 1 (fh (A) (fj 1 (fh (.I ((pre.length+(rest.takeWhile λc=>c != 62).length:Nat):Int)) (fj 134 fo)))))) λj=>K (.exit 0) ⟨j,J⟩)) ->
  fm n prog rO K (rest.length+1) ⟨(.s s::uu 1 (A::uu 1 (.I pre.length::uu 134 []))),J⟩:=by
 intro rest
 induction rest with
 |nil =>
  intro pre d a;have d:=cN d
  subst d;have e:decide ((s.length:Int)<(s.length:Int))=false:=by simp
  simp only[qV,al,de]at a;refine ar λR i=>?_;simp only[rO,e,VV,seval];exact⟨nofun,a ..⟩
 |cons c rest ih =>
  intro pre d a;subst d;have e:decide ((pre.length:Int)<((pre++c::rest).length:Int))=true:=by simp;omega
  refine ar λR i=>?_;simp only[rO,e,VV,seval];refine⟨by simp;omega,λg=>?_,λg=>?_⟩
  .have f:(c != 62)=true:=by rw[<- Q1];exact g
   have h:pre.length+((c::rest).takeWhile λc=>c != 62).length=(pre++[c]).length+(rest.takeWhile λc=>c != 62).length:=by
    rw[cy,az f];simp;omega
   rw[h]at a;refine i _ (aK ?_ (ih (pre++[c]) (by simp) a));rw[cm (by simp at b;omega)];simp only[aj,ai,al]
   repeat' constructor
  .have f:¬(c != 62)=true:=by rw[<- Q1,g];simp
   have h:pre.length+((c::rest).takeWhile λc=>c != 62).length=pre.length:=by
    rw[cy,an f];simp
   rw[h]at a;exact a ..
set_option maxRecDepth 4000 in
def yh{n:Nat}{J:ak}{K:bl}(A B C:V)(t:aG)(o:t.length<2^62):∀(m:Nat) (pre rest:aG),t=pre++rest->pre.length+m=4->(∀c∈pre,cQ c=true) ->
  (∀k:Nat,k=min 4 (t.takeWhile cQ).length->((fj 2 (fh (A) (fj 1 (fh (B) (fh (.s t) (fh (C) (fh (.I (cR 0 (t.take k))) (fh (.I k) (fj 130 fo))))))))) λp=>K (.exit 2) ⟨p,J⟩)) ->
  fm n prog oZ K (m+1) ⟨(uu 2 (A::uu 1 (B::.s t::C::.I (cR 0 pre)::.I pre.length::uu 130 []))),J⟩:=by
 intro m
 induction m with
 |zero =>
  intro pre rest j q b a;subst j;have e:decide ((pre.length:Int)<4)=false:=by simp;omega
  refine ar λR l=>?_;simp only[oZ,e,VV,seval];have:=a pre.length (by rw[uZ b];omega);rw[jT]at this;exact⟨nofun,nofun,this ..⟩
 |succ m ih =>
  intro pre rest j q b a;subst j;have e:decide ((pre.length:Int)<4)=true:=by simp;omega
  cases rest with
  |nil =>
   have g:decide ((pre.length:Int)<(pre.length:Int))=false:=by simp
   have h:=a pre.length (by rw[uZ b];simp;omega);rw[jT]at h;clear a ih;simp only[bL]at h |-;refine ar λR l=>?_;simp only[oZ,g,e,VV,seval];exact⟨nofun,nofun,h ..⟩
  |cons c rest =>
   have g:decide ((pre.length:Int)<((pre++c::rest).length:Int))=true:=by simp;omega
   refine ar λR l=>?_;simp only[oZ,g,e,VV,seval];have i:(0:Int)<=(pre.length:Int)/\(pre.length:Int)<((pre++c::rest).length:Int):=by simp;omega
   rw[ER];refine⟨i,λ_=>i,λf=>⟨i,?_⟩,λf=>?_⟩
   .rw[A4 b (by omega) f]
    refine l _ (aK ?_ (ih (pre++[c]) rest (by simp) (by simp;omega) (by
     intro x d;rcases bP.1 d with d|d
     .exact b x d
     .simp only[bC,gw,s8]at d;subst d;exact f) a))
    rw[cm (by omega)];simp only[aj,ai,al]
    repeat' constructor
   .have:=a pre.length (by rw[uZ b,cy,an (by rw[f];simp)];simp;omega);rw[jT]at this;exact this ..
def AR(c:UInt8):∀l:aG,Lib.indexByte l c=if(l.takeWhile λx=>x != c).length<l.length then((l.takeWhile λx=>x != c).length:Int)else -1
 |[]=>by simp[Lib.indexByte]
 |a::l=>by
  by_cases f:a=c
  .subst f;simp[Lib.indexByte]
  .have g:(a==c)=false:=by simpa using f
   have d:(a != c)=true:=by simpa using f
   have ih:=AR c l;simp only[Lib.indexByte,g,aI,aS,cy,d,aT,ai];generalize (l.takeWhile λx=>x != c).length=b at ih
   by_cases h:b<l.length
   .rw[az h]at ih;have e:((b:Int) == -1)=false:=by rw[di];omega
    rw[ih,az (show b+1<l.length+1 by omega),e];rfl
   .rw[an h]at ih;rw[ih,an (show ¬b+1<l.length+1 by omega)];rfl
def vd(rest:aG):eW (60::rest)=if(rest.takeWhile λx=>x != 62).length<rest.length then
  (if(rC (rest.take (rest.takeWhile λx=>x != 62).length)).2=true then((rC (rest.take (rest.takeWhile λx=>x != 62).length)).1,((rest.takeWhile λx=>x != 62).length:Int)+2)else(gH,0))else(gH,0):=by
 have a:=AR 62 (60::rest);simp only[cy,show((60:UInt8) != 62)=true from rfl,aT,ai]at a;rw[xW rfl]
 by_cases h:(rest.takeWhile λx=>x != 62).length<rest.length
 .rw[az (by omega)]at a;rw[a,az h,an (by omega)]
  have e:((60::rest).take (((rest.takeWhile λx=>x != 62).length+1:Nat):Int).toNat).drop 1=rest.take (rest.takeWhile λx=>x != 62).length:=by
   rw[ao,dt];rfl
  rw[e];congr 2
 .rw[an (by omega)]at a;rw[a,an h,az (by decide)]
def u47(a:UInt8):((a.toNat:Int)==47)=(a==47):=by revert a;exact eP (by decide +kernel)
def u48(a:UInt8):((a.toNat:Int)==48)=(a==48):=by revert a;exact eP (by decide +kernel)
def u58(a:UInt8):((a.toNat:Int) != 58)=(a != 58):=by revert a;exact eP (by decide +kernel)
def Qq{t:aG}(h:t≠[]):aws t [47]=(((t.getD 0 0).toNat:Int)==47):=by
 cases t with
 |nil=>exact absurd rfl h
 |cons a t=>rw[u47];simp[aws]
def PR{t:aG}(h:t≠[]):awt t [47]=(((t.getD (t.length - 1) 0).toNat:Int)==47):=by
 rcases dn t with b|⟨c,a,b⟩
 .exact absurd b h
 .rw[da]at b;subst b;rw[u47,gr];simp[aq]
set_option maxRecDepth 8000 in
def rH(s:aG)(h0:s.getD 0 0=60)(l:s.length<2^62)(J:ak):bM prog 163 [.s s] J (.iQ [.agg (eW s).1.awa,.I (eW s).2]):=by
 obtain⟨d,rfl⟩:∃d,s=60::d:=by
  cases s with
  |nil=>simp at h0
  |cons a r=>simp only[aA]at h0;exact⟨r,by rw[h0]⟩
 refine aZ func163 QM.2 λp X=>?_;simp only[QM,SS,seval];refine bZ.cut λR g=>?_;simp only[VV,seval];refine g _ (bZ.fg (fr':=(.s (60::d)::uu 1 (.ptr J.length 0::uu 136 []))) ?_ (by repeat' constructor));clear g R;refine bZ.cut λR g=>?_;simp only[VV,seval];refine g _ (bZ.fg (fr':=(.s (60::d)::uu 1 (.ptr J.length 0::uu 1 (.I ((1:Nat):Int)::uu 134 [])))) ?_ (by repeat' constructor));clear g R;refine bZ.cut λR g=>?_;simp only[VV,seval];have n:=vd d;refine bZ.aK ?_ (d.length+1) (yi (.ptr J.length 0) (60::d) l d [60] rfl ?_)
 .simp only[ai,al]
  repeat' constructor
 generalize M:(d.takeWhile λx=>x != 62).length=e at n;have V:e<=d.length:=by rw[<- M];exact(LZ _).length_le
 simp only[JE];intros;simp only[ai,al,aY,VV,seval];refine g _ (bZ.fg (fr':=(.s (60::d)::uu 1 (.ptr J.length 0::uu 1 (.I ((1+e:Nat):Int)::uu 134 [])))) ?_ (by repeat' constructor));clear g R;refine bZ.cut λR g=>?_;simp only[ai,VV,seval];refine⟨λh=>?_,λh=>?_⟩
 .have h:¬e<d.length:=by simp at h;omega
  rw[an h]at n;refine bg p (.inr rfl) (by simp only[RS,seval];rfl) (by simp[LW]) ⟨?_,rfl⟩;rw[n];rfl
 have h:e<d.length:=by simp at h;omega
 rw[az h]at n;refine g _ (bZ.fg (fr':=(.s (60::d)::uu 1 (.ptr J.length 0::uu 1 (.I ((1+e:Nat):Int)::uu 134 [])))) ?_ (by repeat' constructor));clear g R;generalize B:d.take e=t at n;have H:t.length<2^62:=by rw[<- B,aP];simp at l;omega
 refine bZ.cut λR g=>?_;simp only[ai,VV,seval];refine⟨by omega,?_⟩;have L:List.take (1+e - 1) d=t:=by rw[<- B];congr 1;omega
 rw[L];refine g _ (bZ.fg (fr':=(uu 2 (.ptr J.length 0::uu 1 (.I ((1+e:Nat):Int)::.s t::.I 2::uu 132 [])))) ?_ (by repeat' constructor));clear g R;refine bZ.cut λR g=>?_
 have j:∀(f:Int) (u:aG),u.length<2^62->eW (60::d)=(if(kV f u).2=true then((kV f u).1,(e:Int)+2)else(gH,0))->(f=2\/f=3\/f=4) ->
   ∀{o:aB},oJ o (uu 2 (.ptr J.length 0::uu 1 (.I ((1+e:Nat):Int)::.s u::.I f::uu 132 [])))->R ⟨o,J++[.box 61 [.I 0,.s [],.I 0]]⟩:=by
  intro f u G w Y o C;refine g _ (bZ.fg ?_ C);clear g R;refine bZ.cut λR g=>?_;simp only[VV,seval];refine g _ (bZ.fg (fr':=(uu 2 (.ptr J.length 0::uu 1 (.I ((1+e:Nat):Int)::.s u::.I f::.I (cR 0 [])::.I (([]:aG).length:Nat)::uu 130 [])))) ?_ (by repeat' constructor));clear g R;refine bZ.cut λR g=>?_;simp only[VV,seval];refine bZ.aK ?_ 5 (yh (.ptr J.length 0) (.I ((1+e:Nat):Int)) (.I f) u G 4 [] u rfl rfl (by simp) ?_)
  .repeat' constructor
  intro k U;simp only[JE];intros;simp only[VV,seval];refine g _ (bZ.fg (fr':=(uu 2 (.ptr J.length 0::uu 1 (.I ((1+e:Nat):Int)::.s u::.I f::.I (cR 0 (u.take k))::.I k::uu 130 [])))) ?_ (by repeat' constructor));clear g R
  have m:kV f u=if k=0\/u.length<=k\/u.getD 0 0=48\/999<cR 0 (u.take k)\/u.getD k 0≠58 then(gH,false)else
    if(f=3/\awj (u.drop (k+1))=false)\/(f≠3/\cV (u.drop (k+1))=false)then(gH,false)else(⟨f,u.drop (k+1),cR 0 (u.take k)⟩,true):=by rw[U];rfl
  refine bZ.cut λR g=>?_;simp only[ao,VV,seval]
  have O:(((((k:Int)==0||decide ((u.length:Int)<=(k:Int)))||((u.getD 0 0).toNat:Int)==48)||decide (999<cR 0 (u.take k)))||((u.getD k 0).toNat:Int) != 58)=decide (k=0\/u.length<=k\/u.getD 0 0=48\/999<cR 0 (u.take k)\/u.getD k 0≠58):=by
   rw[u48,u58,cB];simp[or_assoc]
  rw[O];refine⟨λh=>by simp at h;omega,λh=>by simp at h;omega,λh=>?_,λh=>?_⟩
  .rw[az (by simpa using h)]at m;refine bg p (.inr rfl) (by simp only[RS,seval];rfl) (by simp[LW]) ⟨?_,rfl⟩;rw[w,m];rfl
  have h:=UD h;rw[an h]at m;simp only[uy]at h;refine g _ (bZ.fg (fr':=(uu 2 (.ptr J.length 0::uu 1 (.I ((1+e:Nat):Int)::.s u::.I f::.I (cR 0 (u.take k))::.I k::uu 130 [])))) ?_ (by repeat' constructor));clear g R;have K:IntKind.i64.wrap ((k:Int)+1)=((k+1:Nat):Int):=by rw[IntWalk.i64_in _ (by omega)];omega
  refine bZ.cut λR g=>?_;simp only[K,ao,VV,seval];have P:List.take (u.length - (k+1)) (List.drop (k+1) u)=u.drop (k+1):=bW (by simp);rw[P];refine⟨by omega,?_⟩;refine g _ (bZ.fg (fr':=(uu 2 (.ptr J.length 0::uu 1 (.I ((1+e:Nat):Int)::uu 1 (.I f::uu 2 (.ptr (J.length+1) 0::uu 129 [])))))) ?_ (by repeat' constructor));clear g R;have T:IntKind.i64.wrap (((1+e:Nat):Int)+1)=(e:Int)+2:=by rw[IntWalk.i64_in _ (by simp at l;omega)];omega
  refine bZ.cut λR g=>?_
  have y:∀{o:aB},eW (60::d)=(⟨f,u.drop (k+1),cR 0 (u.take k)⟩,(e:Int)+2)->oJ o (uu 2 (.ptr J.length 0::uu 1 (.I ((1+e:Nat):Int)::uu 4 (.ptr (J.length+1) 0::uu 129 [])))) ->
    R ⟨o,J++[.box 61 [.I 0,.s [],.I 0],.box 61 [.I f,.s (u.drop (k+1)),.I (cR 0 (u.take k))]]⟩:=by
   intro o Q C;refine g _ (bZ.fg ?_ C);clear g R;refine au ?_;simp only[T,VV,seval];refine bg p (.inr rfl) (by simp only[RS,seval];rfl) (by simp[LW]) ⟨?_,rfl⟩;rw[Q];rfl
  by_cases q:f=3
  .subst q;simp only[VV,seval];refine bB (by simp only[VV,seval]<;>rfl) (λ_=>fY _ _) rfl ?_;simp only[VV,seval];refine bB (c:=false) (v:=.b false) (by simp only[VV,seval]<;>simp) (nofun) rfl ?_;simp only[VV,seval];refine⟨λi=>?_,λi=>?_⟩
   .have i:awj (u.drop (k+1))=false:=by rw[dm]at i;exact i
    rw[az (.inl ⟨rfl,i⟩)]at m;refine bg p (.inr rfl) (by simp only[RS,seval];rfl) (by simp[LW]) ⟨?_,rfl⟩;rw[w,m];rfl
   .have i:awj (u.drop (k+1))=true:=by rw[dQ]at i;exact i
    rw[an (by simp only[i];simp)]at m;exact y (by rw[w,m];rfl) (by repeat' constructor)
  .have E:(f==3)=false:=by simpa using q
   have z:(f != 3)=true:=by simpa using q
   simp only[E,z,VV,seval];refine bB (c:=false) (v:=.b false) (by simp only[VV,seval]<;>rfl) (nofun) rfl ?_;simp only[E,z,VV,seval];refine bB (by simp only[VV,seval]<;>rfl) (λ_=>jj _ _) rfl ?_;simp only[VV,seval];refine⟨λi=>?_,λi=>?_⟩
   .have i:cV (u.drop (k+1))=false:=by rw[dm]at i;exact i
    rw[az (.inr ⟨q,i⟩)]at m;refine bg p (.inr rfl) (by simp only[RS,seval];rfl) (by simp[LW]) ⟨?_,rfl⟩;rw[w,m];rfl
   .have i:cV (u.drop (k+1))=true:=by rw[dQ]at i;exact i
    rw[an (by simp only[i,q];simp)]at m;exact y (by rw[w,m];rfl) (by repeat' constructor)
 simp only[VV,seval];have S:t.length<=d.length:=by rw[<- B,aP];omega
 by_cases A:t=[]
 .subst A;refine⟨nofun,nofun,λ_=>⟨nofun,nofun,λ_=>j 2 [] (by simp) ?_ (.inl rfl) ?_⟩⟩
  .exact n
  .repeat' constructor
 have W:0<t.length:=cT.2 A;have F:IntKind.i64.wrap ((t.length:Int) - 1)=((t.length - 1:Nat):Int):=by rw[IntWalk.i64_in _ (by omega)];omega
 have N:decide ((0:Int)<(t.length:Int))=true:=by simp;omega
 have D:List.take (t.length - 1) (List.drop 1 t)=t.drop 1:=bW (by simp);simp only[F,N,D,ao,cc,<- Qq A,<- PR A];refine⟨λ_=>by omega,λh=>⟨by omega,j 3 (t.drop 1) (by simp;omega) ?_ (.inr (.inl rfl)) ?_⟩,λh=>⟨λ_=>by omega,λi=>⟨by omega,j 4 (t.take (t.length - 1)) (by simp;omega) ?_ (.inr (.inr rfl)) ?_⟩,λi=>j 2 t H ?_ (.inl rfl) ?_⟩⟩
 .rw[n];simp only[rC,h,aT]
 .repeat' constructor
 .rw[n];simp only[rC,h,i,aI,aS,aT]
 .repeat' constructor
 .rw[n];simp only[rC,h,i,aI,aS]
 .repeat' constructor
def rA(s:aG)(k:Nat):Prop:=s.getD k 0=125/\awj ((s.take k).drop 1)=true
def Ze(a:UInt8):((a.toNat:Int)==125)=(a==125):=by revert a;exact eP (by decide +kernel)
def yk{J:ak}{K:bl}(s:aG)(u:s.length<2^62):∀(m k:Nat),k+m=26->1<=k->(∀j,1<=j->j<k->j<s.length->¬rA s j) ->
  ((∀j,1<=j->j<s.length->j<=25->¬rA s j)->((fj 2 (fh (.ptr J.length 0) (fj 71 fo))) λq=>K (.exit 1) ⟨q,J++[.box 61 [.I 0,.s [],.I 0]]⟩)) ->
  (∀k:Nat,1<=k->k<s.length->rA s k->((fj 2 (fh (.ptr J.length 0) (fh (.I ((k+1:Nat):Int)) (fj 70 fo)))) λq=>K .ret ⟨q,J++[.box 61 [.I 5,.s ((s.take k).drop 1),.I 0]]⟩)) ->
  fm J.length prog o8 K (m+1) ⟨(.s s::uu 1 (.ptr J.length 0::uu 1 (.I k::uu 69 []))),J++[.box 61 [.I 0,.s [],.I 0]]⟩:=by
 intro m
 induction m with
 |zero =>
  intro k v t c e l;have d:decide ((k:Int)<=25)=false:=by simp;omega
  refine ar λR p=>?_;simp only[o8,d,gB,VV,seval];exact e (λj b f n=>c j b (by omega) f) ..
 |succ m ih =>
  intro k v t c e l;have d:decide ((k:Int)<=25)=true:=by simp;omega
  have g:IntKind.i64.wrap ((k:Int)+1)=((k+1:Nat):Int):=by rw[IntWalk.i64_in _ (by omega)];omega
  by_cases o:k<s.length
  .have i:decide ((k:Int)<(s.length:Int))=true:=by simp;omega
   refine ar λR p=>?_;have a:List.take (k - 1) (List.drop 1 s)=(s.take k).drop 1:=by rw[Da]
   simp only[o8,i,d,g,ao,a,VV,seval];refine⟨by omega,λ_=>by omega,bB (by simp only[VV,seval]<;>rfl) (λ_=>fY _ _) rfl ?_⟩;simp only[g,a,Ze,ao,VV,seval];refine⟨λh=>⟨by omega,?_⟩,λh=>?_⟩
   .exact l k t o (by simpa[rA]using h) ..
   .refine p _ (aK ?_ (ih (k+1) (by omega) (by omega) (λj b f n=>?_) e l))
    .repeat' constructor
    .by_cases w:j=k
     .subst w;intro r;rw[r.1,r.2]at h;simp at h
     .exact c j b (by omega) n
  .have i:decide ((k:Int)<(s.length:Int))=false:=by simp;omega
   refine ar λR p=>?_;simp only[o8,i,d,g,ao,VV,seval];exact e (λj b f n=>c j b (by omega) f) ..
def yj{J:ak}{K:bl}(s:aG)(l:s.length<2^62):∀(m c:Nat),c+m=256->(∀j,j<c->aws s (du (UInt8.ofNat j))=false) ->
  ((∀j,j<256->aws s (du (UInt8.ofNat j))=false)->((fj 2 (fh (.ptr J.length 0) (fj 71 fo))) λe=>K (.exit 3) ⟨e,J++[.box 61 [.I 0,.s [],.I 0]]⟩)) ->
  (∀b:UInt8,aws s (du b)=true->((fj 2 (fh (.ptr J.length 0) (fh (.I (du b).length) (fj 70 fo)))) λe=>K .ret ⟨e,J++[.box 61 [.I 1,.s [b],.I 0]]⟩)) ->
  fm J.length prog rT K (m+1) ⟨(.s s::uu 1 (.ptr J.length 0::uu 2 (.I c::uu 68 []))),J++[.box 61 [.I 0,.s [],.I 0]]⟩:=by
 intro m
 induction m with
 |zero =>
  intro c i d f a;have i:c=256:=by omega
  subst i;refine ar λR o=>?_;simp only[rT,VV,seval];exact⟨nofun,λ_=>f d ..⟩
 |succ m ih =>
  intro c i d f a;have n:IntKind.i64.wrap ((c:Int)+1)=((c+1:Nat):Int):=by rw[IntWalk.i64_in _ (by omega)];omega
  have k:IntKind.u8.wrap (c:Int)=((UInt8.ofNat c).toNat:Int):=by rw[IntWalk.u8_in _ (by omega)];simp;omega
  have p:decide ((c:Int)<256)=true:=by simp;omega
  refine ar λR o=>?_;simp only[rT,p,k,n,VV,seval];refine aw (mI (UInt8.ofNat c) _) rfl ?_;simp only[k,n,ao,VV,seval]
  have q:(decide (((du (UInt8.ofNat c)).length:Int)<=(s.length:Int))&&List.take (du (UInt8.ofNat c)).length s==du (UInt8.ofNat c))=aws s (du (UInt8.ofNat c)):=by
   simp only[aws,KW]
  rw[q];refine⟨λh=>by simp at h;omega,λh=>a _ h ..,λh=>?_⟩;refine o _ (aK ?_ (ih (c+1) (by omega) (λj r=>?_) f a))
  .repeat' constructor
  .by_cases g:j=c
   .subst g;exact h
   .exact d j (by omega)
def xZ(s:aG)(q:s≠[])(d:s.length<2^62)(J:ak):bM prog 104 [.s s] J (.iQ [.agg (eW s).1.awa,.I (eW s).2]):=by
 refine aZ func104 QV.2 λg v=>au ?_;have w:0<s.length:=cT.2 q
 have e:(((s.getD 0 0).toNat:Int)==123)=(s.getD 0 0==123):=by
  generalize s.getD 0 0=a;revert a;exact eP (by decide +kernel)
 have i:(((s.getD 0 0).toNat:Int)==60)=(s.getD 0 0==60):=by
  generalize s.getD 0 0=a;revert a;exact eP (by decide +kernel)
 have f:(0:Int)<=0/\(0:Int)<(s.length:Int):=by omega
 simp only[QV,SS,seval]
 by_cases h:s.getD 0 0=123
 .have m:(s.getD 0 0==123)=true:=by simpa using h
  simp only[e,m,VV,seval,-Int.reduceLE];refine⟨f,?_⟩;refine bZ.aK ?_ 26 (yk s d 25 1 rfl (aD _) (λj x z=>by omega) (λn=>?_) (λk r u p=>?_))
  .simp only[afM]
   repeat' constructor
  .simp only[JE];intros;simp only[VV,seval];refine bg g (.inr rfl) (by simp only[RS,seval];rfl) (by simp[LW]) ⟨?_,rfl⟩;rw[rD h n];rfl
  .simp only[JE];intros;simp only[VV,seval];refine bg g (.inr rfl) (by simp only[RS,seval];rfl) (by simp[LW]) ⟨?_,rfl⟩;rw[u9 h r u p.1 p.2];rfl
 have m:(s.getD 0 0==123)=false:=by simpa using h
 by_cases l:s.getD 0 0=60
 .have o:(s.getD 0 0==60)=true:=by simpa using l
  simp only[e,i,m,o,VV,seval,-Int.reduceLE];refine⟨f,f,?_⟩;refine aw (rH s l d _) rfl ?_;simp only[It.awa,VV,seval];refine bg g (.inr rfl) (by simp only[RS,seval];rfl) (by simp[LW]) ⟨?_,rfl⟩;rfl
 .have o:(s.getD 0 0==60)=false:=by simpa using l
  simp only[e,i,m,o,VV,seval,-Int.reduceLE];refine⟨f,f,?_⟩;refine bZ.aK ?_ 257 (yj s d 256 0 rfl (λj y=>by omega) (λn=>?_) (λb t=>?_))
  .simp only[ey]
   repeat' constructor
  .simp only[JE];intros;simp only[VV,seval];refine bg g (.inr rfl) (by simp only[RS,seval];rfl) (by simp[LW]) ⟨?_,rfl⟩
   rw[vf q l h (λc=>by
    have:=n c.toNat c.toNat_lt
    rwa [Fg]at this)]
   rfl
  .simp only[JE];intros;simp only[VV,seval];refine bg g (.inr rfl) (by simp only[RS,seval];rfl) (by simp[LW]) ⟨?_,rfl⟩;rw[vg t];rfl
end Go.Proofs.Tryz
