/- A part of a proof; the claim's last text says of what. -/
import Derived.Test.YtlakkaamfadipaaGreatDoorM21
set_option linter.all false
open Option renaming some->N,none->Y
open Bool renaming true->A,false->Z
open List renaming length->F

namespace Go.Bt
open Go Go.Pm
variable(B:bG)(l:List It)(i:Int)(Q:aJ)(D:It)(v:ei){P:Int}{S:It}{h:List CQ}{X R:List It}{q:Nat}{J:Option It}{L:UInt8}{U:aJ}{C:bG}
def jE:It×Int:=if(bz Q).2.2=A then((bz Q).1,(bz Q).2.1)else(mG,0)
def xR(h:(bz U).2.2=Z):jE U=(mG,0):=by simp[jE,h]
def sV:It×Bool :=
 let k:=min 4 (F (Q.takeWhile dZ))
 if k=0\/F Q<=k\/Q.getD 0 0=48\/999<dX 0 (Q.take k)\/Q.getD k 0≠58 then(mG,Z)else
 if(i=3/\apb (Q.drop (k+1))=Z)\/(i≠3/\dx (Q.drop (k+1))=Z)then(mG,Z)else(⟨i,Q.drop (k+1),dX 0 (Q.take k)⟩,A)
def Fm:It×Bool :=if apj Q [47]=A then sV 3 (Q.drop 1)else if hasSuffix Q [47]=A then sV 4 (Q.take (F Q - 1))else sV 2 Q
def Ik(b:aJ)(cut:Bool):It×Bool :=if(cut&&(apd Q).2)=A then(if(if i=3 then apb b else dx b)=A then(⟨i,b,(apd Q).1⟩,A)else(mG,Z))else(mG,Z)
def De{b:aJ}(h:∀c∈U,dZ c=A):(U++58::b).takeWhile dZ=U:=by induction U with|nil=>simp[show dZ 58=Z by decide]|cons x U ih =>have d:dZ x=A:=h x (by simp);simp[d,ih λc a=>h c (by simp[a])]
def AT{n:Nat}{t:aJ}(h:n<=F (t.takeWhile dZ)):∀c∈t.take n,dZ c=A:=by
 intro c a
 have e:t.take n=(t.takeWhile dZ).take n:=by
  have:=List.takeWhile_append_dropWhile (p:=dZ) (l:=t)
  conv=>lhs;rw[<- this]
  rw[dO h]
 rw[e]at a;have b:=dv a;exact cv.1 (List.all_takeWhile (p:=dZ) (l:=t)) c b
def Tz{b c d:UInt8}{r:aJ}(g:dZ L=A)(a:L≠48)(h:dZ b=A)(i:dZ c=A)(f:dZ d=A):999<dX 0 [L,b,c,d]:=by simp only[dZ,aP,a7]at g h i f;have:L.toNat≠48:=λe=>a (C4.1 e);simp only[dX,dK,vE];omega
def sU(t:aJ):sV i t=Ik i (cutAt t 58).1 (cutAt t 58).2.1 (cutAt t 58).2.2:=by
 by_cases q:((cutAt t 58).2.2&&(apd (cutAt t 58).1).2)=A
 .have p:=q;simp only[aP]at p;obtain⟨S,T,K⟩:=oa p.2;have f:=ni p.1;generalize V:(cutAt t 58).1=a at *;generalize o:(cutAt t 58).2.1=b at *;have y:=Sh (apd a).1 ⟨T,K⟩;rw[<- S]at y;have v:=p.2;simp only[apd]at v
  by_cases g:F a<1\/3<F a\/a.getD 0 0=48
  .rw[aK g]at v;simp at v
  .have e:a.all dZ=A:=cv.2 y.2.1;have B:(apd a).1=dX 0 a:=by simp only[apd,au g,e,aU]
   have D:min 4 (F (t.takeWhile dZ))=F a:=by rw[f,De y.2.1];omega
   have I:t.take (F a)=a:=by rw[f];simp
   have H:t.drop (F a+1)=b:=by rw[f];simp
   have Q:¬F t<=F a:=by rw[f];simp
   have J:t.getD 0 0=a.getD 0 0:=by
    rw[f];cases a with
    |nil=>simp at g
    |cons x a=>rfl
   have z:t.getD (F a) 0=58:=by rw[f];simp[aq]
   simp only[sV,Ik,q,aU,D,I,H,J,z]
   rw[au (by
    simp only[T8]at g |-;exact⟨by omega,Q,g.2.2,by rw[<- B];omega,by simp⟩)]
   by_cases l:i=3
   .simp only[l,gL,aU,fJ,gm,false_and,vA,B]
    by_cases o:apb b=A<;>simp[o]
   .simp only[l,false_and,aQ,fJ,dG,gL,qb,B]
    by_cases o:dx b=A<;>simp[o]
 .simp only[Ik,au q,sV];refine aK ?_;apply bC;intro E;apply q;simp only[T8,Int.not_lt,Nat.not_le,Decidable.not_not]at E;obtain⟨U,u,s,w,G⟩:=E;generalize D:min 4 (F (t.takeWhile dZ))=k at *;have e:=AT (n:=k) (t:=t) (by omega)
  have f:t=t.take k++58::t.drop (k+1):=by
   conv=>lhs;rw[<- List.take_append_drop k t]
   congr 1;rw[cX u];congr 1;rw[aq,an u]at G;simpa using G
  have O:(58:UInt8) ∉ t.take k:=λR=>absurd (e _ R) (by decide)
  have C:cutAt t 58=(t.take k,t.drop (k+1),A):=by
   conv=>lhs;rw[f]
   exact Jv O
  rw[C];have j:F (t.take k)=k:=by rw[bB];omega
  have L:(t.take k).getD 0 0=t.getD 0 0:=by
   cases t with
   |nil=>simp
   |cons x t =>
    obtain⟨m,rfl⟩:∃m,k=m+1:=⟨k - 1,by omega⟩;rfl
  have P:k<=3:=by
   apply bC;intro h;have M:k=4:=by omega
   subst M
   match t,u,e,s,w with
   |a::b::c::d::r,_,e,s,w =>
    have:=Tz (r:=r) (e a (by simp)) (by simpa using s) (e b (by simp)) (e c (by simp)) (e d (by simp));simp only[iw,qe]at w;omega
   |[],h,_,_,_=>simp at h
   |[_],h,_,_,_=>simp at h
   |[_,_],h,_,_,_=>simp at h
   |[_,_,_],h,_,_,_=>simp at h
  simp only[cY,apd];rw[au (by rw[j,L];simp only[T8];exact⟨by omega,by omega,s⟩),aK (cv.2 e)]
def RB(p:It×Bool):It×Bool:=if p.2=A then p else(mG,Z)
def x9(b:aJ)(cut:Bool): RB (if(cut&&(apd Q).2)=A then(⟨i,b,(apd Q).1⟩,if i=3 then apb b else dx b)else(⟨0,[],0⟩,Z))=Ik i Q b cut:=by
 simp only[Ik];by_cases a:(cut&&(apd Q).2)=A;.rw[aK a,aK a];simp only[RB];generalize (if i=3 then apb b else dx b)=X;cases X<;>rfl
 rw[au a,au a];rfl
def ml{c:UInt8}:hasSuffix (U++[L]) [c]=(L==c):=by simp[hasSuffix]
def DH{b:aJ}:hasSuffix (U++58::b) [47]=hasSuffix b [47]:=by
 rcases fR b with a|⟨c,x,a⟩;.subst a;rw[ml];rfl
 rw[fg]at a;subst a;rw[ml,show U++58::(c++[x])=(U++58::c)++[x]by simp,ml]
def vo(h:L ∉ U):cutAt U L=(U,[],Z):=by simp only[cutAt,tc h];rfl
def P9(h:L∈U):(cutAt U L).2.2=A:=by simp only[cutAt];rw[aK (oS h)]
def sg{c:UInt8}:∀{s:aJ},c ∉ s.take (Lib.indexByte s c).toNat
 |[]=>by simp
 |a::s=>by
  by_cases d:a=c;.subst d;simp[Lib.indexByte]
  have f:(a==c)=Z:=by simpa using d
  have h:=pY c s;simp only[Lib.indexByte,f,aI,aQ];by_cases e:(Lib.indexByte s c == -1)=A;.rw[aK e];simp
  rw[au e];have i:Lib.indexByte s c ≠ -1:=by simpa using e
  have g:(Lib.indexByte s c+1).toNat=(Lib.indexByte s c).toNat+1:=by omega
  rw[g,iw];intro b;rcases bE.1 b with b|b;.exact d b.symm
  exact sg b
def GS(h:L∈U):L ∉ (cutAt U L).1:=by simp only[cutAt];rw[aK (oS h)];exact sg
def US:Fm Q=RB (ja Q):=by
 unfold Fm ja;dsimp only;cases s:apj Q [47]with
 |true =>
  simp only[aU,fL,eA,aI,aQ];rw[sU,<- x9];rfl
 |false =>
  simp only[aI,aQ,iq,cY]
  by_cases c:(58:UInt8)∈Q
  .have d:=P9 c;have j:=GS c;have g:=ni d;generalize p:(cutAt Q 58).1=a at *;generalize l:(cutAt Q 58).2.1=b at *;have o:hasSuffix Q [47]=hasSuffix b [47]:=by conv=>lhs;rw[g,DH]
   rw[o];cases q:hasSuffix b [47]with
   |true =>
    simp only[aU];have f:b≠[]:=by rintro rfl;simp[hasSuffix]at q
    have n:Q.take (F Q - 1)=a++58::b.take (F b - 1):=by
     have r:=dJ.2 f;rw[g];simp only[ai,ah];rw[List.take_append,cn (by omega)];have:F a+(F b+1) - 1 - F a=(F b - 1)+1:=by omega
     rw[this,iw]
    rw[sU,n,Jv j,<- x9,d]
   |false =>
    simp only[aI,aQ];rw[sU,p,l,d,<- x9]
  .have e:(58:UInt8) ∉ Q.take (F Q - 1):=λh=>c (dv h);have i:∀k,sV k Q=(mG,Z):=λk=>by rw[sU,vo c];rfl
   have m:sV 4 (Q.take (F Q - 1))=(mG,Z):=by rw[sU,vo e];rfl
   rw[vo c,i,m];simp[RB]
def Ol(h0:U.getD 0 0=60):jE U=if Lib.indexByte U 62<0 then(mG,0)else
  (if(Fm ((U.take (Lib.indexByte U 62).toNat).drop 1)).2=A then((Fm ((U.take (Lib.indexByte U 62).toNat).drop 1)).1,Lib.indexByte U 62+1)else(mG,0)):=by
 have e:bz U=if Lib.indexByte U 62<0 then(mG,0,Z)else((ja ((U.take (Lib.indexByte U 62).toNat).drop 1)).1,Lib.indexByte U 62+1,(ja ((U.take (Lib.indexByte U 62).toNat).drop 1)).2):=by simp only[bz,h0];rw[au (by decide),aK trivial]
 rw[jE,e];by_cases a:Lib.indexByte U 62<0;.simp[a]
 rw[au a,au a,US,RB];generalize ja ((U.take (Lib.indexByte U 62).toNat).drop 1)=p;obtain⟨x,b⟩:=p;cases b<;>rfl
def Ky(h:apj U (fa L)=A):jE U=(⟨1,[L],0⟩,(F (fa L):Int)):=by
 have e:U=fa L++U.drop (F (fa L)):=by
  simp only[apj,aP,a7,b9]at h
  conv=>lhs;rw[<- List.take_append_drop (F (fa L)) U,h.2]
 rw[jE,e,P6];simp
def s8(c:S.ao0≠1)(h:bQ Y S=A):∃r,dz S=60::r\/(dz S=123::(S.ao3++[125])/\apb S.ao3=A):=by
 simp only[bQ,au c]at h;simp only[dz,au c];by_cases b:S.ao0=5;.rw[aK b,aP]at h;refine⟨[],.inr ⟨?_,h.1⟩⟩;simp[b]
 rw[au b]at h;by_cases a:S.ao0=2;.exact⟨_,.inl (by rw[aK a])⟩
 by_cases e:S.ao0=4;.exact⟨_,.inl (by rw[au a,au (by omega),aK e])⟩
 rw[au (by omega)]at h;by_cases d:S.ao0=3;.exact⟨_,.inl (by rw[au a,aK d])⟩
 rw[au d]at h;simp at h
def Kx(j:U≠[])(d:U.getD 0 0≠60)(e:U.getD 0 0≠123)(h:∀c,apj U (fa c)=Z):jE U=(mG,0):=by
 refine xR ?_;apply bC;intro i;rcases xc j (by simpa using i)with⟨c,_,a⟩|⟨f,g,a⟩;.have:=h c;rw[a]at this;simp[apj]at this
 obtain⟨r,b|⟨b,_⟩⟩:=s8 f g;.rw[b]at a;rw[a]at d;simp at d
 rw[b]at a;rw[a]at e;simp at e
def Kb:∀c:UInt8,(fa c).getD 0 0≠123/\fa c≠[]:=ib (by decide +kernel)
def Kv(d:U.getD 0 0=123)(i:1<=q)(c:q<F U)(f:U.getD q 0=125)(h:apb ((U.take q).drop 1)=A):
  jE U=(⟨5,(U.take q).drop 1,0⟩,(q:Int)+1):=by
 have e:U=123::((U.take q).drop 1++125::U.drop (q+1)):=by
  cases U with
  |nil=>simp at c
  |cons a U =>
   simp only[aO]at d;subst d;obtain⟨m,rfl⟩:∃m,q=m+1:=⟨q - 1,by omega⟩;simp only[ah]at c;have b:m<F U:=by omega
   simp only[iw,nT,qf];congr 1
   conv=>lhs;rw[<- List.take_append_drop m U]
   congr 1;rw[cX b];congr 1;rw[aZ,aq,an b]at f;simpa using f
 have g:F ((U.take q).drop 1)=q - 1:=by rw[bY,bB];omega
 have:=P5 ((U.take q).drop 1) (U.drop (q+1)) h;rw[<- e]at this;rw[jE,this];simp only[aU,g];congr 1;omega
def Fo(g:U.getD 0 0=123)(h:∀k,1<=k->k<F U->k<=25->¬(U.getD k 0=125/\apb ((U.take k).drop 1)=A)):jE U=(mG,0):=by
 have o:U≠[]:=by rintro rfl;simp at g
 refine xR ?_;apply bC;intro l;rcases xc o (by simpa using l)with⟨c,_,f⟩|⟨m,n,f⟩;.have b:=Kb c;rw[f]at g;cases j:fa c with|nil=>exact b.2 j|cons a w =>rw[j]at g b;exact b.1 (by simpa using g)
 obtain⟨r,b|⟨b,i⟩⟩:=s8 m n;.rw[b]at f;rw[f]at g;simp at g
 rw[b]at f;generalize (bz U).1.ao3=t at *;have p:F t<=24:=by cases t with|nil=>simp|cons c t =>simp only[apb,aP,a7]at i;exact i.1.1
 generalize U.drop (bz U).2.1.toNat=d at f;have e:U=(123::t)++125::d:=by rw[f];simp
 refine h (F t+1) (by omega) (by rw[e];simp) (by omega) ⟨?_,?_⟩;.rw[e];rw[show F t+1=F (123::t) by simp,UO]
 rw[e];rw[show F t+1=F (123::t) by simp];simpa using i
def gV:Nat->List It->Int->aJ->Int->List It×Int×Int
 |0,_,_,_,at'=>([],at',2)
 |_+1,f,_,[],_=>(f,0,0)
 |n+1,f,len,c::l,at' =>
  let p:=jE (c::l)
  if p.2=0 then([],at',2)else if p.1.ao0≠1/\fy f p.1≠0 then([],at',fy f p.1)else
  let g:=ao6 (f++[p.1])
  if 512<F g\/1024<len+1 then([],at',3)else gV n g (len+1) ((c::l).drop p.2.toNat) (at'+p.2)
def Dw:qD (l++[D])=cM (qD l) D:=by simp[qD]
def gq(h:ao6 X=X):ao6 (X++[S])=cM X S:=by rw[<- nG,Dw,nG,h]
def Dv(h:∀x,X.getLast?=N x->x.ao0≠1):cM (closed X U) ⟨1,[L],0⟩=closed X (U++[L]):=by
 by_cases a:U=[];.subst a;rw[kR];simp only[cM,closed,fJ,gm,aQ,bg];rw[au (by simp),au (by simp)];cases b:X.getLast? with|none=>rfl|some y=>simp only[au (h y b)]
 simp[cM,closed,a]
def nw(h:S.ao0≠1):cM X S=X++[S]:=by simp[cM,h]
def IA{t:aJ}(b:ao6 X=X)(h:∀x,X.getLast?=N x->x.ao0≠1):ao6 (closed X t)=closed X t:=by
 by_cases a:t=[];.subst a;rw[kR];exact b
 have e:closed X t=X++[⟨1,t,0⟩]:=by simp[closed,a]
 rw[e,gq b];simp only[cM,fJ,gm,aQ,au a];cases c:X.getLast? with|none=>rfl|some y=>simp only[au (h y c)]
def Om:∀(n:Nat) (f:List It) (t l:aJ) (d:Int),bA [] (closed f t)=0->(∀x,f.getLast?=N x->x.ao0≠1)->ao6 f=f ->gV n (closed f t) ((apf f+F t:Nat):Int) l d=mZ n (sS f t) l d:=by
 intro n;induction n with
 |zero=>intros;rfl
 |succ n ih =>
 intro f t l d j m v;have o:=IA (t:=t) v m;cases l with
 |nil=>simp only[gV,mZ,KC]
 |cons c l =>
 have u:bA [] f=0:=by
  simp only[closed]at j;split at j;.exact j
  rw[fC]at j;exact j.1
 simp only[gV,mZ];by_cases g:(bz (c::l)).2.2=A
 .have G:=(rO (s:=c::l) (by simp)).2.2 g;have C:jE (c::l)=((bz (c::l)).1,(bz (c::l)).2.1):=by rw[jE,aK g]
  simp only[C,g,vH,aQ];rw[au (by omega)];rcases xc (s:=c::l) (by simp) g with⟨b,a,_⟩|⟨a,p,_⟩
  .rw[a,KE,au (by simp),gq o,Dv m];have k:(512<F (closed f (t++[b]))\/(1024:Int)<((apf f+F t:Nat):Int)+1)<->lI f t ⟨1,[b],0⟩:=by
    simp only[lI,Cy,ai,ah,az,fJ,gm,qb];by_cases r:F t=0;.rw[aK (by omega),au (by omega),aK r];omega
    rw[aK (by omega),aK (by omega),au r];omega
   by_cases e:lI f t ⟨1,[b],0⟩;.rw[aK (k.2 e),aK e];simp
   rw[au (λh=>e (k.1 h)),au e];simp only[fJ,gm,aQ];have i:closed f (t++[b])=f++[⟨1,t++[b],0⟩]:=by simp[closed]
   have q:bA [] (closed f (t++[b]))=0:=by rw[i,fC];refine⟨u,?_,by simp[bW]⟩;simp only[bQ,aU,bg,aP];refine⟨⟨by simp,by simp⟩,?_⟩;cases z:f.getLast? with|none=>rfl|some y=>simpa using m y z
   have:=ih f (t++[b]) ((c::l).drop (bz (c::l)).2.1.toNat) (d+(bz (c::l)).2.1) q m v;rw[<- this];congr 1;simp;omega
  rw[KD _ _ _ a,LU u p];have E:fy (closed f t) (bz (c::l)).1=if(bW (bz (c::l)).1&&!fits (closed f t) (bz (c::l)).1)=A then 7 else 0:=by simp only[fy,jW a,p];simp
  rw[E];by_cases i:(bW (bz (c::l)).1&&!fits (closed f t) (bz (c::l)).1)=A;.simp[i,a]
  rw[au i,au i,au (by simp),gq o,nw a];have k:(512<F (closed f t++[(bz (c::l)).1])\/(1024:Int)<((apf f+F t:Nat):Int)+1)<->lI f t (bz (c::l)).1:=by simp only[lI,a,Cy,ai,ah,az,fJ,dG,Ho,aU];omega
  by_cases e:lI f t (bz (c::l)).1;.rw[aK (k.2 e),aK e];simp
  rw[au (λh=>e (k.1 h)),au e];simp only[fJ,gm,aQ];have q:bA [] (closed (closed f t++[(bz (c::l)).1]) [])=0:=by rw[kR,fC];refine⟨j,?_,by simpa using i⟩;rw[jW a];exact p
  have D:ao6 (closed f t++[(bz (c::l)).1])=closed f t++[(bz (c::l)).1]:=by rw[gq o,nw a]
  have:=ih (closed f t++[(bz (c::l)).1]) [] ((c::l).drop (bz (c::l)).2.1.toNat) (d+(bz (c::l)).2.1) q (by intro x w;simp only[kI,ju,qc,aa]at w;subst w;exact a) D;rw[<- this,kR];congr 1;have B:wid (bz (c::l)).1=1:=by simp[wid,a]
  simp[rf,vM,xJ,B]
 have g:(bz (c::l)).2.2=Z:=by simpa using g
 rw[xR g];simp[g]
def Bb:∀(n:Nat) (f:List It) (len:Int) (l:aJ) (a:Int),(gV n f len l a).2.2=0->(gV n f len l a).2.1=0
 |0,_,_,_,_,h=>by simp[gV]at h
 |n+1,f,len,[],a,_=>rfl
 |n+1,f,len,c::l,a,h=>by
  simp only[gV]at h |-;split;.rename_i d;rw[aK d]at h;simp at h
  rename_i d;rw[au d]at h;split;.rename_i b;rw[aK b]at h;exact absurd h b.2
  rename_i b;rw[au b]at h;split;.rename_i e;rw[aK e]at h;simp at h
  rename_i e;rw[au e]at h;exact Bb n _ _ _ _ h
def yY:∀(n:Nat) (f:List It) (len:Int) (l:aJ) (a:Int),(gV n f len l a).2.2≠0->(gV n f len l a).1=[]
 |0,_,_,_,_,_=>rfl
 |n+1,f,len,[],a,h=>by simp[gV]at h
 |n+1,f,len,c::l,a,h=>by
  simp only[gV]at h |-;split;.rfl
  rename_i b;rw[au b]at h;split;.rfl
  rename_i e;rw[au e]at h;split;.rfl
  rename_i d;rw[au d]at h;exact yY n _ _ _ _ h
def Ch:∀(f a:List It),aR (f.foldl cM a)<=aR a+aR f/\F (f.foldl cM a)<=F a+F f|[],a=>by simp[aR]|x::f,a=>by have b:=oQ a x;have c:=Ch f (cM a x);simp only[dK,aR,ah];omega
def BG:aR (ao6 l)<=aR l/\F (ao6 l)<=F l:=by have h:=Ch l [];rw[<- nG];simpa[qD,aR]using h
def Dz(a:S.ao0≠1)(h:bQ Y S=A):S.ao3.length<=F (dz S):=by
 simp only[bQ,au a]at h;simp only[dz,au a];by_cases b:S.ao0=2;.simp[b];omega
 by_cases e:S.ao0=3;.simp[e];omega
 by_cases d:S.ao0=4;.simp[d];omega
 by_cases c:S.ao0=5;.simp[c];omega
 simp[b,e,d,c]at h
def Ku{s:aJ}(d:s≠[]):(jE s).2≠0->1<=(jE s).2/\(jE s).2<=F s/\(F (jE s).1.ao3:Int)<=(jE s).2:=by
 have h:=rO d;simp only[jE];by_cases a:(bz s).2.2=A
 .rw[aK a];intro _;have b:=h.2.2 a;refine⟨b.1,b.2,?_⟩;have i:F (s.drop (bz s).2.1.toNat)=F s - (bz s).2.1.toNat:=bY ..;rcases xc d a with⟨c,e,_⟩|⟨f,g,k⟩;.rw[e];simp;omega
  have l:=Dz f g;have j:=congrArg List.length k;rw[ai,i]at j;simp only;omega
 rw[au a];simp
def xS:List It×Int×Int:=gV (F Q+1) [] 0 Q 0
def Fp:xS Q=parse Q:=by have:=Om (F Q+1) [] [] Q 0 (by simp[closed,bA]) (by simp) rfl;rw[kR]at this;exact this
def xg(a:Nat):F (cK a)=a:=by simp[cK]
def Ji{α β:Type}{f g:α->Option β}:∀{l:List α},(∀x∈l,f x=g x)->l.filterMap f=l.filterMap g|[],_=>rfl|x::l,h=>by simp only[ix,h x (by simp)];rw[Ji λy a=>h y (by simp[a])]
def tg:List It:=l.filter bW
def fT(b:List It):tg (l++b)=tg l++tg b:=by simp[tg]
def sH(h:bW S=A):tg [S]=[S]:=by simp[tg,h]
def tQ(h:bW S=Z):tg [S]=[]:=by simp[tg,h]
def vh(i:Int):bW ⟨1,Q,i⟩=Z:=by simp[bW]
def zq(h:S.ao0=1):bW S=Z:=by simp[bW,h]
def Fe(h1:S.ao0=1)(a:S.id=0):(⟨1,S.ao3,0⟩:It)=S:=by obtain⟨k,t,i⟩:=S;simp only at h1 a;subst h1;subst a;rfl
def ud(b:S.ao0=1)(h:bQ J S=A):S.ao3≠[]/\S.id=0/\∀y,J=N y->y.ao0≠1:=by simp only[bQ,b,aU,aP,da,cU,b9]at h;refine⟨h.1.1,h.1.2,λy a=>?_⟩;subst a;simpa using h.2
def om(h1:U≠[])(a:∀y,J=N y->y.ao0≠1):bQ J ⟨1,U,0⟩=A:=by simp only[bQ,aU,aP,da,cU,b9];refine⟨⟨h1,trivial⟩,?_⟩;cases J with|none=>rfl|some y=>simpa using a y rfl
def na:bA [] X=0->ao6 X=X:=by
 refine Ap (p:=λX=>bA [] X=0->ao6 X=X) (λ_=>rfl) ?_ X;intro l x ih h;obtain⟨f,b,_⟩:=(fC l [] x).1 h;simp only[bg]at b;rw[gq (ih f)];by_cases a:x.ao0=1;.obtain⟨d,c,g⟩:=ud a b;simp only[cM,a,fJ,gm,aQ,au d];cases e:l.getLast? with|none=>simp only[Fe a c]|some y=>simp only[au (g y e),Fe a c]
 exact nw a
def AD:fits l D=fits (tg l) D:=by
 induction l with
 |nil=>rfl
 |cons y l ih =>
 by_cases h:bW y=A;.simp only[fits,tg,dS,h,aU,jJ]at ih |-;rw[ih]
 have h:bW y=Z:=by simpa using h
 have a:eY D y=Z:=by simp[eY,h]
 simp only[fits,tg,dS,h,jJ,a,aI,aQ,iq,cY]at ih |-;exact ih
def nc(h:bA [] X=0):bA [] (ao6 (X++[⟨1,Q,0⟩]))=0/\tg (ao6 (X++[⟨1,Q,0⟩]))=tg X:=by
 rw[gq (na h)];by_cases a:Q=[]
 .have e:cM X ⟨1,Q,0⟩=X:=by simp[cM,a]
  rw[e];exact⟨h,rfl⟩
 revert h;refine Ap (p:=λX=>bA [] X=0->bA [] (cM X ⟨1,Q,0⟩)=0/\tg (cM X ⟨1,Q,0⟩)=tg X) ?_ ?_ X
 .intro _;have e:cM [] ⟨1,Q,0⟩=[]++[⟨1,Q,0⟩]:=by simp[cM,a]
  rw[e,fC,fT,tQ (vh Q 0),bM];exact⟨⟨rfl,om a (by simp),by simp[bW]⟩,rfl⟩
 intro l y _ h;obtain⟨f,d,i⟩:=(fC l [] y).1 h;by_cases b:y.ao0=1
 .have e:cM (l++[y]) ⟨1,Q,0⟩=l++[⟨1,y.ao3++Q,0⟩]:=by simp[cM,a,b]
  obtain⟨_,_,g⟩:=ud b d;rw[e,fC,fT,fT,tQ (vh _ 0),tQ (zq b)];exact⟨⟨f,om (by simp[a]) g,by simp[bW]⟩,rfl⟩
 have e:cM (l++[y]) ⟨1,Q,0⟩=(l++[y])++[⟨1,Q,0⟩]:=by simp[cM,a,b]
 rw[e,fC,fT,tQ (vh _ 0),bM];refine⟨⟨h,om a λz c=>?_,by simp[bW]⟩,rfl⟩;simp only[bg,kI,ju,qc,aa]at c;subst c;exact b
def qC{x:It}(h:bA [] X=0)(a:x.ao0≠1)(d:bQ Y x=A)(c:bW x=A->fits X x=A): ao6 (X++[x])=X++[x]/\bA [] (X++[x])=0:=by refine⟨by rw[gq (na h),nw a],?_⟩;rw[fC];refine⟨h,by rw[jW a];exact d,?_⟩;rw[bg];cases b:bW x with|false=>rfl|true=>rw[c b];rfl
structure zK (f opn:List It) (n:Int):Prop where
 err:bA [] f=0
 ids:∀z∈tg f,1<=z.id/\z.id<=n
 nd:(opn.map (·.id)).Nodup
 op:∀y∈opn,apb (dj y.ao3)=true/\1<=y.id/\y.id<=n/\∀z∈tg f,z.id=y.id->z.ao0=2/\z.ao3=y.ao3
def zK.nil:zK [] [] 0:=⟨rfl,by simp[tg],by simp,by simp⟩
def zK.same{a:List It}(h:zK X a P)(h1:bA [] R=0)(b:tg R=tg X):zK R a P :=⟨h1,by rw[b];exact h.ids,h.nd,by rw[b];exact h.op⟩
def zK.ao3{n:Int}(h:zK X R n)(t:aJ):zK (ao6 (X++[⟨1,t,0⟩])) R n :=h.same (nc t h.err).1 (nc t h.err).2
def zK.slot(h:zK X R P)(a:apb U=A):zK (ao6 (X++[⟨5,U,0⟩])) R P:=by obtain⟨e,b⟩:=qC (x:=⟨5,U,0⟩) h.err (by simp) (by simp[bQ,a]) (by simp[bW]);rw[e];exact h.same b (by rw[fT,tQ (by simp[bW]),bM])
def Jl(h:∀z∈tg X,z.id≠S.id):fits X S=A:=by rw[AD];simp only[fits,cv];intro z a;have:=h z a;simp[eY,this]
def zK.empty(h:zK X R P)(d:dx U=A)(h0:0<=P)(l:P<999):zK (ao6 (X++[⟨4,U,P+1⟩])) R (P+1):=by
 have hT:bW ⟨4,U,P+1⟩=A:=by simp[bW]
 obtain⟨e,g⟩:=qC (x:=⟨4,U,P+1⟩) h.err (by simp) (by simp[bQ,d];omega) (λ_=>Jl λz a=>by have:=h.ids z a;simp only;omega);rw[e];refine⟨g,?_,h.nd,?_⟩
 .intro z a;rw[fT,sH hT,bR,cj]at a;rcases a with a|rfl;.have:=h.ids z a;omega
  simp only;omega
 intro y c;obtain⟨i,j,k,f⟩:=h.op y c;refine⟨i,j,by omega,λz a b=>?_⟩;rw[fT,sH hT,bR,cj]at a;rcases a with a|rfl;.exact f z a b
 simp only at b;omega
def zK.opens(h:zK X R P)(g:dx U=A)(m:apb (dj U)=A)(h0:0<=P)(q:P<999): zK (ao6 (X++[⟨2,U,P+1⟩])) (R++[⟨2,U,P+1⟩]) (P+1):=by
 have hT:bW ⟨2,U,P+1⟩=A:=by simp[bW]
 obtain⟨e,n⟩:=qC (x:=⟨2,U,P+1⟩) h.err (by simp) (by simp[bQ,g];omega) (λ_=>Jl λz c=>by have:=h.ids z c;simp only;omega);rw[e];refine⟨n,?_,?_,?_⟩
 .intro z c;rw[fT,sH hT,bR,cj]at c;rcases c with c|rfl;.have:=h.ids z c;omega
  simp only;omega
 .rw[cF,fp];refine⟨h.nd,by simp,?_⟩;intro a o b i;obtain⟨y,d,rfl⟩:=br.1 o;simp only[aC,bI,cj]at i;have:=(h.op y d).2.2.1;omega
 intro y d;rw[bR,cj]at d;rcases d with d|rfl
 .obtain⟨k,j,p,l⟩:=h.op y d;refine⟨k,j,by omega,λz c f=>?_⟩;rw[fT,sH hT,bR,cj]at c;rcases c with c|rfl;.exact l z c f
  simp only at f;omega
 refine⟨m,by simp only;omega,by simp only;omega,λz c f=>?_⟩;rw[fT,sH hT,bR,cj]at c;rcases c with c|rfl;.have:=h.ids z c;simp only at f;omega
 exact⟨rfl,rfl⟩
def zK.close{y:It}(h:zK X (R++[y]) P)(r:P<=999): zK (X++[⟨3,dj y.ao3,y.id⟩]) R P/\ao6 (X++[⟨3,dj y.ao3,y.id⟩])=X++[⟨3,dj y.ao3,y.id⟩]:=by
 have hT:bW ⟨3,dj y.ao3,y.id⟩=A:=by simp[bW]
 obtain⟨q,p,j,l⟩:=h.op y (by simp);obtain⟨e,n⟩:=qC (x:=⟨3,dj y.ao3,y.id⟩) h.err (by simp) (by simp[bQ,q];omega) (λ_=>by
  rw[AD];simp only[fits,cv];intro z a;by_cases c:z.id=y.id;.obtain⟨o,m⟩:=l z a c;simp[eY,o,m]
  simp[eY,c]);have b:=h.nd;rw[cF,fp]at b;refine⟨⟨n,?_,b.1,?_⟩,e⟩
 .intro z a;rw[fT,sH hT,bR,cj]at a;rcases a with a|rfl;.exact h.ids z a
  exact⟨p,j⟩
 intro x d;obtain⟨i,k,p3,g⟩:=h.op x (by simp[d]);refine⟨i,k,p3,λz a f=>?_⟩;rw[fT,sH hT,bR,cj]at a;rcases a with a|rfl;.exact g z a f
 have:=b.2.2 x.id (br.2 ⟨x,d,rfl⟩) y.id (by simp);exact absurd f.symm this
structure L5 (pre f:List It):Prop where
 err:bA [] f=0
 tags:tg f=tg pre
def L5.nil:L5 [] []:=⟨rfl,rfl⟩
def L5.more{pre f:List It}(h:L5 pre f)(t:aJ):L5 pre (ao6 (f++[⟨1,t,0⟩])) :=⟨(nc t h.err).1,(nc t h.err).2.trans h.tags⟩
def L5.ao3{pre f:List It}(h:L5 pre f)(a:S.ao0=1)(t:aJ):L5 (pre++[S]) (ao6 (f++[⟨1,t,0⟩])) :=⟨(nc t h.err).1,by rw[(nc t h.err).2,h.tags,fT,tQ (zq a),bM]⟩
def L5.item{pre f a:List It}{x:It}(h:L5 pre f)(g:bA [] (pre++x::a)=0)(c:x.ao0≠1):L5 (pre++[x]) (ao6 (f++[x])):=by rw[sf,uL]at g;obtain⟨_,d,b,_⟩:=g;rw[bg]at d b;obtain⟨e,i⟩:=qC (x:=x) h.err c (by rw[<- jW (p:=pre.getLast?) c];exact d) (λj=>by rw[j,cY]at b;rw[AD,h.tags,<- AD];simpa using b);rw[e];exact⟨i,by rw[fT,fT,h.tags]⟩
def HC:∀(l:bG) (k:Int) (x:Int),CW l ((List.range (F l)).map λ(i:Nat)=>(i:Int)+k) x=if x∈l then N ((l.idxOf x:Int)+k)else Y
 |[],k,x=>by simp[CW]
 |a::l,k,x=>by
  have e:(List.range (F l+1)).map (λ(i:Nat)=>(i:Int)+k)=k::(List.range (F l)).map λ(i:Nat)=>(i:Int)+(k+1):=by rw[CT,aC,im];refine congr (congrArg _ (by omega)) (di λi _=>?_);simp only[Function.comp];omega
  rw[ah,e];simp only[CW];by_cases h:x=a;.subst h;simp
  have c:(a==x)=Z:=by simpa using λe=>h e.symm
  rw[au h,HC l (k+1) x,C6,c];by_cases b:x∈l;.rw[aK b,aK (dw _ b)];congr 1;simp only[L7];omega
  rw[au b,au (by simp[h,b])]
def NX:CW B (cK (F B)) i=if i∈B then N ((B.idxOf i:Int)+1)else Y:=HC B 1 i
def sA:It:=if bW D=A then⟨D.ao0,D.ao3,(B.idxOf D.id:Int)+1⟩else D
def IE:(sA B D).ao0=D.ao0:=by simp only[sA];split<;>rfl
def RG:(sA B D).ao3=D.ao3:=by simp only[sA];split<;>rfl
def Ar:bW (sA B D)=bW D:=by simp only[bW,IE]
def yZ(h:∀x∈tg X,x.id∈C):api X C (cK (F C))=X.map (sA C):=by
 have a:∀x∈X,Ou C (cK (F C)) x=N (sA C x):=by
  intro x c;simp only[Ou,sA];by_cases b:bW x=A;.have:=h x (cV.2 ⟨c,b⟩);rw[aK b,aK b,NX,aK this];rfl
  rw[au b,au b]
 simp only[api];rw[Ji a];clear a h;induction X with|nil=>rfl|cons x X ih=>simp only[ix,aC,ih]
def Nf{x y:Int}(g:x∈C)(i:y∈C)(h:C.idxOf x=C.idxOf y):x=y:=by
 induction C with
 |nil=>simp at g
 |cons a C ih =>
 simp only[C6]at h;by_cases f:a=x
 .by_cases c:a=y;.rw[<- f,c]
  have e:(a==x)=A:=by simp[f]
  have d:(a==y)=Z:=by simp[c]
  rw[e,d]at h;simp at h
 have e:(a==x)=Z:=by simp[f]
 by_cases c:a=y
 .have d:(a==y)=A:=by simp[c]
  rw[e,d]at h;simp at h
 have d:(a==y)=Z:=by simp[c]
 rw[e,d]at h;simp only[L7]at h;refine ih ?_ ?_ (by omega)
 .rcases bE.1 g with b|b;.exact absurd b.symm f
  exact b
 rcases bE.1 i with b|b;.exact absurd b.symm c
 exact b
def RI(i:bW S=A->S.id∈C)(l:F C<=999)(h:bQ J S=A):bQ (J.map (sA C)) (sA C S)=A:=by
 by_cases b:bW S=A
 .have k:C.idxOf S.id<F C:=Yg (i b);have a:S.ao0=2\/S.ao0=3\/S.ao0=4:=by simp only[bW,dW,b9]at b;omega
  have e:sA C S=⟨S.ao0,S.ao3,(C.idxOf S.id:Int)+1⟩:=by rw[sA,aK b]
  rw[e];simp only[bQ]at h |-;rcases a with a|a|a;.simp[a]at h |-;exact⟨⟨h.1.1,by omega⟩,by omega⟩
  .simp[a]at h |-;exact⟨⟨h.1.1,by omega⟩,by omega⟩
  simp[a]at h |-;exact⟨⟨h.1.1,by omega⟩,by omega⟩
 have e:sA C S=S:=by rw[sA,au b]
 rw[e];by_cases a:S.ao0=1;.obtain⟨d,c,g⟩:=ud a h;rw[<- Fe a c];refine om d λy f=>?_;obtain⟨z,j,rfl⟩:=al.1 f;rw[IE];exact g z j
 rw[jW a]at h |-;exact h
def RH(m:bW S=A)(o:S.id∈C)(g:∀z∈tg X,z.id∈C)(h:fits X S=A):fits (X.map (sA C)) (sA C S)=A:=by
 simp only[fits,cv,br]at h |-;rintro _ ⟨y,d,rfl⟩;have f:=h y d;by_cases a:bW y=A
 .have b:=g y (cV.2 ⟨d,a⟩);have i:sA C S=⟨S.ao0,S.ao3,(C.idxOf S.id:Int)+1⟩:=by rw[sA,aK m]
  have n:sA C y=⟨y.ao0,y.ao3,(C.idxOf y.id:Int)+1⟩:=by rw[sA,aK a]
  have j:((C.idxOf y.id:Int)+1 != (C.idxOf S.id:Int)+1)=(y.id != S.id):=by
   by_cases c:y.id=S.id;.rw[c];simp
   have:C.idxOf y.id≠C.idxOf S.id:=λe=>c (Nf b o e);have l:(y.id != S.id)=A:=by simpa using c
   rw[l];simp;omega
  have k:bW (sA C y)=bW y:=Ar C y;simp only[eY,k]at f |-;rw[i,n];simp only;rw[j];exact f
 have a:bW y=Z:=by simpa using a
 simp[eY,Ar,a]
def pG(g:F C<=999)(b:∀x∈tg X,x.id∈C)(h:bA [] X=0):bA [] (X.map (sA C))=0:=by
 revert b h;refine Ap (p:=λX=>(∀x∈tg X,x.id∈C)->bA [] X=0->bA [] (X.map (sA C))=0) (λ_ _=>rfl) ?_ X;intro X x ih b h;obtain⟨i,e,c⟩:=(fC X [] x).1 h;rw[bg]at e c;have d:∀z∈tg X,z.id∈C:=λz j=>b z (by rw[fT];exact List.mem_append_left _ j);have f:bW x=A->x.id∈C:=λa=>b x (by rw[fT,sH a];simp);rw[cF,aC,bI,fC];refine⟨ih d i,?_,?_⟩;.rw[bg,List.getLast?_map];exact RI f g e
 rw[bg,Ar];cases a:bW x with|false=>rfl|true =>rw[a,cY]at c;rw[RH a (f a) d (by simpa using c)];rfl
def py:aR (l.map (sA B))=aR l:=by induction l with|nil=>rfl|cons x l ih=>simp only[aC,aR,RG,ih]
def rh:bG:=(tg l).map (·.id)
def BE:aph l=(rh l).foldl jX []:=by simp only[aph,jF];rfl
def yF(t:List It):bU l t=(rh (l++t)).foldl jX []:=by rw[<- oO,BE]
def qT(t:List It):(∀x∈tg l,x.id∈bU l t)/\∀x∈tg t,x.id∈bU l t:=by
 rw[yF];constructor<;>intro x a<;>refine uc _ ?_<;>simp only[rh,fT,cF,bR,br];.exact .inl ⟨x,a,rfl⟩
 exact .inr ⟨x,a,rfl⟩
def Ld(h:C.Nodup):(jX C P).Nodup:=by
 simp only[jX];split;.exact h
 rename_i d;rw[fp];refine⟨h,by simp,?_⟩;intro a f b c e;simp only[cj]at c;subst c;subst e;exact d (by simpa using f)
def zw:∀(m:bG) {l:bG},l.Nodup->(m.foldl jX l).Nodup|[],_,h=>h|_::m,_,h=>zw m (Ld h)
def EP{g:Int->Int}{L:bG}(f:∀x∈L,∀y∈L,g x=g y->x=y):∀(m a:bG),(∀x∈m,x∈L)->(∀x∈a,x∈L)->(m.map g).foldl jX (a.map g)=(m.foldl jX a).map g
 |[],_,_,_=>rfl
 |n::m,a,hm,ha=>by
  have j:=hm n (by simp);have e:jX (a.map g) (g n)=(jX a n).map g:=by
   by_cases h:n∈a
   .have d:a.contains n=A:=by simpa using h
    have c:(a.map g).contains (g n)=A:=by simp;exact⟨n,h,rfl⟩
    simp only[jX,d,c,aU]
   have d:a.contains n=Z:=by simpa using h
   have c:(a.map g).contains (g n)=Z:=by cases i:(a.map g).contains (g n)with|false=>rfl|true =>simp only[List.contains_iff_mem,br]at i;obtain⟨x,b,k⟩:=i;exact absurd (f x (ha x b) n j k▸b) h
   simp only[jX,d,c,aI,aQ,cF,aC,bI]
  simp only[aC,dK,e];refine EP f m (jX a n) (λx b=>hm x (by simp[b])) λx b=>?_;simp only[jX]at b;split at b;.exact ha x b
  rw[bR,cj]at b;rcases b with b|rfl;.exact ha x b
  exact j
def EH:∀{L:bG} (_:L.Nodup),L.map (λx=>(L.idxOf x:Int)+1)=cK (F L):=by
 intro L k;have c:∀(l pre:bG),(pre++l).Nodup->l.map (λx=>((pre++l).idxOf x:Int)+1)=(List.range (F l)).map λ(i:Nat)=>(i:Int)+((F pre:Int)+1):=by
  intro l;induction l with
  |nil=>intro pre _;rfl
  |cons a l ih =>
  intro pre h;have e:(List.range (F l+1)).map (λ(i:Nat)=>(i:Int)+((F pre:Int)+1))=((F pre:Int)+1)::(List.range (F l)).map λ(i:Nat)=>(i:Int)+((F (pre++[a]):Int)+1):=by rw[CT,aC,im];refine congr (congrArg _ (by omega)) (di λi _=>?_);simp only[Function.comp,ai,ah,az];omega
  have f:=ih (pre++[a]) (by rwa [aS,ki]);rw[aS,ki]at f;rw[ah,e,<- f,aC];congr 1;have d:a ∉ pre:=by rw[fp]at h;exact λg=>h.2.2 a g a (by simp) rfl
  have:(pre++a::l).idxOf a=F pre:=by
   clear f e ih h;induction pre with
   |nil=>simp
   |cons b pre ih =>
   have j:(b==a)=Z:=by simp only[bE,T8]at d;simpa using λe=>d.1 e.symm
   rw[bo,C6,j,L7,ih (λg=>d (dw _ g)),ah]
  rw[this]
 have:=c L [] k;simpa[cK]using this
def Kl:rh (X.map (sA C))=(rh X).map λx=>(C.idxOf x:Int)+1:=by
 induction X with
 |nil=>rfl
 |cons x X ih =>
 simp only[rh,tg,aC,dS,Ar]at ih |-;by_cases a:bW x=A;.rw[aK a,aK a,aC,aC,aC,ih];congr 1;rw[sA,aK a]
 rw[au a,au a,ih]
def xl(c:bA [] X=0)(d:bA [] R=0)(b:F (bU X R)<=999): ft X R=X.map (sA (bU X R))/\fI X R=R.map (sA (bU X R)):=by
 have a:=qT X R;constructor;.rw[ft,rename,yZ a.1];exact na (pG b a.1 c)
 rw[fI,rename,yZ a.2];exact na (pG b a.2 d)
def JB{s t:List It}:bU (s.map (sA (bU s t))) (t.map (sA (bU s t)))=cK (F (bU s t)):=by
 have e:bU s t=(rh (s++t)).foldl jX []:=yF s t;have d:∀x∈rh (s++t),x∈bU s t:=λx a=>by rw[e];exact uc _ a
 rw[yF (s.map _) (t.map _),<- List.map_append,Kl];have b:=EP (g:=λx=>((bU s t).idxOf x:Int)+1) (L:=bU s t) (λx a y c h=>Nf a c (by omega)) (rh (s++t)) [] d (by simp);rw[bI]at b;rw[b,<- e];exact EH (by rw[e];exact zw _ kg)
def Qa(h:P∈cK q):((cK q).idxOf P:Int)+1=P:=by
 have j:(cK q).Nodup:=by simp only[cK];exact(lx).map (f:=λ(i:Nat)=>(i:Int)+1) (λa b h=>by have h:a≠b:=h;omega)
 have e:=EH j;rw[xg]at e;have d:(cK q).idxOf P<F (cK q):=Yg h;have c:((cK q).map λP=>((cK q).idxOf P:Int)+1)[(cK q).idxOf P]?=(cK q)[(cK q).idxOf P]?:=by rw[e]
 rw[bu,an d]at c;have g:(cK q)[(cK q).idxOf P]=P:=List.getElem_idxOf d;rw[g]at c;simpa using c
def Ex(h:∀x∈tg X,x.id∈cK q):X.map (sA (cK q))=X:=by
 induction X with
 |nil=>rfl
 |cons x X ih =>
 rw[aC];have b:∀z∈tg X,z.id∈cK q:=λz a=>h z (by simp only[tg,dS];split<;>simp[tg]at a |-<;>simp[a]);rw[ih b];congr 1;rw[sA];split;.rename_i c;have:=h x (by simp only[tg,dS,c,aU];simp);rw[Qa this]
 rfl
def JA{s t:List It}(j:bA [] s=0)(i:bA [] t=0)(a:F (bU s t)<=999): ft (ft s t) (fI s t)=ft s t/\fI (ft s t) (fI s t)=fI s t:=by
 obtain⟨l,m⟩:=xl j i a;have h:=qT s t;have c:=pG a h.1 j;have b:=pG a h.2 i;rw[l,m];have k:=JB (s:=s) (t:=t);have d:F (bU (s.map (sA (bU s t))) (t.map (sA (bU s t))))<=999:=by rw[k,xg];exact a
 obtain⟨g,f⟩:=xl c b d;have e:=qT (s.map (sA (bU s t))) (t.map (sA (bU s t)));rw[k]at e g f;exact⟨by rw[g,Ex e.1],by rw[f,Ex e.2]⟩
def EX(t:List It):F (bU l t)<=F l+F t:=by have a:=se (aph t) (aph l);have b:=nF l;have c:=nF t;simp only[bU];omega
def qP(h:bA [] X=0)(h1:F X<=100)(a:aR X<=900):bV X=0:=by have:=QV X;exact(AO (by omega)).2 ⟨by omega,by omega,h⟩
def Cd:ei:=[[],[83,97,118,101],[114,101,100,32,99,97,114],[120]]
def tt:ei:=[[],[97,110,110],[98,111,98],[112],[113]]
def GU:∀s∈Cd,(parse s).2.2=0/\F s<=7:=by decide +kernel
def wx:∀s∈tt,named s=A/\F s<=3:=by decide +kernel
structure xx (e:En):Prop where
 ok:cJ e=0
 kt:e.ao2.length<=40
 iY:aR e.ao2<=400
 sG:e.ao7.length<=100
 px:aR e.ao7<=900
 prev:e.b6.length<=7
 next:e.next.length<=7
 cW:e.cW.length<=3
 cx:e.cx.length<=3
def W3(h:bQ J S=A):0<=S.id/\S.id<=999:=by
 simp only[bQ]at h;split at h;.simp only[aP,b9]at h;omega
 split at h;.simp only[aP,b9]at h;omega
 split at h;.simp only[aP,a7]at h;omega
 split at h;.simp only[aP,a7]at h;omega
 simp at h
def tO(h:bV X=0):∀x∈X,0<=x.id/\x.id<=999:=by
 simp only[bV]at h;split at h;.simp at h
 intro x a;exact W3 (uK X [] h x a)
def ov{e:En}(h:cJ e=0):bV e.ao2=0/\bV e.ao7=0:=⟨(oV h).ao2,(oV h).ao7⟩
def PR{n a r:aJ}{o:Int}(d:bA [] X=0)(e:bA [] R=0)(z:X≠[])(C:F X<=40)(x:aR X<=400)(u:F R<=100)(t:aR R<=900) (i:U∈Cd) (k:n∈Cd) (l:a∈tt) (j:r∈tt) (J:0<=P/\P<=1073741824) (I:1<=o/\o<=3):xx ⟨ft X R,fI X R,U,n,a,r,P,o⟩:=by
 have c:F (bU X R)<=999:=by have:=EX X R;omega
 obtain⟨f,g⟩:=xl d e c;have p:=qT X R;have E:bA [] (ft X R)=0:=by rw[f];exact pG c p.1 d
 have v:bA [] (fI X R)=0:=by rw[g];exact pG c p.2 e
 have m:F (ft X R)=F X:=by rw[f,ae]
 have D:F (fI X R)=F R:=by rw[g,ae]
 have G:aR (ft X R)=aR X:=by rw[f,py]
 have w:aR (fI X R)=aR R:=by rw[g,py]
 obtain⟨q,B⟩:=JA d e c;have s:bV (ft X R)=0:=qP E (by omega) (by omega);have H:bV (fI X R)=0:=qP v (by omega) (by omega);have b:F (ft X R)≠0:=by rw[m];exact λh=>z (aL h)
 have y:mr ⟨ft X R,fI X R,U,n,a,r,P,o⟩=A:=by simp only[mr,q,B,tZ.2 rfl,dM,da,cU,fJ];exact b
 refine⟨?_,by simp only[m];exact C,by simp only[G];exact x,by simp only[D];exact u,by simp only[w];exact t,(GU U i).2,(GU n k).2,(wx a l).2,(wx r j).2⟩;simp only[cJ,s,H,y,(GU U i).1,(GU n k).1,(wx a l).1,(wx r j).1,fJ,gm,aQ,yP,vH];rw[au (by omega)]
def xx.apa{e:En}(h:xx e):e.apa:=by
 have:=ov h.ok;have f:=h.kt;have c:=h.iY;have i:=h.sG;have d:=h.px;have g:=h.prev;have b:=h.next;refine⟨by omega,by omega,by omega,by omega,by omega,by omega,λx a=>?_⟩;rcases bR.1 a with a|a;.have:=tO this.1 x a;omega
 have:=tO this.2 x a;omega
structure afc (o:CQ):Prop where
 ok:XG o=0
 off:o.jd.lR<3
 src:bA [] o.apc.ao2=0
 kt:o.apc.ao2.length<=40
 iY:aR o.apc.ao2<=400
 apa:o.apa
 sG:o.apc.ao7.length<=100
 px:aR o.apc.ao7<=1200
 ctx:o.apc.b6.length<=7/\o.apc.next.length<=7/\o.apc.cW.length<=3/\o.apc.cx.length<=3
def KR{a b:CQ}:Ev a b=0<->a.jd.lR=b.jd.lR/\a.jd.number=b.jd.number:=by simp only[Ev,Aq,oq];(repeat' split)<;>omega
abbrev afb(l:List CQ):Prop:=l.Pairwise λa b=>Ev a b<0
def Ew{α:Type}:∀{l m:List α},l.Nodup->(∀x∈l,x∈m)->F l<=F m
 |[],_,_,_=>eR _
 |a::l,m,hn,h=>by
  rw[eu]at hn;obtain⟨s,t,rfl⟩:=List.append_of_mem (h a (by simp));have:=Ew (m:=s++t) hn.2 λx c=>by
   have b:=h x (by simp[c]);simp only[bR,bE]at b |-;rcases b with b|b|b;.exact .inl b
   .subst b;exact absurd c hn.1
   exact .inr b
  simp only[ai,ah]at this |-;omega
structure ajR (M:List CQ):Prop where
 gen:∀x∈M,afc x
 off:∀x∈M,x.jd.lR≠0
 one:∀x∈M,∀y∈M,Ev x y=0->x=y
 len:M.length<=10
structure Recv (M:List CQ) (o:Xu):Prop where
 num:o.number=0
 down:o.down=false
 sub:∀x∈o.ao1,x∈M
 sort:afb o.ao1
 top:∀x∈o.ao1,x.jd.time<=o.ao4
 clk:o.ao4=0\/∃x∈o.ao1,o.ao4=x.jd.time
 log:o.log.length<=60008*o.ao1.length
def KS(x:CQ):Ev x x=0:=KR.2 ⟨rfl,rfl⟩
def Recv.len{o:Xu}(c:Recv h o):F o.ao1<=F h:=by refine Ew ?_ c.sub;refine c.sort.imp λ{a b} Jc e=>?_;subst e;rw[KS]at Jc;omega
def Recv.apa{o:Xu}(b:ajR h)(a:Recv h o):o.apa:=by have e:=a.len;have d:=b.len;have f:=a.log;exact⟨λx c=>(b.gen x (a.sub x c)).apa,by omega,by omega⟩
structure OpG (x:CQ):Prop where
 ok:XG x=0
 apa:x.apa
 enc:(W9 x).length<=20000
structure Arr (n:Int) (arr:List CQ):Prop where
 op:∀x∈arr,OpG x
 one:arr.Pairwise λa b=>Ev a b≠0
 own:∀(j:Nat) (y:CQ),(arr.filter λx=>x.jd.lR==n)[j]?=some y->y.jd.number=j+1
def Arr.take(a:Arr P h)(k:Nat):Arr P (h.take k):=by refine⟨λx c=>a.op x (dv c),a.one.sublist (List.take_sublist _ _),λj y b=>a.own j y ?_⟩;have e:h=h.take k++h.drop k:=(fP k h).symm;rw[e,iW,aj (ab.1 b).1];exact b
structure kU {α:Type} (c:α->α->Int):Prop where
 mI:∀a b,c b a = - c a b
 trans:∀a b d,0<=c a b->0<=c b d->0<=c a d
def kU.self{α:Type}{c:α->α->Int}(h:kU c)(a:α):c a a=0:=by have:=h.mI a a;omega
def kU.gt{α:Type}{c:α->α->Int}(h:kU c){a b d:α}(h1:0<c a b)(g:0<c b d):0<c a d:=by
 have k:=h.trans a b d (by omega) (by omega);rcases(by omega:0<c a d\/c a d=0)with e|e;.exact e
 have j:=h.mI a d;have f:=h.trans d a b (by omega) (by omega);have i:=h.mI d b;omega
def kU.on{α β:Type}{c:β->β->Int}(h:kU c)(f:α->β):kU λa b=>c (f a) (f b) :=⟨λ_ _=>h.mI _ _,λ_ _ _=>h.trans _ _ _⟩
def Gu{α:Type}(c d:α->α->Int)(a b:α):Int:=if c a b≠0 then c a b else d a b
def kU.lex{α:Type}{c d:α->α->Int}(h:kU c)(k:kU d):kU (Gu c d):=by
 refine⟨λa b=>?_,λa b e g f=>?_⟩;.have g:=h.mI a b;have f:=k.mI a b;simp only[Gu];split<;>split<;>omega
 have l:=h.mI a b;have m:=h.mI b e;have r:=h.trans a b e;have i:=h.trans e a b;have n:=h.mI e b;have j:=h.mI a e;have p:=h.trans b e a;have q:=h.mI b a;have o:=k.trans a b e;simp only[Gu]at g f |-;split at g<;>split at f<;>split<;>omega
def xi:kU oq:=by refine⟨λa b=>?_,λa b d=>?_⟩<;>simp only[oq]<;>(repeat' split)<;>omega
def AP{b:UInt8}:L<b<->L.toNat<b.toNat:=Hp
def lF:kU gw:=by
 have j:∀a b,gw b a = - gw a b:=by
  intro a;induction a with
  |nil=>intro b;cases b<;>simp[gw]
  |cons x a ih =>
  intro b;cases b with
  |nil=>simp[gw]
  |cons y b =>
  simp only[gw,ih];by_cases e:x<y
  .have c:¬y<x:=by rw[AP]at *;omega
   simp[e,c]
  by_cases c:y<x<;>simp[e,c]
 refine⟨j,?_⟩;intro a;induction a with
 |nil =>
  intro b d e c;cases b with
  |nil=>exact c
  |cons y b=>simp[gw]at e
 |cons x a ih =>
 intro b d e c;cases d with
 |nil=>simp[gw]
 |cons z d =>
 cases b with
 |nil=>simp[gw]at c
 |cons y b =>
 simp only[gw]at e c |-;by_cases f:x<y;.simp[f]at e
 by_cases h:y<z;.simp[h]at c
 rw[au f]at e;rw[au h]at c;have i:¬x<z:=by rw[AP]at *;omega
 rw[au i];by_cases g:z<x;.rw[aK g];decide
 rw[au g];have k:¬y<x:=by rw[AP]at *;omega
 have l:¬z<y:=by rw[AP]at *;omega
 rw[au k]at e;rw[au l]at c;exact ih b d e c
def oB:∀{a b:aJ},gw a b=0<->a=b:=by
 intro a;induction a with
 |nil=>intro b;cases b<;>simp[gw]
 |cons x a ih =>
 intro b;cases b with
 |nil=>simp[gw]
 |cons y b =>
 simp only[gw];by_cases c:x<y
 .have:x≠y:=by rintro rfl;rw[AP]at c;omega
  simp[c,this]
 by_cases d:y<x
 .have:x≠y:=by rintro rfl;rw[AP]at d;omega
  simp[c,d,this]
 have:x=y:=by rw[AP]at c d;exact C4.1 (by omega)
 simp[c,d,this,ih]
def kS:∀(x y:aJ),Op.bytesLess x y=decide (gw x y<0)
 |[],[]=>rfl
 |[],_::_=>rfl
 |_::_,[]=>rfl
 |a::x,b::y=>by
  simp only[Op.bytesLess,gw];by_cases c:a<b;.simp[c]
  by_cases d:b<a
  .have:a≠b:=by rintro rfl;exact c d
   simp[c,d,this]
  have e:a=b:=UInt8.le_antisymm (UInt8.not_lt.1 d) (UInt8.not_lt.1 c);subst e;simp[c,kS x y]
def p8{x y z:aJ}(h1:gw x y<0)(f:gw y z<0):gw x z<0:=by have e:=lF.mI x y;have g:=lF.mI y z;have c:=lF.mI x z;have:=lF.gt (a:=z) (b:=y) (d:=x) (by omega) (by omega);omega
def ND:∀(x y:aJ),gw x y = -1\/gw x y=0\/gw x y=1|[],[]=>by simp[gw]|[],_::_=>by simp[gw]|_::_,[]=>by simp[gw]|a::x,b::y=>by have:=ND x y;simp only[gw];(repeat' split)<;>omega
def Dc:ao:=[.s Q]
def a8:ei:=(l.filter λt=>t.ao0==6).map eQ
abbrev GK:=aJ×aJ
def pt(k:GK):V:=.agg [.s k.1,.s k.2]
def yz(a b:GK):cA 4 (pt a) (pt b)=N (decide (a=b)):=by obtain⟨k,t⟩:=a;obtain⟨l,s⟩:=b;simp only[cA,pt,A2,aa];rw[dL];simp
def eX(C:List (GK×Int))(last:aJ):ei->List (GK×Int)|[]=>bump C (last,[]) 1|w::r=>eX (bump C (last,w) 1) w r
abbrev Gr:=GK×Int
def qM(g:Gr):ao:=[.s g.1.1,.s g.1.2,.i .i64 g.2]
def Cc(a b:GK):Int:=Aq [gw a.1 b.1,gw a.2 b.2]
def zt(a b:Gr):Int:=Cc a.1 b.1
def cE:List Gr:=(eX [] [] v).mergeSort λa b=>decide (zt a b<=0)
def cG:It×Bool:=if D.ao0=6\/D.ao0=7\/D.ao0=8\/D.ao0=9\/D.ao0=5 then(⟨D.ao0,eQ D,0⟩,A)else(⟨D.ao0,D.ao3,0⟩,bW D)
def CN{α:Type}[DecidableEq α](n:Nat)(C:List (α×Int)):Prop:=F C<=n/\jM C/\∀k v,bZ k C=N v->0<v/\v<=n
def CN.nil{α:Type}[DecidableEq α]:CN 0 ([]:List (α×Int)):=⟨ax _,by simp[jM],λk v h=>by simp[bZ,eO]at h⟩
def CN.getD{α:Type}[DecidableEq α]{C:List (α×Int)}(h:CN q C)(k:α):0<=(bZ k C).getD 0/\(bZ k C).getD 0<=q:=by cases a:bZ k C with|none=>simp|some v=>have:=h.2.2 k v a;simp;omega
def CN.bump{α:Type}[DecidableEq α]{C:List (α×Int)}(h:CN q C)(a:α):CN (q+1) (Bt.bump C a 1):=by
 refine⟨bX (Hv _ _ _) (by have:=h.1;omega),h.2.1.r7 _ _,λk v b=>?_⟩;unfold Bt.bump at b;rw[gf]at b;have c:=h.getD a;split at b;.simp only[aa]at b;omega
 have:=h.2.2 k v b;omega
def jh:∀(a:ei) (C:List (GK×Int)) (last:aJ) (n:Nat),CN n C->CN (n+F a+1) (eX C last a)
 |[],C,last,n,h=>h.bump _
 |w::r,C,last,n,h=>by
  have:=jh r (bump C (last,w) 1) w (n+1) (h.bump _);simp only[eX,ah];have e:n+(F r+1)+1=n+1+F r+1:=by omega
  rw[e];exact this
def nL{a:cy}(b:a.Nodup)(c:q∈a):a.Perm (q::a.filter λi=>i != q):=by
 refine(vD b (eu.2 ⟨by simp,b.filter _⟩)).2 λx=>?_;simp only[bE,cV,nq,fJ];by_cases h:x=q;.subst h;simp[c]
 simp[h]
def mU{α:Type}(C:List α)(d:α):((List.range (F C)).map λi=>C.getD i d)=C:=by
 apply jw;intro i;rw[bu];by_cases h:i<F C;.simp[lh h,aq,an h]
 rw[bK (by simpa using Ub h),bK (by omega)];rfl
def PN:kU Cc:=by
 have h:=(lF.on (λk:GK=>k.1)).lex (lF.on (λk:GK=>k.2));have e:Cc=Gu (λa b:GK=>gw a.1 b.1) (λa b=>gw a.2 b.2):=by
  funext a b;simp only[Cc,Aq,Gu];split;.rfl
  split<;>omega
 rw[e];exact h
def LC{a b:GK}(h:Cc a b=0):a=b:=by
 simp only[Cc,Aq]at h;have c:gw a.1 b.1=0:=by split at h<;>omega
 have d:gw a.2 b.2=0:=by rw[au (by omega)]at h;split at h<;>omega
 exact Prod.ext (oB.1 c) (oB.1 d)
def l4:kU zt:=PN.on (λg:Gr=>g.1)
def PM:(cE v).Pairwise λx y=>¬zt y x<0:=by have:=afS (le:=λa b=>decide (zt a b<=0)) (λa b c i g=>by simp only[a7]at *;have d:=l4.mI a b;have e:=l4.mI b c;have f:=l4.mI a c;have j:=l4.trans c b a (by omega) (by omega);omega) (λa b=>by have d:=l4.mI a b;simp only[dW,a7];omega) (eX [] [] v);refine this.imp λ{a b} h=>?_;have d:=l4.mI a b;simp only[a7]at h;omega
def gR:(cE v).Perm (eX [] [] v):=List.mergeSort_perm ..
def IQ{C:List Gr}(h:jM C){a b:Gr}(d:a∈C)(g:b∈C)(e:a.1=b.1):a=b:=by have c:=l5 h d;have f:=l5 h g;rw[e,f]at c;exact Prod.ext e (iE c).symm
def DJ{c:ei}{l:List Gr}(d:l.Perm (eX [] [] c))(g:l.Pairwise λx y=>¬zt y x<0):l=cE c:=by have hK:jM (eX [] [] c):=(jh c [] [] 0 CN.nil).2.1;refine List.Perm.eq_of_pairwise (λa b e f x y=>?_) g (PM c) (d.trans (gR c).symm);have h:=l4.mI a b;exact IQ hK (d.mem_iff.1 e) ((gR c).mem_iff.1 f) (LC (show Cc a.1 b.1=0 from(by unfold zt at *;omega)))
def kh(C:List (TK×Int)):List It->List (TK×Int)|[]=>C|t::r=>kh (if(cG t).2 then bump C (eI (cG t).1) 1 else C) r
def FC(b:List Gr):Int:=b.foldl (λa g=>a+g.2) i
def D2(n:Int):List It->Int|[]=>n|t::r=>D2 (if(cG t).2&&!bW (cG t).1 then n+weight (cG t).1 else n) r
def D6(n:Int):List It->Int|[]=>n|t::r=>D6 (if(cG t).2&&bW (cG t).1 then n+1 else n) r
structure Sm where
 fD:Int
 weight:Int
 tags:Int
def jB:Sm:=⟨FC 0 (cE (a8 l)),D2 0 l,D6 0 l⟩
def vr:∀(l:List It) (C:List (TK×Int)) (n:Nat),CN n C->CN (n+F l) (kh C l)
 |[],C,n,h=>h
 |t::r,C,n,h=>by
  simp only[kh,ah];have e:n+(F r+1)=n+1+F r:=by omega
  rw[e];refine vr r _ (n+1) ?_;split;.exact h.bump _
  exact⟨by have:=h.1;omega,h.2.1,λk v a=>by have:=h.2.2 k v a;omega⟩
def mN:F (a8 l)<=F l:=by unfold a8;rw[ae];exact fQ _ _
def rK:F (cE v)<=F v+1:=by rw[(gR v).length_eq];have:=(jh v [] [] 0 CN.nil).1;omega
def B9:∀g∈cE v,0<=g.2/\g.2<=(F v:Int)+1:=λg b=>by have a:=jh v [] [] 0 CN.nil;have c:=l5 a.2.1 ((gR v).mem_iff.1 b);have:=a.2.2 _ _ c;omega
section
variable {α β:Type} [DecidableEq α] {kd:Nat} {ke:α->V} {ve:β->V}
def qS(p:∀a b,cA kd (ke a) (ke b)=N (decide (a=b)))(C:List (α×β))(a:α): (bZ a C=Y/\eL kd (ke a) (emap ke ve C) 0=N Y/\(∀z,eL kd (ke a) (emap ke ve C++[(ke a,z)]) 0=N (N (F (emap ke ve C),z))) /\(∀z,(emap ke ve C++[(ke a,z)])[F (emap ke ve C)]?=N (ke a,z))/\∀z v,(emap ke ve C++[(ke a,z)]).set (F (emap ke ve C)) (ke a,ve v)=emap ke ve (fZ C a v)) \/(∃i b,bZ a C=N b/\eL kd (ke a) (emap ke ve C) 0=N (N (i,ve b))/\(emap ke ve C)[i]?=N (ke a,ve b)/\∀v,(emap ke ve C).set i (ke a,ve v)=emap ke ve (fZ C a v)):=by
 rcases ka (ve:=ve) p C a with⟨g,f,m⟩|⟨i,b,g,f,m⟩
 .refine .inl ⟨g,f,λz=>?_,λz=>by simp,λz v=>?_⟩
  .have d:∀(c:List (V×V)) (n:Nat),eL kd (ke a) c n=N Y->eL kd (ke a) (c++[(ke a,z)]) n=N (N (n+F c,z)):=by
    intro c;induction c with
    |nil=>intro n _;simp[eL,p]
    |cons e c ih =>
    intro n h;simp only[eL,bo]at h |-;split at h;.simp at h
    .rw[ih _ h];simp;omega
    simp at h
   simpa using d _ 0 f
  rw[<- m v,b8 _ _ (ax _)];simp
 refine .inr ⟨i,b,g,f,?_,m⟩;have d:∀(c:List (V×V)) (n:Nat) (r:Nat) (y:V),eL kd (ke a) c n=N (N (r,y))->∃j k,r=n+j/\c[j]?=N (k,y)/\cA kd (ke a) k=N A:=by
  intro c;induction c with
  |nil=>intro n r y h;simp[eL]at h
  |cons e c ih =>
  intro n r y h;obtain⟨k,x⟩:=e;simp only[eL]at h;split at h;.rename_i s;simp only[aa,aB]at h;exact⟨0,k,by omega,by simp[h.2],s⟩
  .obtain⟨j,t,q,l,o⟩:=ih _ _ _ h;exact⟨j+1,t,by omega,by simpa using l,o⟩
  simp at h
 obtain⟨j,k,q,l,o⟩:=d _ 0 i _ f;have:i=j:=by omega
 subst this;rw[l,sO o]
end
variable(U:ag)(l:ag){S:Nat}{X:ag}
def sq(p:Int×Int):ao:=[.i .i64 p.1,.i .i64 p.2]
def mW(p:Nat×Nat):V:=.own p.1 p.2
def je(E g:Nat)(a:df):Ob:=.row E 2 16 g Z (a.map sq)
structure iI {α:Type} [DecidableEq α] (E n:Nat) (T:ag) (G:List (α×(Nat×Nat))) (f:α->df):Prop where
 nodup:(G.map (·.1)).Nodup
 row:∀k r g,bZ k G=some (r,g)->∃j,r=n+j/\T[j]?=some (je E g (f k))
 zU:∀k,bZ k G=none->f k=[]
 inj:∀k k' r g g',bZ k G=some (r,g)->bZ k' G=some (r,g')->k=k'
def still:Ob->Bool|.box _ _=>A|.map _ _ _=>A|.row _ sz _ _ _ _=>decide (2<sz)|_=>Z
def mA:Prop:=F U<=F l/\∀(j:Nat) (o:Ob),U[j]?=N o->still o=A->l[j]?=N o
def mA.refl:mA U U:=⟨ax _,λ_ _ h _=>h⟩
def mA.trans{b c:ag}(h:mA X b)(k:mA b c):mA X c:=⟨bX h.1 k.1,λj o d a=>k.2 j o (h.2 j o d a) a⟩
def mA.app:mA U (U++l):=⟨by simp,λj o h _=>by rw[aj (ab.1 h).1];exact h⟩
def mA.set{b:Ob}(h:X[S]?=N b)(c:still b=Z)(o:Ob):mA X (X.set S o) :=
 ⟨by simp,λi f a d=>by
  have:S≠i:=λe=>by subst e;rw[h]at a;rw[iE a,d]at c;cases c
  rw[aN this];exact a⟩
def mA.setRow{E b g:Nat}{c:Bool}{a:cD}(h:X[S]?=N (.row E 2 b g c a))(o:Ob):mA X (X.set S o):=mA.set h rfl o
section
variable {α:Type} [DecidableEq α] {E n:Nat} {T:ag} {G:List (α×(Nat×Nat))} {f:α->df}
def iI.app(h:iI E n T G f)(l:ag):iI E n (T++l) G f :=⟨h.nodup,λk r g b=>by obtain⟨j,c,a⟩:=h.row k r g b;exact⟨j,c,by rw[aj (ab.1 a).1];exact a⟩,h.zU,h.inj⟩
def iI.other(h:iI E n T G f){j:Nat}(o:Ob)(b:∀k r g,bZ k G=N (r,g)->r≠n+j):iI E n (T.set j o) G f :=
 ⟨h.nodup,λk r g a=>by obtain⟨i,d,c⟩:=h.row k r g a;have:=b k r g a;exact⟨i,d,by rw[aN (by omega)];exact c⟩,h.zU,h.inj⟩
def rR(f:α->df)(k:α)(p:Int×Int):α->df:=λx=>if x=k then f x++[p]else f x
def adF(G:List (α×(Nat×Nat)))(a:α)(b:Nat×Nat):(fZ G a b).map (·.1)=if a∈G.map (·.1)then G.map (·.1)else G.map (·.1)++[a]:=by
 induction G with
 |nil=>simp[fZ]
 |cons p C ih =>
 simp only[fZ];split;.rename_i h;subst h;simp
 rename_i h;simp only[aC,ih];by_cases c:a∈C.map (·.1);.rw[aK c,aK (dw _ c)]
 rw[au c,au (by simp only[bE];rintro(d|d);exact h d;exact c d)];rfl
def KW{G:List (α×(Nat×Nat))}(h:(G.map (·.1)).Nodup)(a:α)(b:Nat×Nat):((fZ G a b).map (·.1)).Nodup:=by
 rw[adF];split;.exact h
 rename_i f;rw[fp];exact⟨h,by simp,λx d y c e=>by simp at c;subst c;subst e;exact f d⟩
def iI.add(h:iI E n T G f){k:α}{j g:Nat}(d:bZ k G=N (n+j,g))(p:Int×Int):iI E n (T.set j (je E (g+1) (f k++[p]))) (fZ G k (n+j,g+1)) (rR f k p):=by
 obtain⟨m,z,v⟩:=h.row k _ _ d;have:m=j:=by omega
 subst this;refine⟨KW h.nodup _ _,λx r s a=>?_,λx a=>?_,λx q r t o a b=>?_⟩
 .rw[gf]at a;split at a;.rename_i e;subst e;simp only[aa,aB]at a;obtain⟨rfl,rfl⟩:=a;exact⟨m,rfl,by rw[aw (ab.1 v).1];simp[rR]⟩
  rename_i e;obtain⟨i,u,w⟩:=h.row x r s a;have y:m≠i:=λc=>by subst c;exact e (h.inj x k r s g a (by rw[d,u]))
  exact⟨i,u,by rw[aN y,w];simp[rR,e]⟩
 .rw[gf]at a;split at a;.simp at a
  rename_i e;simp[rR,e,h.zU x a]
 rw[gf]at a b;split at a<;>split at b;.rename_i l c;rw[l,c]
 .rename_i l c;simp only[aa,aB]at a;rw[<- a.1]at b;exact absurd (h.inj q k _ o g b d) c
 .rename_i l c;simp only[aa,aB]at b;rw[<- b.1]at a;exact absurd (h.inj x k _ t g a d) l
 exact h.inj x q r t o a b
def iI.new(h:iI E n T G f){k:α}(q:bZ k G=Y)(p:Int×Int):iI E n (T++[je E 0 [p]]) (fZ G k (n+F T,0)) (rR f k p):=by
 have j:∀x r g,bZ x G=N (r,g)->r<n+F T:=λx r g a=>by obtain⟨i,d,c⟩:=h.row x r g a;have:=(ab.1 c).1;omega
 refine⟨KW h.nodup _ _,λx r m a=>?_,λx a=>?_,λx t r l o a b=>?_⟩
 .rw[gf]at a;split at a;.rename_i e;subst e;simp only[aa,aB]at a;obtain⟨rfl,rfl⟩:=a;exact⟨F T,rfl,by simp[rR,h.zU _ q]⟩
  rename_i e;obtain⟨i,d,c⟩:=h.row x r m a;exact⟨i,d,by rw[aj (ab.1 c).1,c];simp[rR,e]⟩
 .rw[gf]at a;split at a;.simp at a
  rename_i e;simp[rR,e,h.zU x a]
 rw[gf]at a b;split at a<;>split at b;.rename_i s u;rw[s,u]
 .simp only[aa,aB]at a;have:=j _ _ _ b;omega
 .simp only[aa,aB]at b;have:=j _ _ _ a;omega
 exact h.inj x t r l o a b
end
def iK{α β:Type}[DecidableEq α](k:α):∀(C:List (α×β)),k∈C.map (·.1)<->(bZ k C).isSome
 |[]=>by simp[bZ,eO]
 |p::C=>by
  have ih:=iK k C;by_cases e:k=p.1;.subst e;simp[bZ,eO]
  have a:bZ k (p::C)=bZ k C:=by unfold bZ;rw[eO,au e];exact kP k C 1
  rw[a,<- ih];simp[e]
def qN{α β:Type}[DecidableEq α]{C D:List (α×β)}(c:(C.map (·.1)).Nodup)(h:D.Perm C)(k:α):bZ k D=bZ k C:=by
 have f:(D.map (·.1)).Nodup:=(h.map _).nodup_iff.2 c;have a:∀{L:List (α×β)},(L.map (·.1)).Nodup->∀v,bZ k L=N v<->(k,v)∈L:=by
  intro L;induction L with
  |nil=>intro _ v;simp[bZ,eO]
  |cons p L ih =>
  intro j v;have g:=eu.1 j;by_cases e:k=p.1
  .subst e;have:bZ p.1 (p::L)=N p.2:=by simp[bZ,eO]
   rw[this];simp only[aa,bE];constructor;.rintro rfl;exact .inl rfl
   rintro(b|b);.rw[<- b]
   exact absurd (br.2 ⟨_,b,rfl⟩) g.1
  have l:bZ k (p::L)=bZ k L:=by unfold bZ;rw[eO,au e];exact kP k L 1
  rw[l,ih g.2 v,bE];constructor;.exact .inr
  rintro(b|b);.rw[<- b]at e;exact absurd rfl e
  exact b
 cases d:bZ k C with
 |none =>
  cases i:bZ k D with
  |none=>rfl
  |some v=>exact absurd ((a c v).2 (h.mem_iff.1 ((a f v).1 i))) (by rw[d];simp)
 |some v=>exact(a f v).2 (h.mem_iff.2 ((a c v).1 d))
def kr{α:Type}[DecidableEq α](f:α->df)(id:Int):List (α×Int)->α->df|[]=>f|g::r=>kr (rR f g.1 (id,g.2)) id r
def C3{α β:Type}[DecidableEq α][DecidableEq β](G:List (α×(Nat×Nat)))(H:List (β×(Nat×Nat))):Prop:=∀k r g c a b,bZ k G=N (r,g)->bZ c H=N (a,b)->r≠a
section
variable {α β:Type} [DecidableEq α] [DecidableEq β] {G:List (α×(Nat×Nat))} {H:List (β×(Nat×Nat))}
def C3.symm(h:C3 G H):C3 H G:=λk r g f a d c b e=>h f a d k r g b c e.symm
def C3.add(h:C3 G H){k:α}{r g:Nat}(c:bZ k G=N (r,g))(d:Nat):C3 (fZ G k (r,d)) H:=λx j i y e f a b=>by
 rw[gf]at a;split at a;.simp only[aa,aB]at a;rw[<- a.1];exact h _ _ _ _ _ _ c b
 exact h _ _ _ _ _ _ a b
def C3.new{E n:Nat}{T:ag}{f:β->df}(h:C3 G H)(c:iI E n T H f)(k:α)(m:Nat)(l:F T<=m):C3 (fZ G k (n+m,0)) H:=λx g e y i o a b=>by
 rw[gf]at a;split at a;.simp only[aa,aB]at a;obtain⟨j,p,d⟩:=c.row _ _ _ b;have:=(ab.1 d).1;omega
 exact h _ _ _ _ _ _ a b
end
variable(U:Sm)(Q:TK)(R:Int)(l:Sm)(J:It)(B:df){X:Int}{S L:It}{D v:List It}{P:List TK}{q:TK}{C:df}
def CL{α:Type}[DecidableEq α](id:Int)(k:α):∀(D:List (α×Int)) (f:α->df),jM D->kr f id D k=f k++((bZ k D).toList.map λc=>(id,c))
 |[],f,_=>by simp[kr,bZ,eO]
 |g::r,f,h=>by
  have d:jM r:=by unfold jM at *;exact(eu.1 h).2
  have j:g.1 ∉ r.map (·.1):=by unfold jM at h;exact(eu.1 h).1
  have ih:=CL id k r (rR f g.1 (id,g.2)) d;simp only[kr];rw[ih];by_cases e:k=g.1
  .subst e;have b:bZ g.1 r=Y:=by cases i:bZ g.1 r with|none=>rfl|some v =>exfalso;refine j ?_;have:=(iK g.1 r).2 (by rw[i];rfl);exact this
   have a:bZ g.1 (g::r)=N g.2:=by simp[bZ,eO]
   simp[b,a,rR]
  have a:bZ k (g::r)=bZ k r:=by unfold bZ;rw[eO,au e];exact kP k r 1
  rw[a];simp[rR,e]
def L4{α:Type}[DecidableEq α](f:α->df)(id:Int)(D:List (α×Int))(g:α×Int):kr f id (D++[g])=rR (kr f id D) g.1 (id,g.2):=by induction D generalizing f with|nil=>rfl|cons x D ih=>simp only[bo,kr,ih]
def E4{α:Type}[DecidableEq α](id:Int)(k:α):∀(D:List (α×Int)) (f:α->df),F (kr f id D k)<=F (f k)+F D
 |[],f=>by simp[kr]
 |g::r,f=>by
  have ih:=E4 id k r (rR f g.1 (id,g.2));have:F (rR f g.1 (id,g.2) k)<=F (f k)+1:=by unfold rR;split<;>simp
  simp only[kr,ah];omega
def Ef:ao:=[.i .i64 U.fD,.i .i64 U.weight,.i .i64 U.tags]
structure Sm.ok (s:Sm) (m:Int):Prop where
 p:0<=s.fD/\s.fD<=m
 w:0<=s.weight/\s.weight<=m
 t:0<=s.tags/\s.tags<=m
def tF(c:Sm):Int:=mx (mx U.weight l.weight - c.weight+3*(U.tags+l.tags - 2*c.tags)) (4*(mx U.fD l.fD - c.fD+1).tdiv 2)
def my(apf a:Int):Int:=if 100<a then -1 else if a<1\/apf<1 then 1073741824 else((if 1073741824<apf then 1073741824 else apf)*(100 - a)).tdiv 100
def Mj(m:Int)(k:Int)(d:0<k)(h : -m<=R/\R<=m): -m<=R.tdiv k/\R.tdiv k<=m:=by
 by_cases c:0<=R;.rw[ey c];have f:=tL c (Int.le_of_lt d);have g:=Ak k c;omega
 have e:R = -(-R):=by omega
 rw[e,Int.neg_tdiv,ey (by omega)];have f:=tL (a := -R) (b:=k) (by omega) (Int.le_of_lt d);have g:=Ak (a := -R) k (by omega);omega
def uB:Sm:=⟨0,0,0⟩
def Sm.add:Sm:=⟨U.fD+l.fD,U.weight+l.weight,U.tags+l.tags⟩
def oz:V:=.agg (Ef U)
def Sm.size:Int:=U.fD+U.weight+U.tags
def Sm.nn:Prop:=0<=U.fD/\0<=U.weight/\0<=U.tags
abbrev pk:=Int×Sm
def ux(O:List pk)(i:pk):List pk:=fZ O i.1 (((bZ i.1 O).getD uB).add i.2)
def dU(O:List pk)(I:List pk):List pk:=I.foldl ux O
def jL(I:List pk):Int:=(I.map λi=>i.2.size).sum
def Qu(I:List pk):Prop:=∀i∈I,i.2.nn
def OB(O:List pk):Prop:=0<=R/\∀id s,bZ id O=N s->s.ok R
def Sm.nn.size{s:Sm}(h:s.nn):0<=s.size:=by unfold Sm.size;obtain⟨a,b,c⟩:=h;omega
def OB.nil:OB 0 []:=⟨cP _,λid s h=>by simp[bZ,eO]at h⟩
def OB.getD{O:List pk}(h:OB X O)(id:Int):((bZ id O).getD uB).ok X:=by cases a:bZ id O with|none=>exact⟨⟨cP _,h.1⟩,⟨cP _,h.1⟩,⟨cP _,h.1⟩⟩|some s=>exact h.2 id s a
def OB.add{O:List pk}(h:OB X O){i:pk}(e:i.2.nn):OB (X+i.2.size) (ux O i):=by
 have k:=e.size;refine⟨by have:=h.1;omega,λid s d=>?_⟩;unfold ux at d;rw[gf]at d;have f:=h.getD i.1;obtain⟨g,j,l⟩:=e;split at d;.simp only[aa]at d;subst d;obtain⟨a,b,c⟩:=f;unfold Sm.size at *;exact⟨by simp only[Sm.add];omega,by simp only[Sm.add];omega,by simp only[Sm.add];omega⟩
 obtain⟨a,b,c⟩:=h.2 id s d;exact⟨by omega,by omega,by omega⟩
def tS{I:List pk}(h:Qu I):0<=jL I:=by induction I with|nil=>exact cP _|cons i I ih =>have c:=(h i (by simp)).size;have b:=ih λj a=>h j (by simp[a]);simp only[jL,aC,ca]at b |-;omega
def xO(i:pk)(I:List pk):jL (i::I)=i.2.size+jL I:=by simp[jL]
def qq(I Jj:List pk):jL (I++Jj)=jL I+jL Jj:=by simp[jL]
def OB.mono{d:Int}{O:List pk}(h:OB X O)(f:X<=d):OB d O:=⟨by have:=h.1;omega,λid s e=>by obtain⟨a,b,c⟩:=h.2 id s e;exact⟨by omega,by omega,by omega⟩⟩
def OB.apply{X:Int}:∀(I:List pk) {O:List pk},OB X O->Qu I->OB (X+jL I) (dU O I)|[],O,h,_=>by simpa[jL,dU]using h|i::I,O,h,hn=>by have a:=h.add (hn i (by simp));have c:=OB.apply I a (λj b=>hn j (by simp[b]));rw[xO,<- Int.add_assoc];exact c
def kG:List pk:=B.map λp=>(p.1,⟨mn p.2 R,0,0⟩)
def oh:List pk:=B.map λp=>(p.1,if lQ Q then⟨0,0,mn p.2 R⟩else⟨0,mn p.2 R*weight ⟨Q.1,Q.2,0⟩,0⟩)
def sL{α:Type}(c:α->List pk){a b:List α}(h:a.Perm b):jL (a.flatMap c)=jL (b.flatMap c):=by induction h with|nil=>rfl|cons x _ ih=>simp only[dR,qq,ih]|swap x y l=>simp only[dR,qq];omega|trans _ _ e d=>exact e.trans d
def LY(O I Jj:List pk):dU O (I++Jj)=dU (dU O I) Jj:=by simp[dU]
def xF:0<=weight J/\weight J<=4:=by
 unfold weight;repeat' split
 all_goals omega
def Au{k:TK}(d:0<=X)(h:∀p∈C,0<=p.2):Qu (oh k X C):=λi b=>by
 simp only[oh,br]at b;obtain⟨q,c,rfl⟩:=b;have:=h q c;have a:0<=mn q.2 X:=by unfold mn;split<;>omega
 simp only;split;.exact⟨cP _,cP _,a⟩
 exact⟨cP _,vF a (xF _).1,cP _⟩
def Nd(c:0<=X)(h:∀p∈C,0<=p.2):Qu (kG X C):=λi a=>by simp only[kG,br]at a;obtain⟨q,b,rfl⟩:=a;have:=h q b;exact⟨by simp only[mn];split<;>omega,cP _,cP _⟩
def jt(id:Int)(s:Sm)(I:List pk):Sm:=I.foldl (λs i=>if i.1=id then s.add i.2 else s) s
def vl(id:Int):∀(I O:List pk),(bZ id (dU O I)).getD uB=jt id ((bZ id O).getD uB) I
 |[],O=>rfl
 |i::I,O=>by
  have h:=vl id I (ux O i);have e:(bZ id (ux O i)).getD uB=if i.1=id then((bZ id O).getD uB).add i.2 else(bZ id O).getD uB:=by
   unfold ux;rw[gf];by_cases a:i.1=id;.subst a;simp
   rw[au (λe=>a e.symm),au a]
  rw[e]at h;exact h
def uj(id:Int)(s:Sm)(I Jj:List pk):jt id s (I++Jj)=jt id (jt id s I) Jj:=by simp[jt]
def Sm.add_assoc(a b c:Sm):(a.add b).add c=a.add (b.add c):=by simp only[Sm.add,J7]
def Sm.Qk(c:Sm):(U.add l).add c=(U.add c).add l:=by simp only[Sm.add,Sm.mk.injEq];omega
def Sm.ae9:U.add uB=U:=by simp[Sm.add,uB]
def yL(id:Int)(t:Sm):∀(I:List pk) (s:Sm),jt id (s.add t) I=(jt id s I).add t
 |[],s=>rfl
 |i::I,s=>by
  show jt id (if i.1=id then(s.add t).add i.2 else s.add t) I=(jt id (if i.1=id then s.add i.2 else s) I).add t;by_cases h:i.1=id;.rw[aK h,aK h,Sm.Qk,yL id t I]
  rw[au h,au h,yL id t I]
def CM(id:Int)(Jj:List pk):∀(I:List pk) (s:Sm),jt id (jt id s I) Jj=jt id (jt id s Jj) I
 |[],s=>rfl
 |i::I,s=>by
  have e:∀s:Sm,jt id s (i::I)=jt id (if i.1=id then s.add i.2 else s) I:=λ_=>rfl;rw[e,e,CM id Jj I];by_cases h:i.1=id;.rw[aK h,aK h,yL]
  rw[au h,au h]
def CO{α:Type}(id:Int)(c:α->List pk){a b:List α}(h:a.Perm b):∀s,jt id s (a.flatMap c)=jt id s (b.flatMap c):=by induction h with|nil=>intro s;rfl|cons x _ ih=>intro s;simp only[dR,uj,ih]|swap x y l=>intro s;simp only[dR,uj];rw[CM id (c x) (c y) s]|trans _ _ e d=>intro s;exact(e s).trans (d s)
def pos:Int:=if 0<R then R else 0
def vP{α:Type}{f g:α->Int}{K:List α}(h:∀k∈K,g k<=f k):dd g K<=dd f K:=by induction K with|nil=>exact cP _|cons k K ih =>have c:=h k (by simp);have b:=ih λy a=>h y (by simp[a]);simp only[dd,aC,ca]at b |-;omega
def tR{α:Type}{f g:α->Int}{K:List α}(hK:K.Nodup)(a:α){d:Int}(c:0<=d)(h0:g a<=f a+d)(h:∀k,k≠a->g k<=f k):dd g K<=dd f K+d:=by
 induction K with
 |nil=>simpa[dd]using c
 |cons k K ih =>
 simp only[eu]at hK;by_cases e:k=a;.subst e;have b:dd g K<=dd f K:=vP λx i=>h x (by rintro rfl;exact hK.1 i);simp only[dd,aC,ca]at b |-;omega
 have b:=ih hK.2;have j:=h k e;simp only[dd,aC,ca]at b |-;omega
def uW:Option TK:=if(cG J).2 then N (eI (cG J).1)else Y
def eN(k:TK):List It->Int|[]=>0|x::l=>(if uW x=N k then 1 else 0)+eN k l
def wK:Int:=weight ⟨Q.1,Q.2,0⟩
def Jz:(cG J).1.ao0=J.ao0:=by unfold cG;split<;>rfl
def sD{a b:It}(h:a.ao0=b.ao0):weight a=weight b:=by unfold weight;rw[h]
def AH(h:uW S=N q):q.1=S.ao0/\lQ q=bW S/\wK q=weight S:=by
 unfold uW at h;split at h;.simp only[aa]at h;subst h;have e:(eI (cG S).1).1=S.ao0:=Jz S;refine⟨e,?_,sD e⟩;unfold lQ bW;rw[e]
 cases h
def CA(h:uW S=N q):single S=if lQ q then 1 else wK q:=by obtain⟨_,a,b⟩:=AH h;unfold single;rw[a,b]
def iL(a b:List It)(k:TK):Int:=if lQ k then mz (eN k a - eN k b)else wK k*pos (eN k a - eN k b)
def Xy:0<=wK Q:=(mP _).1
def IM(hK:P.Nodup)(x:It)(a b:List It):dd (iL (x::a) b) P<=dd (iL a b) P+single x:=by
 cases f:uW x with
 |none =>
  have d:dd (iL (x::a) b) P=dd (iL a b) P:=eK λk _=>by simp[iL,eN,f]
  have g:=(eV x).1;omega
 |some c =>
 refine tR hK c (eV x).1 ?_ λk h=>?_
 .rw[CA f];simp only[iL,eN,f,aU];split;.unfold mz;(repeat' split)<;>omega
  have d:pos (1+eN c a - eN c b)<=pos (eN c a - eN c b)+1:=by unfold pos;(repeat' split)<;>omega
  have g:=lO d (Xy c);rw[jK,Int.mul_one]at g;exact g
 have d:¬c=k:=λe=>h e.symm;simp[iL,eN,f,d]
def EC{K:List TK}(d:bW S=Z)(a b:List It):dd (iL a (S::b)) K<=dd (iL a b) K:=by
 refine vP λk _=>?_;by_cases c:uW S=N k
 .have e:lQ k=Z:=by rw[(AH c).2.1];exact d
  simp only[iL,eN,c,aU,e,aI,aQ];refine lO ?_ (Xy k);unfold pos;(repeat' split)<;>omega
 simp[iL,eN,c]
def Sd{K:List TK}(hK:K.Nodup)(u:It)(a b:List It):dd (iL a (u::b)) K<=dd (iL a b) K+single u:=by
 cases g:bW u with
 |false=>have:=EC (K:=K) g a b;have:=(eV u).1;omega
 |true =>
 cases c:uW u with
 |none =>
  have f:dd (iL a (u::b)) K=dd (iL a b) K:=eK λk _=>by simp[iL,eN,c]
  have j:=(eV u).1;omega
 |some d =>
 have i:lQ d=A:=by rw[(AH c).2.1];exact g
 refine tR hK d (eV u).1 ?_ λk h=>?_;.rw[CA c];simp only[iL,eN,c,aU,i];unfold mz;(repeat' split)<;>omega
 have f:¬d=k:=λe=>h e.symm;simp[iL,eN,c,f]
def Kh(h:eI S=eI L):uW S=uW L:=by simp only[eI,aB]at h;obtain⟨a,b⟩:=h;unfold uW cG eQ bW;rw[a,b]
def zB(a:er S L=N X)(j:uW S≠uW L):X=single S/\bW S=Z/\bW L=Z:=by
 unfold er at a;split at a;.rename_i h;exact absurd (Kh ((sP S L).1 h)) j
 split at a;.cases a
 rename_i b;have b:S.ao0=L.ao0:=by simpa using b
 split at a
 .rename_i c;have d:bW S=Z:=by simp[bW,c]
  have f:bW L=Z:=by simp[bW,<- b,c]
  split at a
  .rename_i e;refine absurd ?_ j;have e:eQ S=eQ L:=by simpa using e
   have g:L.ao0=6:=by rw[<- b];exact c
   unfold uW cG;simp only[c,g,Ho,aU,e,eI]
  simp only[aa]at a;exact⟨by rw[<- a];simp[single,d],d,f⟩
 rename_i c;split at a
 .rename_i i;have d:bW S=Z:=by unfold bW;rcases i with h|h|h|h<;>rw[h]<;>rfl
  have f:bW L=Z:=by unfold bW;rw[<- b];rcases i with h|h|h|h<;>rw[h]<;>rfl
  simp only[aa]at a;exact⟨by rw[<- a];simp[single,d],d,f⟩
 cases a
def Pp{K:List TK}(hK:K.Nodup)(c:er S L=N X)(a b:List It):dd (iL (S::a) (L::b)) K<=dd (iL a b) K+X:=by
 by_cases d:uW S=uW L
 .have f:dd (iL (S::a) (L::b)) K=dd (iL a b) K:=eK λk _=>by
   have e:eN k (S::a) - eN k (L::b)=eN k a - eN k b:=by simp only[eN,d];omega
   simp only[iL,e]
  have h:=(qR c).1;omega
 obtain⟨f,_,g⟩:=zB c d;have i:=IM hK S a (L::b);have j:=EC (K:=K) g a b;omega
def M8(hK:P.Nodup)(h:Al D v X):dd (iL D v) P<=X:=by
 induction h with
 |nil =>
  have:dd (iL [] []) P<=dd (λ_=>0) P:=vP λk _=>by simp[iL,eN,mz,pos]
  have e:dd (λ_:TK=>(0:Int)) P=0:=by clear this hK;induction P with|nil=>rfl|cons k P ih=>simp only[dd,aC,ca]at ih |-;omega
  omega
 |del x h ih=>rename_i a B C;exact eD (IM hK x a B) (by omega)
 |ins u h ih=>rename_i a B C;exact eD (Sd hK u a B) (by omega)
 |pair x u b h ih=>rename_i a B C;exact eD (Pp hK b a B) (by omega)
def LQ(h:er S L=N X):er L S=N X:=by
 have f:lJ L S=lJ S L:=by simp only[lJ,afh (a:=L.ao0),afh (a:=L.ao3)]
 unfold er at h |-;rw[f];split at h;.rename_i d;rw[aK d];exact h
 rename_i d;rw[au d];split at h;.cases h
 rename_i c;have c:S.ao0=L.ao0:=by simpa using c
 rw[au (by simp[c]),<- c,sD (a:=L) (b:=S) c.symm];have e:(eQ L==eQ S)=(eQ S==eQ L):=afh;rw[e];exact h
def Al.symm(h:Al D v X):Al v D X:=by induction h with|nil=>exact .nil|del x h ih=>exact .ins x ih|ins u h ih=>exact .del u ih|pair x u a h ih=>exact .pair u x (LQ a) ih
def ko(g:GK)(last:aJ):ei->Int|[]=>if(last,([]:aJ))=g then 1 else 0|w::r=>(if(last,w)=g then 1 else 0)+ko g w r
def kN(a:aJ)(d:ei)(c:aJ)(b:ei)(g:GK):Int:=pos (ko g a d - ko g c b)
def ql{α:Type}(K:List α):dd (λ_=>0) K=0:=by induction K with|nil=>rfl|cons k K ih=>simp only[dd,aC,ca]at ih |-;omega
section
variable {K:List GK} (hK:K.Nodup)
include hK
theorem Pq(a b:aJ):dd (kN a [] b []) K<=if a=b then 0 else 1:=by
 split
 .rename_i h;subst h;have:dd (kN a [] a []) K=dd (λ_=>0) K:=eK λk _=>by simp[kN,pos]
  rw[this,ql];exact cP _
 have:=tR (f:=λ_=>0) (g:=kN a [] b []) hK (a,[]) (d:=1) (by decide) (by simp only[kN,ko,pos];(repeat' split)<;>omega) (λk c=>by simp only[kN,ko,pos,au (λe=>c e.symm:¬(a,([]:aJ))=k)];(repeat' split)<;>omega);rw[ql]at this;omega
theorem yj(a w:aJ)(c:ei)(d:aJ)(b:ei):dd (kN a (w::c) d b) K<=dd (kN w c d b) K+1 :=tR hK (a,w) (by decide) (by simp only[kN,ko,pos];(repeat' split)<;>omega) (λk f=>by simp only[kN,ko,pos,au (λe=>f e.symm:¬(a,w)=k)];(repeat' split)<;>omega)
omit hK in
theorem yi(a:aJ)(b:ei)(d v:aJ)(c:ei):dd (kN a b d (v::c)) K<=dd (kN a b v c) K :=vP λk _=>by simp only[kN,ko,pos];(repeat' split)<;>omega
omit hK in
theorem K8(l w:aJ)(b a:ei):dd (kN l (w::b) l (w::a)) K=dd (kN w b w a) K :=eK λk _=>by
  have e:ko k l (w::b) - ko k l (w::a)=ko k w b - ko k w a:=by simp only[ko];omega
  simp only[kN,e]
omit hK in
theorem jx(x:It)(l:List It):a8 (x::l)=if x.ao0=6 then eQ x::a8 l else a8 l:=by
 unfold a8;by_cases h:x.ao0=6;.simp[h]
 simp[h]
theorem IN{a b:List It}{c:Int}(h:Al a b c):∃k:Int,0<=k/\4*k<=c/\∀g f,dd (kN g (a8 a) f (a8 b)) K<=2*k+if g=f then 0 else 1:=by
 induction h with
 |nil=>exact⟨0,by decide,by decide,λg f=>by have:=Pq hK g f;simpa[a8]using this⟩
 |del x h ih =>
  rename_i d B C;obtain⟨k,m,p,l⟩:=ih;have w:=eV x;by_cases i:x.ao0=6
  .have e:single x=4:=by simp[single,bW,weight,i]
   refine⟨k+1,by omega,by omega,λg f=>?_⟩;rw[jx,aK i];have o:=eD (yj hK g (eQ x) (a8 d) f (a8 B)) (Ha (l (eQ x) f) 1);refine eD o ?_;(repeat' split)<;>omega
  refine⟨k,m,by omega,λg f=>?_⟩;rw[jx,au i];exact l g f
 |ins u h ih =>
  rename_i d B C;obtain⟨k,m,p,l⟩:=ih;have w:=eV u;by_cases j:u.ao0=6
  .have e:single u=4:=by simp[single,bW,weight,j]
   refine⟨k+1,by omega,by omega,λg f=>?_⟩;rw[jx,aK j];refine eD (yi g (a8 d) f (eQ u) (a8 B)) (eD (l g (eQ u)) ?_);(repeat' split)<;>omega
  refine⟨k,m,by omega,λg f=>?_⟩;rw[jx,au j];exact l g f
 |pair x u n h ih =>
 rename_i d B C;obtain⟨k,m,p,l⟩:=ih;have z:=(qR n).1;have t:x.ao0=u.ao0:=by
  unfold er at n;split at n;.rename_i h;simp only[lJ,aP,b9]at h;exact h.1
  split at n;.cases n
  rename_i h;simpa using h
 by_cases i:x.ao0=6
 .have j:u.ao0=6:=by rw[<- t];exact i
  by_cases r:eQ x=eQ u
  .refine⟨k,m,by omega,λg f=>?_⟩;rw[jx,jx,aK i,aK j,<- r];have q:=l (eQ x) (eQ x);rw[aK rfl]at q;by_cases s:g=f;.subst s;rw[K8,aK rfl];exact q
   rw[au s];have o:=eD (yj hK g (eQ x) (a8 d) f (eQ x::a8 B)) (Ha (yi (K:=K) (eQ x) (a8 d) f (eQ x) (a8 B)) 1);exact eD o (by omega)
  have y:uW x≠uW u:=by unfold uW cG;simp only[i,j,Ho,aU,eI,fJ,aa,aB,gL];exact r
  have v:=(zB n y).1;have e:single x=4:=by simp[single,bW,weight,i]
  refine⟨k+1,by omega,by omega,λg f=>?_⟩;rw[jx,jx,aK i,aK j];have o:=eD (yj hK g (eQ x) (a8 d) f (eQ u::a8 B)) (Ha (eD (yi (K:=K) (eQ x) (a8 d) f (eQ u) (a8 B)) (l (eQ x) (eQ u))) 1);refine eD o ?_;(repeat' split)<;>omega
 have j:¬u.ao0=6:=by rw[<- t];exact i
 refine⟨k,m,by omega,λg f=>?_⟩;rw[jx,jx,au i,au j];exact l g f
end
end Go.Bt
