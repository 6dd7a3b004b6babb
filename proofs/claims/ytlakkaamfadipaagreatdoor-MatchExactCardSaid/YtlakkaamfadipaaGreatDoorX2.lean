/- A part of a proof; the claim's last text says of what. -/
import Derived.Test.YtlakkaamfadipaaGreatDoorB20
import Derived.Test.YtlakkaamfadipaaGreatDoorB22
import Derived.Test.YtlakkaamfadipaaGreatDoorX1
set_option linter.all false
set_option maxHeartbeats 1000000

namespace Go.Bt
open Go Go.Pm
set_option maxRecDepth 100000
def dU:Nat->List It->Int->aG->Int->List It×Int×Int
 |0,_,_,_,at'=>([],at',2)
 |_+1,f,_,[],_=>(f,0,0)
 |n+1,f,len,c::l,at' =>
  let p:=eW (c::l)
  if p.2=0 then([],at',2)else if p.1.awb≠1/\cY f p.1≠0 then([],at',cY f p.1)else
  let g:=awl (f++[p.1])
  if 512<g.length\/1024<len+1 then([],at',3)else dU n g (len+1) ((c::l).drop p.2.toNat) (at'+p.2)
def qb{f:List It}{t:aG}{c:UInt8}(h:∀x,f.getLast?=some x->x.awb≠1):dO (closed f t) ⟨1,[c],0⟩=closed f (t++[c]):=by
 by_cases a:t=[]
 .subst a;rw[iP];simp only[dO,closed,fc,eN,aS,bc];rw[an (by simp),an (by simp)];cases b:f.getLast? with
  |none=>rfl
  |some y=>simp only[an (h y b)]
 .simp[dO,closed,a]
def tM{f:List It}{t:aG}(b:awl f=f)(h:∀x,f.getLast?=some x->x.awb≠1):awl (closed f t)=closed f t:=by
 by_cases a:t=[]
 .subst a;rw[iP];exact b
 .have e:closed f t=f++[⟨1,t,0⟩]:=by simp[closed,a]
  rw[e,fC b];simp only[dO,fc,eN,aS,an a];cases c:f.getLast? with
  |none=>rfl
  |some y=>simp only[an (h y c)]
def xX:∀(n:Nat) (f:List It) (t l:aG) (d:Int),bQ [] (closed f t)=0->(∀x,f.getLast?=some x->x.awb≠1)->awl f=f ->
  dU n (closed f t) ((awr f+t.length:Nat):Int) l d=nV n (kT f t) l d:=by
 intro n
 induction n with
 |zero=>intros;rfl
 |succ n ih =>
  intro f t l d j m v;have o:=tM (t:=t) v m;cases l with
  |nil=>simp only[dU,nV,vi]
  |cons c l =>
   have u:bQ [] f=0:=by
    simp only[closed]at j;split at j
    .exact j
    .rw[fp]at j;exact j.1
   simp only[dU,nV]
   by_cases g:(aX (c::l)).2.2=true
   .have D:=(od (s:=c::l) (by simp)).2.2 g;have B:eW (c::l)=((aX (c::l)).1,(aX (c::l)).2.1):=by rw[eW,az g]
    simp only[B,g,mg,aS];rw[an (by omega)];rcases mN (s:=c::l) (by simp) g with⟨b,a,_⟩|⟨a,p,_⟩
    .rw[a,vk,an (by simp),fC o,qb m]
     have k:(512<(closed f (t++[b])).length\/(1024:Int)<((awr f+t.length:Nat):Int)+1)<->ic f t ⟨1,[b],0⟩:=by
      simp only[ic,px,aj,ai,al,fc,eN,nk]
      by_cases r:t.length=0
      .rw[az (by omega),an (by omega),az r];omega
      .rw[az (by omega),az (by omega),an r];omega
     by_cases e:ic f t ⟨1,[b],0⟩
     .rw[az (k.2 e),az e];simp
     .rw[an (λh=>e (k.1 h)),an e];simp only[fc,eN,aS];have i:closed f (t++[b])=f++[⟨1,t++[b],0⟩]:=by simp[closed]
      have q:bQ [] (closed f (t++[b]))=0:=by
       rw[i,fp];refine⟨u,?_,by simp[b9]⟩;simp only[bG,aT,bc,aJ];refine⟨⟨by simp,by simp⟩,?_⟩;cases z:f.getLast? with
       |none=>rfl
       |some y=>simpa using m y z
      have:=ih f (t++[b]) ((c::l).drop (aX (c::l)).2.1.toNat) (d+(aX (c::l)).2.1) q m v;rw[<- this];congr 1;simp;omega
    .rw[vj _ _ _ a,vS u p]
     have C:cY (closed f t) (aX (c::l)).1=if(b9 (aX (c::l)).1&&!fits (closed f t) (aX (c::l)).1)=true then 7 else 0:=by
      simp only[cY,jv a,p];simp
     rw[C]
     by_cases i:(b9 (aX (c::l)).1&&!fits (closed f t) (aX (c::l)).1)=true
     .simp[i,a]
     .rw[an i,an i,an (by simp),fC o,lT a]
      have k:(512<(closed f t++[(aX (c::l)).1]).length\/(1024:Int)<((awr f+t.length:Nat):Int)+1)<->ic f t (aX (c::l)).1:=by
       simp only[ic,a,px,aj,ai,al,fc,cP,Ff,aT];omega
      by_cases e:ic f t (aX (c::l)).1
      .rw[az (k.2 e),az e];simp
      .rw[an (λh=>e (k.1 h)),an e];simp only[fc,eN,aS]
       have q:bQ [] (closed (closed f t++[(aX (c::l)).1]) [])=0:=by
        rw[iP,fp];refine⟨j,?_,by simpa using i⟩;rw[jv a];exact p
       have hn:awl (closed f t++[(aX (c::l)).1])=closed f t++[(aX (c::l)).1]:=by
        rw[fC o,lT a]
       have:=ih (closed f t++[(aX (c::l)).1]) [] ((c::l).drop (aX (c::l)).2.1.toNat) (d+(aX (c::l)).2.1) q (by
        intro x w;simp only[jg,gG,mz,ae]at w;subst w;exact a) hn
       rw[<- this,iP];congr 1;have A:wid (aX (c::l)).1=1:=by simp[wid,a]
       simp[ka,mH,nr,A]
   .have g:(aX (c::l)).2.2=false:=by simpa using g
    rw[nv g];simp[g]
def oR:∀(n:Nat) (f:List It) (len:Int) (l:aG) (a:Int),(dU n f len l a).2.2=0->(dU n f len l a).2.1=0
 |0,_,_,_,_,h=>by simp[dU]at h
 |n+1,f,len,[],a,_=>rfl
 |n+1,f,len,c::l,a,h=>by
  simp only[dU]at h |-;split
  .rename_i d;rw[az d]at h;simp at h
  .rename_i d;rw[an d]at h;split
   .rename_i b;rw[az b]at h;exact absurd h b.2
   .rename_i b;rw[an b]at h;split
    .rename_i e;rw[az e]at h;simp at h
    .rename_i e;rw[an e]at h;exact oR n _ _ _ _ h
def nR:∀(n:Nat) (f:List It) (len:Int) (l:aG) (a:Int),(dU n f len l a).2.2≠0->(dU n f len l a).1=[]
 |0,_,_,_,_,_=>rfl
 |n+1,f,len,[],a,h=>by simp[dU]at h
 |n+1,f,len,c::l,a,h=>by
  simp only[dU]at h |-;split
  .rfl
  .rename_i b;rw[an b]at h;split
   .rfl
   .rename_i e;rw[an e]at h;split
    .rfl
    .rename_i d;rw[an d]at h;exact nR n _ _ _ _ h
def qe{x:It}(b:x.awb≠1)(h:bG none x=true):x.awd.length<=(cK x).length:=by
 simp only[bG,an b]at h;simp only[cK,an b]
 by_cases a:x.awb=2
 .simp[a];omega
 .by_cases e:x.awb=3
  .simp[e];omega
  .by_cases d:x.awb=4
   .simp[d];omega
   .by_cases c:x.awb=5
    .simp[c];omega
    .simp[a,e,d,c]at h
def u7{s:aG}(d:s≠[]):(eW s).2≠0->1<=(eW s).2/\(eW s).2<=s.length/\((eW s).1.awd.length:Int)<=(eW s).2:=by
 have h:=od d;simp only[eW]
 by_cases a:(aX s).2.2=true
 .rw[az a];intro _;have b:=h.2.2 a;refine⟨b.1,b.2,?_⟩;have i:(s.drop (aX s).2.1.toNat).length=s.length - (aX s).2.1.toNat:=bA ..;rcases mN d a with⟨c,e,_⟩|⟨f,g,k⟩
  .rw[e];simp;omega
  .have l:=qe f g;have j:=congrArg List.length k;rw[aj,i]at j;simp only;omega
 .rw[an a];simp
def nw(s:aG):List It×Int×Int:=dU (s.length+1) [] 0 s 0
def rE(s:aG):nw s=parse s:=by
 have:=xX (s.length+1) [] [] s 0 (by simp[closed,bQ]) (by simp) rfl;rw[iP]at this;exact this
def uI:∀{x y:aG},x<y<->fS x y<0
 |[],[]=>by simp[fS]
 |[],_::_=>by simp[fS]
 |_::_,[]=>by simp[fS]
 |a::x,b::y=>by
  rw[L4,uI (x:=x) (y:=y)];simp only[fS]
  by_cases c:a<b
  .simp[c]
  .by_cases d:b<a
   .have:a≠b:=by rintro rfl;exact c d
    simp[c,d,this]
   .have e:a=b:=Fh (ud.1 d) (ud.1 c);subst e;simp[c]
def pe(x y:aG):leB x y=decide (fS x y<=0):=by
 have h:(x<=y)<->¬(y<x):=Fk;have a:=gi.my x y;simp only[leB,decide_eq_decide,h,uI];omega
def AO(out:dq)(k:aG):Bool :=
 match out.getLast? with
 |none=>false
 |some x=>!Op.bytesLess x k
def ph:List En->dq->dq×Bool
 |[],out=>(out,true)
 |e::r,out=>if cj e≠0 then([],false)else if AO out (cq e)=true then([],false)else ph r (out++[cq e])
def keysOf(m:List En):dq×Bool:=if 1024<m.length then([],false)else ph m []
def KA(l:dq):Prop:=l.Pairwise λa b=>fS a b<0
def rl:∀(m:List En) (out:dq),(∀e∈m,cj e=0)->KA (out++m.map cq)->ph m out=(out++m.map cq,true)
 |[],out,_,_=>by simp[ph]
 |e::r,out,h,ha=>by
  simp only[ph];rw[an (by simp[h e (by simp)]),an ?_,rl r _ (λx a=>h x (by simp[a])) (by simpa using ha)]
  .simp
  .simp only[AO];rcases dn out with rfl|⟨o,x,rfl⟩
   .simp
   .simp only[da,jg,gG,mz,fU];simp only[KA,aH,da,jf]at ha;have:=ha.2.2 x (by simp) (cq e) (by simp);simp[this]
def pK(k:aG)(l:dq):Nat:=l.countP λy=>decide (y<k)
def find(m:List En)(k:aG):Int :=
 if(keysOf m).2=false\/pK k (keysOf m).1=(keysOf m).1.length\/(keysOf m).1.getD (pK k (keysOf m).1) []≠k then -1 else pK k (keysOf m).1
structure nj (m:List En):Prop where
 len:m.length<=1024
 ok:∀e∈m,cj e=0
 s6:KA (m.map cq)
def nj.keys{m:List En}(h:nj m):keysOf m=(m.map cq,true):=by
 have a:=h.len;simp only[keysOf];rw[an (by omega),rl m [] h.ok (by simpa using h.s6)];simp
instance:DecidableEq It:=λ_ _=>decidable_of_iff _ vC
def fE(f:List It)(n:Int):It:=(f.find? λx=>b9 x&&x.id==n).getD gH
def vB(b:List It)(x:It)(m:Int):Bool:=x.awb==(fE b m).awb&&x.awd==(fE b m).awd
def jR(a b:List It):bH->bH->eR
 |[],_=>[]
 |n::r,left=>match left.find? (vB b (fE a n))with
  |none=>jR a b r left
  |some m=>(n,m)::jR a b r (left.erase m)
def kI(a b:List It):eR:=jR a b (awm a) (awm b)
def iM(f:List It):dq:=(f.filter λx=>x.awb==5).map (·.awd)
def iH(f:List It):dq:=(iM f).mergeSort leB
def mw(l:dq)(s:aG):dq:=l.takeWhile (λy=>leB y s)++s::l.dropWhile λy=>leB y s
def CI(f:List It):dq:=(iM f).foldl mw []
def yn(a b c:aG)(h1:leB a b=true)(e:leB b c=true):leB a c=true:=by
 rw[pe,aV]at h1 e |-;have g:=gi.my a b;have h:=gi.my b c;have i:=gi.my a c
 by_cases d:fS a b=0
 .rw[kh]at d;subst d;exact e
 .by_cases f:fS b c=0
  .rw[kh]at f;subst f;exact h1
  .have:=lY (x:=a) (y:=b) (z:=c) (by omega) (by omega);omega
def yo(a b:aG):(leB a b||leB b a)=true:=by
 rw[pe,pe,eD,aV,aV];have:=gi.my a b;omega
def Jy{a b:aG}(h1:leB a b=true)(c:leB b a=true):a=b:=by
 rw[pe,aV]at h1 c;have:=gi.my a b;exact kh.1 (by omega)
def sX(l:dq)(s:aG):(mw l s).Perm (s::l):=by
 have:=uf (a:=s) (l₁:=l.takeWhile λy=>leB y s) (l₂:=l.dropWhile λy=>leB y s)
 rwa [lQ]at this
def tQ:∀{l:dq} (s:aG),l.Pairwise (λa b=>leB a b=true)->(mw l s).Pairwise λa b=>leB a b=true
 |[],s,_=>by simp[mw]
 |y::l,s,h=>by
  rw[dx]at h;simp only[mw,cy,List.dropWhile_cons]
  by_cases d:leB y s=true
  .simp only[d,aT,bJ,dx];refine⟨λz c=>?_,tQ s h.2⟩;rcases bC.1 ((sX l s).mem_iff.1 c)with rfl|c
   .exact d
   .exact h.1 z c
  .simp only[d,aI,aS,bc,dx];have e:leB s y=true:=by have:=yo s y;simpa[d]using this
   refine⟨λz c=>?_,h⟩;rcases bC.1 c with rfl|c
   .exact e
   .exact yn _ _ _ e (h.1 z c)
def pD(f:List It):CI f=iH f:=by
 have c:∀(m l:dq),l.Pairwise (λa b=>leB a b=true)->(m.foldl mw l).Perm (l++m)/\(m.foldl mw l).Pairwise λa b=>leB a b=true:=by
  intro m
  induction m with
  |nil=>intro l h;simpa using h
  |cons s m ih =>
   intro l h;have:=ih (mw l s) (tQ s h);refine⟨this.1.trans ?_,this.2⟩;refine((sX l s).append_right m).trans ?_;exact uf.symm
 have d:=c (iM f) [] List.Pairwise.nil;have e:(iH f).Pairwise λa b=>leB a b=true:=wq yn yo _;refine pC (λa b _ _=>Jy) d.2 e (d.1.trans ?_);rw[bc];exact(uz _ _).symm
def fy(d:Int)(C:List (It×Int))(l:List It):List (It×Int):=l.foldl (λC x=>bump C x d) C
def oE(s t:List It):List (It×Int):=fy (-1) (fy 1 [] (tg s)) (tg t)
def ky(C:List (It×Int)):Bool:=C.all λp=>p.2==0
def nZ(d:Int)(x:It):∀(l:List It) (C:List (It×Int)),(cX x (fy d C l)).getD 0=(cX x C).getD 0+d*(l.count x:Nat)
 |[],C=>by simp[fy]
 |y::l,C=>by
  have h:=nZ d x l (bump C y d);simp only[fy,dW]at h |-;rw[h,sZ,List.count_cons]
  by_cases a:x=y
  .subst a;simp[lK];omega
  .have:¬y=x:=λe=>a e.symm;simp[a,this]
def CB.fy{d:Int}(a : -1<=d/\d<=1):∀(l:List It) {n:Nat} {C:List (It×Int)},CB n C->CB (n+l.length) (Bt.fy d C l)
 |[],_,_,h=>h
 |t::r,n,C,h=>by
  have:=CB.fy a r (h.bump t d a);exact this.mono (by simp only[ai];omega)
def kC.fy(d:Int):∀(l:List It) {C:List (It×Int)},kC C->kC (Bt.fy d C l)
 |[],_,h=>h
 |t::r,C,h=>kC.fy d r (h.yO t _)
def Bf{C:List (It×Int)}(c:kC C):ky C=true<->∀x,(cX x C).getD 0=0:=by
 simp only[ky,bY,cE];constructor
 .intro h x;cases a:cX x C with
  |none=>rfl
  |some v =>
   obtain⟨p,b,e⟩:∃p∈C,p=(x,v):=by
    clear h c
    induction C with
    |nil=>simp[cX,gM]at a
    |cons q C ih =>
     rw[ln]at a;split at a
     .rename_i e;simp only[ae]at a;exact⟨q,by simp,by rw[e,<- a]⟩
     .obtain⟨p,b,e⟩:=ih a;exact⟨p,by simp[b],e⟩
   have:=h p b;subst e;simpa using this
 .intro h p b;have:=h p.1;rw[oA c b]at this;simpa using this
def yZ(s t:List It):ky (oE s t)=true<->∀x,(tg s).count x=(tg t).count x:=by
 rw[oE,Bf (kC.fy _ _ (kC.fy _ _ (by simp[kC])))];refine forall_congr' λx=>?_;rw[nZ,nZ,yz];simp only[ue];omega
def Gf{s t:List It}(e:s.length=t.length)(h:∀x∈s,s.count x=t.count x)(x:It):s.count x=t.count x:=by
 have b:s.Perm (t.filter λx=>decide (x∈s)):=by
  rw[BV];intro y
  by_cases a:y∈s
  .rw[List.count_filter (by simpa using a),h y a]
  .rw[Db.2 a,Db.2 λc=>a (by simpa using(cZ.1 c).2)]
 have d:(t.filter λx=>decide (x∈s))=t:=by
  rw[kg,<- List.length_filter_eq_length_iff,<- b.length_eq,e]
 rw[d]at b;exact b.count_eq x
def jN(s t:List It):Bool:=(shape s).isSome&&(shape t).isSome&&(shape s==shape t)&&ky (oE s t)&&(iH s==iH t)
def ow(s t:List It):Bool:=(shape s).isSome&&(shape t).isSome&&(shape s==shape t)&&(CI s==CI t)&&decide ((tg s).length=(tg t).length)&&(tg s).all λx=>(tg s).count x==(tg t).count x
def O0(s t:List It):ow s t=jN s t:=by
 have e:(decide ((tg s).length=(tg t).length)&&(tg s).all λx=>(tg s).count x==(tg t).count x)=ky (oE s t):=by
  rw[cB,yZ];simp only[aJ,aV,bY,cE];constructor
  .rintro⟨b,a⟩;exact Gf b a
  .intro h;exact⟨(BV.2 h).length_eq,λx _=>h x⟩
 simp only[ow,jN,pD];rw[<- e]
 ac_rfl
def nK(e:En)(src:List It):List It:=rename e.awf ((kI e.awc src).map (·.1)) ((kI e.awc src).map (·.2))
def jY(e:En)(src:List It):List It×Bool:=if jN src (nK e src)then(nK e src,true)else([],false)
def Zg(g:Int->Int)(f:List It):(dz (f.map (sn g))).map gd=(dz f).map gd:=by
 induction f with
 |nil=>rfl
 |cons x f ih =>
  simp only[aH,dz,eJ,cM]at ih |-;rw[ih];congr 1
  by_cases b:b9 x=true
  .have c:x.awb=2\/x.awb=3\/x.awb=4:=by
    simp only[b9,eD,cE]at b;omega
   have a:x.awb=2\/x.awb=3\/x.awb=4\/x.awb=5:=by omega
   simp only[pM,yd,az a,aH,bR,gd,D9]
  .rw[sn,an b]
def Wc:∀(a b:List It),a.map gd=b.map gd->Al a b 0
 |[],[],_=>.nil
 |[],_::_,h=>by simp at h
 |_::_,[],h=>by simp at h
 |x::a,u::b,h=>by
  simp only[aH,jU]at h;have c:gh x u=some 0:=by rw[gh,az ((wF x u).2 h.1)]
  exact(Al.pair x u c (Wc a b h.2)).cast (by omega)
def Kw(k:TK):∀(a:List It),lg k a=((a.map gd).map λt=>if t=k then(1:Int)else 0).sum
 |[]=>rfl
 |x::a=>by simp only[lg,aH,dw,Kw k a]
def Yk{a b:List It}(h:a.map gd=b.map gd):lI a b=0:=by
 have d:=CD (Wc a b h);have c:=(Dk a b).1
 have e:u3 a b=0:=by
  rw[Ft];have:∀k:TK,qS (lg k a - lg k b)=0:=λk=>by rw[Kw k a,Kw k b,h];simp[qS]
  simp only[this,eZ];generalize RK [] a++RM a [] b=l
  induction l with
  |nil=>rfl
  |cons x l ih=>simp[ih]
 rw[EP];omega
def NC{a b:List It}(h:a.map gd=b.map gd):eX a b=100:=by
 have d:=(Bc a b).1;unfold eX;rw[Yk h];split
 .rfl
 .rename_i c;have:mx (kJ a b - 0) 0=kJ a b:=by unfold mx;split<;>omega
  rw[this,eY (by omega)];exact Int.mul_ediv_cancel _ c
def V1:bH:=[5,9,2,7,40,8,3]
def xy(f:List It)(x:Int):Int:=(Dm (awm f) V1 x).getD 0
def Zh:∀(fr c:bH) (x:Int),x∈fr->fr.length<=c.length->Dm fr c x=some (c.getD (fr.idxOf x) 0)
 |[],_,_,h,_=>by simp at h
 |a::fr,[],_,_,h=>by simp at h
 |a::fr,b::c,x,h,hl=>by
  simp only[Dm,Bj]
  by_cases d:x=a
  .subst d;simp
  .have f:(a==x)=false:=by simpa using λe=>d e.symm
   rw[an d,f,KT,Zh fr c x ((bC.1 h).resolve_left d) (by simpa using hl)];rfl
def Gb:V1.length=7/\V1.Nodup/\∀x∈V1,1<=x/\x<=999:=by decide
section
variable {f:List It} (hn:(awm f).length<=7)
include hn
theorem OW{n:Int}(h:n∈awm f):Dm (awm f) V1 n=some (xy f n)/\xy f n=V1.getD ((awm f).idxOf n) 0/\(awm f).idxOf n<7:=by
 have a:=Zh (awm f) V1 n h (by rw[Gb.1];exact hn);have b:(awm f).idxOf n<(awm f).length:=Ca h;exact⟨by rw[xy,a];rfl,by rw[xy,a];rfl,by omega⟩
theorem abS{n:Int}(h:n∈awm f):1<=xy f n/\xy f n<=999:=by
 obtain⟨_,c,b⟩:=OW hn h;have a:(awm f).idxOf n<V1.length:=by rw[Gb.1];exact b
 rw[c,aq,ax a];exact Gb.2.2 _ (dC a)
theorem OV{n m:Int}(h:n∈awm f)(a:m∈awm f)(e:xy f n=xy f m):n=m:=by
 obtain⟨_,d,i⟩:=OW hn h;obtain⟨_,c,j⟩:=OW hn a;have g:(awm f).idxOf n<V1.length:=by rw[Gb.1];exact i
 have b:(awm f).idxOf m<V1.length:=by rw[Gb.1];exact j
 rw[d,c,aq,aq,ax g,ax b]at e;exact HS h a ((List.getElem_inj Gb.2.1).1 e)
theorem abR:(∀x∈tg f,1<=xy f x.id/\xy f x.id<=999)/\∀x∈tg f,∀y∈tg f,xy f x.id=xy f y.id->x.id=y.id :=
 ⟨λx a=>abS hn (nS.2 ⟨x,a,rfl⟩),λx a y b e=>OV hn (nS.2 ⟨x,a,rfl⟩) (nS.2 ⟨y,b,rfl⟩) e⟩
theorem Ga{h:List It}(b:∀x∈tg h,x.id∈awm f)(i:bQ [] h=0):rename h (awm f) V1=h.map (sn (xy f))/\bQ [] (h.map (sn (xy f)))=0:=by
 have c:=Q3 (g:=xy f) (λx a=>abS hn (b x a)) (λx a y d e=>OV hn (b x a) (b y d) e) i;refine⟨?_,c⟩;rw[rename,zi λx a=>(OW hn (b x a)).1];exact pc c
theorem Uj:awm (f.map (sn (xy f)))=(awm f).map (xy f):=GM (abR hn).2
theorem abP{n:Int}(h:n∈awm f):(fE (f.map (sn (xy f))) (xy f n)).awb=(fE f n).awb/\(fE (f.map (sn (xy f))) (xy f n)).awd=(fE f n).awd:=by
 have a:∀l:List It,(∀x∈l,x∈f)->(l.map (sn (xy f))).find? (λx=>b9 x&&x.id==xy f n)=(l.find? λx=>b9 x&&x.id==n).map (sn (xy f)):=by
  intro l
  induction l with
  |nil=>intro _;rfl
  |cons x l ih =>
   intro b
   have e:(b9 (sn (xy f) x)&&(sn (xy f) x).id==xy f n)=(b9 x&&x.id==n):=by
    rw[BB];cases c:b9 x with
    |false=>rfl
    |true =>
     rw[sn,az c,cc,cc];simp only;rw[cB,cE,cE];exact⟨λe=>OV hn (nS.2 ⟨x,cZ.2 ⟨b x (by simp),c⟩,rfl⟩) h e,λe=>by rw[e]⟩
   rw[aH,ng,ng,e];split
   .rfl
   .exact ih λy d=>b y (by simp[d])
 simp only[fE];rw[a f λx g=>g];cases f.find? (λx=>b9 x&&x.id==n)with
 |none=>exact⟨rfl,rfl⟩
 |some x=>exact⟨yd _ x,D9 _ x⟩
theorem afn:kI f (f.map (sn (xy f)))=(awm f).map λn=>(n,xy f n):=by
 have a:∀l:bH,(∀n∈l,n∈awm f)->jR f (f.map (sn (xy f))) l (l.map (xy f))=l.map λn=>(n,xy f n):=by
  intro l
  induction l with
  |nil=>intro _;rfl
  |cons n l ih =>
   intro h;obtain⟨e,d⟩:=abP hn (h n (by simp));have c:vB (f.map (sn (xy f))) (fE f n) (xy f n)=true:=by simp[vB,e,d]
   simp only[jR,aH,ng,c,List.erase_cons_head];rw[ih λm b=>h m (by simp[b])]
 rw[kI,Uj hn];exact a _ λn h=>h
end
def PG(g:Int->Int)(x:Int):∀l:bH,x∈l->Dm l (l.map g) x=some (g x)
 |[],h=>by simp at h
 |a::l,h=>by
  simp only[aH,Dm]
  by_cases b:x=a
  .subst b;simp
  .rw[an b];exact PG g x l ((bC.1 h).resolve_left b)
def PY(f:List It):iM (nt f)=iM f:=by
 simp only[iM,nt,UF];congr 1;refine Fj λx _=>?_
 by_cases h:x.awb=5<;>simp[h]
def Yo{s t:List It}(b:shape s=some ([],[]))(h:nt t=nt s):jN s t=true:=by
 have a:tg t=tg s:=by rw[<- Mc,h,Mc]
 have d:iM t=iM s:=by rw[<- PY,h,PY]
 have c:shape t=some ([],[]):=(P0 a).trans b;have e:ky (oE s t)=true:=(yZ s t).2 λx=>by rw[a]
 simp only[jN,b,c,e,iH,d,Option.isSome_some,kO,uQ]
def abQ{e:En}(a:xo e):jY e (e.awc.map (sn (xy e.awc)))=(e.awf.map (sn (xy e.awc)),true):=by
 have hn:(awm e.awc).length<=7:=by have:=a.num;omega
 have c:tg e.awf=tg e.awc:=by rw[<- Mc,a.nts,Mc]
 have f:∀x∈tg e.awf,x.id∈awm e.awc:=λx d=>nS.2 ⟨x,c▸d,rfl⟩
 have b:bQ [] e.awf=0:=by
  have:=(og a.ok).2;simp only[cd]at this;split at this
  .simp at this
  .exact this
 have h:=(Ga hn f b).2
 have g:nK e (e.awc.map (sn (xy e.awc)))=e.awf.map (sn (xy e.awc)):=by
  simp only[nK,afn hn,jn,Fl,List.map_id_fun',id];rw[rename,zi λx d=>PG _ _ _ (f x d)];exact pc h
 have i:jN (e.awc.map (sn (xy e.awc))) (e.awf.map (sn (xy e.awc)))=true :=
  Yo (Ml (abR hn).2 a.sh) (by rw[To,To,a.nts])
 rw[jY,g,az i]
end Go.Bt
namespace Go.Proofs.Tryz
open Go Go.Pm Go.Bt
def Ek{n:Nat}{J:ak}{K:bl}(a:List It)(c:a.length<2^63):∀(rest pre:List It) (acc:Int),a=pre++rest ->
  ((fj 3 (fh (.I (eQ acc rest)) (fj 24 fo))) λj=>K (.exit 0) ⟨j,J⟩) ->
  fm n prog rU K (rest.length+1) ⟨(.sl 3 (a.map It.awa)::uu 2 (.I acc::uu 2 (.I a.length::.I pre.length::uu 20 []))),J⟩:=by
 intro rest
 induction rest with
 |nil =>
  intro pre acc d b;have d:=cN d
  subst d;refine ar λR f=>?_;simp only[rU,VV,seval];exact⟨λh=>by simp at h,λ_=>b ..⟩
 |cons x rest ih =>
  intro pre acc d b;subst d
  have i:=dh pre x (by simp at c;omega)
  refine ar λR f=>?_;simp only[rU,It.awa,VV,seval];have e:eQ acc (x::rest)=eQ (IntKind.i64.wrap (acc+width x)) rest:=rfl;rw[e]at b;refine⟨λ_=>⟨by simp;omega,λh=>⟨by simp;omega,?_⟩,λh=>?_⟩,λh=>by simp at h<;>omega⟩
  .have h:x.awb=1:=by simpa using h
   have g:width x=x.awd.length:=by simp[width,h]
   rw[g]at b;refine f _ (aK ?_ (ih (pre++[x]) _ (by simp) b));rw[i];repeat' constructor
  .have h:¬x.awb=1:=by simpa using h
   have g:width x=1:=by simp[width,h]
   rw[g]at b;refine f _ (aK ?_ (ih (pre++[x]) _ (by simp) b));rw[i];repeat' constructor
def tG(a:List It)(J:ak):bM prog 102 [.sl 3 (a.map It.awa)] J (.I (eQ 0 a)):=by
 refine aZ func102 QX.2 λd c=>au ?_;have b:=mG (c 0 _ rfl).1;rw[ag]at b;simp only[QX,SS,seval];simp only[ag,VV,seval];refine bZ.aK ?_ (a.length+1) (Ek a b a [] 0 rfl ?_)
 .repeat' constructor
 .simp only[JE];intros;simp only[VV,seval];exact aO (.inr rfl) rfl ⟨rfl,rfl⟩
def kF(b:UInt8)(J:ak):bM prog 212 [.i .u8 b.toNat] J (.I (ei b)):=by
 refine aZ func212 QJ.2 λg d=>au ?_;simp only[QJ,SS,seval];simp only[W,seval];clear d g;refine⟨λa=>?_,λa=>⟨λe=>?_,λe=>⟨λc=>?_,λc=>⟨λf=>?_,λf=>?_⟩⟩⟩⟩<;>refine aO (.inr rfl) rfl ⟨?_,rfl⟩<;>simp at*<;> simp only[Pm.one,ei,aA,aR,V.i.injEq,gA]<;>(repeat' split)<;>omega
def Ee{n:Nat}{J:ak}{K:bl}(s:aG)(d:s.length<2^63):∀(rest pre:aG),s=pre++rest->pre≠[] ->
  (rest.all fw=true->((fj 44 fo) λi=>K (.exit 0) ⟨i,J⟩))->(rest.all fw=false->((fj 2 (fh (.b false) (fj 41 fo))) λi=>K .ret ⟨i,J⟩)) ->
  fm n prog o7 K (rest.length+1) ⟨(.s s::uu 2 (.I pre.length::uu 40 [])),J⟩:=by
 intro rest
 induction rest with
 |nil =>
  intro pre a j g f;have a:=cN a
  subst a;refine ar λR k=>?_;simp only[o7,VV,seval];exact⟨λh=>by simp at h,λ_=>g rfl ..⟩
 |cons c rest ih =>
  intro pre a j g f;subst a;have m:0<pre.length:=cT.2 j;have l:decide ((0:Int)<pre.length)=true:=by simp;omega
  refine ar λR k=>?_;simp only[o7,l,VV,seval]
  have hn:fw c=((decide (97<=(c.toNat:Int))&&decide ((c.toNat:Int)<=122))||((decide (48<=(c.toNat:Int))&&decide ((c.toNat:Int)<=57))||((c.toNat:Int)==45))):=by
   rw[cB];simp[fw];omega
  rw[<- hn];refine⟨λ_=>⟨by simp;omega,λh=>?_,λh=>?_⟩,λh=>by simp at h<;>omega⟩
  .have e:(c::rest).all fw=rest.all fw:=by simp[h]
   rw[e]at g f;refine k _ (aK ?_ (ih (pre++[c]) (by simp) (by simp) g f));rw[cm (by simp at d;omega)];simp only[aj,ai,al]
   repeat' constructor
  .exact f (by simp[h]) ..
def fY(s:aG)(J:ak):bM prog 161 [.s s] J (.b (awj s)):=by
 refine aZ func161 QO.2 λl g=>au ?_;have a:=Dj (g 0 _ rfl).1;simp only[QO,SS,seval];simp only[VV,seval];cases s with
 |nil =>
  refine⟨λ_=>aO (.inr rfl) rfl ⟨rfl,rfl⟩,nofun⟩
 |cons c r =>
  refine⟨λh=>?_,λh=>?_⟩
  .refine aO (.inr rfl) rfl ⟨?_,rfl⟩;simp at h;simp[Pm.one,awj];omega
  .simp at h;refine bZ.uh (r.length+2) (ar λR i=>?_);simp only[o7,aA,VV,Int.reduceBEq,Int.reduceBNe,Nat.reduceAdd,Nat.reduceSub,Nat.reduceLeDiff,Nat.reduceEqDiff,Int.reduceToNat,reduceIte,reduceCtorEq]
   have j:((decide (97<=(c.toNat:Int))&&decide ((c.toNat:Int)<=122))||(decide ((0:Int)<0)&&((decide (48<=(c.toNat:Int))&&decide ((c.toNat:Int)<=57))||((c.toNat:Int)==45))))=decide (97<=c.toNat/\c.toNat<=122):=by
    rw[cB];simp;omega
   have k:(c::r).length<=24:=by simp;omega
   rw[j];refine⟨λ_=>⟨by simp,λd=>?_,λd=>?_⟩,λh=>by simp at h<;>omega⟩
   .have e:awj (c::r)=r.all fw:=by
     simp only[awj,d,k,fW,cc]
    refine i _ (aK ?_ (Ee (c::r) a r [c] rfl (by simp) (λf=>?_) (λf=>?_)))
    .rw[show IntKind.i64.wrap (0+1)=(([c].length:Nat):Int)from IntWalk.i64_in _ (by decide)]
     repeat' constructor
    .simp only[JE];intros;simp only[VV,seval];exact aO (.inr rfl) rfl ⟨by simp only[Pm.one,e,f,aA,aR],rfl⟩
    .simp only[JE];intros;simp only[VV,seval];exact aO (.inr rfl) rfl ⟨by simp only[Pm.one,e,f,aA,aR],rfl⟩
   .refine aO (.inr rfl) rfl ⟨?_,rfl⟩;have e:awj (c::r)=false:=by simp only[awj,d,gB,dR]
    rw[e];rfl
def Ed{n:Nat}{J:ak}{K:bl}(s:aG)(a:s.length<2^63):∀(rest pre:aG),s=pre++rest ->
  (rest.all (λb=>!fT b)=true->((fh (.s s) (fj 66 fo)) λi=>K (.exit 0) ⟨i,J⟩))->(rest.all (λb=>!fT b)=false->((fj 2 (fh (.b false) (fj 64 fo))) λi=>K .ret ⟨i,J⟩)) ->
  fm n prog rP K (rest.length+1) ⟨(.s s::uu 2 (.I pre.length::uu 63 [])),J⟩:=by
 intro rest
 induction rest with
 |nil =>
  intro pre f g d;have f:=cN f
  subst f;refine ar λR j=>?_;simp only[rP,VV,seval];exact⟨λh=>by simp at h,λ_=>g rfl ..⟩
 |cons c rest ih =>
  intro pre f g d;subst f
  have k:fT c=(((((decide ((c.toNat:Int)<32)||decide (126<(c.toNat:Int)))||((c.toNat:Int)==60))||((c.toNat:Int)==62))||((c.toNat:Int)==123))||((c.toNat:Int)==125)):=by
   clear g d ih a;revert c;exact eP (by decide +kernel)
  refine ar λR j=>?_;simp only[rP,VV,seval];rw[<- k];refine⟨λ_=>⟨by simp;omega,λh=>?_,λh=>?_⟩,λh=>by simp at h<;>omega⟩
  .exact d (by simp[h]) ..
  .have e:(c::rest).all (λb=>!fT b)=rest.all (λb=>!fT b):=by simp[h]
   rw[e]at g d;refine j _ (aK ?_ (ih (pre++[c]) (by simp) g d));rw[cm (by simp at a;omega)];simp only[aj,ai,al]
   repeat' constructor
def A6(s:aG):ga s=(awj (cW s)&&(decide ((cW s).length=s.length)||decide ((cW s).length+1<s.length))):=by
 have e:=mL s 32
 by_cases h:0<=Lib.indexByte s 32
 .have a:cutAt s 32=(s.take (Lib.indexByte s 32).toNat,s.drop ((Lib.indexByte s 32).toNat+1),true):=by simp only[cutAt,az h]
  have b:cW s=s.take (Lib.indexByte s 32).toNat:=by simp only[cW,a]
  simp only[ga,a,b];have c:(s.take (Lib.indexByte s 32).toNat).length=(Lib.indexByte s 32).toNat:=by rw[aP];omega
  have d:(s.drop ((Lib.indexByte s 32).toNat+1)).length=s.length - ((Lib.indexByte s 32).toNat+1):=by simp
  simp only[c,d,fO,iY];congr 1;rw[cB];simp;omega
 .have a:cutAt s 32=(s,[],false):=by simp only[cutAt,an h]
  have b:cW s=s:=by simp only[cW,a]
  simp only[ga,a,b];simp
def jj(s:aG)(J:ak):bM prog 162 [.s s] J (.b (cV s)):=by
 refine aZ func162 QN.2 λp j=>au ?_;have a:=Dj (j 0 _ rfl).1;simp only[QN,SS,seval];simp only[VV,seval];refine⟨λh=>?_,λh=>?_⟩
 .refine aO (.inr rfl) rfl ⟨?_,rfl⟩;have h:¬s.length<=64:=by simp at h;omega
  simp[Pm.one,cV,kn,h]
 have e:s.length<=64:=by simp at h;omega
 refine bZ.aK ?_ (s.length+1) (Ed s a s [] rfl (λd=>?_) (λd=>?_))
 .repeat' constructor
 .simp only[JE];intros;simp only[VV,seval];refine aw (oz s _) rfl ?_;simp only[VV,seval];refine aw (fY (cW s) _) rfl ?_;simp only[VV,seval];have m:(cW s).length<=s.length:=(uU s 32).1;have i:IntKind.i64.wrap (((cW s).length:Int)+1)=((cW s).length:Int)+1:=IntWalk.i64_in _ (by omega);have n:(((cW s).length:Int)==(s.length:Int))=decide ((cW s).length=s.length):=by rw[cB];simp;omega
  have g:decide (((cW s).length:Int)+1<(s.length:Int))=decide ((cW s).length+1<s.length):=by rw[cB];simp;omega
  rw[i,n,g,<- A6]
  have f:ga s=true->0<s.length:=λh=>by
   cases s with
   |nil=>revert h;decide
   |cons c s=>simp
  refine⟨λh=>?_,?_⟩
  .have h:ga s=true:=by simpa using h
   have:=f h;rw[IntWalk.i64_in _ (by omega)];omega
  .refine aO (.inr rfl) rfl ⟨?_,rfl⟩;cases hn:ga s with
   |false=>simp[Pm.one,cV,hn]
   |true =>
    have o:=f hn;have l:(IntKind.i64.wrap ((s.length:Int) - 1)).toNat=s.length - 1:=by rw[IntWalk.i64_in _ (by omega)];omega
    simp only[Pm.one,aA,aR,l,cV,kn,hn,d,cc,df,e,fW];have k:s.length≠0:=by omega
    simp only[k,fc,cP,fW,cc,V.b.injEq];rw[cB];simp;omega
 .simp only[JE];intros;exact aO (.inr rfl) rfl ⟨by simp[Pm.one,cV,d],rfl⟩
def rh(b:Bool)(n:Int):(b&&decide (1<=n)&&decide (n<=999))=!(!b||decide (n<1)||decide (999<n)):=by
 rw[cB];simp[Dd]
def Ej{J:ak}{K:bl}(a:List It)(x:It)(r:cn J)(c:a.length<2^63):∀(rest pre:List It),a=pre++rest ->
  ((rest.all λy=>!dP x y)=true->((fj 114 fo) λm=>K (.exit 1) ⟨m,J++[.box 61 x.awa]⟩))->((rest.all λy=>!dP x y)=false->∀loc,((fj 4 (fh (.I 7) (fj 109 fo))) λm=>K .ret ⟨m,J++(.box 61 x.awa::loc)⟩)) ->
  fm J.length prog nB K (rest.length+1) ⟨(.sl 3 (a.map It.awa)::uu 2 (.ptr J.length 0::uu 75 (.I a.length::.I pre.length::uu 33 []))),J++[.box 61 x.awa]⟩:=by
 intro rest
 induction rest with
 |nil =>
  intro pre d i g;have d:=cN d
  subst d;refine ar λR f=>?_;simp only[nB,VV,seval];exact⟨λh=>by simp at h,λ_=>i rfl ..⟩
 |cons y rest ih =>
  intro pre d i g;subst d
  have p:=dh pre y (by simp at c;omega)
  have next:dP x y=false->∀{loc:ak} {R:ca} {n:aB},(∀b,fm J.length prog nB K (rest.length+1) b->R b) ->
    oJ n (.sl 3 ((pre++y::rest).map It.awa)::uu 2 (.ptr J.length 0::uu 75 (.I (pre++y::rest).length::.I (IntKind.i64.wrap ((pre.length:Int)+1))::uu 33 [])))->R ⟨n,J++(.box 61 x.awa::loc)⟩:=by
   intro q loc R n f o;rw[p]at o;have e:((y::rest).all λy=>!dP x y)=rest.all λy=>!dP x y:=by simp[q]
   rw[e]at i g;refine f _ (cG [_] loc (cC r (by simp only[mC,It.awa,LW];simp)) o ?_ (ih (pre++[y]) (by simp) i g));simp only[LW,ai,al,aY];omega
  refine ar λR f=>?_;simp only[nB,It.awa,VV,seval];refine⟨λ_=>⟨by simp;omega,?_⟩,λh=>by simp at h<;>omega⟩;refine aw (oT y _) rfl ?_;simp only[VV,seval];have l:dP x y=(!(!b9 y||y.id != x.id)&&(x.awb != 3||y.awb != 2||!(cW y.awd==x.awd))):=rfl;refine⟨λh=>?_,λh=>?_⟩
  .refine next (by rw[l,h];rfl) f ?_
   repeat' constructor
  .refine bB (by simp only[VV,seval]<;>rfl) (λ_=>oz y.awd _) rfl ?_;simp only[VV,seval];refine⟨λj=>?_,λj=>?_⟩
   .have k:dP x y=true:=by rw[l,h];simpa[bne]using j
    exact g (by simp[k]) _ ..
   .have k:dP x y=false:=by rw[l,h];simpa[bne]using j
    refine next k f ?_
    repeat' constructor
set_option maxRecDepth 4000 in
def oU(before:List It)(x:It)(J:ak):bM prog 103 [.sl 3 (before.map It.awa),.agg x.awa] J (.I (cY before x)):=by
 refine aZ func103 acd λd A=>au ?_;have b:=mG (A 0 _ rfl).1;rw[ag]at b;simp only[QW,SS,seval]
 have loop:∀{s:aB},bG before.getLast? x=true->b9 x=true->oJ s (.sl 3 (before.map It.awa)::uu 2 (.ptr J.length 0::uu 75 (.I before.length::.I ((0:Nat):Int)::uu 33 []))) ->
   bZ J.length prog (.loop nB) (B8 1 (Lh (Fm J.length prog (.seq (.dv [] [⟨some 4,[],.gm (.c (.I 0))⟩]) .ret) (rG prog J.length [.t 4] λr q=>r=.I (cY before x)/\q=J)) (rG prog J.length [.t 4] λr q=>r=.I (cY before x)/\q=J)))
    ⟨s,J++[.box 61 x.awa]⟩:=by
  intro s w j L;refine bZ.aK L (before.length+1) (Ej before x d b before [] rfl (λv=>?_) (λv=>?_))
  .simp only[JE];intros;simp only[VV,seval];refine bg d (.inr rfl) (by simp only[RS,seval];rfl) (by simp[LW]) ⟨?_,rfl⟩;have u:fits before x=true:=v;simp[Pm.one,cY,w,j,u]
  .simp only[JE];intros;simp only[VV,seval];refine bg d (.inr rfl) (by simp only[RS,seval];rfl) (by simp[LW]) ⟨?_,rfl⟩;have u:fits before x=false:=v;simp[Pm.one,cY,w,j,u]
 have early:b9 x=false->cY before x=if bG before.getLast? x=false then 1 else 0:=by
  intro h;simp[cY,h]
 by_cases g:x.awb=1
 .have l:b9 x=false:=by simp[b9,g]
  rw[early l];rcases dn before with o|⟨i,y,o⟩
  .subst o;have p:decide ((0:Int)<(([]:aB).length:Int))=false:=rfl;simp only[It.awa,g,bR,p,VV,seval];refine⟨λh=>by simp at h,.I 0,λh=>by simp at h,?_⟩;simp only[VV,seval];refine⟨λh=>?_,λh=>?_⟩ <;>
   .refine bg d (.inr rfl) (by simp only[RS,seval];rfl) (by simp[LW]) ⟨?_,rfl⟩;have a:bG ([]:List It).getLast? x=!(x.awd==[]||x.id != 0):=by simp[bG,g,bne]
    rw[a,h];rfl
  .rw[da]at o;subst o
   have F:IntKind.i64.wrap (((i++[y]).length:Int) - 1)=i.length:=by
    have:(i++[y]).length<2^63:=b;rw[IntWalk.i64_in _ (by simp at this |-;omega)];simp
   have z:gj (List.map It.awa (i++[y])) i.length 0=some (.I y.awb):=by
    rw[qR];rfl
   have p:decide ((0:Int)<((List.map It.awa (i++[y])).length:Int))=true:=by simp
   have a:bG (i++[y]).getLast? x=!((x.awd==[]||x.id != 0)||y.awb==1):=by simp[bG,g,bne]
   rw[a];simp only[It.awa,g,VV,seval];simp only[p,ag,F,ao,z,VV,seval];refine⟨λ_=>by simp;omega,.I y.awb,λ_=>?_,?_⟩
   .rfl
   have G:decide ((0:Int)<((i++[y]).length:Int))=true:=by simp
   simp only[G,VV,seval];refine⟨λh=>?_,λh=>?_⟩ <;>
   .refine bg d (.inr rfl) (by simp only[RS,seval];rfl) (by simp[LW]) ⟨?_,rfl⟩;rw[h];rfl
 by_cases n:x.awb=5
 .have l:b9 x=false:=by simp[b9,n]
  rw[early l];have a:bG before.getLast? x=!(!awj x.awd||x.id != 0):=by simp[bG,n,bne]
  rw[a];simp only[It.awa,n,VV,seval];refine aw (fY _ _) rfl ?_;simp only[VV,seval];refine⟨λh=>?_,λh=>?_⟩ <;>
  .refine bg d (.inr rfl) (by simp only[RS,seval];rfl) (by simp[LW]) ⟨?_,rfl⟩;rw[h];rfl
 have e:bG before.getLast? x=false->cY before x=1:=λh=>by simp[cY,h]
 have skip:bG before.getLast? x=true->b9 x=false->cY before x=0:=λh B=>by simp[cY,h,B]
 by_cases f:x.awb=2\/x.awb=4
 .have j:b9 x=true:=by simp[b9];rcases f with h|h<;>simp[h]
  have a:bG before.getLast? x=!(!cV x.awd||decide (x.id<1)||decide (999<x.id)):=by
   rw[<- rh];simp[bG,f,g,n]
  rcases f with k|k
  .rw[It.awa,k]at loop;simp only[It.awa,k,VV,seval];refine aw (jj _ _) rfl ?_;simp only[VV,seval];refine⟨λh=>?_,λh=>loop (by rw[a,h];rfl) j (by simp only[ag,ey];repeat' constructor)⟩;refine bg d (.inr rfl) (by simp only[RS,seval];rfl) (by simp[LW]) ⟨?_,rfl⟩;rw[e (by rw[a,h];rfl)];rfl
  .rw[It.awa,k]at loop;simp only[It.awa,k,VV,seval];refine aw (jj _ _) rfl ?_;simp only[VV,seval];refine⟨λh=>?_,λh=>loop (by rw[a,h];rfl) j (by simp only[ag,ey];repeat' constructor)⟩;refine bg d (.inr rfl) (by simp only[RS,seval];rfl) (by simp[LW]) ⟨?_,rfl⟩;rw[e (by rw[a,h];rfl)];rfl
 by_cases m:x.awb=3
 .have j:b9 x=true:=by simp[b9,m]
  have a:bG before.getLast? x=!(!awj x.awd||decide (x.id<1)||decide (999<x.id)):=by
   rw[<- rh];simp[bG,m]
  rw[It.awa,m]at loop;simp only[It.awa,m,VV,seval];refine aw (fY _ _) rfl ?_;simp only[VV,seval];refine⟨λh=>?_,λh=>loop (by rw[a,h];rfl) j (by simp only[ag,ey];repeat' constructor)⟩;refine bg d (.inr rfl) (by simp only[RS,seval];rfl) (by simp[LW]) ⟨?_,rfl⟩;rw[e (by rw[a,h];rfl)];rfl
 .have H:(x.awb==1)=false:=by simpa using g
  have K:(x.awb==2)=false:=by simp;omega
  have D:(x.awb==3)=false:=by simpa using m
  have E:(x.awb==4)=false:=by simp;omega
  have C:(x.awb==5)=false:=by simpa using n
  have a:bG before.getLast? x=false:=by simp[bG,g,f,m,n]
  rw[e a];simp only[It.awa,H,K,D,E,C,VV,seval];exact gq d (by rfl) (by simp[LW])
def Jw{J:ak}{K:bl}(a:List It)(l:cn J)(d:a.length<2^63):∀(rest pre:List It),a=pre++rest ->
  (bQ pre rest=0->((fj 30 fo) λi=>K (.exit 0) ⟨i,J⟩))->(bQ pre rest≠0->((fj 2 (fh (.I (bQ pre rest)) (fj 27 fo))) λi=>K .ret ⟨i,J⟩)) ->
  fm J.length prog wP K (rest.length+1) ⟨(.sl 3 (a.map It.awa)::uu 13 (.I a.length::.I pre.length::uu 14 [])),J⟩:=by
 intro rest
 induction rest with
 |nil =>
  intro pre c g b;have c:=cN c
  subst c;refine ar λR j=>?_;simp only[wP,VV,seval];exact⟨λh=>by simp at h,λ_=>g rfl ..⟩
 |cons y rest ih =>
  intro pre c g b;subst c;refine ar λR j=>?_;have k:List.take pre.length (List.map It.awa (pre++y::rest))=pre.map It.awa:=by simp
  simp only[wP,It.awa,VV,seval];refine⟨λ_=>?_,λh=>by simp at h;omega⟩;refine⟨by simp;omega,by simp;omega,?_⟩;rw[k];refine aw (oU pre y _) rfl ?_;simp only[VV,seval];refine⟨λh=>?_,λh=>?_⟩
  .have f:cY pre y≠0:=by simpa using h
   have e:bQ pre (y::rest)=cY pre y:=by rw[kY,az f]
   rw[e]at b;exact b f ..
  .have f:cY pre y=0:=by simpa using h
   have e:bQ pre (y::rest)=bQ (pre++[y]) rest:=by rw[kY,f];simp
   rw[e]at g b;refine j _ (aK ?_ (ih (pre++[y]) (by simp) g b));rw[cm (by simp at d;omega)];simp only[aj,ai,al]
   repeat' constructor
def jo(a:List It)(J:ak):bM prog 46 [.sl 3 (a.map It.awa)] J (.I (cd a)):=by
 refine aZ func46 p46.2 λe d=>au ?_;have b:=mG (d 0 _ rfl).1;rw[ag]at b;simp only[p46,SS,seval];simp only[ag,VV,seval];refine bB (by simp only[VV,seval]<;>rfl) (λ_=>tG a _) rfl ?_;simp only[ag,VV,seval];refine⟨λh=>?_,λh=>?_⟩
 .refine aO (.inr rfl) (by simp only[RS,seval];rfl) ⟨?_,rfl⟩;simp at h;have:512<a.length\/1024<eQ 0 a:=by omega
  simp only[Pm.one,cd,this,aT,aA,aR]
 .simp at h;have hn:¬(512<a.length\/1024<eQ 0 a):=by omega
  refine bZ.aK ?_ (a.length+1) (Jw a e b a [] rfl (λc=>?_) (λc=>?_))
  .simp only[VV,seval]
   repeat' constructor
  .simp only[JE];intros;simp only[VV,seval];exact aO (.inr rfl) (by simp only[RS,seval];rfl) ⟨by simp only[Pm.one,cd,hn,c,aS,aA,aR],rfl⟩
  .simp only[JE];intros;simp only[VV,seval];exact aO (.inr rfl) (by simp only[RS,seval];rfl) ⟨by simp only[Pm.one,cd,hn,aS,aA,aR],rfl⟩
def qu{n:Nat}(h:¬n<10):Lib.decDigits n=Lib.decDigits (n / 10)++[UInt8.ofNat (48+n % 10)]:=by
 rw[Lib.decDigits,YA h]
def tY{n:Nat}:UInt8.ofNat ((IntKind.u8.wrap (IntKind.i64.wrap (48+(n:Int).tmod 10))).toNat)=UInt8.ofNat (48+n % 10):=by
 have h:(n:Int).tmod 10=((n % 10:Nat):Int):=by rw[Dc (by omega)];rfl
 rw[h,IntWalk.i64_in _ (by omega)]
 have a:IntKind.u8.wrap (48+((n % 10:Nat):Int))=((48+n % 10:Nat):Int):=by
  rw[IntWalk.u8_in _ (by omega)];omega
 rw[a];rfl
def xh{n:Nat}(h:n<2^62):IntKind.i64.wrap ((n:Int).tdiv 10)=((n / 10:Nat):Int):=by
 have e:(n:Int).tdiv 10=((n / 10:Nat):Int):=by rw[eY (by omega)];rfl
 rw[e,IntWalk.i64_in _ (by omega)]
def Ec{J:ak}{K:bl}:∀(k n:Nat) (s:aG),n<10^(k+1)->n<2^62->s.length+k<2^40 ->
  (((fj 2 (fh (.s (Lib.decDigits n++s)) (fj 14 fo))) λf=>K .ret ⟨f,J⟩)) ->
  fm J.length prog oY K (k+1) ⟨(.I n::uu 2 (.s s::uu 13 [])),J⟩:=by
 have last:∀(k n:Nat) (s:aG),n<10->n<2^62->s.length+k<2^40->(((fj 2 (fh (.s (Lib.decDigits n++s)) (fj 14 fo))) λf=>K .ret ⟨f,J⟩)) ->
   fm J.length prog oY K (k+1) ⟨(.I n::uu 2 (.s s::uu 13 [])),J⟩:=by
  intro k n s d b c a;refine ar λR g=>?_;simp only[oY,xh b,tY,VV,Int.reduceBEq,Int.reduceBNe,Nat.reduceAdd,Nat.reduceSub,Nat.reduceLeDiff,Nat.reduceEqDiff,Int.reduceToNat,reduceIte,reduceCtorEq];rw[Lib.decDigits_one d]at a;have e:n % 10=n:=by omega
  have j:n / 10=0:=by omega
  rw[e,j];exact⟨by decide,by simp[maxLen];omega,by decide,λh=>a ..,nofun⟩
 intro k
 induction k with
 |zero=>intro n s hn b c a;exact last 0 n s (by omega) b c a
 |succ k ih =>
  intro n s hn b c a
  by_cases d:n<10
  .exact last (k+1) n s d b c a
  .rw[qu d,bk]at a;have i:n / 10<10^(k+1):=by rw[Nat.pow_succ]at hn;omega
   refine ar λR g=>?_;simp only[oY,xh b,tY,VV,Int.reduceBEq,Int.reduceBNe,Nat.reduceAdd,Nat.reduceSub,Nat.reduceLeDiff,Nat.reduceEqDiff,Int.reduceToNat,reduceIte,reduceCtorEq];refine⟨by decide,by simp[maxLen];omega,by decide,λh=>by simp at h;omega,λh=>?_⟩;refine g _ (aK ?_ (ih (n / 10) (UInt8.ofNat (48+n % 10)::s) i (by omega) (by simp;omega) a))
   repeat' constructor
def rK(n:Nat)(hn:n<2^62)(J:ak):bM prog 244 [.I n] J (.s (Lib.decDigits n)):=by
 refine aZ func244 QH.2 λb a=>au ?_;simp only[QH,SS,seval];simp only[VV,seval];refine bZ.aK ?_ 19 (Ec 18 n [] (by omega) hn (by simp) ?_)
 .repeat' constructor
 .simp only[JE];intros;simp only[VV,seval];exact aO (.inr rfl) (by simp only[RS,seval];rfl) ⟨by simp[Pm.one],rfl⟩
def rL(n:Nat)(hn:n<2^62)(J:ak):bM prog 204 [.I n] J (.s (Lib.itoa n)):=by
 refine aZ func204 QK.2 λd c=>au ?_;have b:decide ((n:Int)<0)=false:=by simp
 have a:(if(n:Int)<0 then(0:Int)else n)=n:=an (by omega);simp only[QK,SS,seval];simp only[b,a,VV,seval];refine aw (rK n hn _) rfl ?_;simp only[VV,seval];refine aO (.inr rfl) (by simp only[RS,seval];rfl) ⟨?_,rfl⟩;have e:Lib.itoa (n:Int)=Lib.decDigits n:=by unfold Lib.itoa;rw[an (by omega)];rfl
 rw[e];rfl
def uX:∀c:UInt8,((((c.toNat:Int)==92||(c.toNat:Int)==60)||(c.toNat:Int)==123)=true->du c=[92,c]) /\
  ((((c.toNat:Int)==92||(c.toNat:Int)==60)||(c.toNat:Int)==123)=false->(((c.toNat:Int)==10)=true->du c=[92,110]) /\
  (((c.toNat:Int)==10)=false->(((c.toNat:Int)==9)=true->du c=[92,116]) /\
  (((c.toNat:Int)==9)=false->(((c.toNat:Int)==13||ei c==1)=true->du c=[92,120,gn (c.toNat / 16),gn (c.toNat % 16)]) /\
  (((c.toNat:Int)==13||ei c==1)=false->du c=[c])))):=eP (by decide +kernel)
def JR:∀c:UInt8,(0<=IntKind.u8.wrap ((c.toNat:Int).tdiv 16)/\IntKind.u8.wrap ((c.toNat:Int).tdiv 16)<((16:Nat):Int))/\(0<=(c.toNat:Int).tmod 16/\(c.toNat:Int).tmod 16<((16:Nat):Int)) /\
  ([48,49,50,51,52,53,54,55,56,57,97,98,99,100,101,102]:aG).getD (IntKind.u8.wrap ((c.toNat:Int).tdiv 16)).toNat 0=gn (c.toNat / 16) /\
  ([48,49,50,51,52,53,54,55,56,57,97,98,99,100,101,102]:aG).getD ((c.toNat:Int).tmod 16).toNat 0=gn (c.toNat % 16):=eP (by decide +kernel)
def mI(c:UInt8)(J:ak):bM prog 164 [.i .u8 c.toNat] J (.s (du c)):=by
 refine aZ func164 QL.2 λo n=>au ?_;obtain⟨h,f⟩:=uX c;simp only[QL,SS,seval];simp only[VV,seval];refine⟨λa=>⟨by decide,?_⟩,λa=>⟨λb=>?_,λb=>⟨λd=>?_,λd=>?_⟩⟩⟩
 .exact aO (.inr rfl) (by simp only[RS,seval];rfl) ⟨by rw[h a];rfl,rfl⟩
 .exact aO (.inr rfl) (by simp only[RS,seval];rfl) ⟨by rw[(f a).1 b];rfl,rfl⟩
 .exact aO (.inr rfl) (by simp only[RS,seval];rfl) ⟨by rw[((f a).2 b).1 d];rfl,rfl⟩
 .have g:=((f a).2 b).2 d;refine bB (by simp only[VV,seval]<;>rfl) (λ_=>kF c _) rfl ?_;simp only[VV,Int.reduceBEq,Int.reduceBNe,Nat.reduceAdd,Nat.reduceSub,Nat.reduceLeDiff,Nat.reduceEqDiff,Int.reduceToNat,reduceIte,reduceCtorEq];obtain⟨m,l,k,j⟩:=JR c;refine⟨λe=>⟨by decide,m,by decide,l,by decide,?_⟩,λe=>?_⟩
  .refine aO (.inr rfl) (by simp only[RS,seval];rfl) ⟨?_,rfl⟩;rw[g.1 e,<- k,<- j];rfl
  .exact aO (.inr rfl) (by simp only[RS,seval];rfl) ⟨by rw[g.2 e];rfl,rfl⟩
def Q1(c:UInt8):((c.toNat:Int) != 62)=(c != 62):=by revert c;exact eP (by decide +kernel)
def ER(c:UInt8):(decide (48<=(c.toNat:Int))&&decide ((c.toNat:Int)<=57))=cQ c:=by revert c;exact eP (by decide +kernel)
def A4{pre:aG}{c:UInt8}(a:∀c∈pre,cQ c=true)(d:pre.length<=4)(b:cQ c=true):
  IntKind.i64.wrap (IntKind.i64.wrap (10*cR 0 pre)+IntKind.i64.wrap (IntKind.u8.wrap ((c.toNat:Int) - 48)))=cR 0 (pre++[c]):=by
 have h:=zK pre 0 pre.length rfl (bY.2 a) (dJ 0)
 have g:(10:Int)^pre.length<=10^4:=by
  have:pre.length=0\/pre.length=1\/pre.length=2\/pre.length=3\/pre.length=4:=by omega
  rcases this with h|h|h|h|h<;>rw[h]<;>decide
 simp only[cQ,aJ,aV]at b;have e:IntKind.u8.wrap ((c.toNat:Int) - 48)=(c.toNat:Int) - 48:=IntWalk.u8_in _ (by omega);have f:cR 0 pre<10000:=by omega
 rw[e,IntWalk.i64_in (10*cR 0 pre) (by omega),IntWalk.i64_in ((c.toNat:Int) - 48) (by omega),IntWalk.i64_in _ (by omega)];simp[cR]
def uZ{pre rest:aG}(a:∀c∈pre,cQ c=true):((pre++rest).takeWhile cQ).length=pre.length+(rest.takeWhile cQ).length:=by
 rw[Bi a,aj]
set_option maxRecDepth 4000 in
def yi{n:Nat}{J:ak}{K:bl}(A:V)(s:aG)(b:s.length<2^62):∀(rest pre:aG),s=pre++rest ->
  (((fh (.s s) (fj 1 (fh (A) (fj 1 (fh (.I ((pre.length+(rest.takeWhile λc=>c != 62).length:Nat):Int)) (fj 134 fo)))))) λj=>K (.exit 0) ⟨j,J⟩)) ->
  fm n prog rO K (rest.length+1) ⟨(.s s::uu 1 (A::uu 1 (.I pre.length::uu 134 []))),J⟩:=by
 intro rest
 induction rest with
 |nil =>
  intro pre d a;have d:=cN d
  subst d;have e:decide ((s.length:Int)<(s.length:Int))=false:=by simp
  simp only[qV,al,de]at a;refine ar λR i=>?_;simp only[rO,e,VV,seval];exact⟨nofun,a ..⟩
 |cons c rest ih =>
  intro pre d a;subst d;have e:decide ((pre.length:Int)<((pre++c::rest).length:Int))=true:=by simp;omega
  refine ar λR i=>?_;simp only[rO,e,VV,seval];refine⟨by simp;omega,λg=>?_,λg=>?_⟩
  .have f:(c != 62)=true:=by rw[<- Q1];exact g
   have h:pre.length+((c::rest).takeWhile λc=>c != 62).length=(pre++[c]).length+(rest.takeWhile λc=>c != 62).length:=by
    rw[cy,az f];simp;omega
   rw[h]at a;refine i _ (aK ?_ (ih (pre++[c]) (by simp) a));rw[cm (by simp at b;omega)];simp only[aj,ai,al]
   repeat' constructor
  .have f:¬(c != 62)=true:=by rw[<- Q1,g];simp
   have h:pre.length+((c::rest).takeWhile λc=>c != 62).length=pre.length:=by
    rw[cy,an f];simp
   rw[h]at a;exact a ..
set_option maxRecDepth 4000 in
def yh{n:Nat}{J:ak}{K:bl}(A B C:V)(t:aG)(o:t.length<2^62):∀(m:Nat) (pre rest:aG),t=pre++rest->pre.length+m=4->(∀c∈pre,cQ c=true) ->
  (∀k:Nat,k=min 4 (t.takeWhile cQ).length->((fj 2 (fh (A) (fj 1 (fh (B) (fh (.s t) (fh (C) (fh (.I (cR 0 (t.take k))) (fh (.I k) (fj 130 fo))))))))) λp=>K (.exit 2) ⟨p,J⟩)) ->
  fm n prog oZ K (m+1) ⟨(uu 2 (A::uu 1 (B::.s t::C::.I (cR 0 pre)::.I pre.length::uu 130 []))),J⟩:=by
 intro m
 induction m with
 |zero =>
  intro pre rest j q b a;subst j;have e:decide ((pre.length:Int)<4)=false:=by simp;omega
  refine ar λR l=>?_;simp only[oZ,e,VV,seval];have:=a pre.length (by rw[uZ b];omega);rw[jT]at this;exact⟨nofun,nofun,this ..⟩
 |succ m ih =>
  intro pre rest j q b a;subst j;have e:decide ((pre.length:Int)<4)=true:=by simp;omega
  cases rest with
  |nil =>
   have g:decide ((pre.length:Int)<(pre.length:Int))=false:=by simp
   have h:=a pre.length (by rw[uZ b];simp;omega);rw[jT]at h;clear a ih;simp only[bL]at h |-;refine ar λR l=>?_;simp only[oZ,g,e,VV,seval];exact⟨nofun,nofun,h ..⟩
  |cons c rest =>
   have g:decide ((pre.length:Int)<((pre++c::rest).length:Int))=true:=by simp;omega
   refine ar λR l=>?_;simp only[oZ,g,e,VV,seval];have i:(0:Int)<=(pre.length:Int)/\(pre.length:Int)<((pre++c::rest).length:Int):=by simp;omega
   rw[ER];refine⟨i,λ_=>i,λf=>⟨i,?_⟩,λf=>?_⟩
   .rw[A4 b (by omega) f]
    refine l _ (aK ?_ (ih (pre++[c]) rest (by simp) (by simp;omega) (by
     intro x d;rcases bP.1 d with d|d
     .exact b x d
     .simp only[bC,gw,s8]at d;subst d;exact f) a))
    rw[cm (by omega)];simp only[aj,ai,al]
    repeat' constructor
   .have:=a pre.length (by rw[uZ b,cy,an (by rw[f];simp)];simp;omega);rw[jT]at this;exact this ..
def AR(c:UInt8):∀l:aG,Lib.indexByte l c=if(l.takeWhile λx=>x != c).length<l.length then((l.takeWhile λx=>x != c).length:Int)else -1
 |[]=>by simp[Lib.indexByte]
 |a::l=>by
  by_cases f:a=c
  .subst f;simp[Lib.indexByte]
  .have g:(a==c)=false:=by simpa using f
   have d:(a != c)=true:=by simpa using f
   have ih:=AR c l;simp only[Lib.indexByte,g,aI,aS,cy,d,aT,ai];generalize (l.takeWhile λx=>x != c).length=b at ih
   by_cases h:b<l.length
   .rw[az h]at ih;have e:((b:Int) == -1)=false:=by rw[di];omega
    rw[ih,az (show b+1<l.length+1 by omega),e];rfl
   .rw[an h]at ih;rw[ih,an (show ¬b+1<l.length+1 by omega)];rfl
def vd(rest:aG):eW (60::rest)=if(rest.takeWhile λx=>x != 62).length<rest.length then
  (if(rC (rest.take (rest.takeWhile λx=>x != 62).length)).2=true then((rC (rest.take (rest.takeWhile λx=>x != 62).length)).1,((rest.takeWhile λx=>x != 62).length:Int)+2)else(gH,0))else(gH,0):=by
 have a:=AR 62 (60::rest);simp only[cy,show((60:UInt8) != 62)=true from rfl,aT,ai]at a;rw[xW rfl]
 by_cases h:(rest.takeWhile λx=>x != 62).length<rest.length
 .rw[az (by omega)]at a;rw[a,az h,an (by omega)]
  have e:((60::rest).take (((rest.takeWhile λx=>x != 62).length+1:Nat):Int).toNat).drop 1=rest.take (rest.takeWhile λx=>x != 62).length:=by
   rw[ao,dt];rfl
  rw[e];congr 2
 .rw[an (by omega)]at a;rw[a,an h,az (by decide)]
def u47(a:UInt8):((a.toNat:Int)==47)=(a==47):=by revert a;exact eP (by decide +kernel)
def u48(a:UInt8):((a.toNat:Int)==48)=(a==48):=by revert a;exact eP (by decide +kernel)
def u58(a:UInt8):((a.toNat:Int) != 58)=(a != 58):=by revert a;exact eP (by decide +kernel)
def Qq{t:aG}(h:t≠[]):aws t [47]=(((t.getD 0 0).toNat:Int)==47):=by
 cases t with
 |nil=>exact absurd rfl h
 |cons a t=>rw[u47];simp[aws]
def PR{t:aG}(h:t≠[]):awt t [47]=(((t.getD (t.length - 1) 0).toNat:Int)==47):=by
 rcases dn t with b|⟨c,a,b⟩
 .exact absurd b h
 .rw[da]at b;subst b;rw[u47,gr];simp[aq]
set_option maxRecDepth 8000 in
def rH(s:aG)(h0:s.getD 0 0=60)(l:s.length<2^62)(J:ak):bM prog 163 [.s s] J (.iQ [.agg (eW s).1.awa,.I (eW s).2]):=by
 obtain⟨d,rfl⟩:∃d,s=60::d:=by
  cases s with
  |nil=>simp at h0
  |cons a r=>simp only[aA]at h0;exact⟨r,by rw[h0]⟩
 refine aZ func163 QM.2 λp X=>?_;simp only[QM,SS,seval];refine bZ.cut λR g=>?_;simp only[VV,seval];refine g _ (bZ.fg (fr':=(.s (60::d)::uu 1 (.ptr J.length 0::uu 136 []))) ?_ (by repeat' constructor));clear g R;refine bZ.cut λR g=>?_;simp only[VV,seval];refine g _ (bZ.fg (fr':=(.s (60::d)::uu 1 (.ptr J.length 0::uu 1 (.I ((1:Nat):Int)::uu 134 [])))) ?_ (by repeat' constructor));clear g R;refine bZ.cut λR g=>?_;simp only[VV,seval];have n:=vd d;refine bZ.aK ?_ (d.length+1) (yi (.ptr J.length 0) (60::d) l d [60] rfl ?_)
 .simp only[ai,al]
  repeat' constructor
 generalize M:(d.takeWhile λx=>x != 62).length=e at n;have V:e<=d.length:=by rw[<- M];exact(LZ _).length_le
 simp only[JE];intros;simp only[ai,al,aY,VV,seval];refine g _ (bZ.fg (fr':=(.s (60::d)::uu 1 (.ptr J.length 0::uu 1 (.I ((1+e:Nat):Int)::uu 134 [])))) ?_ (by repeat' constructor));clear g R;refine bZ.cut λR g=>?_;simp only[ai,VV,seval];refine⟨λh=>?_,λh=>?_⟩
 .have h:¬e<d.length:=by simp at h;omega
  rw[an h]at n;refine bg p (.inr rfl) (by simp only[RS,seval];rfl) (by simp[LW]) ⟨?_,rfl⟩;rw[n];rfl
 have h:e<d.length:=by simp at h;omega
 rw[az h]at n;refine g _ (bZ.fg (fr':=(.s (60::d)::uu 1 (.ptr J.length 0::uu 1 (.I ((1+e:Nat):Int)::uu 134 [])))) ?_ (by repeat' constructor));clear g R;generalize B:d.take e=t at n;have H:t.length<2^62:=by rw[<- B,aP];simp at l;omega
 refine bZ.cut λR g=>?_;simp only[ai,VV,seval];refine⟨by omega,?_⟩;have L:List.take (1+e - 1) d=t:=by rw[<- B];congr 1;omega
 rw[L];refine g _ (bZ.fg (fr':=(uu 2 (.ptr J.length 0::uu 1 (.I ((1+e:Nat):Int)::.s t::.I 2::uu 132 [])))) ?_ (by repeat' constructor));clear g R;refine bZ.cut λR g=>?_
 have j:∀(f:Int) (u:aG),u.length<2^62->eW (60::d)=(if(kV f u).2=true then((kV f u).1,(e:Int)+2)else(gH,0))->(f=2\/f=3\/f=4) ->
   ∀{o:aB},oJ o (uu 2 (.ptr J.length 0::uu 1 (.I ((1+e:Nat):Int)::.s u::.I f::uu 132 [])))->R ⟨o,J++[.box 61 [.I 0,.s [],.I 0]]⟩:=by
  intro f u G w Y o C;refine g _ (bZ.fg ?_ C);clear g R;refine bZ.cut λR g=>?_;simp only[VV,seval];refine g _ (bZ.fg (fr':=(uu 2 (.ptr J.length 0::uu 1 (.I ((1+e:Nat):Int)::.s u::.I f::.I (cR 0 [])::.I (([]:aG).length:Nat)::uu 130 [])))) ?_ (by repeat' constructor));clear g R;refine bZ.cut λR g=>?_;simp only[VV,seval];refine bZ.aK ?_ 5 (yh (.ptr J.length 0) (.I ((1+e:Nat):Int)) (.I f) u G 4 [] u rfl rfl (by simp) ?_)
  .repeat' constructor
  intro k U;simp only[JE];intros;simp only[VV,seval];refine g _ (bZ.fg (fr':=(uu 2 (.ptr J.length 0::uu 1 (.I ((1+e:Nat):Int)::.s u::.I f::.I (cR 0 (u.take k))::.I k::uu 130 [])))) ?_ (by repeat' constructor));clear g R
  have m:kV f u=if k=0\/u.length<=k\/u.getD 0 0=48\/999<cR 0 (u.take k)\/u.getD k 0≠58 then(gH,false)else
    if(f=3/\awj (u.drop (k+1))=false)\/(f≠3/\cV (u.drop (k+1))=false)then(gH,false)else(⟨f,u.drop (k+1),cR 0 (u.take k)⟩,true):=by rw[U];rfl
  refine bZ.cut λR g=>?_;simp only[ao,VV,seval]
  have O:(((((k:Int)==0||decide ((u.length:Int)<=(k:Int)))||((u.getD 0 0).toNat:Int)==48)||decide (999<cR 0 (u.take k)))||((u.getD k 0).toNat:Int) != 58)=decide (k=0\/u.length<=k\/u.getD 0 0=48\/999<cR 0 (u.take k)\/u.getD k 0≠58):=by
   rw[u48,u58,cB];simp[or_assoc]
  rw[O];refine⟨λh=>by simp at h;omega,λh=>by simp at h;omega,λh=>?_,λh=>?_⟩
  .rw[az (by simpa using h)]at m;refine bg p (.inr rfl) (by simp only[RS,seval];rfl) (by simp[LW]) ⟨?_,rfl⟩;rw[w,m];rfl
  have h:=UD h;rw[an h]at m;simp only[uy]at h;refine g _ (bZ.fg (fr':=(uu 2 (.ptr J.length 0::uu 1 (.I ((1+e:Nat):Int)::.s u::.I f::.I (cR 0 (u.take k))::.I k::uu 130 [])))) ?_ (by repeat' constructor));clear g R;have K:IntKind.i64.wrap ((k:Int)+1)=((k+1:Nat):Int):=by rw[IntWalk.i64_in _ (by omega)];omega
  refine bZ.cut λR g=>?_;simp only[K,ao,VV,seval];have P:List.take (u.length - (k+1)) (List.drop (k+1) u)=u.drop (k+1):=bW (by simp);rw[P];refine⟨by omega,?_⟩;refine g _ (bZ.fg (fr':=(uu 2 (.ptr J.length 0::uu 1 (.I ((1+e:Nat):Int)::uu 1 (.I f::uu 2 (.ptr (J.length+1) 0::uu 129 [])))))) ?_ (by repeat' constructor));clear g R;have T:IntKind.i64.wrap (((1+e:Nat):Int)+1)=(e:Int)+2:=by rw[IntWalk.i64_in _ (by simp at l;omega)];omega
  refine bZ.cut λR g=>?_
  have y:∀{o:aB},eW (60::d)=(⟨f,u.drop (k+1),cR 0 (u.take k)⟩,(e:Int)+2)->oJ o (uu 2 (.ptr J.length 0::uu 1 (.I ((1+e:Nat):Int)::uu 4 (.ptr (J.length+1) 0::uu 129 [])))) ->
    R ⟨o,J++[.box 61 [.I 0,.s [],.I 0],.box 61 [.I f,.s (u.drop (k+1)),.I (cR 0 (u.take k))]]⟩:=by
   intro o Q C;refine g _ (bZ.fg ?_ C);clear g R;refine au ?_;simp only[T,VV,seval];refine bg p (.inr rfl) (by simp only[RS,seval];rfl) (by simp[LW]) ⟨?_,rfl⟩;rw[Q];rfl
  by_cases q:f=3
  .subst q;simp only[VV,seval];refine bB (by simp only[VV,seval]<;>rfl) (λ_=>fY _ _) rfl ?_;simp only[VV,seval];refine bB (c:=false) (v:=.b false) (by simp only[VV,seval]<;>simp) (nofun) rfl ?_;simp only[VV,seval];refine⟨λi=>?_,λi=>?_⟩
   .have i:awj (u.drop (k+1))=false:=by rw[dm]at i;exact i
    rw[az (.inl ⟨rfl,i⟩)]at m;refine bg p (.inr rfl) (by simp only[RS,seval];rfl) (by simp[LW]) ⟨?_,rfl⟩;rw[w,m];rfl
   .have i:awj (u.drop (k+1))=true:=by rw[dQ]at i;exact i
    rw[an (by simp only[i];simp)]at m;exact y (by rw[w,m];rfl) (by repeat' constructor)
  .have E:(f==3)=false:=by simpa using q
   have z:(f != 3)=true:=by simpa using q
   simp only[E,z,VV,seval];refine bB (c:=false) (v:=.b false) (by simp only[VV,seval]<;>rfl) (nofun) rfl ?_;simp only[E,z,VV,seval];refine bB (by simp only[VV,seval]<;>rfl) (λ_=>jj _ _) rfl ?_;simp only[VV,seval];refine⟨λi=>?_,λi=>?_⟩
   .have i:cV (u.drop (k+1))=false:=by rw[dm]at i;exact i
    rw[az (.inr ⟨q,i⟩)]at m;refine bg p (.inr rfl) (by simp only[RS,seval];rfl) (by simp[LW]) ⟨?_,rfl⟩;rw[w,m];rfl
   .have i:cV (u.drop (k+1))=true:=by rw[dQ]at i;exact i
    rw[an (by simp only[i,q];simp)]at m;exact y (by rw[w,m];rfl) (by repeat' constructor)
 simp only[VV,seval];have S:t.length<=d.length:=by rw[<- B,aP];omega
 by_cases A:t=[]
 .subst A;refine⟨nofun,nofun,λ_=>⟨nofun,nofun,λ_=>j 2 [] (by simp) ?_ (.inl rfl) ?_⟩⟩
  .exact n
  .repeat' constructor
 have W:0<t.length:=cT.2 A;have F:IntKind.i64.wrap ((t.length:Int) - 1)=((t.length - 1:Nat):Int):=by rw[IntWalk.i64_in _ (by omega)];omega
 have N:decide ((0:Int)<(t.length:Int))=true:=by simp;omega
 have D:List.take (t.length - 1) (List.drop 1 t)=t.drop 1:=bW (by simp);simp only[F,N,D,ao,cc,<- Qq A,<- PR A];refine⟨λ_=>by omega,λh=>⟨by omega,j 3 (t.drop 1) (by simp;omega) ?_ (.inr (.inl rfl)) ?_⟩,λh=>⟨λ_=>by omega,λi=>⟨by omega,j 4 (t.take (t.length - 1)) (by simp;omega) ?_ (.inr (.inr rfl)) ?_⟩,λi=>j 2 t H ?_ (.inl rfl) ?_⟩⟩
 .rw[n];simp only[rC,h,aT]
 .repeat' constructor
 .rw[n];simp only[rC,h,i,aI,aS,aT]
 .repeat' constructor
 .rw[n];simp only[rC,h,i,aI,aS]
 .repeat' constructor
def rA(s:aG)(k:Nat):Prop:=s.getD k 0=125/\awj ((s.take k).drop 1)=true
def Ze(a:UInt8):((a.toNat:Int)==125)=(a==125):=by revert a;exact eP (by decide +kernel)
def yk{J:ak}{K:bl}(s:aG)(u:s.length<2^62):∀(m k:Nat),k+m=26->1<=k->(∀j,1<=j->j<k->j<s.length->¬rA s j) ->
  ((∀j,1<=j->j<s.length->j<=25->¬rA s j)->((fj 2 (fh (.ptr J.length 0) (fj 71 fo))) λq=>K (.exit 1) ⟨q,J++[.box 61 [.I 0,.s [],.I 0]]⟩)) ->
  (∀k:Nat,1<=k->k<s.length->rA s k->((fj 2 (fh (.ptr J.length 0) (fh (.I ((k+1:Nat):Int)) (fj 70 fo)))) λq=>K .ret ⟨q,J++[.box 61 [.I 5,.s ((s.take k).drop 1),.I 0]]⟩)) ->
  fm J.length prog o8 K (m+1) ⟨(.s s::uu 1 (.ptr J.length 0::uu 1 (.I k::uu 69 []))),J++[.box 61 [.I 0,.s [],.I 0]]⟩:=by
 intro m
 induction m with
 |zero =>
  intro k v t c e l;have d:decide ((k:Int)<=25)=false:=by simp;omega
  refine ar λR p=>?_;simp only[o8,d,gB,VV,seval];exact e (λj b f n=>c j b (by omega) f) ..
 |succ m ih =>
  intro k v t c e l;have d:decide ((k:Int)<=25)=true:=by simp;omega
  have g:IntKind.i64.wrap ((k:Int)+1)=((k+1:Nat):Int):=by rw[IntWalk.i64_in _ (by omega)];omega
  by_cases o:k<s.length
  .have i:decide ((k:Int)<(s.length:Int))=true:=by simp;omega
   refine ar λR p=>?_;have a:List.take (k - 1) (List.drop 1 s)=(s.take k).drop 1:=by rw[Da]
   simp only[o8,i,d,g,ao,a,VV,seval];refine⟨by omega,λ_=>by omega,bB (by simp only[VV,seval]<;>rfl) (λ_=>fY _ _) rfl ?_⟩;simp only[g,a,Ze,ao,VV,seval];refine⟨λh=>⟨by omega,?_⟩,λh=>?_⟩
   .exact l k t o (by simpa[rA]using h) ..
   .refine p _ (aK ?_ (ih (k+1) (by omega) (by omega) (λj b f n=>?_) e l))
    .repeat' constructor
    .by_cases w:j=k
     .subst w;intro r;rw[r.1,r.2]at h;simp at h
     .exact c j b (by omega) n
  .have i:decide ((k:Int)<(s.length:Int))=false:=by simp;omega
   refine ar λR p=>?_;simp only[o8,i,d,g,ao,VV,seval];exact e (λj b f n=>c j b (by omega) f) ..
def yj{J:ak}{K:bl}(s:aG)(l:s.length<2^62):∀(m c:Nat),c+m=256->(∀j,j<c->aws s (du (UInt8.ofNat j))=false) ->
  ((∀j,j<256->aws s (du (UInt8.ofNat j))=false)->((fj 2 (fh (.ptr J.length 0) (fj 71 fo))) λe=>K (.exit 3) ⟨e,J++[.box 61 [.I 0,.s [],.I 0]]⟩)) ->
  (∀b:UInt8,aws s (du b)=true->((fj 2 (fh (.ptr J.length 0) (fh (.I (du b).length) (fj 70 fo)))) λe=>K .ret ⟨e,J++[.box 61 [.I 1,.s [b],.I 0]]⟩)) ->
  fm J.length prog rT K (m+1) ⟨(.s s::uu 1 (.ptr J.length 0::uu 2 (.I c::uu 68 []))),J++[.box 61 [.I 0,.s [],.I 0]]⟩:=by
 intro m
 induction m with
 |zero =>
  intro c i d f a;have i:c=256:=by omega
  subst i;refine ar λR o=>?_;simp only[rT,VV,seval];exact⟨nofun,λ_=>f d ..⟩
 |succ m ih =>
  intro c i d f a;have n:IntKind.i64.wrap ((c:Int)+1)=((c+1:Nat):Int):=by rw[IntWalk.i64_in _ (by omega)];omega
  have k:IntKind.u8.wrap (c:Int)=((UInt8.ofNat c).toNat:Int):=by rw[IntWalk.u8_in _ (by omega)];simp;omega
  have p:decide ((c:Int)<256)=true:=by simp;omega
  refine ar λR o=>?_;simp only[rT,p,k,n,VV,seval];refine aw (mI (UInt8.ofNat c) _) rfl ?_;simp only[k,n,ao,VV,seval]
  have q:(decide (((du (UInt8.ofNat c)).length:Int)<=(s.length:Int))&&List.take (du (UInt8.ofNat c)).length s==du (UInt8.ofNat c))=aws s (du (UInt8.ofNat c)):=by
   simp only[aws,KW]
  rw[q];refine⟨λh=>by simp at h;omega,λh=>a _ h ..,λh=>?_⟩;refine o _ (aK ?_ (ih (c+1) (by omega) (λj r=>?_) f a))
  .repeat' constructor
  .by_cases g:j=c
   .subst g;exact h
   .exact d j (by omega)
def xZ(s:aG)(q:s≠[])(d:s.length<2^62)(J:ak):bM prog 104 [.s s] J (.iQ [.agg (eW s).1.awa,.I (eW s).2]):=by
 refine aZ func104 QV.2 λg v=>au ?_;have w:0<s.length:=cT.2 q
 have e:(((s.getD 0 0).toNat:Int)==123)=(s.getD 0 0==123):=by
  generalize s.getD 0 0=a;revert a;exact eP (by decide +kernel)
 have i:(((s.getD 0 0).toNat:Int)==60)=(s.getD 0 0==60):=by
  generalize s.getD 0 0=a;revert a;exact eP (by decide +kernel)
 have f:(0:Int)<=0/\(0:Int)<(s.length:Int):=by omega
 simp only[QV,SS,seval]
 by_cases h:s.getD 0 0=123
 .have m:(s.getD 0 0==123)=true:=by simpa using h
  simp only[e,m,VV,seval,-Int.reduceLE];refine⟨f,?_⟩;refine bZ.aK ?_ 26 (yk s d 25 1 rfl (aD _) (λj x z=>by omega) (λn=>?_) (λk r u p=>?_))
  .simp only[afM]
   repeat' constructor
  .simp only[JE];intros;simp only[VV,seval];refine bg g (.inr rfl) (by simp only[RS,seval];rfl) (by simp[LW]) ⟨?_,rfl⟩;rw[rD h n];rfl
  .simp only[JE];intros;simp only[VV,seval];refine bg g (.inr rfl) (by simp only[RS,seval];rfl) (by simp[LW]) ⟨?_,rfl⟩;rw[u9 h r u p.1 p.2];rfl
 have m:(s.getD 0 0==123)=false:=by simpa using h
 by_cases l:s.getD 0 0=60
 .have o:(s.getD 0 0==60)=true:=by simpa using l
  simp only[e,i,m,o,VV,seval,-Int.reduceLE];refine⟨f,f,?_⟩;refine aw (rH s l d _) rfl ?_;simp only[It.awa,VV,seval];refine bg g (.inr rfl) (by simp only[RS,seval];rfl) (by simp[LW]) ⟨?_,rfl⟩;rfl
 .have o:(s.getD 0 0==60)=false:=by simpa using l
  simp only[e,i,m,o,VV,seval,-Int.reduceLE];refine⟨f,f,?_⟩;refine bZ.aK ?_ 257 (yj s d 256 0 rfl (λj y=>by omega) (λn=>?_) (λb t=>?_))
  .simp only[ey]
   repeat' constructor
  .simp only[JE];intros;simp only[VV,seval];refine bg g (.inr rfl) (by simp only[RS,seval];rfl) (by simp[LW]) ⟨?_,rfl⟩
   rw[vf q l h (λc=>by
    have:=n c.toNat c.toNat_lt
    rwa [Fg]at this)]
   rfl
  .simp only[JE];intros;simp only[VV,seval];refine bg g (.inr rfl) (by simp only[RS,seval];rfl) (by simp[LW]) ⟨?_,rfl⟩;rw[vg t];rfl
def Jv{J:ak}{K:bl}(s:aG)(r:cn J)(g:s.length<2^30):∀(n:Nat) (rest pre:aG) (f:List It) (len:Nat),s=pre++rest->rest.length<n->f.length<=512->bd f<=pre.length->len<=1024 ->
  ((dU n f len rest pre.length).2.2=0->((fj 5 (fh (.sl 3 ((dU n f len rest pre.length).1.map It.awa)) (fj 49 fo))) λo=>K (.exit 0) ⟨o,J⟩)) ->
  ((dU n f len rest pre.length).2.2≠0->∀loc,((fj 2 (fh (.nil) (fh (.I (dU n f len rest pre.length).2.1) (fh (.I (dU n f len rest pre.length).2.2) (fj 50 fo))))) λo=>K .ret ⟨o,J++loc⟩)) ->
  fm J.length prog wO K n ⟨(.s s::uu 4 (.sl 3 (f.map It.awa)::.I pre.length::.I len::uu 47 [])),J⟩:=by
 intro n
 induction n with
 |zero=>intro rest pre f len d hn;omega
 |succ n ih =>
  intro rest pre f len d hn G C D e a;cases rest with
  |nil =>
   have d:=cN d
   subst d;simp only[dU]at e;refine ar λR q=>?_;simp only[wO,VV,seval];exact⟨λh=>by simp at h,λ_=>e trivial ..⟩
  |cons c rest =>
   subst d;have v:=u7 (s:=c::rest) (by simp);have y:List.take ((pre++c::rest).length - pre.length) (List.drop pre.length (pre++c::rest))=c::rest:=by simp
   simp only[dU]at e a;refine ar λR q=>?_;simp only[wO,y,ao,VV,seval];refine⟨λ_=>⟨by simp;omega,?_⟩,λh=>by simp at h<;>omega⟩;refine aw (xZ (c::rest) (by simp) (by simp at g |-;omega) _) rfl ?_;generalize F:eW (c::rest)=xm at *;obtain⟨x,m⟩:=xm;simp only at v e a;simp only[It.awa,VV,seval];refine⟨λi=>?_,λi=>?_⟩
   .have i:m=0:=by simpa using i
    simp only[i,aT]at a;exact a (by simp) [_] ..
   have i:m≠0:=by simpa using i
   obtain⟨E,z,B⟩:=v i;rw[an i]at e a;have A:=pd (f++[x]);simp only[fM,bd,aj,ai,al]at A;have w:pre.length+(rest.length+1)<2^30:=by simpa using g
   simp only[ai]at z hn
   have p:(pre++(c::rest).take m.toNat).length=pre.length+m.toNat:=by
    rw[aj,aP,ai];omega
   have t:IntKind.i64.wrap ((len:Int)+1)=((len+1:Nat):Int):=by rw[IntWalk.i64_in _ (by omega)];omega
   have k:IntKind.i64.wrap ((pre.length:Int)+m)=(pre.length:Int)+m:=IntWalk.i64_in _ (by omega);have u:(len:Int)+1=((len+1:Nat):Int):=by omega
   have l:(pre.length:Int)+m=(((pre++(c::rest).take m.toNat).length:Nat):Int):=by rw[p];omega
   refine⟨λj=>?_,λj=>?_⟩
   .have j:x.awb≠1:=by simpa using j
    refine aw (oU f x _) rfl ?_;simp only[It.awa,VV,seval];refine⟨λd=>?_,λd=>?_⟩
    .have d:cY f x≠0:=by simpa using d
     rw[az ⟨j,d⟩]at a;exact a d [_] ..
    have d:cY f x=0:=by simpa using d
    rw[an (λh=>h.2 d)]at e a;refine ml (zs:=[.sl 3 (f.map It.awa),.sl 3 ([x].map It.awa)]) (.cons (.refl _) (.cons (.lit _ _) .nil)) (jW f [x] (by omega) (by simp) (by omega) (by simp only[bd];omega) _) ?_;simp only[t,k,ag,VV,seval];refine⟨λb=>?_,λb=>?_⟩
    .have b:512<(awl (f++[x])).length\/(1024:Int)<(len:Int)+1:=by simp at b;omega
     rw[az b]at a;exact a (by simp) [_] ..
    .have b:¬(512<(awl (f++[x])).length\/(1024:Int)<(len:Int)+1):=by simp at b;omega
     rw[an b,u,l]at e a;refine q _ (ny (aD _) r ?_ ?_ (ih ((c::rest).drop m.toNat) (pre++(c::rest).take m.toNat) (awl (f++[x])) (len+1) (by simp) (by rw[bA,ai];omega) (by omega) (by rw[p];omega) (by omega) e a))
     .rw[<- l]
      repeat' constructor
     .simp only[LW]
   .have j:x.awb=1:=by simpa using j
    rw[an (λh=>h.1 j)]at e a;refine ml (zs:=[.sl 3 (f.map It.awa),.sl 3 ([x].map It.awa)]) (.cons (.refl _) (.cons (.lit _ _) .nil)) (jW f [x] (by omega) (by simp) (by omega) (by simp only[bd];omega) _) ?_;simp only[t,k,ag,VV,seval];refine⟨λb=>?_,λb=>?_⟩
    .have b:512<(awl (f++[x])).length\/(1024:Int)<(len:Int)+1:=by simp at b;omega
     rw[az b]at a;exact a (by simp) [_] ..
    .have b:¬(512<(awl (f++[x])).length\/(1024:Int)<(len:Int)+1):=by simp at b;omega
     rw[an b,u,l]at e a;refine q _ (ny (aD _) r ?_ ?_ (ih ((c::rest).drop m.toNat) (pre++(c::rest).take m.toNat) (awl (f++[x])) (len+1) (by simp) (by rw[bA,ai];omega) (by omega) (by rw[p];omega) (by omega) e a))
     .rw[<- l]
      repeat' constructor
     .simp only[LW]
def mY(s:aG)(a:s.length<2^30)(J:ak):bM prog 47 [.s s] J (.iQ [.sl 3 ((parse s).1.map It.awa),.I (parse s).2.1,.I (parse s).2.2]):=by
 refine aZ func47 p47.2 λc i=>au ?_;rw[<- rE];simp only[p47,SS,seval];simp only[VV,seval];refine bZ.wk (Wk.fg ?_) (bZ.uh (s.length+1) (Jv s c a (s.length+1) s [] [] 0 rfl (by omega) (by simp) (by simp[bd]) (by omega) (λh=>?_) (λh=>?_)))
 .simp only[al,ey,bR,VV,seval]
  repeat' constructor
 .have e:=oR _ _ _ _ _ h;simp only[JE];intros;simp only[VV,seval];refine aO (.inr rfl) (by simp only[RS,seval];rfl) ⟨?_,rfl⟩;have d:(nw s).2.2=0:=h;have f:(nw s).2.1=0:=e;rw[d,f];rfl
 .simp only[JE];intros;simp only[VV,seval];refine kb (ys:=[.sl 3 [],.I (nw s).2.1,.I (nw s).2.2]) c (.inr rfl) (by simp only[RS,seval];rfl) ?_ (by simp[LW]) ⟨?_,rfl⟩
  .exact .cons (.nil _) (.cons (.refl _) (.cons (.refl _) .nil))
  .have g:=nR _ _ _ _ _ h;have b:(nw s).1=[]:=g;rw[b];rfl
def Eg{J:ak}{K:bl}(k d:Int)(s:aG)(e:s.length<2^40):∀(rest pre t:aG),s=pre++rest->t.length<=4*pre.length ->
  (((fj 3 (fh (.s (t++rest.flatMap du)) (fj 57 fo))) λi=>K (.exit 1) ⟨i,J++[.box 61 [.I k,.s s,.I d]]⟩)) ->
  fm J.length prog rQ K (rest.length+1) ⟨(uu 1 (.ptr J.length 0::uu 1 (.s t::.I pre.length::uu 56 []))),J++[.box 61 [.I k,.s s,.I d]]⟩:=by
 intro rest
 induction rest with
 |nil =>
  intro pre t a g b;have a:=cN a
  subst a;rw[nP,bL]at b;refine ar λR f=>?_;simp only[rQ,VV,seval];exact⟨λh=>by simp at h,λ_=>b ..⟩
 |cons c rest ih =>
  intro pre t a g b;subst a;rw[eJ,<- List.append_assoc]at b;have l:pre.length+rest.length+1<2^40:=by simp at e;omega
  have j:=Bo c;refine ar λR f=>?_;simp only[rQ,VV,seval];refine⟨λ_=>⟨by simp;omega,?_⟩,λh=>by simp at h<;>omega⟩;refine aw (mI c _) rfl ?_;simp only[VV,seval];refine⟨by simp only[maxLen];omega,?_⟩;refine f _ (aK ?_ (ih (pre++[c]) (t++du c) (by simp) (by simp;omega) b));rw[cm (by omega)];simp only[aj,ai,al]
  repeat' constructor
def rI(x:It)(h:1<=x.awb/\x.awb<=5)(e:0<=x.id/\x.id<2^62)(a:x.awd.length<2^40)(J:ak):bM prog 139 [.agg x.awa] J (.s (cK x)):=by
 refine aZ func139 QP.2 λb m=>au ?_;obtain⟨k,t,d⟩:=x;simp only at h e a;obtain⟨n,rfl⟩:∃n:Nat,d=n:=⟨d.toNat,by omega⟩;have o:=Lib.itoa_length_le (n:Int) (by omega) (by omega);have c:=rL n (by omega) (J++[.box 61 [.I k,.s t,.I n]]);simp only[QP,SS,seval]
 by_cases f:k=1
 .subst f;simp only[It.awa,VV,seval];refine bZ.aK ?_ (t.length+1) (Eg 1 n t a t [] [] rfl (aD _) ?_)
  .simp only[al,ey]
   repeat' constructor
  .simp only[JE];intros;simp only[bc,VV,seval];exact bg b (.inr rfl) (by simp only[RS,seval];rfl) (by simp[LW]) ⟨by simp[Pm.one,cK],rfl⟩
 by_cases g:k=2
 .subst g;simp only[It.awa,VV,seval];refine aw c rfl ?_;simp only[VV,seval];refine⟨by simp only[maxLen];omega,by simp only[maxLen];omega,by simp only[maxLen,aj,ai,al];omega,by simp only[maxLen,aj,ai,al];omega,?_⟩;exact bg b (.inr rfl) (by simp only[RS,seval];rfl) (by simp[LW]) ⟨by simp[Pm.one,cK],rfl⟩
 by_cases i:k=3
 .subst i;simp only[It.awa,VV,seval];refine aw c rfl ?_;simp only[VV,seval];refine⟨by simp only[maxLen];omega,by simp only[maxLen];omega,by simp only[maxLen,aj,ai,al];omega,by simp only[maxLen,aj,ai,al];omega,?_⟩;exact bg b (.inr rfl) (by simp only[RS,seval];rfl) (by simp[LW]) ⟨by simp[Pm.one,cK],rfl⟩
 by_cases l:k=4
 .subst l;simp only[It.awa,VV,seval];refine aw c rfl ?_;simp only[VV,seval];refine⟨by simp only[maxLen];omega,by simp only[maxLen];omega,by simp only[maxLen,aj,ai,al];omega,by simp only[maxLen,aj,ai,al];omega,?_⟩;exact bg b (.inr rfl) (by simp only[RS,seval];rfl) (by simp[LW]) ⟨by simp[Pm.one,cK],rfl⟩
 have j:k=5:=by omega
 subst j;simp only[It.awa,VV,seval];refine⟨by simp only[maxLen];omega,by simp only[maxLen];omega,?_⟩;exact bg b (.inr rfl) (by simp only[RS,seval];rfl) (by simp[LW]) ⟨by simp[Pm.one,cK],rfl⟩
def Ju{J:ak}{K:bl}(f:List It)(i:f.length<=512)(k:∀x∈f,(1<=x.awb/\x.awb<=5)/\(0<=x.id/\x.id<2^62)/\x.awd.length<=2^30/\(cK x).length<2^33):∀(rest pre:List It) (s:aG),f=pre++rest->s.length<=2^33*pre.length ->
  (((fj 5 (fh (.s (s++rest.flatMap cK)) (fj 20 fo))) λg=>K (.exit 0) ⟨g,J⟩)) ->
  fm J.length prog wN K (rest.length+1) ⟨(.sl 3 (f.map It.awa)::uu 4 (.s s::uu 7 (.I f.length::.I pre.length::uu 11 []))),J⟩:=by
 intro rest
 induction rest with
 |nil =>
  intro pre s b j a;have b:=cN b
  subst b;rw[nP,bL]at a;refine ar λR d=>?_;simp only[wN,VV,seval];exact⟨λh=>by simp at h,λ_=>a ..⟩
 |cons x rest ih =>
  intro pre s b j a;subst b;rw[eJ,<- List.append_assoc]at a;obtain⟨e,c,l,n⟩:=k x (by simp);have m:pre.length+rest.length+1<=512:=by simp at i;omega
  refine ar λR d=>?_;simp only[wN,It.awa,VV,seval];refine⟨λ_=>⟨by simp;omega,?_⟩,λh=>by simp at h<;>omega⟩;refine aw (rI x e c (by omega) _) rfl ?_;simp only[VV,seval];refine⟨by simp only[maxLen];omega,?_⟩;refine d _ (aK ?_ (ih (pre++[x]) (s++cK x) (by simp) (by simp;omega) a));rw[cm (by omega)];simp only[aj,ai,al]
  repeat' constructor
def tu{f:List It}(j:bd f<2^30)(h:cd f=0):f.length<=512/\∀x∈f,(1<=x.awb/\x.awb<=5)/\(0<=x.id/\x.id<2^62)/\x.awd.length<=2^30/\(cK x).length<2^33:=by
 have g:=qy h;simp only[cd]at h;split at h
 .simp at h
 .rename_i l;refine⟨by omega,λx b=>?_⟩;have a:=tk f [] h x b
  have c:∀f:List It,x∈f->x.awd.length<=bd f:=by
   intro f
   induction f with
   |nil=>simp
   |cons y f ih =>
    intro d;simp only[bd];rcases bC.1 d with rfl|d
    .omega
    .have:=ih d;omega
  have i:=c f b
  have e:0<=x.id/\x.id<2^62:=by
   simp only[bG]at a;split at a
   .simp at a;omega
   .split at a
    .simp at a;omega
    .split at a
     .simp at a;omega
     .split at a
      .simp at a;omega
      .simp at a
  have k:=uJ x (by omega);exact⟨g x b,e,by omega,by omega⟩
def tH(f:List It)(c:bd f<2^30)(J:ak):bM prog 74 [.sl 3 (f.map It.awa)] J (.iQ [.s (aww f).1,.I (aww f).2]):=by
 refine aZ func74 p74.2 λe d=>au ?_;simp only[p74,SS,seval];simp only[VV,seval];refine aw (jo f _) rfl ?_;simp only[ag,VV,seval];refine⟨λh=>?_,λh=>?_⟩
 .have h:cd f≠0:=by simpa using h
  refine aO (.inr rfl) (by simp only[RS,seval];rfl) ⟨?_,rfl⟩;simp only[aww,az h];rfl
 .have h:cd f=0:=by simpa using h
  obtain⟨b,a⟩:=tu c h;refine bZ.aK ?_ (f.length+1) (Ju f b a f [] [] rfl (fA _) ?_)
  .simp only[al,ey]
   repeat' constructor
  .simp only[JE];intros;simp only[bc,VV,seval];refine aO (.inr rfl) (by simp only[RS,seval];rfl) ⟨?_,rfl⟩;simp[aww,h,Pm.one]
def qc(s:aG)(J:ak):bM prog 138 [.s s] J (.b (named s)):=by
 refine aZ func138 QQ.2 λc a=>au ?_;simp only[QQ,SS,seval];simp only[VV,seval];refine bB (by simp only[VV,seval]<;>rfl) (λ_=>fY s _) rfl ?_;simp only[VV,seval];exact aO (.inr rfl) (by simp only[RS,seval];rfl) ⟨rfl,rfl⟩
def kW(e:En)(c:e.awk)(J:ak):bM prog 73 [.agg e.awa] J (.I (cj e)):=by
 refine aZ func73 p73.2 λa m=>au ?_;simp only[p73,SS,seval];simp only[En.awa,VV,seval];refine aw (jo e.awc _) rfl ?_;simp only[VV,seval];refine⟨λh=>?_,λh=>?_⟩
 .have h:cd e.awc≠0:=by simpa using h
  exact bg a (.inr rfl) (by simp only[RS,seval];rfl) (by simp[LW]) ⟨by simp only[cj,h,aT,fc,cP];rfl,rfl⟩
 have i:cd e.awc=0:=by simpa using h
 refine aw (jo e.awf _) rfl ?_;simp only[VV,seval];refine⟨λh=>?_,λh=>?_⟩
 .have h:cd e.awf≠0:=by simpa using h
  refine bg a (.inr rfl) (by simp only[RS,seval];rfl) (by simp[LW]) ⟨?_,rfl⟩;simp only[cj,i,h,aT,fc,cP,eN,aS];rfl
 have j:cd e.awf=0:=by simpa using h
 refine aw (oV e.awc e.awf (by have:=c.awc;omega) (by have:=c.awf;omega) (by have:=c.nU;omega) (by have:=c.HN;omega) _) rfl ?_;simp only[ag,VV,seval];refine bB (by simp only[VV,seval]<;>rfl) (λ_=>nz (gK e.awc e.awf) e.awc _) rfl ?_;simp only[VV,seval];refine bB (by simp only[VV,seval]<;>rfl) (λ_=>nz (iq e.awc e.awf) e.awf _) rfl ?_;simp only[VV,seval]
 have f:oe e=!((((e.awc.length:Int)==0)||!gL (gK e.awc e.awf) e.awc)||!gL (iq e.awc e.awf) e.awf):=by
  have:((e.awc.length:Int)==0)=(e.awc.length==0):=by rw[cB];simp
  simp only[oe,this];cases(e.awc.length==0)<;>cases gL (gK e.awc e.awf) e.awc<;>cases gL (iq e.awc e.awf) e.awf<;>rfl
 refine⟨λh=>?_,λh=>?_⟩
 .rw[h]at f;refine bg a (.inr rfl) (by simp only[RS,seval];rfl) (by simp[LW]) ⟨?_,rfl⟩;simp only[cj,i,j,f,fc,eN,aS];rfl
 rw[h]at f
 have d:cj e=if(parse e.bU).2.2≠0 then(parse e.bU).2.2 else if(parse e.next).2.2≠0 then(parse e.next).2.2 else
   if(named e.c8&&named e.cA)=false then 4 else if e.awh<0\/1073741824<e.awh\/e.awq<1\/3<e.awq then 1 else 0:=by
  simp only[cj,i,j,f,fc,eN,aS];rfl
 refine aw (mY e.bU (by have:=c.bU;omega) _) rfl ?_;simp only[VV,seval];refine⟨λh=>?_,λh=>?_⟩
 .have h:(parse e.bU).2.2≠0:=by simpa using h
  rw[d,az h];exact gq a (by rfl) (by simp[LW])
 have k:¬(parse e.bU).2.2≠0:=by simpa using h
 refine aw (mY e.next (by have:=c.next;omega) _) rfl ?_;simp only[VV,seval];refine⟨λh=>?_,λh=>?_⟩
 .have h:(parse e.next).2.2≠0:=by simpa using h
  rw[d,an k,az h];exact gq a (by rfl) (by simp[LW])
 have l:¬(parse e.next).2.2≠0:=by simpa using h
 rw[an k,an l]at d;refine aw (qc e.c8 _) rfl ?_;simp only[VV,seval];refine bB (by simp only[VV,seval]<;>rfl) (λ_=>qc e.cA _) rfl ?_;simp only[VV,seval]
 have g:(!named e.c8||!named e.cA)=!(named e.c8&&named e.cA):=by
  cases named e.c8<;>cases named e.cA<;>rfl
 rw[g];refine⟨λh=>?_,λh=>⟨λb=>?_,λb=>?_⟩⟩
 .have h:(named e.c8&&named e.cA)=false:=by rw[dm]at h;exact h
  rw[d,az h];exact gq a (by rfl) (by simp[LW])
 .have h:¬(named e.c8&&named e.cA)=false:=by rw[dQ]at h;rw[h];simp
  have b:e.awh<0\/1073741824<e.awh\/e.awq<1\/3<e.awq:=by
   simp at b;omega
  rw[d,an h,az b];exact gq a (by rfl) (by simp[LW])
 .have h:¬(named e.c8&&named e.cA)=false:=by rw[dQ]at h;rw[h];simp
  have b:¬(e.awh<0\/1073741824<e.awh\/e.awq<1\/3<e.awq):=by
   simp at b;omega
  rw[d,an h,an b];exact gq a (by rfl) (by simp[LW])
def js(e:En)(a:e.awk)(J:ak):bM prog 30 [.agg e.awa] J (.s (aN e)):=by
 refine aZ func30 p30.2 λb f=>au ?_;simp only[p30,SS,seval];simp only[En.awa,VV,seval];refine aw (kW e a _) rfl ?_;simp only[VV,seval];refine⟨λh=>?_,λh=>?_⟩
 .have h:cj e≠0:=by simpa using h
  exact bg b (.inr rfl) (by simp only[RS,seval];rfl) (by simp[LW]) ⟨by simp only[aN,h,aT,fc,cP];rfl,rfl⟩
 .have h:¬cj e≠0:=by simpa using h
  refine aw (tH e.awc (by have:=a.nU;omega) _) rfl ?_;simp only[VV,seval];have d:=zI e.awc a.awc a.nU (λx c=>a.ids x (by simp[c]));have i:=a.bU;have g:=a.next;refine⟨by simp[maxLen];omega,by simp[maxLen];omega,by simp[maxLen];omega,by simp[maxLen];omega,?_⟩;refine bg b (.inr rfl) (by simp only[RS,seval];rfl) (by simp[LW]) ⟨?_,rfl⟩;simp[Pm.one,aN,an h,cq]
open Go.RowKit
def Ei{J:ak}{K:bl}(m:List En)(d:nj m)(w:∀e∈m,e.awk):∀(rest pre:List En) (last:aG),m=pre++rest->(pre≠[]->∀y∈rest,fS last (cq y)<0) ->
  (((fj 32 fo) λr=>K (.exit 0) ⟨r,J⟩)) ->
  fm J.length prog rS K (rest.length+1) ⟨(.sl 8 (m.map En.awa)::uu 2 (.s last::uu 6 (.I m.length::.I pre.length::uu 20 []))),J⟩:=by
 intro rest
 induction rest with
 |nil =>
  intro pre last a f c;have a:=cN a
  subst a;refine ar λR k=>?_;simp only[rS,VV,seval];exact⟨λh=>by simp at h,λ_=>c ..⟩
 |cons x rest ih =>
  intro pre last a f c;have E:=d.len;have D:=mT a
  have g:=dh pre x (by omega)
  have l:decide ((pre.length:Int)<(m.length:Int))=true:=by simp;omega
  have z:(m.map En.awa).getD pre.length []=x.awa:=by rw[a];simp[aq]
  have j:x∈m:=by rw[a];simp
  have C:=d.ok x j;refine ar λR k=>?_;simp only[rS,l,g,z,ao,ag,V.pure,VV,seval];have o:x.awa.take 8=x.awa:=by simp[En.awa]
  have p:aN x=cq x:=by simp[aN,C]
  have t:cq x≠[]:=by simp[cq]
  refine⟨⟨by omega,by omega⟩,by simp[En.awa],aw (js x (w x j) _) (by simp only[o,VV,seval]) ?_⟩
  have q:(cq x==[]||decide ((0:Int)<(pre.length:Int))&&(Op.bytesLess (cq x) last||cq x==last))=false:=by
   have A:(cq x==[])=false:=by simpa using t
   rw[A,iY]
   by_cases i:pre=[]
   .simp[i]
   .have n:=f i x (by simp);have F:=gi.my (cq x) last;have u:Op.bytesLess (cq x) last=false:=by rw[fU];simp;omega
    have B:(cq x==last)=false:=by
     simp only[di];intro h;rw[<- h,gi.self]at n;omega
    rw[u,B];simp
  simp only[p,q,g,VV,seval];have b:=d.s6;rw[a]at b;simp only[cM,aH,KA,jf,dx]at b;refine k _ (aK (fr':=(.sl 8 (m.map En.awa)::uu 2 (.s (cq x)::uu 6 (.I m.length::.I (pre++[x]).length::uu 20 [])))) (by repeat' constructor) (ih (pre++[x]) (cq x) (by rw[a];simp) (λ_ y v=>b.2.1.1 (cq y) (gN v)) c))
def sQ(m:List En)(a:nj m)(d:∀e∈m,e.awk)(J:ak):bM prog 114 [.sl 8 (m.map En.awa)] J (.b true):=by
 refine aZ func114 QU.2 λi f=>au ?_;have g:=a.len;have c:decide ((1024:Int)<(m.length:Int))=false:=by simp;omega
 simp only[QU,SS,seval];simp only[ag,c,VV,seval];refine bZ.aK (fr':=(.sl 8 (m.map En.awa)::uu 2 (.s []::uu 6 (.I m.length::.I (([]:List En).length:Nat)::uu 20 [])))) ?_ (m.length+1) (Ei m a d m [] [] rfl (λh=>(h rfl).elim) ?_)
 .repeat' constructor
 simp only[JE];intros;simp only[VV,seval];exact aO (.inr rfl) (by simp only[RS,seval];rfl) ⟨rfl,rfl⟩
def below(m:List En)(k:aG):Nat:=(m.takeWhile λe=>Op.bytesLess (cq e) k).length
def Eh{J:ak}{K:bl}(m:List En)(j:nj m)(q:∀e∈m,e.awk)(k:aG):∀(rest pre:List En),m=pre++rest ->
  (((fj 5 (fh (.I (pre.length+below rest k:Nat)) (fj 16 fo))) λp=>K (.exit 0) ⟨p,J⟩)) ->
  fm J.length prog rR K (rest.length+1) ⟨(.sl 8 (m.map En.awa)::.s k::uu 3 (.I pre.length::uu 16 [])),J⟩:=by
 intro rest
 induction rest with
 |nil =>
  intro pre a b;have a:=cN a
  subst a;refine ar λR l=>?_;simp only[below,qV,al,de]at b;have d:decide ((m.length:Int)<(m.length:Int))=false:=by simp
  simp only[rR,ag,d,VV,seval];refine⟨nofun,.u,nofun,?_⟩;refine bB (c:=false) (v:=.s []) (by simp only[VV,seval]<;>rfl) (nofun) rfl ?_;simp only[VV,seval];exact b ..
 |cons x rest ih =>
  intro pre a b;have y:=j.len;have w:=mT a
  have g:=dh pre x (by omega)
  have d:decide ((pre.length:Int)<(m.length:Int))=true:=by simp;omega
  have r:(m.map En.awa).getD pre.length []=x.awa:=by rw[a];simp[aq]
  have i:x∈m:=by rw[a];simp
  have t:=j.ok x i;have n:x.awa.take 8=x.awa:=by simp[En.awa]
  have o:aN x=cq x:=by simp[aN,t]
  refine ar λR l=>?_;simp only[rR,d,g,r,n,ao,ag,V.pure,VV,seval];refine⟨⟨by omega,by omega⟩,.agg x.awa,⟨rfl,by simp[En.awa]⟩,?_⟩;refine bB (c:=true) (by simp only[VV,seval]<;>rfl) (λ_=>js x (q x i) _) rfl ?_;simp only[o,g,VV,seval];refine⟨λh=>l _ (aK (fr':=(.sl 8 (m.map En.awa)::.s k::uu 3 (.I (pre++[x]).length::uu 16 []))) (by repeat' constructor) (ih (pre++[x]) (by rw[a];simp) ?_)),λh=>?_⟩
  .have f:(pre++[x]).length+below rest k=pre.length+below (x::rest) k:=by
    simp only[below,cy,h,aT,ai,aj,al];omega
   rw[f];exact b
  .have f:pre.length+below (x::rest) k=pre.length:=by
    simp only[below,cy,h,aI,aS,al,de]
   rw[f]at b;exact b ..
def sR(m:List En)(a:nj m)(b:∀e∈m,e.awk)(k:aG)(J:ak):bM prog 115 [.sl 8 (m.map En.awa),.s k] J (.I (below m k:Nat)):=by
 refine aZ func115 QT.2 λd c=>au ?_;simp only[QT,SS,seval];simp only[VV,seval];refine bZ.aK (fr':=(.sl 8 (m.map En.awa)::.s k::uu 3 (.I (([]:List En).length:Nat)::uu 16 []))) ?_ (m.length+1) (Eh m a b k m [] rfl ?_)
 .repeat' constructor
 simp only[JE];intros;simp only[al,aY,VV,seval];exact aO (.inr rfl) (by simp only[RS,seval];rfl) ⟨rfl,rfl⟩
def yL(m:List En)(k:aG):below m k<=m.length:=qX (qU _)
def RU(S:ak)(a:Nat)(c:a<S.length)(l:bH)(k:Nat)(j:k<2^45)(N:Nat)(p:N<=20):
  PC prog 17 [.ptr a 0,.I N] (gT S a l k) (λr J'=>∃(out:List En) (k' g:Nat),r=.own S.length g/\(∀o∈out,pL out.length o)/\out.length<=N/\k'<=k+1000*N+1/\J'=gT S a l k'++[qq g false out]):=by
 refine aZ func17 p17.2 λd h=>au ?_;have b:IntKind.i64.wrap ((N:Int)+1)=((N+1:Nat):Int):=cm (by omega);simp only[p17,SS,seval];simp only[bf,b,VV,seval];refine cD (qD S a c l k (by omega) ((N+1:Nat):Int) (by omega) (by omega)) rfl ?_;rintro _ _ ⟨v,rfl,n,rfl⟩;obtain⟨m,rfl⟩:∃m:Nat,v=m:=⟨v.toNat,by omega⟩;simp only[bf,b,VV,seval]
 refine bZ.wk (((Wk.fg (ys:=(.ptr a 0::uu 4 (.nil::.I m::uu 52 []))) (by repeat' constructor)).trans (Wk.ij (P:=prog) (J:=gT S a l (k+1)) (k:=5) Iq rfl)).trans (Wk.fg (ys:=(.ptr a 0::uu 4 (.own S.length 0::.I m::uu 52 []))) ?_))
  (bZ.uh (m+1) (Oj S a c l (k+1) (by omega) (fB d) m (by omega) m (k+1) [] 0 (aD _) (by simp) (by simp) (by omega) ?_))
 .simp only[bf,ai,al,VV,seval]
  repeat' constructor
 intro k' out g e f i;simp only[JE];intros;simp only[bf,VV,seval];exact fH (xs:=[.own S.length g]) (.inr rfl) rfl (Wk.refl _ _) rfl ⟨out,k',g,rfl,e,by omega,by omega,rfl⟩
def TC{n:Nat}{J:ak}{K:bl}(a b:bH)(j:a.length<2^63)(o:a.length=b.length):∀(f d c i:bH),a=c++f->b=i++d->c.length=i.length ->
  (f=d->((fj 26 fo) λp=>K (.exit 0) ⟨p,J⟩))->(f≠d->((fj 4 (fh (.b false) (fj 21 fo))) λp=>K .ret ⟨p,J⟩)) ->
  fm n prog DX K (f.length+1) ⟨(.sl 1 (a.map bV)::.sl 1 (b.map bV)::uu 10 (.I a.length::.I c.length::uu 12 [])),J⟩:=by
 intro f
 induction f with
 |nil =>
  intro d c i g k l q m
  have:d=[]:=by
   subst g;subst k;simp at o;exact aW (by omega)
  subst this;have g:=cN g
  subst g;refine ar λR s=>?_;simp only[DX,VV,seval];exact⟨λh=>by simp at h,λ_=>q rfl ..⟩
 |cons x f ih =>
  intro d c i g k l q m;cases d with
  |nil=>subst g;subst k;simp at o;omega
  |cons y d =>
   subst g;subst k;have v:gj (List.map bV (i++y::d)) c.length 0=some (.I y):=by rw[l,qR];rfl
   have t:=dh c x (by simp at j;omega)
   refine ar λR s=>?_;have w:gj (List.map bV (c++x::f)) c.length 0=some (.I x):=by rw[qR];rfl
   simp only[DX,ao,w,v,VV,seval];have u:(0:Int)<=c.length/\(c.length:Int)<(List.map bV (c++x::f)).length:=by simp;omega
   have r:(0:Int)<=c.length/\(c.length:Int)<(List.map bV (i++y::d)).length:=by simp at o |-;omega
   refine⟨λ_=>⟨u,r,λh=>?_,λh=>?_⟩,λh=>by simp at h<;>omega⟩
   .have h:¬x=y:=by simpa using h
    exact m (by simp[h]) ..
   .have h:x=y:=by simpa using h
    subst h;refine s _ (aK ?_ (ih d (c++[x]) (i++[x]) (by simp) (by simp) (by simp[l]) (λe=>q (by rw[e])) (λe=>m (by simpa using e))));rw[t];repeat' constructor
def pX(a b:bH)(J:ak):bM prog 89 [.sl 1 (a.map bV),.sl 1 (b.map bV)] J (.b (a==b)):=by
 refine aZ func89 p89.2 λg d=>au ?_;have c:=mG (d 0 _ rfl).1;rw[ag]at c;simp only[p89,SS,seval];simp only[ag,VV,seval];refine⟨λh=>?_,λh=>?_⟩
 .refine aO (.inr rfl) rfl ⟨?_,rfl⟩;have:a≠b:=λe=>by subst e;simp at h
  simp[Pm.one,this]
 .have f:a.length=b.length:=by simp at h;omega
  refine bZ.aK ?_ (a.length+1) (TC a b c f a b [] [] rfl rfl rfl (λh=>?_) (λh=>?_))
  .repeat' constructor
  .simp only[JE];intros;simp only[VV,seval];exact aO (.inr rfl) rfl ⟨by simp[Pm.one,h],rfl⟩
  .simp only[JE];intros;exact aO (.inr rfl) rfl ⟨by simp[Pm.one,h],rfl⟩
set_option maxRecDepth 100000
def ZN:=(⟨_,by cbv⟩:Nf (dY prog f147))
def zt:bK:=(⟨_,by cbv⟩:Nf (dV ZN.1 0 [])).1
def Z2:bj prog f147:=⟨(λa=>(⟨_,by cbv⟩:Nf (eL ZN.1 [a])).1) zt,by kernel_rfl⟩
end Go.Proofs.Tryz
