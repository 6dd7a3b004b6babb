/- A part of a proof; the claim's last text says of what. -/
import Derived.Lib.Bytealg
import Derived.Test.YtlakkaamfadipaaGreatDoorM15
set_option linter.all false
open Option renaming some->N,none->Y
open Bool renaming true->A,false->Z
open List renaming length->F

namespace Go.Bt
open Go Go.Pm
variable(l:bG)(s:aJ)(c:UInt8)(b:bG)(n:Nat)(U:df)(a:Int)(X:UInt8)(p:aJ){i:Nat}{R d:UInt8}{T Q:bG}
structure It where
 ao0:Int
 ao3:aJ
 id:Int
variable{x:It}
def It.aoZ(x:It):ao:=[.i .i64 x.ao0,.s x.ao3,.i .i64 x.id]
def width(x:It):Int:=if x.ao0=1 then F x.ao3 else 1
def eW(l:List It):Int:=l.foldl (λa x=>IntKind.i64.wrap (a+width x)) a
structure NM where
 time:Int
 lR:Int
 number:Int
def NM.aoZ(x:NM):ao:=[.i .i64 x.time,.i .i64 x.lR,.i .i64 x.number]
def UL(s:NM):Bool:=decide (1<=s.time/\s.time<=2^30/\0<=s.lR/\s.lR<8/\1<=s.number/\s.number<=128)
def iz:Bool:=(97<=c.toNat&&c.toNat<=122)||(48<=c.toNat&&c.toNat<=57)||c.toNat==45
def apb:Bool:=match s with|[]=>Z|c::r=>decide (F s<=24)&&decide (97<=c.toNat/\c.toNat<=122)&&r.all iz
def vAt:Int:=if a<0\/(F l:Int)<=a\/8<=a then 0 else if l.getD a.toNat 0<0 then 0 else l.getD a.toNat 0
def oq(b:Int):Int:=if a<b then -1 else if b<a then 1 else 0
def Aq:bG->Int|[]=>0|x::r=>if x≠0 then x else Aq r
def Sg:bG:=(List.range n).map λ(i:Nat)=>let x:=vAt l i;let y:=vAt b i;if x<y then y else x
def IS(a b:bG):Nat->Nat|0=>0|n+1=>if(let x:=vAt a n;let y:=vAt b n;if x<y then y else x)≠0 then n+1 else IS a b n
def abo:bG:=(Sg l b 8).take (IS l b 8)
def cutAt:aJ×aJ×Bool :=if 0<=Lib.indexByte s c then(s.take (Lib.indexByte s c).toNat,s.drop ((Lib.indexByte s c).toNat+1),A)else(s,[],Z)
def kY:Lib.indexByte s c<F s:=by
 induction s with
 |nil=>simp[Lib.indexByte]
 |cons b s ih =>
 simp only[Lib.indexByte,ah];split;.omega
 split<;>omega
def apj:Bool:=decide (F p<=F s)&&s.take (F p)==p
def hasSuffix:Bool:=decide (F p<=F s)&&s.drop (F s - F p)==p
def dj:aJ:=(cutAt s 32).1
def du:Int :=if c.toNat=9\/c.toNat=10\/c.toNat=13\/c.toNat=32 then 2 else if c.toNat<32\/c.toNat=127 then 1 else if 48<=c.toNat/\c.toNat<=57 then 3
 else if 97<=c.toNat/\c.toNat<=122\/65<=c.toNat/\c.toNat<=90\/128<=c.toNat then 4 else 5
def iU:Bool:=decide (c.toNat<32)||decide (126<c.toNat)||decide (0<=Lib.indexByte [60,62,123,125] c)
def jR:Bool:=decide (F s<=64)&&decide (F s≠0)&&decide ((s.getD (F s - 1) 0).toNat≠47)
def jQ:Bool:=apb (cutAt s 32).1&&(!(cutAt s 32).2.2||decide (0<F (cutAt s 32).2.1))
def dx:Bool:=jR s&&s.all (λb=>!iU b)&&jQ s
def bW(x:It):Bool:=x.ao0==2||x.ao0==3||x.ao0==4
def eY(x y:It):Bool:=!(!bW y||y.id != x.id)&&(x.ao0 != 3||y.ao0 != 2||!(dj y.ao3==x.ao3))
def fits(before:List It)(x:It):Bool:=before.all λy=>!eY x y
def bQ(p:Option It)(x:It):Bool :=
 if x.ao0=1 then !(x.ao3==[])&&x.id==0&&(match p with|none=>A|some y=>y.ao0 != 1)
 else if x.ao0=5 then apb x.ao3&&x.id==0
 else if x.ao0=2\/x.ao0=4 then dx x.ao3&&decide (1<=x.id)&&decide (x.id<=999)
 else if x.ao0=3 then apb x.ao3&&decide (1<=x.id)&&decide (x.id<=999)
 else Z
def bA:List It->List It->Int|_,[]=>0|pre,x::rest=>if bQ pre.getLast? x=Z then 1 else if(bW x&&!fits pre x)=A then 7 else bA (pre++[x]) rest
def bV(f:List It):Int:=if 512<F f\/1024<eW 0 f then 3 else bA [] f
def cQ:bG->List It->bG|acc,[]=>acc|acc,x::r=>if(bW x&&!acc.contains x.id)=A then cQ (acc++[x.id]) r else cQ acc r
def aph(f:List It):bG:=cQ [] f
def ie:List (V×V):=l.map λn=>(.i .i64 n,.b A)
def yJ(l:bG):fY n ((ie l).map (·.2)):=o8 λx a=>by obtain⟨k,_,rfl⟩:=br.1 a;exact .b _
def ue(n:Int):∀(l:bG) (k:Nat),eL 0 (.i .i64 n) (ie l) k=if n∈l then N (N (k+l.idxOf n,.b A))else N Y
 |[],k=>by simp[ie,eL]
 |m::l,k=>by
  have ih:=ue n l (k+1);by_cases h:n=m
  .subst h;have e:eL 0 (.i .i64 n) (ie (n::l)) k=N (N (k,.b A)):=by simp only[ie,aC,eL,cA,aU,Ua]
   rw[e];simp
  have f:(n==m)=Z:=by simpa using h
  have c:(m==n)=Z:=by simpa using λe=>h e.symm
  have e:eL 0 (.i .i64 n) (ie (m::l)) k=eL 0 (.i .i64 n) (ie l) (k+1):=by simp only[ie,aC,eL,cA,aU,f]
  rw[e,ih];by_cases a:n∈l
  .have d:(m::l).idxOf n=l.idxOf n+1:=by rw[C6,c];rfl
   rw[aK a,aK (dw _ a),d];congr 3;omega
  rw[au a,au (by simp[h,a])]
def cK:bG:=(List.range n).map λ(i:Nat)=>(i:Int)+1
def gY(i:Nat):cD:=(cK i).map cg++List.replicate (n - i) [V.i .i64 0]
def uT{a:Nat}(h:a<=i):F (gY i a)=i:=by simp[gY,cK];omega
def DP{a:Nat}(h:a<i):(gY i a).set a [V.i .i64 ((a:Int)+1)]=gY i (a+1):=by
 have e:i - a=(i - (a+1))+1:=by omega
 have b:F ((cK a).map cg)=a:=by simp[cK]
 simp only[gY];rw[b8 _ _ (by omega),b,fA,e,uk,lT];simp[cK,C5,cg]
def DQ{a:Nat}(h:a<i):(gY i a).getD a []=[V.i .i64 0]:=by
 have b:F ((cK a).map cg)=a:=by simp[cK]
 have e:i - a=(i - (a+1))+1:=by omega
 simp only[gY,aq];rw[aD (by omega),b,fA,e,uk];rfl
def DA(a b:It):Bool:=a.ao0==b.ao0&&(a.ao3==b.ao3&&a.id==b.id)
def Si{b:It}:DA x b=A<->x=b:=by obtain⟨k,t,i⟩:=x;obtain⟨d,a,c⟩:=b;simp[DA]
def gQ:List It->List It->Bool|[],[]=>A|a::x,b::y=>DA a b&&gQ x y|_,_=>Z
def tZ:∀{a b:List It},gQ a b=A<->a=b|[],[]=>by simp[gQ]|a::x,b::y=>by simp[gQ,Si,tZ (a:=x) (b:=y)]|[],b::y=>by simp[gQ]|a::x,[]=>by simp[gQ]
def EF:∀{a b:List It},gQ a b=A->F a=F b:=λh=>by rw[tZ.1 h]
def ao8:List It->aJ×List It|[]=>([],[])|x::r=>if x.ao0=1 then(x.ao3++(ao8 r).1,(ao8 r).2)else([],x::r)
def yX:∀(l:List It),F (ao8 l).2<=F l
 |[]=>ax _
 |x::r=>by
  have:=yX r;simp only[ao8];split;.simp only[ah];omega
  exact ax _
def jn:Nat->List It->List It
 |0,_=>[]
 |_+1,[]=>[]
 |n+1,x::r=>if x.ao0≠1 then x::jn n r else
   if(ao8 (x::r)).1.length=0 then jn n (ao8 (x::r)).2 else⟨1,(ao8 (x::r)).1,0⟩::jn n (ao8 (x::r)).2
def ao6(f:List It):List It:=jn (F f) f
def aR:List It->Nat|[]=>0|x::r=>F x.ao3+aR r
def uE:∀(l:List It),∃a,l=a++(ao8 l).2
 |[]=>⟨[],rfl⟩
 |x::r=>by
  obtain⟨a,h⟩:=uE r;by_cases b:x.ao0=1;.refine⟨x::a,?_⟩;simp only[ao8,b,aU,bo];rw[<- h]
  exact⟨[],by simp[ao8,b]⟩
def pT{x:It}{r:List It}(h:x.ao0=1):F (ao8 (x::r)).2<=F r:=by simp only[ao8,h,aU];exact yX r
def vX:∀(l:List It),F (ao8 l).1+aR (ao8 l).2=aR l
 |[]=>rfl
 |x::r=>by
  have:=vX r;by_cases a:x.ao0=1;.simp only[ao8,a,aU,ai,aR];omega
  simp[ao8,a,aR]
def CW:bG->bG->Int->uA|a::fr,b::to,x=>if x=a then N b else CW fr to x|_,_,_=>Y
def Ou(x:It):Option It:=if bW x then(CW l b x.id).map λn=>⟨x.ao0,x.ao3,n⟩else N x
def api(f:List It)(b a:bG):List It:=f.filterMap (Ou b a)
def rename(f:List It)(b a:bG):List It:=ao6 (api f b a)
def fx:bG:=b.foldl (λl n=>if l.contains n then l else l++[n]) l
def bU(s t:List It):bG:=fx (aph s) (aph t)
def ft(s t:List It):List It:=rename s (bU s t) (cK (F (bU s t)))
def fI(s t:List It):List It:=rename t (bU s t) (cK (F (bU s t)))
def nW:List (V×V):=emap keI keI U
def zH:fY n ((nW U).map (·.2)):=o8 λx a=>by obtain⟨k,_,rfl⟩:=br.1 a;exact .i _ _
def zj: (bZ a U=Y/\eL 0 (.i .i64 a) (nW U) 0=N Y/\∀b,nW U++[(V.i .i64 a,V.i .i64 b)]=nW (fZ U a b)) \/(∃i c,bZ a U=N c/\eL 0 (.i .i64 a) (nW U) 0=N (N (i,.i .i64 c))/\∀b,(nW U).set i (V.i .i64 a,V.i .i64 b)=nW (fZ U a b)):=ka K9 U a
def HD(h1:i<F T)(a:i<F Q)(x:Int):CW (T.drop i) (Q.drop i) x=if x=T.getD i 0 then N (Q.getD i 0)else CW (T.drop (i+1)) (Q.drop (i+1)) x:=by rw[cX h1,cX a];simp only[CW];simp[aq,h1,a]
def Mg(h:min (F T) (F Q)<=i)(x:Int):CW (T.drop i) (Q.drop i) x=Y:=by
 by_cases a:F T<=i;.rw[CU a];simp[CW]
 have b:F Q<=i:=by omega
 rw[CU b];cases T.drop i<;>simp[CW]
def y6(f:List It)(b a:bG):F (api f b a)<=F f:=gC _ _
def vZ(f:List It)(c b:bG):aR (api f c b)<=aR f:=by
 induction f with
 |nil=>exact ax _
 |cons x f ih =>
 simp only[api,ix]at ih |-;split;.simp only[aR];omega
 rename_i y a;have:y.ao3=x.ao3:=by
  simp only[Ou]at a;split at a;.rw[al]at a;obtain⟨n,_,rfl⟩:=a;rfl
  simp at a;rw[a]
 simp only[aR,this];omega
def se:∀(a:bG),F (fx a l)<=F a+F l:=by
 induction l with
 |nil=>intro a;simp[fx]
 |cons n l ih =>
 intro a;simp only[fx,dK]at ih |-;have:=ih (if a.contains n then a else a++[n]);split at this;.simp only[ah];rw[aK (by assumption)];omega
 simp only[ah];rw[au (by assumption)];simp at this |-;omega
def zR(f:List It):∀(a:bG),F (cQ a f)<=F a+F f:=by
 induction f with
 |nil=>intro a;simp[cQ]
 |cons x f ih =>
 intro a;simp only[cQ];split;.have:=ih (a++[x.id]);simp at this |-;omega
 have:=ih a;simp;omega
def nF(f:List It):F (aph f)<=F f:=by have:=zR f [];simpa[aph]using this
def ib{p:UInt8->Prop}(h:∀n:Fin 256,p (UInt8.ofNat n.val))(c:UInt8):p c:=by have:=h ⟨c.toNat,c.toNat_lt⟩;simpa using this
def rB:Bool:=c != 92&&c != 60&&c != 123&&c != 9&&c != 10&&c != 13&&du c != 1
def iT:UInt8:=if n<10 then UInt8.ofNat (48+n)else UInt8.ofNat (87+n)
def fa:aJ :=if rB c then[c]else if c=10 then[92,110]else if c=9 then[92,116]else if c=92\/c=60\/c=123 then[92,c]else[92,120,iT (c.toNat / 16),iT (c.toNat % 16)]
def iB:UInt8×Bool :=if 48<=c.toNat/\c.toNat<=57 then(UInt8.ofNat (c.toNat - 48),A)else if 97<=c.toNat/\c.toNat<=102 then(UInt8.ofNat (c.toNat - 87),A)else(0,Z)
def wP:(iB c).1.toNat<16:=by revert c;exact ib (by decide +kernel)
def jq:UInt8:=UInt8.ofNat (16*(iB c).1.toNat+(iB X).1.toNat)
def dn:UInt8×Int×Bool :=if F s<2 then(0,0,Z)else
 let c:=s.getD 1 0
 if c=92\/c=60\/c=123 then(c,2,A)else if c=110 then(10,2,A)else if c=116 then(9,2,A)else if c=120 then
  if F s<4 then(0,0,Z)else
  let b:=jq (s.getD 2 0) (s.getD 3 0)
  (b,4,(iB (s.getD 2 0)).2&&(iB (s.getD 3 0)).2&&(b==13||du b==1))
 else(0,0,Z)
def dZ:Bool:=48<=c.toNat&&c.toNat<=57
def dX(s:aJ):Int:=s.foldl (λa c=>10*a+(c.toNat - 48:Int)) a
def apd:Int×Bool :=if F s<1\/3<F s\/s.getD 0 0=48 then(0,Z)else if s.all dZ then(dX 0 s,A)else(0,Z)
def Cr:∀(n:Int) (k:Nat),F s=k->s.all dZ=A->0<=n->0<=dX n s/\dX n s<10^k*(n+1):=by
 induction s with
 |nil=>intro n k a _ f;simp at a;subst a;simp[dX];omega
 |cons c s ih =>
 intro n k a b f;simp only[jJ,aP]at b;have e:=b.1;simp only[dZ,aP,a7]at e;obtain⟨k,rfl⟩:∃j,k=j+1:=⟨F s,by simpa using a.symm⟩;have h:=ih (10*n+(c.toNat - 48:Int)) k (by simpa using a) b.2 (by omega);simp only[dX,dK]at h |-;refine⟨h.1,Int.lt_of_lt_of_le h.2 ?_⟩;have d:(10*n+(c.toNat - 48:Int))+1<=10*(n+1):=by omega
 have g:=lO d (show(0:Int)<=10^k from Int.pow_nonneg (by omega));have i:(10:Int)^(k+1)*(n+1)=10^k*(10*(n+1)):=by rw[Int.pow_succ];simp only[Int.mul_assoc]
 omega
def ja:It×Bool :=
 let close:=apj s [47];let s:=if close then s.drop 1 else s
 let p:=cutAt s 58;let empty:=!close&&hasSuffix p.2.1 [47];let a:Int:=if close then 3 else if empty then 4 else 2
 let content:=if empty then p.2.1.take (F p.2.1 - 1)else p.2.1
 if p.2.2&&(apd p.1).2 then(⟨a,content,(apd p.1).1⟩,if a=3 then apb content else dx content)else(⟨0,[],0⟩,Z)
def mG:It:=⟨0,[],0⟩
def bz:It×Int×Bool :=
 let c:=s.getD 0 0
 if c=92 then(⟨1,[(dn s).1],0⟩,(dn s).2.1,(dn s).2.2)
 else if c=60 then
  let e:=Lib.indexByte s 62
  if e<0 then(mG,0,Z)else
  let t:=(s.take e.toNat).drop 1
  ((ja t).1,e+1,(ja t).2)
 else if c=123 then
  let e:=Lib.indexByte s 125
  if e<0\/apb ((s.take e.toNat).drop 1)=Z then(mG,0,Z)else(⟨5,(s.take e.toNat).drop 1,0⟩,e+1,A)
 else(⟨1,s.take 1,0⟩,1,rB c)
def Wp(h:48<=c.toNat/\c.toNat<=57):iB c=(UInt8.ofNat (c.toNat - 48),A)/\IntKind.u8.wrap ((c.toNat:Int) - 48)=((iB c).1.toNat:Int):=by
 have a:iB c=(UInt8.ofNat (c.toNat - 48),A):=by simp only[iB,h,lu,aU]
 refine⟨a,?_⟩;rw[a];revert h a;revert c;exact ib (by decide +kernel)
def Wo(h:97<=c.toNat/\c.toNat<=102):iB c=(UInt8.ofNat (c.toNat - 87),A)/\IntKind.u8.wrap (IntKind.u8.wrap ((c.toNat:Int) - 97)+10)=((iB c).1.toNat:Int):=by
 have b:¬(48<=c.toNat/\c.toNat<=57):=by omega
 have a:iB c=(UInt8.ofNat (c.toNat - 87),A):=by simp only[iB,b,h,lu,aU,aQ]
 refine⟨a,?_⟩;rw[a];revert h b a;revert c;exact ib (by decide +kernel)
def ZN(h0:¬(48<=c.toNat/\c.toNat<=57))(h:¬(97<=c.toNat/\c.toNat<=102)):iB c=(0,Z):=by simp only[iB,h0,h,aQ]
def Lv: IntKind.u8.wrap (((BitVec.ofInt IntKind.u8.bits (IntKind.u8.wrap (((iB c).1.toNat:Int)*2^(min 4 IntKind.u8.bits))) ||| BitVec.ofInt IntKind.u8.bits ((iB X).1.toNat:Int)).toNat:Nat):Int)=((jq c X).toNat:Int):=by
 have a:∀m n:Fin 16,IntKind.u8.wrap (((BitVec.ofInt IntKind.u8.bits (IntKind.u8.wrap ((m.val:Int)*2^(min 4 IntKind.u8.bits))) ||| BitVec.ofInt IntKind.u8.bits (n.val:Int)).toNat:Nat):Int)=((UInt8.ofNat (16*m.val+n.val)).toNat:Int):=by decide +kernel
 exact a ⟨_,wP c⟩ ⟨_,wP X⟩
def QU(h:dZ c=A):IntKind.u8.wrap ((c.toNat:Int) - 48)=(c.toNat:Int) - 48:=by revert h;revert c;exact ib (by decide +kernel)
def xG:((c.toNat:Int)==(X.toNat:Int))=(c==X):=by
 rw[dL];simp only[b9];constructor;.intro h;exact C4.1 (by omega)
 intro h;rw[h]
def Yv:((c.toNat:Int) != (X.toNat:Int))=(c != X):=by simp only[bne,xG]
def qj{k:Int}(h:¬R=d)(a:(d.toNat:Int)=k):((R.toNat:Int)==k)=Z:=by subst a;rw[xG];simpa using h
def NV{k:Int}(h:R=d)(a:(d.toNat:Int)=k):((R.toNat:Int)==k)=A:=by subst a;rw[xG];simpa using h
def nA(h:s.getD 0 0≠c)(d:¬Lib.indexByte s c<0):1<=Lib.indexByte s c:=by
 cases s with
 |nil=>simp[Lib.indexByte]at d
 |cons b s =>
 have f:¬b=c:=h;have f:(b==c)=Z:=by simpa using f
 have g:∀s:aJ,-1<=Lib.indexByte s c:=by
  intro s;induction s with
  |nil=>simp[Lib.indexByte]
  |cons a s ih =>
  simp only[Lib.indexByte];split;.omega
  split<;>omega
 have j:=g s;simp only[Lib.indexByte,f,aI,aQ]at d |-;by_cases e:(Lib.indexByte s c == -1)=A;.rw[aK e]at d;omega
 rw[au e]at d |-;have i:Lib.indexByte s c ≠ -1:=by simpa using e
 omega
structure Rd where
 f:List It
 ao3:aJ
 len:Nat
 tags:List (Int×It)
def gh(s:Rd):Rd:=if 0<F s.ao3 then⟨s.f++[⟨1,s.ao3,0⟩],[],s.len,s.tags⟩else s
def Zl(x:It):V:=.agg x.aoZ
def qF(l:List (Int×It)):List (V×V):=emap keI Zl l
def tJ(l:List (Int×It)):fY n ((qF l).map (·.2)):=o8 λx a=>by obtain⟨k,_,rfl⟩:=br.1 a;exact RL.2 (by simp[It.aoZ,fY,Ve,YS])
def zi(l:List (Int×It))(a:Int): (bZ a l=Y/\eL 0 (.i .i64 a) (qF l) 0=N Y/\∀b,qF l++[(V.i .i64 a,Zl b)]=qF (fZ l a b)) \/(∃i c,bZ a l=N c/\eL 0 (.i .i64 a) (qF l) 0=N (N (i,Zl c))/\∀b,(qF l).set i (V.i .i64 a,Zl b)=qF (fZ l a b)):=ka K9 l a
def tagged(x:It):Bool:=x.ao0 != 1&&x.ao0 != 5
def xj(s:Rd)(x:It):Bool:=match bZ x.id s.tags with
 |some b=>x.ao0 != 3||b.ao0 != 2||dj b.ao3 != x.ao3
 |none=>Z
def lH(s:Rd)(x:It):Nat:=F s.f+(if 0<F s.ao3 then 1 else 0)+(if x.ao0≠1\/F s.ao3=0 then 1 else 0)
def nV(s:Rd)(x:It):Rd:=⟨s.f,s.ao3,s.len+1,if tagged x then fZ s.tags x.id x else s.tags⟩
def v8(s:Rd)(x:It):Rd:=⟨s.f++[x],s.ao3,s.len,s.tags⟩
def kn(s:Rd)(x:It):Int×Rd :=if tagged x&&xj s x then(7,s)else if 512<lH s x\/1024<s.len+1 then(3,s)else
 if x.ao0=1 then(0,⟨s.f,s.ao3++x.ao3,s.len+1,s.tags⟩)else(0,v8 (gh (nV s x)) x)
def Be:Rd:=⟨[],[],0,[]⟩
def mZ:Nat->Rd->aJ->Int->List It×Int×Int
 |0,_,_,at'=>([],at',2)
 |_+1,s,[],_=>((gh s).f,0,0)
 |n+1,s,c::l,at' =>
  let e:=bz (c::l)
  if e.2.2=Z then([],at',2)else
  let r:=kn s e.1
  if r.1≠0 then([],at',r.1)else mZ n r.2 ((c::l).drop e.2.1.toNat) (at'+e.2.1)
def parse:List It×Int×Int:=mZ (F s+1) Be s 0
structure Rd.ok (r:Rd):Prop where
 f:r.f.length+(if 0<r.ao3.length then 1 else 0)<=r.len
 ao3:r.ao3.length<=r.len
 len:r.len<=1024
def Ow(r:Rd):F (gh r).f=F r.f+(if 0<F r.ao3 then 1 else 0):=by simp only[gh];split<;>rename_i h<;>simp[h]
def wc(r:Rd):F (gh r).ao3=0:=by
 simp only[gh];split<;>rename_i h;.rfl
 simpa using h
def y7(r:Rd):(gh r).len=r.len:=by simp only[gh];split<;>rfl
def Rm{r:Rd}(h:r.ok)(e:x.ao0=1->F x.ao3<=1)(h0:(kn r x).1=0):(kn r x).2.ok:=by
 obtain⟨d,f,g⟩:=h;simp only[kn]at h0 |-;split;.rename_i a;rw[aK a]at h0;simp at h0
 rename_i a;rw[au a]at h0;split;.rename_i b;rw[aK b]at h0;simp at h0
 rename_i b;split
 .rename_i c;have:=e c;refine⟨?_,?_,?_⟩;.simp only[ai];split at d<;>split<;>omega
  .simp only[ai];omega
  simp only;omega
 refine⟨?_,?_,?_⟩;.simp only[v8,ai,ah,az,Ow,wc,y7,nV];simp only[Nat.lt_irrefl,aQ];omega
 .simp only[v8,wc];omega
 simp only[v8,y7,nV];omega
def uh:F (cutAt s c).1<=F s/\F (cutAt s c).2.1<=F s:=by
 simp only[cutAt];split;.simp;omega
 simp
def Kk:F (ja s).1.ao3<=F s/\(ja s).1.ao0≠1:=by
 have a:=(uh s 58).2;have b:=(uh (s.drop 1) 58).2;have c:F (s.drop 1)<=F s:=by simp
 unfold ja;dsimp only;cases apj s [47]with
 |true =>
  simp only[aU,fL,eA,aI,aQ];split;.exact⟨bX b c,by simp⟩
  exact⟨by simp,by simp⟩
 |false =>
 simp only[aI,aQ,iq,cY];cases hasSuffix (cutAt s 58).2.1 [47]with
 |true =>
  simp only[aU];split;.exact⟨by rw[bB];omega,by simp⟩
  exact⟨by simp,by simp⟩
 |false =>
 simp only[aI,aQ];split;.exact⟨a,by simp⟩
 exact⟨by simp,by simp⟩
def rO{s:aJ}(f:s≠[]):F (bz s).1.ao3<=F s/\((bz s).1.ao0=1->F (bz s).1.ao3<=1) /\((bz s).2.2=A->1<=(bz s).2.1/\(bz s).2.1<=F s):=by
 have g:0<F s:=dJ.2 f;simp only[bz];by_cases a:s.getD 0 0=92
 .rw[aK a];refine⟨by simp;omega,λ_=>by simp,?_⟩;simp only[dn];split;.intro h;simp at h
  split;.intro _;simp;omega
  split;.intro _;simp;omega
  split;.intro _;simp;omega
  split
  .split;.intro h;simp at h
   intro _;simp;omega
  intro h;simp at h
 rw[au a];by_cases b:s.getD 0 0=60
 .rw[aK b];have e:=kY s 62;split;.exact⟨by simp[mG],by simp[mG],by simp⟩
  rename_i h;have c:=Kk ((s.take (Lib.indexByte s 62).toNat).drop 1);refine⟨bX c.1 (by simp;omega),λh=>absurd h c.2,λ_=>?_⟩;simp only;omega
 rw[au b];by_cases mH:s.getD 0 0=123
 .rw[aK mH];have e:=kY s 125;split;.exact⟨by simp[mG],by simp[mG],by simp⟩
  rename_i h;have:¬Lib.indexByte s 125<0:=λd=>h (.inl d);refine⟨by simp;omega,λh=>by simp at h,λ_=>?_⟩;simp only;omega
 rw[au mH];refine⟨by simp;omega,λ_=>by simp;omega,λ_=>?_⟩;simp only;omega
def jX:bG:=if l.contains a then l else l++[a]
def Sk{n m:Int}(h:m∈T):m∈jX T n:=by
 simp only[jX];split;.exact h
 simp[h]
def Pt:a∈jX l a:=by
 simp only[jX];split;.rename_i h;simpa using h
 simp
def Ci:∀(b:bG) {a:bG} {m:Int},m∈a->m∈b.foldl jX a|[],_,_,h=>h|_::b,_,_,h=>Ci b (Sk h)
def uc:∀(b:bG) {acc:bG} {m:Int},m∈b->m∈b.foldl jX acc
 |n::b,acc,m,h=>by
  rcases bE.1 h with rfl|h;.exact Ci b (Pt _ _)
  exact uc b h
def P0(b acc:bG)(n:Int):(jX b n).foldl jX acc=jX (b.foldl jX acc) n:=by
 by_cases h:b.contains n=A
 .have e:jX b n=b:=by simp only[jX,h,aU]
  have c:n∈b:=by simpa using h
  have a:(b.foldl jX acc).contains n=A:=by simpa using uc b (acc:=acc) c
  rw[e];simp only[jX,a,aU]
 have e:jX b n=b++[n]:=by simp only[jX,h];rfl
 rw[e,List.foldl_append];rfl
def zx:∀(l b a:bG),(l.foldl jX b).foldl jX a=l.foldl jX (b.foldl jX a)|[],_,_=>rfl|n::l,b,a=>by simp only[dK];rw[zx l (jX b n) a,P0]
def jF:∀(f:List It) (a:bG),cQ a f=((f.filter bW).map (·.id)).foldl jX a
 |[],_=>rfl
 |x::f,a=>by
  simp only[cQ];cases b:bW x with
  |false =>simp only[eA,aI,aQ,dS,b];exact jF f a
  |true =>
  simp only[cY,dS,b,aU,aC,dK];by_cases h:a.contains x.id=A;.simp only[h,fL,aI,aQ,jX,aU];exact jF f a
  simp only[h,iq,aU,jX,aQ,aI];exact jF f _
def oO(s t:List It):aph (s++t)=bU s t:=by have e:∀l m:bG,fx l m=m.foldl jX l:=λ_ _=>rfl;simp only[bU,e,aph,jF,iW,cF,List.foldl_append];rw[zx];rfl
end Go.Bt
