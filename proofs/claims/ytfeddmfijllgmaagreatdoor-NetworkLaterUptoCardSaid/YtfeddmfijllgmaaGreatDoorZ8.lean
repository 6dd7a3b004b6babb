/- Part of a proof. -/
import Derived.Lib.Bytealg
import Derived.Test.YtfeddmfijllgmaaGreatDoorZ7
set_option linter.all false
open Option renaming some->S,none->Y
open Bool renaming true->G,false->Z
open List renaming length->X
namespace Go.Bt
open Go Go.Pm
variable(a:bH)(s:aL)(c:UInt8)(b:bH)(R:fF)(n:Int)(N:Nat)(U:UInt8)(p:aL){i:Nat}{Q d:UInt8}{l P:bH}
structure It where
 axW:Int
 ax1:aL
 id:Int
variable{x:It}
def It.axV(x:It):ar:=[.i .i64 x.axW,.s x.ax1,.i .i64 x.id]
def width(x:It):Int:=if x.axW=1 then X x.ax1 else 1
def gJ(l:List It):Int:=l.foldl (λn x=>IntKind.i64.wrap (n+width x)) n
structure cz where
 time:Int
 bR:Int
 ax0:Int
def cz.axV(x:cz):ar:=[.i .i64 x.time,.i .i64 x.bR,.i .i64 x.ax0]
def jO(s:cz):Bool:=decide (1<=s.time/\s.time<=2^30/\0<=s.bR/\s.bR<8/\1<=s.ax0/\s.ax0<=128)
def kS:Bool:=(97<=c.toNat&&c.toNat<=122)||(48<=c.toNat&&c.toNat<=57)||c.toNat==45
def ayc:Bool:=match s with|[]=>Z|c::r=>decide (X s<=24)&&decide (97<=c.toNat/\c.toNat<=122)&&r.all kS
def mB:Int:=if n<0\/(X a:Int)<=n\/8<=n then 0 else if a.getD n.toNat 0<0 then 0 else a.getD n.toNat 0
def gp(b:Int):Int:=if n<b then -1 else if b<n then 1 else 0
def sP:bH->Int|[]=>0|x::r=>if x≠0 then x else sP r
def jU(a b:cz):Int:=sP [gp a.time b.time,gp a.bR b.bR,gp a.ax0 b.ax0]
def Tg(s:cz):Bool:=decide (1<=s.ax0)&&decide (s.ax0<=mB a s.bR)
def kT:bH:=(List.range N).map λ(i:Nat)=>let x:=mB a i;let y:=mB b i;if x<y then y else x
def ig(a b:bH):Nat->Nat|0=>0|n+1=>if(let x:=mB a n;let y:=mB b n;if x<y then y else x)≠0 then n+1 else ig a b n
def nr(a b:bH):∀n,ig a b n<=n|0=>aB _|n+1=>by have:=nr a b n;simp only[ig];(repeat' split)<;>omega
def rY:bH:=(kT a b 8).take (ig a b 8)
def zq:kT a b (N+1)=kT a b N++[if mB a N<mB b N then mB b N else mB a N]:=by simp[kT,rU]
def mO:X (kT a b N)=N:=by simp[kT]
def cutAt:aL×aL×Bool :=if 0<=Lib.indexByte s c then(s.take (Lib.indexByte s c).toNat,s.drop ((Lib.indexByte s c).toNat+1),G)else(s,[],Z)
def nH:Lib.indexByte s c<X s:=by
 induction s with
 |nil=>simp[Lib.indexByte]
 |cons b s ih =>
 simp only[Lib.indexByte,ah];split;.omega
 split<;>omega
def ayl:Bool:=decide (X p<=X s)&&s.take (X p)==p
def ayo:Bool:=decide (X p<=X s)&&s.drop (X s - X p)==p
def ff:aL:=(cutAt s 32).1
def nL:Int :=if c.toNat=9\/c.toNat=10\/c.toNat=13\/c.toNat=32 then 2 else if c.toNat<32\/c.toNat=127 then 1 else if 48<=c.toNat/\c.toNat<=57 then 3
 else if 97<=c.toNat/\c.toNat<=122\/65<=c.toNat/\c.toNat<=90\/128<=c.toNat then 4 else 5
def jB:Bool:=decide (c.toNat<32)||decide (126<c.toNat)||decide (0<=Lib.indexByte [60,62,123,125] c)
def lh:Bool:=decide (X s<=64)&&decide (X s≠0)&&decide ((s.getD (X s - 1) 0).toNat≠47)
def mE:Bool:=ayc (cutAt s 32).1&&(!(cutAt s 32).2.2||decide (0<X (cutAt s 32).2.1))
def eQ:Bool:=lh s&&s.all (λb=>!jB b)&&mE s
def eB(x:It):Bool:=x.axW==2||x.axW==3||x.axW==4
def gK(x y:It):Bool:=!(!eB y||y.id != x.id)&&(x.axW != 3||y.axW != 2||!(ff y.ax1==x.ax1))
def fits(before:List It)(x:It):Bool:=before.all λy=>!gK x y
def cv(p:Option It)(x:It):Bool :=
 if x.axW=1 then !(x.ax1==[])&&x.id==0&&(match p with|none=>G|some y=>y.axW != 1)
 else if x.axW=5 then ayc x.ax1&&x.id==0
 else if x.axW=2\/x.axW=4 then eQ x.ax1&&decide (1<=x.id)&&decide (x.id<=999)
 else if x.axW=3 then ayc x.ax1&&decide (1<=x.id)&&decide (x.id<=999)
 else Z
def cj:List It->List It->Int|_,[]=>0|pre,x::rest=>if cv pre.getLast? x=Z then 1 else if(eB x&&!fits pre x)=G then 7 else cj (pre++[x]) rest
def cU(f:List It):Int:=if 512<X f\/1024<gJ 0 f then 3 else cj [] f
def dW:bH->List It->bH|acc,[]=>acc|acc,x::r=>if(eB x&&!acc.contains x.id)=G then dW (acc++[x.id]) r else dW acc r
def ax9(f:List It):bH:=dW [] f
def nk:List (V×V):=a.map λn=>(.i .i64 n,.b G)
def yw(n:Int):∀(l:bH) (k:Nat),jA 0 (.i .i64 n) (nk l) k=if n∈l then S (S (k+l.idxOf n,.b G))else S Y
 |[],k=>by simp[nk,jA]
 |m::l,k=>by
  have ih:=yw n l (k+1);by_cases h:n=m
  .subst h;have e:jA 0 (.i .i64 n) (nk (n::l)) k=S (S (k,.b G)):=by simp only[nk,az,jA,ez,aR,aK]
   rw[e];simp
  have f:(n==m)=Z:=by simpa using h
  have c:(m==n)=Z:=by simpa using λe=>h e.symm
  have e:jA 0 (.i .i64 n) (nk (m::l)) k=jA 0 (.i .i64 n) (nk l) (k+1):=by simp only[nk,az,jA,ez,aR,f]
  rw[e,ih];by_cases a:n∈l
  .have d:(m::l).idxOf n=l.idxOf n+1:=by rw[Ia,c];rfl
   rw[aO a,aO (cd _ a),d];congr 3;omega
  rw[ao a,ao (by simp[h,a])]
def dK:bH:=(List.range N).map λ(i:Nat)=>(i:Int)+1
def kH(i:Nat):eJ:=(dK i).map cG++List.replicate (N - i) [V.i .i64 0]
def zA{a:Nat}(h:a<=i):X (kH i a)=i:=by simp[kH,dK];omega
def I8{a:Nat}(h:a<i):(kH i a).set a [V.i .i64 ((a:Int)+1)]=kH i (a+1):=by
 have e:i - a=(i - (a+1))+1:=by omega
 have b:X ((dK a).map cG)=a:=by simp[dK]
 simp only[kH];rw[ej _ _ (by omega),b,gO,e,Q5,cu];simp[dK,rU,cG]
def I9{a:Nat}(h:a<i):(kH i a).getD a []=[V.i .i64 0]:=by
 have b:X ((dK a).map cG)=a:=by simp[dK]
 have e:i - a=(i - (a+1))+1:=by omega
 simp only[kH,ax];rw[bB (by omega),b,gO,e,Q5];rfl
def IQ(a b:It):Bool:=a.axW==b.axW&&(a.ax1==b.ax1&&a.id==b.id)
def aa2{b:It}:IQ x b=G<->x=b:=by obtain⟨k,t,i⟩:=x;obtain⟨d,a,c⟩:=b;simp[IQ]
def iJ:List It->List It->Bool|[],[]=>G|a::x,b::y=>IQ a b&&iJ x y|_,_=>Z
def yq:∀{a b:List It},iJ a b=G<->a=b|[],[]=>by simp[iJ]|a::x,b::y=>by simp[iJ,aa2,yq (a:=x) (b:=y)]|[],b::y=>by simp[iJ]|a::x,[]=>by simp[iJ]
def J9:∀{a b:List It},iJ a b=G->X a=X b:=λh=>by rw[yq.1 h]
def ax8:List It->aL×List It|[]=>([],[])|x::r=>if x.axW=1 then(x.ax1++(ax8 r).1,(ax8 r).2)else([],x::r)
def CT:∀(l:List It),X (ax8 l).2<=X l
 |[]=>aB _
 |x::r=>by
  have:=CT r;simp only[ax8];split;.simp only[ah];omega
  exact aB _
def lO:Nat->List It->List It
 |0,_=>[]
 |_+1,[]=>[]
 |n+1,x::r=>if x.axW≠1 then x::lO n r else
   if(ax8 (x::r)).1.length=0 then lO n (ax8 (x::r)).2 else⟨1,(ax8 (x::r)).1,0⟩::lO n (ax8 (x::r)).2
def ayb(f:List It):List It:=lO (X f) f
def bA:List It->Nat|[]=>0|x::r=>X x.ax1+bA r
def yV:∀(l:List It),∃a,l=a++(ax8 l).2
 |[]=>⟨[],rfl⟩
 |x::r=>by
  obtain⟨a,h⟩:=yV r;by_cases b:x.axW=1;.refine⟨x::a,?_⟩;simp only[ax8,b,aR,aF];rw[<- h]
  exact⟨[],by simp[ax8,b]⟩
def tH{x:It}{r:List It}(h:x.axW=1):X (ax8 (x::r)).2<=X r:=by simp only[ax8,h,aR];exact CT r
def Av:∀(l:List It),X (ax8 l).1+bA (ax8 l).2=bA l
 |[]=>rfl
 |x::r=>by
  have:=Av r;by_cases a:x.axW=1;.simp only[ax8,a,aR,ae,bA];omega
  simp[ax8,a,bA]
def Ij:bH->bH->Int->Option Int|a::fr,b::to,x=>if x=a then S b else Ij fr to x|_,_,_=>Y
def TX(x:It):Option It:=if eB x then(Ij a b x.id).map λn=>⟨x.axW,x.ax1,n⟩else S x
def aym(f:List It)(b a:bH):List It:=f.filterMap (TX b a)
def rename(f:List It)(b a:bH):List It:=ayb (aym f b a)
def gP:bH:=b.foldl (λa n=>if a.contains n then a else a++[n]) a
def cK(s t:List It):bH:=gP (ax9 s) (ax9 t)
def iX(s t:List It):List It:=rename s (cK s t) (dK (X (cK s t)))
def jL(s t:List It):List It:=rename t (cK s t) (dK (X (cK s t)))
def sq:List (V×V):=emap keI keI R
def Dq: (jo n R=Y/\jA 0 (.i .i64 n) (sq R) 0=S Y/\∀b,sq R++[(V.i .i64 n,V.i .i64 b)]=sq (mN R n b)) \/(∃i a,jo n R=S a/\jA 0 (.i .i64 n) (sq R) 0=S (S (i,.i .i64 a))/\∀b,(sq R).set i (V.i .i64 n,V.i .i64 b)=sq (mN R n b)):=zZ aa1 R n
def Ot(h1:i<X l)(a:i<X P)(x:Int):Ij (l.drop i) (P.drop i) x=if x=l.getD i 0 then S (P.getD i 0)else Ij (l.drop (i+1)) (P.drop (i+1)) x:=by rw[fO h1,fO a];simp only[Ij];simp[ax,h1,a]
def TN(h:min (X l) (X P)<=i)(x:Int):Ij (l.drop i) (P.drop i) x=Y:=by
 by_cases a:X l<=i;.rw[oH a];simp[Ij]
 have b:X P<=i:=by omega
 rw[oH b];cases l.drop i<;>simp[Ij]
def CW(f:List It)(b a:bH):X (aym f b a)<=X f:=apU _ _
def AD(f:List It)(c b:bH):bA (aym f c b)<=bA f:=by
 induction f with
 |nil=>exact aB _
 |cons x f ih =>
 simp only[aym,mh]at ih |-;split;.simp only[bA];omega
 rename_i y a;have:y.ax1=x.ax1:=by
  simp only[TX]at a;split at a;.rw[aH]at a;obtain⟨n,_,rfl⟩:=a;rfl
  simp at a;rw[a]
 simp only[bA,this];omega
def vT:∀(l:bH),X (gP l a)<=X l+X a:=by
 induction a with
 |nil=>intro l;simp[gP]
 |cons n a ih =>
 intro l;simp only[gP,bT]at ih |-;have:=ih (if l.contains n then l else l++[n]);split at this;.simp only[ah];rw[aO (by assumption)];omega
 simp only[ah];rw[ao (by assumption)];simp at this |-;omega
def D6(f:List It):∀(a:bH),X (dW a f)<=X a+X f:=by
 induction f with
 |nil=>intro a;simp[dW]
 |cons x f ih =>
 intro a;simp only[dW];split;.have:=ih (a++[x.id]);simp at this |-;omega
 have:=ih a;simp;omega
def qF(f:List It):X (ax9 f)<=X f:=by have:=D6 f [];simpa[ax9]using this
def jW{p:UInt8->Prop}(h:∀n:Fin 256,p (UInt8.ofNat n.val))(c:UInt8):p c:=by have:=h ⟨c.toNat,c.toNat_lt⟩;simpa using this
def vh:Bool:=c != 92&&c != 60&&c != 123&&c != 9&&c != 10&&c != 13&&nL c != 1
def ly:UInt8:=if N<10 then UInt8.ofNat (48+N)else UInt8.ofNat (87+N)
def gq:aL :=if vh c then[c]else if c=10 then[92,110]else if c=9 then[92,116]else if c=92\/c=60\/c=123 then[92,c]else[92,120,ly (c.toNat / 16),ly (c.toNat % 16)]
def kU:UInt8×Bool :=if 48<=c.toNat/\c.toNat<=57 then(UInt8.ofNat (c.toNat - 48),G)else if 97<=c.toNat/\c.toNat<=102 then(UInt8.ofNat (c.toNat - 87),G)else(0,Z)
def Bl:(kU c).1.toNat<16:=by revert c;exact jW (by decide +kernel)
def lQ:UInt8:=UInt8.ofNat (16*(kU c).1.toNat+(kU U).1.toNat)
def fg:UInt8×Int×Bool :=if X s<2 then(0,0,Z)else
 let c:=s.getD 1 0
 if c=92\/c=60\/c=123 then(c,2,G)else if c=110 then(10,2,G)else if c=116 then(9,2,G)else if c=120 then
  if X s<4 then(0,0,Z)else
  let b:=lQ (s.getD 2 0) (s.getD 3 0)
  (b,4,(kU (s.getD 2 0)).2&&(kU (s.getD 3 0)).2&&(b==13||nL b==1))
 else(0,0,Z)
def fL:Bool:=48<=c.toNat&&c.toNat<=57
def fP(s:aL):Int:=s.foldl (λn c=>10*n+(c.toNat - 48:Int)) n
def ayh:Int×Bool :=if X s<1\/3<X s\/s.getD 0 0=48 then(0,Z)else if s.all fL then(fP 0 s,G)else(0,Z)
def HE:∀(n:Int) (k:Nat),X s=k->s.all fL=G->0<=n->0<=fP n s/\fP n s<10^k*(n+1):=by
 induction s with
 |nil=>intro n k a _ f;simp at a;subst a;simp[fP];omega
 |cons c s ih =>
 intro n k a b f;simp only[im,aV]at b;have e:=b.1;simp only[fL,aV,bz]at e;obtain⟨k,rfl⟩:∃j,k=j+1:=⟨X s,by simpa using a.symm⟩;have h:=ih (10*n+(c.toNat - 48:Int)) k (by simpa using a) b.2 (by omega);simp only[fP,bT]at h |-;refine⟨h.1,Int.lt_of_lt_of_le h.2 ?_⟩;have d:(10*n+(c.toNat - 48:Int))+1<=10*(n+1):=by omega
 have g:=Int.mul_le_mul_of_nonneg_left d (show(0:Int)<=10^k from akq (by omega));have i:(10:Int)^(k+1)*(n+1)=10^k*(10*(n+1)):=by rw[Int.pow_succ];simp only[Int.mul_assoc]
 omega
def kp:It×Bool :=
 let close:=ayl s [47];let s:=if close then s.drop 1 else s
 let p:=cutAt s 58;let empty:=!close&&ayo p.2.1 [47];let a:Int:=if close then 3 else if empty then 4 else 2
 let content:=if empty then p.2.1.take (X p.2.1 - 1)else p.2.1
 if p.2.2&&(ayh p.1).2 then(⟨a,content,(ayh p.1).1⟩,if a=3 then ayc content else eQ content)else(⟨0,[],0⟩,Z)
def pH:It:=⟨0,[],0⟩
def bO:It×Int×Bool :=
 let c:=s.getD 0 0
 if c=92 then(⟨1,[(fg s).1],0⟩,(fg s).2.1,(fg s).2.2)
 else if c=60 then
  let e:=Lib.indexByte s 62
  if e<0 then(pH,0,Z)else
  let t:=(s.take e.toNat).drop 1
  ((kp t).1,e+1,(kp t).2)
 else if c=123 then
  let e:=Lib.indexByte s 125
  if e<0\/ayc ((s.take e.toNat).drop 1)=Z then(pH,0,Z)else(⟨5,(s.take e.toNat).drop 1,0⟩,e+1,G)
 else(⟨1,s.take 1,0⟩,1,vh c)
def afK(h:48<=c.toNat/\c.toNat<=57):kU c=(UInt8.ofNat (c.toNat - 48),G)/\IntKind.u8.wrap ((c.toNat:Int) - 48)=((kU c).1.toNat:Int):=by
 have a:kU c=(UInt8.ofNat (c.toNat - 48),G):=by simp only[kU,h,cw,aR]
 refine⟨a,?_⟩;rw[a];revert h a;revert c;exact jW (by decide +kernel)
def afJ(h:97<=c.toNat/\c.toNat<=102):kU c=(UInt8.ofNat (c.toNat - 87),G)/\IntKind.u8.wrap (IntKind.u8.wrap ((c.toNat:Int) - 97)+10)=((kU c).1.toNat:Int):=by
 have b:¬(48<=c.toNat/\c.toNat<=57):=by omega
 have a:kU c=(UInt8.ofNat (c.toNat - 87),G):=by simp only[kU,b,h,cw,aR,bo]
 refine⟨a,?_⟩;rw[a];revert h b a;revert c;exact jW (by decide +kernel)
def ajl(h0:¬(48<=c.toNat/\c.toNat<=57))(h:¬(97<=c.toNat/\c.toNat<=102)):kU c=(0,Z):=by simp only[kU,h0,h,bo]
def SR: IntKind.u8.wrap (((BitVec.ofInt IntKind.u8.bits (IntKind.u8.wrap (((kU c).1.toNat:Int)*2^(min 4 IntKind.u8.bits))) ||| BitVec.ofInt IntKind.u8.bits ((kU U).1.toNat:Int)).toNat:Nat):Int)=((lQ c U).toNat:Int):=by
 have a:∀m n:Fin 16,IntKind.u8.wrap (((BitVec.ofInt IntKind.u8.bits (IntKind.u8.wrap ((m.val:Int)*2^(min 4 IntKind.u8.bits))) ||| BitVec.ofInt IntKind.u8.bits (n.val:Int)).toNat:Nat):Int)=((UInt8.ofNat (16*m.val+n.val)).toNat:Int):=by decide +kernel
 exact a ⟨_,Bl c⟩ ⟨_,Bl U⟩
def YV(h:fL c=G):IntKind.u8.wrap ((c.toNat:Int) - 48)=(c.toNat:Int) - 48:=by revert h;revert c;exact jW (by decide +kernel)
def BR:((c.toNat:Int)==(U.toNat:Int))=(c==U):=by
 rw[ei];simp only[dM];constructor;.intro h;exact oY.1 (by omega)
 intro h;rw[h]
def ahO:((c.toNat:Int) != (U.toNat:Int))=(c != U):=by simp only[bne,BR]
def ug{k:Int}(h:¬Q=d)(a:(d.toNat:Int)=k):((Q.toNat:Int)==k)=Z:=by subst a;rw[BR];simpa using h
def V3{k:Int}(h:Q=d)(a:(d.toNat:Int)=k):((Q.toNat:Int)==k)=G:=by subst a;rw[BR];simpa using h
def qm(h:s.getD 0 0≠c)(d:¬Lib.indexByte s c<0):1<=Lib.indexByte s c:=by
 cases s with
 |nil=>simp[Lib.indexByte]at d
 |cons b s =>
 have g:¬b=c:=h;have g:(b==c)=Z:=by simpa using g
 have e:∀s:aL,-1<=Lib.indexByte s c:=by
  intro s;induction s with
  |nil=>simp[Lib.indexByte]
  |cons a s ih =>
  simp only[Lib.indexByte];split;.omega
  split<;>omega
 have j:=e s;simp only[Lib.indexByte,g,aI,bo]at d |-;by_cases f:(Lib.indexByte s c == -1)=G;.rw[aO f]at d;omega
 rw[ao f]at d |-;have i:Lib.indexByte s c ≠ -1:=by simpa using f
 omega
structure Rd where
 f:List It
 ax1:aL
 len:Nat
 tags:List (Int×It)
def jl(s:Rd):Rd:=if 0<X s.ax1 then⟨s.f++[⟨1,s.ax1,0⟩],[],s.len,s.tags⟩else s
def itV(x:It):V:=.agg x.axV
def vU(l:List (Int×It)):List (V×V):=emap keI itV l
def Dp(l:List (Int×It))(a:Int): (jo a l=Y/\jA 0 (.i .i64 a) (vU l) 0=S Y/\∀b,vU l++[(V.i .i64 a,itV b)]=vU (mN l a b)) \/(∃i c,jo a l=S c/\jA 0 (.i .i64 a) (vU l) 0=S (S (i,itV c))/\∀b,(vU l).set i (V.i .i64 a,itV b)=vU (mN l a b)):=zZ aa1 l a
def tagged(x:It):Bool:=x.axW != 1&&x.axW != 5
def zC(s:Rd)(x:It):Bool:=match jo x.id s.tags with
 |some b=>x.axW != 3||b.axW != 2||ff b.ax1 != x.ax1
 |none=>Z
def oc(s:Rd)(x:It):Nat:=X s.f+(if 0<X s.ax1 then 1 else 0)+(if x.axW≠1\/X s.ax1=0 then 1 else 0)
def re(s:Rd)(x:It):Rd:=⟨s.f,s.ax1,s.len+1,if tagged x then mN s.tags x.id x else s.tags⟩
def AK(s:Rd)(x:It):Rd:=⟨s.f++[x],s.ax1,s.len,s.tags⟩
def mb(s:Rd)(x:It):Int×Rd :=if tagged x&&zC s x then(7,s)else if 512<oc s x\/1024<s.len+1 then(3,s)else
 if x.axW=1 then(0,⟨s.f,s.ax1++x.ax1,s.len+1,s.tags⟩)else(0,AK (jl (re s x)) x)
def Fx:Rd:=⟨[],[],0,[]⟩
def kZ:Nat->Rd->aL->Int->List It×Int×Int
 |0,_,_,at'=>([],at',2)
 |_+1,s,[],_=>((jl s).f,0,0)
 |n+1,s,c::l,at' =>
  let e:=bO (c::l)
  if e.2.2=Z then([],at',2)else
  let r:=mb s e.1
  if r.1≠0 then([],at',r.1)else kZ n r.2 ((c::l).drop e.2.1.toNat) (at'+e.2.1)
def parse:List It×Int×Int:=kZ (X s+1) Fx s 0
structure Rd.ok (r:Rd):Prop where
 f:r.f.length+(if 0<r.ax1.length then 1 else 0)<=r.len
 ax1:r.ax1.length<=r.len
 len:r.len<=1024
def Wv(r:Rd):X (jl r).f=X r.f+(if 0<X r.ax1 then 1 else 0):=by simp only[jl];split<;>rename_i h<;>simp[h]
def AL(r:Rd):X (jl r).ax1=0:=by
 simp only[jl];split<;>rename_i h;.rfl
 simpa using h
def CX(r:Rd):(jl r).len=r.len:=by simp only[jl];split<;>rfl
def Zy{r:Rd}(h:r.ok)(e:x.axW=1->X x.ax1<=1)(h0:(mb r x).1=0):(mb r x).2.ok:=by
 obtain⟨d,f,g⟩:=h;simp only[mb]at h0 |-;split;.rename_i a;rw[aO a]at h0;simp at h0
 rename_i a;rw[ao a]at h0;split;.rename_i b;rw[aO b]at h0;simp at h0
 rename_i b;split
 .rename_i c;have:=e c;refine⟨?_,?_,?_⟩;.simp only[ae];split at d<;>split<;>omega
  .simp only[ae];omega
  simp only;omega
 refine⟨?_,?_,?_⟩;.simp only[AK,ae,ah,aj,Wv,AL,CX,re];simp only[Nat.lt_irrefl,bo];omega
 .simp only[AK,AL];omega
 simp only[AK,CX,re];omega
def yz:X (cutAt s c).1<=X s/\X (cutAt s c).2.1<=X s:=by
 simp only[cutAt];split;.simp;omega
 simp
def Rt:X (kp s).1.ax1<=X s/\(kp s).1.axW≠1:=by
 have a:=(yz s 58).2;have b:=(yz (s.drop 1) 58).2;have c:X (s.drop 1)<=X s:=by simp
 unfold kp;dsimp only;cases ayl s [47]with
 |true =>
  simp only[aR,jN,dq,aI,bo];split;.exact⟨cE b c,by simp⟩
  exact⟨by simp,by simp⟩
 |false =>
 simp only[aI,bo,lK,cN];cases ayo (cutAt s 58).2.1 [47]with
 |true =>
  simp only[aR];split;.exact⟨by rw[aX];omega,by simp⟩
  exact⟨by simp,by simp⟩
 |false =>
 simp only[aI,bo];split;.exact⟨a,by simp⟩
 exact⟨by simp,by simp⟩
def vB{s:aL}(g:s≠[]):X (bO s).1.ax1<=X s/\((bO s).1.axW=1->X (bO s).1.ax1<=1) /\((bO s).2.2=G->1<=(bO s).2.1/\(bO s).2.1<=X s):=by
 have i:0<X s:=fb.2 g;simp only[bO];by_cases b:s.getD 0 0=92
 .rw[aO b];refine⟨by simp;omega,λ_=>by simp,?_⟩;simp only[fg];split;.intro h;simp at h
  split;.intro _;simp;omega
  split;.intro _;simp;omega
  split;.intro _;simp;omega
  split
  .split;.intro h;simp at h
   intro _;simp;omega
  intro h;simp at h
 rw[ao b];by_cases c:s.getD 0 0=60
 .rw[aO c];have f:=nH s 62;split;.exact⟨by simp[pH],by simp[pH],by simp⟩
  rename_i h;have d:=Rt ((s.take (Lib.indexByte s 62).toNat).drop 1);refine⟨cE d.1 (by simp;omega),λh=>absurd h d.2,λ_=>?_⟩;simp only;omega
 rw[ao c];by_cases a:s.getD 0 0=123
 .rw[aO a];have f:=nH s 125;split;.exact⟨by simp[pH],by simp[pH],by simp⟩
  rename_i h;have:¬Lib.indexByte s 125<0:=λe=>h (.inl e);refine⟨by simp;omega,λh=>by simp at h,λ_=>?_⟩;simp only;omega
 rw[ao a];refine⟨by simp;omega,λ_=>by simp;omega,λ_=>?_⟩;simp only;omega
def lu:bH:=if a.contains n then a else a++[n]
def aa3{n m:Int}(h:m∈l):m∈lu l n:=by
 simp only[lu];split;.exact h
 simp[h]
def Xv:n∈lu a n:=by
 simp only[lu];split;.rename_i h;simpa using h
 simp
def Hq:∀(b:bH) {a:bH} {m:Int},m∈a->m∈b.foldl lu a|[],_,_,h=>h|_::b,_,_,h=>Hq b (aa3 h)
def uO:∀(b:bH) {acc:bH} {m:Int},m∈b->m∈b.foldl lu acc
 |n::b,acc,m,h=>by
  rcases bw.1 h with rfl|h;.exact Hq b (Xv _ _)
  exact uO b h
def XT(b acc:bH)(n:Int):(lu b n).foldl lu acc=lu (b.foldl lu acc) n:=by
 by_cases h:b.contains n=G
 .have e:lu b n=b:=by simp only[lu,h,aR]
  have c:n∈b:=by simpa using h
  have a:(b.foldl lu acc).contains n=G:=by simpa using uO b (acc:=acc) c
  rw[e];simp only[lu,a,aR]
 have e:lu b n=b++[n]:=by simp only[lu,h];rfl
 rw[e,tX];rfl
def DG:∀(l b a:bH),(l.foldl lu b).foldl lu a=l.foldl lu (b.foldl lu a)|[],_,_=>rfl|n::l,b,a=>by simp only[bT];rw[DG l (lu b n) a,XT]
def ll:∀(f:List It) (a:bH),dW a f=((f.filter eB).map (·.id)).foldl lu a
 |[],_=>rfl
 |x::f,a=>by
  simp only[dW];cases b:eB x with
  |false =>simp only[dq,aI,bo,iN,b];exact ll f a
  |true =>
  simp only[cN,iN,b,aR,az,bT];by_cases h:a.contains x.id=G;.simp only[h,jN,aI,bo,lu,aR];exact ll f a
  simp only[h,lK,aR,lu,bo,aI];exact ll f _
def se(s t:List It):ax9 (s++t)=cK s t:=by have e:∀l m:bH,gP l m=m.foldl lu l:=λ_ _=>rfl;simp only[cK,e,ax9,ll,je,gl,tX];rw[DG];rfl
