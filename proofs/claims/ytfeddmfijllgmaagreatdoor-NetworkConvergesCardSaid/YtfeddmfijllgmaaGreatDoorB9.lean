/- A part of a proof; the claim's last text says of what. -/
import Derived.Lib.Bytealg
import Derived.Test.YtfeddmfijllgmaaGreatDoorB8
set_option linter.all false
open Option renaming some->S,none->Z
open Bool renaming true->θ,false->G
open List renaming length->Y

namespace Go.Bt
open Go Go.Pm
variable(a:bU)(s:aR)(c:UInt8)(b:bU)(T:gh)(n:Int)(N:Nat)(X:UInt8)(p:aR){i:Nat}{R d:UInt8}{l Q:bU}
structure It where
 azT:Int
 azX:aR
 id:Int
variable{x:It}
def It.azR(x:It):aB:=[.i .i64 x.azT,.s x.azX,.i .i64 x.id]
def width(x:It):Int:=if x.azT=1 then Y x.azX else 1
def iJ(l:List It):Int:=l.foldl (λn x=>IntKind.i64.wrap (n+width x)) n
structure cL where
 time:Int
 bS:Int
 azW:Int
def cL.azR(x:cL):aB:=[.i .i64 x.time,.i .i64 x.bS,.i .i64 x.azW]
def k8(s:cL):Bool:=decide (1<=s.time/\s.time<=2^30/\0<=s.bS/\s.bS<8/\1<=s.azW/\s.azW<=128)
def me:Bool:=(97<=c.toNat&&c.toNat<=122)||(48<=c.toNat&&c.toNat<=57)||c.toNat==45
def aAa:Bool:=match s with|[]=>G|c::r=>decide (Y s<=24)&&decide (97<=c.toNat/\c.toNat<=122)&&r.all me
def ox:Int:=if n<0\/(Y a:Int)<=n\/8<=n then 0 else if a.getD n.toNat 0<0 then 0 else a.getD n.toNat 0
def gJ(b:Int):Int:=if n<b then -1 else if b<n then 1 else 0
def wj:bU->Int|[]=>0|x::r=>if x≠0 then x else wj r
def jH(a b:cL):Int:=wj [gJ a.time b.time,gJ a.bS b.bS,gJ a.azW b.azW]
def VN(s:cL):Bool:=decide (1<=s.azW)&&decide (s.azW<=ox a s.bS)
def mf:bU:=(List.range N).map λ(i:Nat)=>let x:=ox a i;let y:=ox b i;if x<y then y else x
def jf(a b:bU):Nat->Nat|0=>0|n+1=>if(let x:=ox a n;let y:=ox b n;if x<y then y else x)≠0 then n+1 else jf a b n
def pq(a b:bU):∀n,jf a b n<=n|0=>aM _|n+1=>by have:=pq a b n;simp only[jf];(repeat' split)<;>omega
def u9:bU:=(mf a b 8).take (jf a b 8)
def Cq:mf a b (N+1)=mf a b N++[if ox a N<ox b N then ox b N else ox a N]:=by simp[mf,u6]
def oO:Y (mf a b N)=N:=by simp[mf]
def az2:aR×aR×Bool :=if 0<=Lib.indexByte s c then(s.take (Lib.indexByte s c).toNat,s.drop ((Lib.indexByte s c).toNat+1),θ)else(s,[],G)
def pL:Lib.indexByte s c<Y s:=by
 induction s with
 |nil=>simp[Lib.indexByte]
 |cons b s ih =>
 simp only[Lib.indexByte,ae];split;.omega
 split<;>omega
def aAj:Bool:=decide (Y p<=Y s)&&s.take (Y p)==p
def aAm:Bool:=decide (Y p<=Y s)&&s.drop (Y s - Y p)==p
def fM:aR:=(az2 s 32).1
def pP:Int :=if c.toNat=9\/c.toNat=10\/c.toNat=13\/c.toNat=32 then 2 else if c.toNat<32\/c.toNat=127 then 1 else if 48<=c.toNat/\c.toNat<=57 then 3
 else if 97<=c.toNat/\c.toNat<=122\/65<=c.toNat/\c.toNat<=90\/128<=c.toNat then 4 else 5
def kM:Bool:=decide (c.toNat<32)||decide (126<c.toNat)||decide (0<=Lib.indexByte [60,62,123,125] c)
def mz:Bool:=decide (Y s<=64)&&decide (Y s≠0)&&decide ((s.getD (Y s - 1) 0).toNat≠47)
def oA:Bool:=aAa (az2 s 32).1&&(!(az2 s 32).2.2||decide (0<Y (az2 s 32).2.1))
def fB:Bool:=mz s&&s.all (λb=>!kM b)&&oA s
def fp(x:It):Bool:=x.azT==2||x.azT==3||x.azT==4
def iK(x y:It):Bool:=!(!fp y||y.id != x.id)&&(x.azT != 3||y.azT != 2||!(fM y.azX==x.azX))
def fits(before:List It)(x:It):Bool:=before.all λy=>!iK x y
def cP(p:Option It)(x:It):Bool :=
 if x.azT=1 then !(x.azX==[])&&x.id==0&&(match p with|none=>θ|some y=>y.azT != 1)
 else if x.azT=5 then aAa x.azX&&x.id==0
 else if x.azT=2\/x.azT=4 then fB x.azX&&decide (1<=x.id)&&decide (x.id<=999)
 else if x.azT=3 then aAa x.azX&&decide (1<=x.id)&&decide (x.id<=999)
 else G
def cz:List It->List It->Int|_,[]=>0|pre,x::rest=>if cP pre.getLast? x=G then 1 else if(fp x&&!fits pre x)=θ then 7 else cz (pre++[x]) rest
def dq(f:List It):Int:=if 512<Y f\/1024<iJ 0 f then 3 else cz [] f
def eX:bU->List It->bU|acc,[]=>acc|acc,x::r=>if(fp x&&!acc.contains x.id)=θ then eX (acc++[x.id]) r else eX acc r
def az8(f:List It):bU:=eX [] f
def pe:List (V×V):=a.map λn=>(.i .i64 n,.b θ)
def BG(n:Int):∀(l:bU) (k:Nat),kL 0 (.i .i64 n) (pe l) k=if n∈l then S (S (k+l.idxOf n,.b θ))else S Z
 |[],k=>by simp[pe,kL]
 |m::l,k=>by
  have ih:=BG n l (k+1);by_cases h:n=m
  .subst h;have e:kL 0 (.i .i64 n) (pe (n::l)) k=S (S (k,.b θ)):=by simp only[pe,aI,kL,eQ,aU,ao]
   rw[e];simp
  have c:(n==m)=G:=by simpa using h
  have f:(m==n)=G:=by simpa using λe=>h e.symm
  have e:kL 0 (.i .i64 n) (pe (m::l)) k=kL 0 (.i .i64 n) (pe l) (k+1):=by simp only[pe,aI,kL,eQ,aU,c]
  rw[e,ih];by_cases a:n∈l
  .have d:(m::l).idxOf n=l.idxOf n+1:=by rw[K9,f];rfl
   rw[aQ a,aQ (bJ _ a),d];congr 3;omega
  rw[aw a,aw (by simp[h,a])]
def eH:bU:=(List.range N).map λ(i:Nat)=>(i:Int)+1
def lX(i:Nat):fx:=(eH i).map cN++List.replicate (N - i) [V.i .i64 0]
def CB{a:Nat}(h:a<=i):Y (lX i a)=i:=by simp[lX,eH];omega
def L4{a:Nat}(h:a<i):(lX i a).set a [V.i .i64 ((a:Int)+1)]=lX i (a+1):=by
 have e:i - a=(i - (a+1))+1:=by omega
 have b:Y ((eH a).map cN)=a:=by simp[eH]
 simp only[lX];rw[dX _ _ (by omega),b,iP,e,TT,cC];simp[eH,u6,cN]
def L5{a:Nat}(h:a<i):(lX i a).getD a []=[V.i .i64 0]:=by
 have b:Y ((eH a).map cN)=a:=by simp[eH]
 have e:i - a=(i - (a+1))+1:=by omega
 simp only[lX,aA];rw[bn (by omega),b,iP,e,TT];rfl
def LI(a b:It):Bool:=a.azT==b.azT&&(a.azX==b.azX&&a.id==b.id)
def ac5{b:It}:LI x b=θ<->x=b:=by obtain⟨k,t,i⟩:=x;obtain⟨d,a,c⟩:=b;simp[LI]
def jG:List It->List It->Bool|[],[]=>θ|a::x,b::y=>LI a b&&jG x y|_,_=>G
def BA:∀{a b:List It},jG a b=θ<->a=b|[],[]=>by simp[jG]|a::x,b::y=>by simp[jG,ac5,BA (a:=x) (b:=y)]|[],b::y=>by simp[jG]|a::x,[]=>by simp[jG]
def M4:∀{a b:List It},jG a b=θ->Y a=Y b:=λh=>by rw[BA.1 h]
def az7:List It->aR×List It|[]=>([],[])|x::r=>if x.azT=1 then(x.azX++(az7 r).1,(az7 r).2)else([],x::r)
def F1:∀(l:List It),Y (az7 l).2<=Y l
 |[]=>aM _
 |x::r=>by
  have:=F1 r;simp only[az7];split;.simp only[ae];omega
  exact aM _
def np:Nat->List It->List It
 |0,_=>[]
 |_+1,[]=>[]
 |n+1,x::r=>if x.azT≠1 then x::np n r else
   if(az7 (x::r)).1.length=0 then np n (az7 (x::r)).2 else⟨1,(az7 (x::r)).1,0⟩::np n (az7 (x::r)).2
def az9(f:List It):List It:=np f.length f
def bo:List It->Nat|[]=>0|x::r=>Y x.azX+bo r
def B8:∀(l:List It),∃a,l=a++(az7 l).2
 |[]=>⟨[],rfl⟩
 |x::r=>by
  obtain⟨a,h⟩:=B8 r;by_cases b:x.azT=1;.refine⟨x::a,?_⟩;simp only[az7,b,aU,aF];rw[<- h]
  exact⟨[],by simp[az7,b]⟩
def w7{x:It}{r:List It}(h:x.azT=1):Y (az7 (x::r)).2<=Y r:=by simp only[az7,h,aU];exact F1 r
def Dw:∀(l:List It),Y (az7 l).1+bo (az7 l).2=bo l
 |[]=>rfl
 |x::r=>by
  have:=Dw r;by_cases a:x.azT=1;.simp only[az7,a,aU,ah,bo];omega
  simp[az7,a,bo]
def Lh:bU->bU->Int->Option Int|a::fr,b::to,x=>if x=a then S b else Lh fr to x|_,_,_=>Z
def Wu(x:It):Option It:=if fp x then(Lh a b x.id).map λn=>⟨x.azT,x.azX,n⟩else S x
def aAk(f:List It)(a b:bU):List It:=f.filterMap (Wu a b)
def rename(f:List It)(a b:bU):List It:=az9 (aAk f a b)
def iQ:bU:=b.foldl (λa n=>if a.contains n then a else a++[n]) a
def dh(s t:List It):bU:=iQ (az8 s) (az8 t)
def kc(s t:List It):List It:=rename s (dh s t) (eH (Y (dh s t)))
def k6(s t:List It):List It:=rename t (dh s t) (eH (Y (dh s t)))
def vE:List (V×V):=emap keI keI T
def Gy: (jM n T=Z/\kL 0 (.i .i64 n) (vE T) 0=S Z/\∀b,vE T++[(V.i .i64 n,V.i .i64 b)]=vE (oN T n b)) \/(∃i a,jM n T=S a/\kL 0 (.i .i64 n) (vE T) 0=S (S (i,.i .i64 a))/\∀b,(vE T).set i (V.i .i64 n,V.i .i64 b)=vE (oN T n b)):=C5 ac4 T n
def Q8(h1:i<Y l)(a:i<Y Q)(x:Int):Lh (l.drop i) (Q.drop i) x=if x=l.getD i 0 then S (Q.getD i 0)else Lh (l.drop (i+1)) (Q.drop (i+1)) x:=by rw[gG h1,gG a];simp only[Lh];simp[aA,h1,a]
def Wl(h:min l.length (Y Q)<=i)(x:Int):Lh (l.drop i) (Q.drop i) x=Z:=by
 by_cases a:Y l<=i;.rw[qO a];simp[Lh]
 have b:Y Q<=i:=by omega
 rw[qO b];cases l.drop i<;>simp[Lh]
def F4(f:List It)(a b:bU):Y (aAk f a b)<=Y f:=ar4 _ _
def DC(f:List It)(b c:bU):bo (aAk f b c)<=bo f:=by
 induction f with
 |nil=>exact aM _
 |cons x f ih =>
 simp only[aAk,nZ]at ih |-;split;.simp only[bo];omega
 rename_i y a;have:y.azX=x.azX:=by
  simp only[Wu]at a;split at a;.rw[aL]at a;obtain⟨n,_,rfl⟩:=a;rfl
  simp at a;rw[a]
 simp only[bo,this];omega
def zq:∀(l:bU),Y (iQ l a)<=Y l+Y a:=by
 induction a with
 |nil=>intro l;simp[iQ]
 |cons n a ih =>
 intro l;simp only[iQ,bH]at ih |-;have:=ih (if l.contains n then l else l++[n]);split at this;.simp only[ae];rw[aQ (by assumption)];omega
 simp only[ae];rw[aw (by assumption)];simp at this |-;omega
def Hg(f:List It):∀(a:bU),Y (eX a f)<=Y a+Y f:=by
 induction f with
 |nil=>intro a;simp[eX]
 |cons x f ih =>
 intro a;simp only[eX];split;.have:=ih (a++[x.id]);simp at this |-;omega
 have:=ih a;simp;omega
def tP(f:List It):Y (az8 f)<=Y f:=by have:=Hg f [];simpa[az8]using this
def lq{p:UInt8->Prop}(h:∀n:Fin 256,p (UInt8.ofNat n.val))(c:UInt8):p c:=by have:=h ⟨c.toNat,c.toNat_lt⟩;simpa using this
def yB:Bool:=c != 92&&c != 60&&c != 123&&c != 9&&c != 10&&c != 13&&pP c != 1
def mM:UInt8:=if N<10 then UInt8.ofNat (48+N)else UInt8.ofNat (87+N)
def ig:aR :=if yB c then[c]else if c=10 then[92,110]else if c=9 then[92,116]else if c=92\/c=60\/c=123 then[92,c]else[92,120,mM (c.toNat / 16),mM (c.toNat % 16)]
def mg:UInt8×Bool :=if 48<=c.toNat/\c.toNat<=57 then(UInt8.ofNat (c.toNat - 48),θ)else if 97<=c.toNat/\c.toNat<=102 then(UInt8.ofNat (c.toNat - 87),θ)else(0,G)
def Eh:(mg c).1.toNat<16:=by revert c;exact lq (by decide +kernel)
def nw:UInt8:=UInt8.ofNat (16*(mg c).1.toNat+(mg X).1.toNat)
def fN:UInt8×Int×Bool :=if Y s<2 then(0,0,G)else
 let c:=s.getD 1 0
 if c=92\/c=60\/c=123 then(c,2,θ)else if c=110 then(10,2,θ)else if c=116 then(9,2,θ)else if c=120 then
  if Y s<4 then(0,0,G)else
  let b:=nw (s.getD 2 0) (s.getD 3 0)
  (b,4,(mg (s.getD 2 0)).2&&(mg (s.getD 3 0)).2&&(b==13||pP b==1))
 else(0,0,G)
def gC:Bool:=48<=c.toNat&&c.toNat<=57
def gH(s:aR):Int:=s.foldl (λn c=>10*n+(c.toNat - 48:Int)) n
def aAg:Int×Bool :=if Y s<1\/3<Y s\/s.getD 0 0=48 then(0,G)else if s.all gC then(gH 0 s,θ)else(0,G)
def KB:∀(n:Int) (k:Nat),Y s=k->s.all gC=θ->0<=n->0<=gH n s/\gH n s<10^k*(n+1):=by
 induction s with
 |nil=>intro n k a _ f;simp at a;subst a;simp[gH];omega
 |cons c s ih =>
 intro n k a b f;simp only[gF,aZ]at b;have e:=b.1;simp only[gC,aZ,bE]at e;obtain⟨k,rfl⟩:∃j,k=j+1:=⟨Y s,by simpa using a.symm⟩;have h:=ih (10*n+(c.toNat - 48:Int)) k (by simpa using a) b.2 (by omega);simp only[gH,bH]at h |-;refine⟨h.1,Int.lt_of_lt_of_le h.2 ?_⟩;have d:(10*n+(c.toNat - 48:Int))+1<=10*(n+1):=by omega
 have g:=Int.mul_le_mul_of_nonneg_left d (show(0:Int)<=10^k from amv (by omega));have i:(10:Int)^(k+1)*(n+1)=10^k*(10*(n+1)):=by rw[Int.pow_succ];simp only[Int.mul_assoc]
 omega
def lL:It×Bool :=
 let close:=aAj s [47];let s:=if close then s.drop 1 else s
 let p:=az2 s 58;let empty:=!close&&aAm p.2.1 [47];let a:Int:=if close then 3 else if empty then 4 else 2
 let content:=if empty then p.2.1.take (Y p.2.1 - 1)else p.2.1
 if p.2.2&&(aAg p.1).2 then(⟨a,content,(aAg p.1).1⟩,if a=3 then aAa content else fB content)else(⟨0,[],0⟩,G)
def sv:It:=⟨0,[],0⟩
def cc:It×Int×Bool :=
 let c:=s.getD 0 0
 if c=92 then(⟨1,[(fN s).1],0⟩,(fN s).2.1,(fN s).2.2)
 else if c=60 then
  let e:=Lib.indexByte s 62
  if e<0 then(sv,0,G)else
  let t:=(s.take e.toNat).drop 1
  ((lL t).1,e+1,(lL t).2)
 else if c=123 then
  let e:=Lib.indexByte s 125
  if e<0\/aAa ((s.take e.toNat).drop 1)=G then(sv,0,G)else(⟨5,(s.take e.toNat).drop 1,0⟩,e+1,θ)
 else(⟨1,s.take 1,0⟩,1,yB c)
def ahE(h:48<=c.toNat/\c.toNat<=57):mg c=(UInt8.ofNat (c.toNat - 48),θ)/\IntKind.u8.wrap ((c.toNat:Int) - 48)=((mg c).1.toNat:Int):=by
 have a:mg c=(UInt8.ofNat (c.toNat - 48),θ):=by simp only[mg,h,cG,aU]
 refine⟨a,?_⟩;rw[a];revert h a;revert c;exact lq (by decide +kernel)
def ahD(h:97<=c.toNat/\c.toNat<=102):mg c=(UInt8.ofNat (c.toNat - 87),θ)/\IntKind.u8.wrap (IntKind.u8.wrap ((c.toNat:Int) - 97)+10)=((mg c).1.toNat:Int):=by
 have b:¬(48<=c.toNat/\c.toNat<=57):=by omega
 have a:mg c=(UInt8.ofNat (c.toNat - 87),θ):=by simp only[mg,b,h,cG,aU,bw]
 refine⟨a,?_⟩;rw[a];revert h b a;revert c;exact lq (by decide +kernel)
def alh(h0:¬(48<=c.toNat/\c.toNat<=57))(h:¬(97<=c.toNat/\c.toNat<=102)):mg c=(0,G):=by simp only[mg,h0,h,bw]
def Vt: IntKind.u8.wrap (((BitVec.ofInt IntKind.u8.bits (IntKind.u8.wrap (((mg c).1.toNat:Int)*2^(min 4 IntKind.u8.bits))) ||| BitVec.ofInt IntKind.u8.bits ((mg X).1.toNat:Int)).toNat:Nat):Int)=((nw c X).toNat:Int):=by
 have a:∀m n:Fin 16,IntKind.u8.wrap (((BitVec.ofInt IntKind.u8.bits (IntKind.u8.wrap ((m.val:Int)*2^(min 4 IntKind.u8.bits))) ||| BitVec.ofInt IntKind.u8.bits (n.val:Int)).toNat:Nat):Int)=((UInt8.ofNat (16*m.val+n.val)).toNat:Int):=by decide +kernel
 exact a ⟨_,Eh c⟩ ⟨_,Eh X⟩
def aa4(h:gC c=θ):IntKind.u8.wrap ((c.toNat:Int) - 48)=(c.toNat:Int) - 48:=by revert h;revert c;exact lq (by decide +kernel)
def EU:((c.toNat:Int)==(X.toNat:Int))=(c==X):=by
 rw[eD];simp only[ez];constructor;.intro h;exact rm.1 (by omega)
 intro h;rw[h]
def ajH:((c.toNat:Int) != (X.toNat:Int))=(c != X):=by simp only[bne,EU]
def xx{k:Int}(h:¬R=d)(a:(d.toNat:Int)=k):((R.toNat:Int)==k)=G:=by subst a;rw[EU];simpa using h
def Yn{k:Int}(h:R=d)(a:(d.toNat:Int)=k):((R.toNat:Int)==k)=θ:=by subst a;rw[EU];simpa using h
def tr(h:s.getD 0 0≠c)(d:¬Lib.indexByte s c<0):1<=Lib.indexByte s c:=by
 cases s with
 |nil=>simp[Lib.indexByte]at d
 |cons b s =>
 have e:¬b=c:=h;have e:(b==c)=G:=by simpa using e
 have g:∀s:aR,-1<=Lib.indexByte s c:=by
  intro s;induction s with
  |nil=>simp[Lib.indexByte]
  |cons a s ih =>
  simp only[Lib.indexByte];split;.omega
  split<;>omega
 have i:=g s;simp only[Lib.indexByte,e,aP,bw]at d |-;by_cases f:(Lib.indexByte s c == -1)=θ;.rw[aQ f]at d;omega
 rw[aw f]at d |-;have j:Lib.indexByte s c ≠ -1:=by simpa using f
 omega
structure Rd where
 f:List It
 azX:aR
 len:Nat
 tags:List (Int×It)
def kr(s:Rd):Rd:=if 0<Y s.azX then⟨s.f++[⟨1,s.azX,0⟩],[],s.len,s.tags⟩else s
def itV(x:It):V:=.agg x.azR
def zr(l:List (Int×It)):List (V×V):=emap keI itV l
def Gx(l:List (Int×It))(a:Int): (jM a l=Z/\kL 0 (.i .i64 a) (zr l) 0=S Z/\∀b,zr l++[(V.i .i64 a,itV b)]=zr (oN l a b)) \/(∃i c,jM a l=S c/\kL 0 (.i .i64 a) (zr l) 0=S (S (i,itV c))/\∀b,(zr l).set i (V.i .i64 a,itV b)=zr (oN l a b)):=C5 ac4 l a
def tagged(x:It):Bool:=x.azT != 1&&x.azT != 5
def CD(s:Rd)(x:It):Bool:=match jM x.id s.tags with
 |some b=>x.azT != 3||b.azT != 2||fM b.azX != x.azX
 |none=>G
def qp(s:Rd)(x:It):Nat:=Y s.f+(if 0<Y s.azX then 1 else 0)+(if x.azT≠1\/Y s.azX=0 then 1 else 0)
def uv(s:Rd)(x:It):Rd:=⟨s.f,s.azX,s.len+1,if tagged x then oN s.tags x.id x else s.tags⟩
def DG(s:Rd)(x:It):Rd:=⟨s.f++[x],s.azX,s.len,s.tags⟩
def nT(s:Rd)(x:It):Int×Rd :=if tagged x&&CD s x then(7,s)else if 512<qp s x\/1024<s.len+1 then(3,s)else
 if x.azT=1 then(0,⟨s.f,s.azX++x.azX,s.len+1,s.tags⟩)else(0,DG (kr (uv s x)) x)
def IG:Rd:=⟨[],[],0,[]⟩
def ml:Nat->Rd->aR->Int->List It×Int×Int
 |0,_,_,at'=>([],at',2)
 |_+1,s,[],_=>((kr s).f,0,0)
 |n+1,s,c::l,at' =>
  let e:=cc (c::l)
  if e.2.2=G then([],at',2)else
  let r:=nT s e.1
  if r.1≠0 then([],at',r.1)else ml n r.2 ((c::l).drop e.2.1.toNat) (at'+e.2.1)
def parse:List It×Int×Int:=ml (Y s+1) IG s 0
structure Rd.ok (r:Rd):Prop where
 f:r.f.length+(if 0<r.azX.length then 1 else 0)<=r.len
 azX:r.azX.length<=r.len
 len:r.len<=1024
def YM(r:Rd):Y (kr r).f=Y r.f+(if 0<Y r.azX then 1 else 0):=by simp only[kr];split<;>rename_i h<;>simp[h]
def DH(r:Rd):Y (kr r).azX=0:=by
 simp only[kr];split<;>rename_i h;.rfl
 simpa using h
def F5(r:Rd):(kr r).len=r.len:=by simp only[kr];split<;>rfl
def abG{r:Rd}(h:r.ok)(e:x.azT=1->Y x.azX<=1)(h0:(nT r x).1=0):(nT r x).2.ok:=by
 obtain⟨c,g,f⟩:=h;simp only[nT]at h0 |-;split;.rename_i a;rw[aQ a]at h0;simp at h0
 rename_i a;rw[aw a]at h0;split;.rename_i b;rw[aQ b]at h0;simp at h0
 rename_i b;split
 .rename_i d;have:=e d;refine⟨?_,?_,?_⟩;.simp only[ah];split at c<;>split<;>omega
  .simp only[ah];omega
  simp only;omega
 refine⟨?_,?_,?_⟩;.simp only[DG,ah,ae,ai,YM,DH,F5,uv];simp only[Nat.lt_irrefl,bw];omega
 .simp only[DG,DH];omega
 simp only[DG,F5,uv];omega
def BJ:Y (az2 s c).1<=Y s/\Y (az2 s c).2.1<=Y s:=by
 simp only[az2];split;.simp;omega
 simp
def Ud:Y (lL s).1.azX<=Y s/\(lL s).1.azT≠1:=by
 have b:=(BJ s 58).2;have c:=(BJ (s.drop 1) 58).2;have a:Y (s.drop 1)<=Y s:=by simp
 unfold lL;dsimp only;cases aAj s [47]with
 |true =>
  simp only[aU,k7,dI,aP,bw];split;.exact⟨cE c a,by simp⟩
  exact⟨by simp,by simp⟩
 |false =>
 simp only[aP,bw,nc,dp];cases aAm (az2 s 58).2.1 [47]with
 |true =>
  simp only[aU];split;.exact⟨by rw[bj];omega,by simp⟩
  exact⟨by simp,by simp⟩
 |false =>
 simp only[aP,bw];split;.exact⟨b,by simp⟩
 exact⟨by simp,by simp⟩
def yR{s:aR}(f:s≠[]):Y (cc s).1.azX<=Y s/\((cc s).1.azT=1->Y (cc s).1.azX<=1) /\((cc s).2.2=θ->1<=(cc s).2.1/\(cc s).2.1<=Y s):=by
 have i:0<Y s:=fJ.2 f;simp only[cc];by_cases b:s.getD 0 0=92
 .rw[aQ b];refine⟨by simp;omega,λ_=>by simp,?_⟩;simp only[fN];split;.intro h;simp at h
  split;.intro _;simp;omega
  split;.intro _;simp;omega
  split;.intro _;simp;omega
  split
  .split;.intro h;simp at h
   intro _;simp;omega
  intro h;simp at h
 rw[aw b];by_cases c:s.getD 0 0=60
 .rw[aQ c];have e:=pL s 62;split;.exact⟨by simp[sv],by simp[sv],by simp⟩
  rename_i h;have d:=Ud ((s.take (Lib.indexByte s 62).toNat).drop 1);refine⟨cE d.1 (by simp;omega),λh=>absurd h d.2,λ_=>?_⟩;simp only;omega
 rw[aw c];by_cases a:s.getD 0 0=123
 .rw[aQ a];have e:=pL s 125;split;.exact⟨by simp[sv],by simp[sv],by simp⟩
  rename_i h;have:¬Lib.indexByte s 125<0:=λg=>h (.inl g);refine⟨by simp;omega,λh=>by simp at h,λ_=>?_⟩;simp only;omega
 rw[aw a];refine⟨by simp;omega,λ_=>by simp;omega,λ_=>?_⟩;simp only;omega
def mL:bU:=if a.contains n then a else a++[n]
def ac6{n m:Int}(h:m∈l):m∈mL l n:=by
 simp only[mL];split;.exact h
 simp[h]
def ZF:n∈mL a n:=by
 simp only[mL];split;.rename_i h;simpa using h
 simp
def Kl:∀(b:bU) {a:bU} {m:Int},m∈a->m∈b.foldl mL a|[],_,_,h=>h|_::b,_,_,h=>Kl b (ac6 h)
def ya:∀(b:bU) {acc:bU} {m:Int},m∈b->m∈b.foldl mL acc
 |n::b,acc,m,h=>by
  rcases bd.1 h with rfl|h;.exact Kl b (ZF _ _)
  exact ya b h
def Z7(b acc:bU)(n:Int):(mL b n).foldl mL acc=mL (b.foldl mL acc) n:=by
 by_cases h:b.contains n=θ
 .have e:mL b n=b:=by simp only[mL,h,aU]
  have c:n∈b:=by simpa using h
  have a:(b.foldl mL acc).contains n=θ:=by simpa using ya b (acc:=acc) c
  rw[e];simp only[mL,a,aU]
 have e:mL b n=b++[n]:=by simp only[mL,h];rfl
 rw[e,nF];rfl
def GQ:∀(l b a:bU),(l.foldl mL b).foldl mL a=l.foldl mL (b.foldl mL a)|[],_,_=>rfl|n::l,b,a=>by simp only[bH];rw[GQ l (mL b n) a,Z7]
def mB:∀(f:List It) (a:bU),eX a f=((f.filter fp).map (·.id)).foldl mL a
 |[],_=>rfl
 |x::f,a=>by
  simp only[eX];cases b:fp x with
  |false =>simp only[dI,aP,bw,jc,b];exact mB f a
  |true =>
  simp only[dp,jc,b,aU,aI,bH];by_cases h:a.contains x.id=θ;.simp only[h,k7,aP,bw,mL,aU];exact mB f a
  simp only[h,nc,aU,mL,bw,aP];exact mB f _
def vy(s t:List It):az8 (s++t)=dh s t:=by have e:∀l m:bU,iQ l m=m.foldl mL l:=λ_ _=>rfl;simp only[dh,e,az8,mB,jv,fQ,nF];rw[GQ];rfl
end Go.Bt
