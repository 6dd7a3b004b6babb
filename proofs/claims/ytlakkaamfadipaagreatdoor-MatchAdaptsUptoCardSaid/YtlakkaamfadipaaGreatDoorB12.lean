/- A part of a proof; the claim's last text says of what. -/
import Derived.Lib.Bytealg
import Derived.Test.YtlakkaamfadipaaGreatDoorB11
set_option linter.all false

namespace Go.Bt
open Go Go.Pm
structure It where
 awb:Int
 awd:aG
 id:Int
def It.awa(x:It):aB:=[.i .i64 x.awb,.s x.awd,.i .i64 x.id]
def width(x:It):Int:=if x.awb=1 then x.awd.length else 1
def eQ(a:Int)(l:List It):Int:=l.foldl (λa x=>IntKind.i64.wrap (a+width x)) a
structure Wg where
 time:Int
 qN:Int
 number:Int
def Wg.awa(x:Wg):aB:=[.i .i64 x.time,.i .i64 x.qN,.i .i64 x.number]
def ac8(s:Wg):Bool:=decide (1<=s.time/\s.time<=2^30/\0<=s.qN/\s.qN<8/\1<=s.number/\s.number<=128)
def fw(b:UInt8):Bool:=(97<=b.toNat&&b.toNat<=122)||(48<=b.toNat&&b.toNat<=57)||b.toNat==45
def awj(s:aG):Bool:=match s with
 |[]=>false
 |c::r=>decide (s.length<=24)&&decide (97<=c.toNat/\c.toNat<=122)&&r.all fw
def vAt(v:bH)(o:Int):Int:=if o<0\/(v.length:Int)<=o\/8<=o then 0 else if v.getD o.toNat 0<0 then 0 else v.getD o.toNat 0
def ox(a b:Int):Int:=if a<b then -1 else if b<a then 1 else 0
def AK:bH->Int
 |[]=>0
 |x::r=>if x≠0 then x else AK r
def aaL(a b:bH)(n:Nat):bH:=(List.range n).map λ(i:Nat)=>let x:=vAt a i;let y:=vAt b i;if x<y then y else x
def Rf(a b:bH):Nat->Nat
 |0=>0
 |n+1=>if(let x:=vAt a n;let y:=vAt b n;if x<y then y else x)≠0 then n+1 else Rf a b n
def ajV(a b:bH):bH:=(aaL a b 8).take (Rf a b 8)
def cutAt(l:aG)(c:UInt8):aG×aG×Bool :=
 if 0<=Lib.indexByte l c then(l.take (Lib.indexByte l c).toNat,l.drop ((Lib.indexByte l c).toNat+1),true)else(l,[],false)
def mL(l:aG)(c:UInt8):Lib.indexByte l c<l.length:=by
 induction l with
 |nil=>simp[Lib.indexByte]
 |cons b l ih =>
  simp only[Lib.indexByte,ai];split
  .omega
  .split<;>omega
def aws(l p:aG):Bool:=decide (p.length<=l.length)&&l.take p.length==p
def awt(l p:aG):Bool:=decide (p.length<=l.length)&&l.drop (l.length - p.length)==p
def cW(l:aG):aG:=(cutAt l 32).1
def ei(b:UInt8):Int :=
 if b.toNat=9\/b.toNat=10\/b.toNat=13\/b.toNat=32 then 2 else if b.toNat<32\/b.toNat=127 then 1 else if 48<=b.toNat/\b.toNat<=57 then 3
 else if 97<=b.toNat/\b.toNat<=122\/65<=b.toNat/\b.toNat<=90\/128<=b.toNat then 4 else 5
def fT(b:UInt8):Bool:=decide (b.toNat<32)||decide (126<b.toNat)||decide (0<=Lib.indexByte [60,62,123,125] b)
def kn(s:aG):Bool:=decide (s.length<=64)&&decide (s.length≠0)&&decide ((s.getD (s.length - 1) 0).toNat≠47)
def ga(s:aG):Bool:=awj (cutAt s 32).1&&(!(cutAt s 32).2.2||decide (0<(cutAt s 32).2.1.length))
def cV(s:aG):Bool:=kn s&&s.all (λb=>!fT b)&&ga s
def b9(x:It):Bool:=x.awb==2||x.awb==3||x.awb==4
def dP(x y:It):Bool:=!(!b9 y||y.id != x.id)&&(x.awb != 3||y.awb != 2||!(cW y.awd==x.awd))
def fits(before:List It)(x:It):Bool:=before.all λy=>!dP x y
def bG(p:Option It)(x:It):Bool :=
 if x.awb=1 then !(x.awd==[])&&x.id==0&&(match p with|none=>true|some y=>y.awb != 1)
 else if x.awb=5 then awj x.awd&&x.id==0
 else if x.awb=2\/x.awb=4 then cV x.awd&&decide (1<=x.id)&&decide (x.id<=999)
 else if x.awb=3 then awj x.awd&&decide (1<=x.id)&&decide (x.id<=999)
 else false
def bQ:List It->List It->Int
 |_,[]=>0
 |pre,x::rest=>if bG pre.getLast? x=false then 1 else if(b9 x&&!fits pre x)=true then 7 else bQ (pre++[x]) rest
def cd(f:List It):Int:=if 512<f.length\/1024<eQ 0 f then 3 else bQ [] f
def eF:bH->List It->bH
 |acc,[]=>acc
 |acc,x::r=>if(b9 x&&!acc.contains x.id)=true then eF (acc++[x.id]) r else eF acc r
def awm(f:List It):bH:=eF [] f
def lu(l:bH):List (V×V):=l.map λn=>(.i .i64 n,.b true)
def Gn(n:Nat)(l:bH):jP n ((lu l).map (·.2)):=vX λx a=>by
 obtain⟨k,_,rfl⟩:=bF.1 a;exact .b _
def BL(n:Int):∀(l:bH) (k:Nat),gV 0 (.i .i64 n) (lu l) k=if n∈l then some (some (k+l.idxOf n,.b true))else some none
 |[],k=>by simp[lu,gV]
 |m::l,k=>by
  have ih:=BL n l (k+1)
  by_cases h:n=m
  .subst h
   have e:gV 0 (.i .i64 n) (lu (n::l)) k=some (some (k,.b true)):=by
    simp only[lu,aH,gV,dD,aT,kO]
   rw[e];simp
  .have f:(n==m)=false:=by simpa using h
   have c:(m==n)=false:=by simpa using λe=>h e.symm
   have e:gV 0 (.i .i64 n) (lu (m::l)) k=gV 0 (.i .i64 n) (lu l) (k+1):=by
    simp only[lu,aH,gV,dD,aT,f]
   rw[e,ih]
   by_cases a:n∈l
   .have d:(m::l).idxOf n=l.idxOf n+1:=by rw[Bj,c];rfl
    rw[az a,az (eV _ a),d];congr 3;omega
   .rw[an a,an (by simp[h,a])]
def eE(n:Nat):bH:=(List.range n).map λ(i:Nat)=>(i:Int)+1
def lp(N i:Nat):dF:=(eE i).map bV++List.replicate (N - i) [V.i .i64 0]
def Cw{N i:Nat}(h:i<=N):(lp N i).length=N:=by simp[lp,eE];omega
def LR{N i:Nat}(h:i<N):(lp N i).set i [V.i .i64 ((i:Int)+1)]=lp N (i+1):=by
 have e:N - i=(N - (i+1))+1:=by omega
 have a:((eE i).map bV).length=i:=by simp[eE]
 simp only[lp];rw[dA _ _ (by omega),a,jm,e,BU,fK];simp[eE,La,bV]
def LS{N i:Nat}(h:i<N):(lp N i).getD i []=[V.i .i64 0]:=by
 have a:((eE i).map bV).length=i:=by simp[eE]
 have e:N - i=(N - (i+1))+1:=by omega
 simp only[lp,aq];rw[aU (by omega),a,jm,e,BU];rfl
def Hp(a b:It):Bool:=a.awb==b.awb&&(a.awd==b.awd&&a.id==b.id)
def vC{a b:It}:Hp a b=true<->a=b:=by
 obtain⟨k,t,i⟩:=a;obtain⟨e,c,d⟩:=b;simp[Hp]
def gL:List It->List It->Bool
 |[],[]=>true
 |a::x,b::y=>Hp a b&&gL x y
 |_,_=>false
def sW:∀{a b:List It},gL a b=true<->a=b
 |[],[]=>by simp[gL]
 |a::x,b::y=>by simp[gL,vC,sW (a:=x) (b:=y)]
 |[],b::y=>by simp[gL]
 |a::x,[]=>by simp[gL]
def ML:∀{a b:List It},gL a b=true->a.length=b.length:=λh=>by rw[sW.1 h]
def awp:List It->aG×List It
 |[]=>([],[])
 |x::r=>if x.awb=1 then(x.awd++(awp r).1,(awp r).2)else([],x::r)
def GB:∀(l:List It),(awp l).2.length<=l.length
 |[]=>aD _
 |x::r=>by
  have:=GB r;simp only[awp];split
  .simp only[ai];omega
  .exact aD _
def lU:Nat->List It->List It
 |0,_=>[]
 |_+1,[]=>[]
 |n+1,x::r=>if x.awb≠1 then x::lU n r else
   if(awp (x::r)).1.length=0 then lU n (awp (x::r)).2 else⟨1,(awp (x::r)).1,0⟩::lU n (awp (x::r)).2
def awl(f:List It):List It:=lU f.length f
def bd:List It->Nat
 |[]=>0
 |x::r=>x.awd.length+bd r
def Cg:∀(l:List It),∃a,l=a++(awp l).2
 |[]=>⟨[],rfl⟩
 |x::r=>by
  obtain⟨a,h⟩:=Cg r
  by_cases b:x.awb=1
  .refine⟨x::a,?_⟩;simp only[awp,b,aT,bJ];rw[<- h]
  .exact⟨[],by simp[awp,b]⟩
def th{x:It}{r:List It}(h:x.awb=1):(awp (x::r)).2.length<=r.length:=by
 simp only[awp,h,aT];exact GB r
def DB:∀(l:List It),(awp l).1.length+bd (awp l).2=bd l
 |[]=>rfl
 |x::r=>by
  have:=DB r
  by_cases a:x.awb=1
  .simp only[awp,a,aT,aj,bd];omega
  .simp[awp,a,bd]
def Dm:bH->bH->Int->Cc
 |a::fr,b::to,x=>if x=a then some b else Dm fr to x
 |_,_,_=>none
def WU(fr a:bH)(x:It):Option It:=if b9 x then(Dm fr a x.id).map λn=>⟨x.awb,x.awd,n⟩else some x
def awv(f:List It)(fr a:bH):List It:=f.filterMap (WU fr a)
def rename(f:List It)(fr a:bH):List It:=awl (awv f fr a)
def jl(l m:bH):bH:=m.foldl (λl n=>if l.contains n then l else l++[n]) l
def cS(s t:List It):bH:=jl (awm s) (awm t)
def gK(s t:List It):List It:=rename s (cS s t) (eE (cS s t).length)
def iq(s t:List It):List It:=rename t (cS s t) (eE (cS s t).length)
def uB(l:eR):List (V×V):=emap keI keI l
def He(n:Nat)(l:eR):jP n ((uB l).map (·.2)):=vX λx a=>by
 obtain⟨k,_,rfl⟩:=bF.1 a;exact .i _ _
def GR(l:eR)(a:Int):
  (cX a l=none/\gV 0 (.i .i64 a) (uB l) 0=some none/\∀b,uB l++[(V.i .i64 a,V.i .i64 b)]=uB (iZ l a b)) \/
  (∃i c,cX a l=some c/\gV 0 (.i .i64 a) (uB l) 0=some (some (i,.i .i64 c))/\∀b,(uB l).set i (V.i .i64 a,V.i .i64 b)=uB (iZ l a b)):=oc TJ l a
def PI{fr a:bH}{i:Nat}(h1:i<fr.length)(b:i<a.length)(x:Int):Dm (fr.drop i) (a.drop i) x=if x=fr.getD i 0 then some (a.getD i 0)else Dm (fr.drop (i+1)) (a.drop (i+1)) x:=by
 rw[dG h1,dG b];simp only[Dm];simp[aq,h1,b]
def UP{fr a:bH}{i:Nat}(h:min fr.length a.length<=i)(x:Int):Dm (fr.drop i) (a.drop i) x=none:=by
 by_cases b:fr.length<=i
 .rw[KV b];simp[Dm]
 .have c:a.length<=i:=by omega
  rw[KV c];cases fr.drop i<;>simp[Dm]
def tE(f:List It)(fr a:bH):(awv f fr a).length<=f.length:=kr _ _
def DE(f:List It)(fr b:bH):bd (awv f fr b)<=bd f:=by
 induction f with
 |nil=>exact aD _
 |cons x f ih =>
  simp only[awv,lE]at ih |-;split
  .simp only[bd];omega
  .rename_i y a
   have:y.awd=x.awd:=by
    simp only[WU]at a;split at a
    .rw[aF]at a;obtain⟨n,_,rfl⟩:=a;rfl
    .simp at a;rw[a]
   simp only[bd,this];omega
def z7(m:bH):∀(l:bH),(jl l m).length<=l.length+m.length:=by
 induction m with
 |nil=>intro l;simp[jl]
 |cons n m ih =>
  intro l;simp only[jl,dW]at ih |-;have:=ih (if l.contains n then l else l++[n]);split at this
  .simp only[ai];rw[az (by assumption)];omega
  .simp only[ai];rw[an (by assumption)];simp at this |-;omega
def Hl(f:List It):∀(acc:bH),(eF acc f).length<=acc.length+f.length:=by
 induction f with
 |nil=>intro acc;simp[eF]
 |cons x f ih =>
  intro acc;simp only[eF];split
  .have:=ih (acc++[x.id]);simp at this |-;omega
  .have:=ih acc;simp;omega
def jE(f:List It):(awm f).length<=f.length:=by
 have:=Hl f [];simpa[awm]using this
def eP{p:UInt8->Prop}(h:∀n:Fin 256,p (UInt8.ofNat n.val))(c:UInt8):p c:=by
 have:=h ⟨c.toNat,c.toNat_lt⟩;simpa using this
def qM(c:UInt8):Bool:=c != 92&&c != 60&&c != 123&&c != 9&&c != 10&&c != 13&&ei c != 1
def gn(n:Nat):UInt8:=if n<10 then UInt8.ofNat (48+n)else UInt8.ofNat (87+n)
def du(c:UInt8):aG :=
 if qM c then[c]else if c=10 then[92,110]else if c=9 then[92,116]else if c=92\/c=60\/c=123 then[92,c]else[92,120,gn (c.toNat / 16),gn (c.toNat % 16)]
def gE(c:UInt8):UInt8×Bool :=
 if 48<=c.toNat/\c.toNat<=57 then(UInt8.ofNat (c.toNat - 48),true)else if 97<=c.toNat/\c.toNat<=102 then(UInt8.ofNat (c.toNat - 87),true)else(0,false)
def tT(c:UInt8):(gE c).1.toNat<16:=by
 revert c;exact eP (by decide +kernel)
def fQ(a b:UInt8):UInt8:=UInt8.ofNat (16*(gE a).1.toNat+(gE b).1.toNat)
def dj(s:aG):UInt8×Int×Bool :=
 if s.length<2 then(0,0,false)else
 let c:=s.getD 1 0
 if c=92\/c=60\/c=123 then(c,2,true)else if c=110 then(10,2,true)else if c=116 then(9,2,true)else if c=120 then
  if s.length<4 then(0,0,false)else
  let b:=fQ (s.getD 2 0) (s.getD 3 0)
  (b,4,(gE (s.getD 2 0)).2&&(gE (s.getD 3 0)).2&&(b==13||ei b==1))
 else(0,0,false)
def cQ(c:UInt8):Bool:=48<=c.toNat&&c.toNat<=57
def cR(n:Int)(s:aG):Int:=s.foldl (λn c=>10*n+(c.toNat - 48:Int)) n
def awn(s:aG):Int×Bool :=
 if s.length<1\/3<s.length\/s.getD 0 0=48 then(0,false)else if s.all cQ then(cR 0 s,true)else(0,false)
def zK(s:aG):∀(n:Int) (k:Nat),s.length=k->s.all cQ=true->0<=n->0<=cR n s/\cR n s<10^k*(n+1):=by
 induction s with
 |nil=>intro n k a _ f;simp at a;subst a;simp[cR];omega
 |cons c s ih =>
  intro n k a b f;simp only[gO,aJ]at b;have e:=b.1;simp only[cQ,aJ,aV]at e;obtain⟨k,rfl⟩:∃j,k=j+1:=⟨s.length,by simpa using a.symm⟩;have h:=ih (10*n+(c.toNat - 48:Int)) k (by simpa using a) b.2 (by omega);simp only[cR,dW]at h |-;refine⟨h.1,Int.lt_of_lt_of_le h.2 ?_⟩;have d:(10*n+(c.toNat - 48:Int))+1<=10*(n+1):=by omega
  have g:=qG d (show(0:Int)<=10^k from Int.pow_nonneg (by omega));have i:(10:Int)^(k+1)*(n+1)=10^k*(10*(n+1)):=by rw[Int.pow_succ];simp only[Int.mul_assoc]
  omega
def iL(s:aG):It×Bool :=
 let close:=aws s [47];let s:=if close then s.drop 1 else s
 let p:=cutAt s 58;let empty:=!close&&awt p.2.1 [47];let a:Int:=if close then 3 else if empty then 4 else 2
 let content:=if empty then p.2.1.take (p.2.1.length - 1)else p.2.1
 if p.2.2&&(awn p.1).2 then(⟨a,content,(awn p.1).1⟩,if a=3 then awj content else cV content)else(⟨0,[],0⟩,false)
def gH:It:=⟨0,[],0⟩
def aX(s:aG):It×Int×Bool :=
 let c:=s.getD 0 0
 if c=92 then(⟨1,[(dj s).1],0⟩,(dj s).2.1,(dj s).2.2)
 else if c=60 then
  let e:=Lib.indexByte s 62
  if e<0 then(gH,0,false)else
  let t:=(s.take e.toNat).drop 1
  ((iL t).1,e+1,(iL t).2)
 else if c=123 then
  let e:=Lib.indexByte s 125
  if e<0\/awj ((s.take e.toNat).drop 1)=false then(gH,0,false)else(⟨5,(s.take e.toNat).drop 1,0⟩,e+1,true)
 else(⟨1,s.take 1,0⟩,1,qM c)
def aeI(c:UInt8)(h:48<=c.toNat/\c.toNat<=57):gE c=(UInt8.ofNat (c.toNat - 48),true)/\IntKind.u8.wrap ((c.toNat:Int) - 48)=((gE c).1.toNat:Int):=by
 have a:gE c=(UInt8.ofNat (c.toNat - 48),true):=by simp only[gE,h,jx,aT]
 refine⟨a,?_⟩;rw[a];revert h a;revert c;exact eP (by decide +kernel)
def aeH(c:UInt8)(h:97<=c.toNat/\c.toNat<=102):gE c=(UInt8.ofNat (c.toNat - 87),true)/\IntKind.u8.wrap (IntKind.u8.wrap ((c.toNat:Int) - 97)+10)=((gE c).1.toNat:Int):=by
 have b:¬(48<=c.toNat/\c.toNat<=57):=by omega
 have a:gE c=(UInt8.ofNat (c.toNat - 87),true):=by simp only[gE,b,h,jx,aT,aS]
 refine⟨a,?_⟩;rw[a];revert h b a;revert c;exact eP (by decide +kernel)
def ah9(c:UInt8)(h0:¬(48<=c.toNat/\c.toNat<=57))(h:¬(97<=c.toNat/\c.toNat<=102)):gE c=(0,false):=by
 simp only[gE,h0,h,aS]
def TX(a b:UInt8):
  IntKind.u8.wrap (((BitVec.ofInt IntKind.u8.bits (IntKind.u8.wrap (((gE a).1.toNat:Int)*2^(min 4 IntKind.u8.bits))) ||| BitVec.ofInt IntKind.u8.bits ((gE b).1.toNat:Int)).toNat:Nat):Int)=((fQ a b).toNat:Int):=by
 have c:∀m n:Fin 16,IntKind.u8.wrap (((BitVec.ofInt IntKind.u8.bits (IntKind.u8.wrap ((m.val:Int)*2^(min 4 IntKind.u8.bits))) ||| BitVec.ofInt IntKind.u8.bits (n.val:Int)).toNat:Nat):Int)=((UInt8.ofNat (16*m.val+n.val)).toNat:Int):=by decide +kernel
 exact c ⟨_,tT a⟩ ⟨_,tT b⟩
def Zd(c:UInt8)(h:cQ c=true):IntKind.u8.wrap ((c.toNat:Int) - 48)=(c.toNat:Int) - 48:=by
 revert h;revert c;exact eP (by decide +kernel)
def Fp(a b:UInt8):((a.toNat:Int)==(b.toNat:Int))=(a==b):=by
 rw[cB];simp only[cE];constructor
 .intro h;exact uV.1 (by omega)
 .intro h;rw[h]
def agY(a b:UInt8):((a.toNat:Int) != (b.toNat:Int))=(a != b):=by
 simp only[bne,Fp]
def xN{c d:UInt8}{k:Int}(h:¬c=d)(a:(d.toNat:Int)=k):((c.toNat:Int)==k)=false:=by
 subst a;rw[Fp];simpa using h
def Wq{c d:UInt8}{k:Int}(h:c=d)(a:(d.toNat:Int)=k):((c.toNat:Int)==k)=true:=by
 subst a;rw[Fp];simpa using h
def lW(l:aG)(c:UInt8)(h:l.getD 0 0≠c)(d:¬Lib.indexByte l c<0):1<=Lib.indexByte l c:=by
 cases l with
 |nil=>simp[Lib.indexByte]at d
 |cons b l =>
  have g:¬b=c:=h;have g:(b==c)=false:=by simpa using g
  have e:∀l:aG,-1<=Lib.indexByte l c:=by
   intro l
   induction l with
   |nil=>simp[Lib.indexByte]
   |cons a l ih =>
    simp only[Lib.indexByte];split
    .omega
    .split<;>omega
  have j:=e l;simp only[Lib.indexByte,g,aI,aS]at d |-
  by_cases f:(Lib.indexByte l c == -1)=true
  .rw[az f]at d;omega
  .rw[an f]at d |-;have i:Lib.indexByte l c ≠ -1:=by simpa using f
   omega
structure Rd where
 f:List It
 awd:aG
 len:Nat
 tags:List (Int×It)
def ig(s:Rd):Rd:=if 0<s.awd.length then⟨s.f++[⟨1,s.awd,0⟩],[],s.len,s.tags⟩else s
def uv(x:It):V:=.agg x.awa
def yg(l:List (Int×It)):List (V×V):=emap keI uv l
def Bg(n:Nat)(l:List (Int×It)):jP n ((yg l).map (·.2)):=vX λx a=>by
 obtain⟨k,_,rfl⟩:=bF.1 a;exact aai.2 (by simp[It.awa,jP,adB,ahm])
def GQ(l:List (Int×It))(a:Int):
  (cX a l=none/\gV 0 (.i .i64 a) (yg l) 0=some none/\∀b,yg l++[(V.i .i64 a,uv b)]=yg (iZ l a b)) \/
  (∃i c,cX a l=some c/\gV 0 (.i .i64 a) (yg l) 0=some (some (i,uv c))/\∀b,(yg l).set i (V.i .i64 a,uv b)=yg (iZ l a b)):=oc TJ l a
def tagged(x:It):Bool:=x.awb != 1&&x.awb != 5
def vT(s:Rd)(x:It):Bool:=match cX x.id s.tags with
 |some b=>x.awb != 3||b.awb != 2||cW b.awd != x.awd
 |none=>false
def mQ(s:Rd)(x:It):Nat:=s.f.length+(if 0<s.awd.length then 1 else 0)+(if x.awb≠1\/s.awd.length=0 then 1 else 0)
def rf(s:Rd)(x:It):Rd:=⟨s.f,s.awd,s.len+1,if tagged x then iZ s.tags x.id x else s.tags⟩
def Ax(s:Rd)(x:It):Rd:=⟨s.f++[x],s.awd,s.len,s.tags⟩
def lG(s:Rd)(x:It):Int×Rd :=
 if tagged x&&vT s x then(7,s)else if 512<mQ s x\/1024<s.len+1 then(3,s)else
 if x.awb=1 then(0,⟨s.f,s.awd++x.awd,s.len+1,s.tags⟩)else(0,Ax (ig (rf s x)) x)
def IN:Rd:=⟨[],[],0,[]⟩
def nV:Nat->Rd->aG->Int->List It×Int×Int
 |0,_,_,at'=>([],at',2)
 |_+1,s,[],_=>((ig s).f,0,0)
 |n+1,s,c::l,at' =>
  let e:=aX (c::l)
  if e.2.2=false then([],at',2)else
  let r:=lG s e.1
  if r.1≠0 then([],at',r.1)else nV n r.2 ((c::l).drop e.2.1.toNat) (at'+e.2.1)
def parse(s:aG):List It×Int×Int:=nV (s.length+1) IN s 0
structure Rd.ok (r:Rd):Prop where
 f:r.f.length+(if 0<r.awd.length then 1 else 0)<=r.len
 awd:r.awd.length<=r.len
 len:r.len<=1024
def WX(r:Rd):(ig r).f.length=r.f.length+(if 0<r.awd.length then 1 else 0):=by
 simp only[ig];split<;>rename_i h<;>simp[h]
def DI(r:Rd):(ig r).awd.length=0:=by
 simp only[ig];split<;>rename_i h
 .rfl
 .simpa using h
def GF(r:Rd):(ig r).len=r.len:=by
 simp only[ig];split<;>rfl
def ZH{r:Rd}{x:It}(h:r.ok)(e:x.awb=1->x.awd.length<=1)(h0:(lG r x).1=0):(lG r x).2.ok:=by
 obtain⟨d,f,g⟩:=h;simp only[lG]at h0 |-;split
 .rename_i a;rw[az a]at h0;simp at h0
 .rename_i a;rw[an a]at h0;split
  .rename_i b;rw[az b]at h0;simp at h0
  .rename_i b;split
   .rename_i c;have:=e c;refine⟨?_,?_,?_⟩
    .simp only[aj];split at d<;>split<;>omega
    .simp only[aj];omega
    .simp only;omega
   .refine⟨?_,?_,?_⟩
    .simp only[Ax,aj,ai,al,WX,DI,GF,rf];simp only[Nat.lt_irrefl,aS];omega
    .simp only[Ax,DI];omega
    .simp only[Ax,GF,rf];omega
def uU(l:aG)(c:UInt8):(cutAt l c).1.length<=l.length/\(cutAt l c).2.1.length<=l.length:=by
 simp only[cutAt];split
 .simp;omega
 .simp
def SP(s:aG):(iL s).1.awd.length<=s.length/\(iL s).1.awb≠1:=by
 have a:=(uU s 58).2;have c:=(uU (s.drop 1) 58).2;have b:(s.drop 1).length<=s.length:=by simp
 unfold iL;dsimp only;cases aws s [47]with
 |true =>
  simp only[aT,fO,dR,aI,aS];split
  .exact⟨cu c b,by simp⟩
  .exact⟨by simp,by simp⟩
 |false =>
  simp only[aI,aS,iw,cc];cases awt (cutAt s 58).2.1 [47]with
  |true =>
   simp only[aT];split
   .exact⟨by rw[aP];omega,by simp⟩
   .exact⟨by simp,by simp⟩
  |false =>
   simp only[aI,aS];split
   .exact⟨a,by simp⟩
   .exact⟨by simp,by simp⟩
def od{s:aG}(g:s≠[]):(aX s).1.awd.length<=s.length/\((aX s).1.awb=1->(aX s).1.awd.length<=1) /\
  ((aX s).2.2=true->1<=(aX s).2.1/\(aX s).2.1<=s.length):=by
 have i:0<s.length:=cT.2 g;simp only[aX]
 by_cases b:s.getD 0 0=92
 .rw[az b];refine⟨by simp;omega,λ_=>by simp,?_⟩;simp only[dj];split
  .intro h;simp at h
  .split
   .intro _;simp;omega
   .split
    .intro _;simp;omega
    .split
     .intro _;simp;omega
     .split
      .split
       .intro h;simp at h
       .intro _;simp;omega
      .intro h;simp at h
 .rw[an b]
  by_cases c:s.getD 0 0=60
  .rw[az c];have f:=mL s 62;split
   .exact⟨by simp[gH],by simp[gH],by simp⟩
   .rename_i h;have d:=SP ((s.take (Lib.indexByte s 62).toNat).drop 1);refine⟨cu d.1 (by simp;omega),λh=>absurd h d.2,λ_=>?_⟩;simp only;omega
  .rw[an c]
   by_cases a:s.getD 0 0=123
   .rw[az a];have f:=mL s 125;split
    .exact⟨by simp[gH],by simp[gH],by simp⟩
    .rename_i h;have:¬Lib.indexByte s 125<0:=λe=>h (.inl e);refine⟨by simp;omega,λh=>by simp at h,λ_=>?_⟩;simp only;omega
   .rw[an a];refine⟨by simp;omega,λ_=>by simp;omega,λ_=>?_⟩;simp only;omega
def nE(l:bH)(n:Int):bH:=if l.contains n then l else l++[n]
def aaN{l:bH}{n m:Int}(h:m∈l):m∈nE l n:=by
 simp only[nE];split
 .exact h
 .simp[h]
def XM(l:bH)(n:Int):n∈nE l n:=by
 simp only[nE];split
 .rename_i h;simpa using h
 .simp
def Ka:∀(b:bH) {acc:bH} {m:Int},m∈acc->m∈b.foldl nE acc
 |[],_,_,h=>h
 |_::b,_,_,h=>Ka b (aaN h)
def BI:∀(b:bH) {acc:bH} {m:Int},m∈b->m∈b.foldl nE acc
 |n::b,acc,m,h=>by
  rcases bC.1 h with rfl|h
  .exact Ka b (XM _ _)
  .exact BI b h
def Yf(b acc:bH)(n:Int):(nE b n).foldl nE acc=nE (b.foldl nE acc) n:=by
 by_cases h:b.contains n=true
 .have e:nE b n=b:=by simp only[nE,h,aT]
  have c:n∈b:=by simpa using h
  have a:(b.foldl nE acc).contains n=true:=by simpa using BI b (acc:=acc) c
  rw[e];simp only[nE,a,aT]
 .have e:nE b n=b++[n]:=by simp only[nE,h];rfl
  rw[e,List.foldl_append];rfl
def G4:∀(l b acc:bH),(l.foldl nE b).foldl nE acc=l.foldl nE (b.foldl nE acc)
 |[],_,_=>rfl
 |n::l,b,acc=>by
  simp only[dW];rw[G4 l (nE b n) acc,Yf]
def nD:∀(f:List It) (acc:bH),eF acc f=((f.filter b9).map (·.id)).foldl nE acc
 |[],_=>rfl
 |x::f,acc=>by
  simp only[eF];cases a:b9 x with
  |false =>
   simp only[dR,aI,aS,fx,a];exact nD f acc
  |true =>
   simp only[cc,fx,a,aT,aH,dW]
   by_cases h:acc.contains x.id=true
   .simp only[h,fO,aI,aS,nE,aT];exact nD f acc
   .simp only[h,iw,aT,nE,aS,aI];exact nD f _
def vv(s t:List It):awm (s++t)=cS s t:=by
 have e:∀l m:bH,jl l m=m.foldl nE l:=λ_ _=>rfl;simp only[cS,e,awm,nD,kG,cM,List.foldl_append];rw[G4];rfl
end Go.Bt
