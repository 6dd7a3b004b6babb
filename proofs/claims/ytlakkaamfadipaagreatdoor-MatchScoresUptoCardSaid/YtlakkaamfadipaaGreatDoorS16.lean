/- A part of a proof; the claim's last text says of what. -/
import Derived.Lib.Bytealg
import Derived.Test.YtlakkaamfadipaaGreatDoorS15
set_option linter.all false

namespace Go.Bt
open Go Go.Pm
structure It where
 ah9:Int
 aib:List UInt8
 id:Int
def It.ah7(x:It):List V:=[.i .i64 x.ah9,.s x.aib,.i .i64 x.id]
def width(x:It):Int:=if x.ah9=1 then x.aib.length else 1
def ff(a:Int)(l:List It):Int:=l.foldl (fun a x=>IntKind.i64.wrap (a+width x)) a
structure JJ where
 time:Int
 jT:Int
 number:Int
def JJ.ah7(x:JJ):List V:=[.i .i64 x.time,.i .i64 x.jT,.i .i64 x.number]
def P8(s:JJ):Bool:=decide (1≤s.time∧s.time≤2^30∧0≤s.jT∧s.jT<8∧1≤s.number∧s.number≤128)
def ou(b:UInt8):Bool:=(97≤b.toNat&&b.toNat≤122)||(48≤b.toNat&&b.toNat≤57)||b.toNat==45
def ain(s:List UInt8):Bool:=match s with
 | []=>false
 | c::r=>decide (s.length≤24)&&decide (97≤c.toNat∧c.toNat≤122)&&r.all ou
def Wt(v:List Int)(o:Int):Int:=if o<0∨(v.length:Int)≤o∨8≤o then 0 else if v.getD o.toNat 0<0 then 0 else v.getD o.toNat 0
def l5(a b:Int):Int:=if a<b then -1 else if b<a then 1 else 0
def xA:List Int→Int
 | []=>0
 | x::r=>if x≠0 then x else xA r
def NQ(a b:List Int)(n:Nat):List Int:=(List.range n).map fun(i:Nat)=>let x:=Wt a i;let y:=Wt b i;if x<y then y else x
def Fb(a b:List Int):Nat→Nat
 | 0=>0
 | n+1=>if(let x:=Wt a n;let y:=Wt b n;if x<y then y else x)≠0 then n+1 else Fb a b n
def Ws(a b:List Int):List Int:=(NQ a b 8).take (Fb a b 8)
def cutAt(l:List UInt8)(c:UInt8):List UInt8×List UInt8×Bool :=
 if 0≤Lib.indexByte l c then(l.take (Lib.indexByte l c).toNat,l.drop ((Lib.indexByte l c).toNat+1),true)else(l,[],false)
theorem kt(l:List UInt8)(c:UInt8):Lib.indexByte l c<l.length:=by
 induction l with
 | nil=>simp[Lib.indexByte]
 | cons b l ih =>
  simp only[Lib.indexByte,ai];split
  ·omega
  ·split<;>omega
def hasPrefix(l p:List UInt8):Bool:=decide (p.length≤l.length)&&l.take p.length==p
def hasSuffix(l p:List UInt8):Bool:=decide (p.length≤l.length)&&l.drop (l.length - p.length)==p
def ey(l:List UInt8):List UInt8:=(cutAt l 32).1
def dd(b:UInt8):Int :=
 if b.toNat=9∨b.toNat=10∨b.toNat=13∨b.toNat=32 then 2 else if b.toNat<32∨b.toNat=127 then 1 else if 48≤b.toNat∧b.toNat≤57 then 3
 else if 97≤b.toNat∧b.toNat≤122∨65≤b.toNat∧b.toNat≤90∨128≤b.toNat then 4 else 5
def mK(b:UInt8):Bool:=decide (b.toNat<32)||decide (126<b.toNat)||decide (0≤Lib.indexByte [60,62,123,125] b)
def ki(s:List UInt8):Bool:=decide (s.length≤64)&&decide (s.length≠0)&&decide ((s.getD (s.length - 1) 0).toNat≠47)
def wL(s:List UInt8):Bool:=ain (cutAt s 32).1&&(!(cutAt s 32).2.2||decide (0<(cutAt s 32).2.1.length))
def fB(s:List UInt8):Bool:=ki s&&s.all (fun b=>!mK b)&&wL s
def bW(x:It):Bool:=x.ah9==2||x.ah9==3||x.ah9==4
def iT(x y:It):Bool:=!(!bW y||y.id != x.id)&&(x.ah9 != 3||y.ah9 != 2||!(ey y.aib==x.aib))
def fits(before:List It)(x:It):Bool:=before.all fun y=>!iT x y
def cH(p:Option It)(x:It):Bool :=
 if x.ah9=1 then !(x.aib==[])&&x.id==0&&(match p with | none=>true | some y=>y.ah9 != 1)
 else if x.ah9=5 then ain x.aib&&x.id==0
 else if x.ah9=2∨x.ah9=4 then fB x.aib&&decide (1≤x.id)&&decide (x.id≤999)
 else if x.ah9=3 then ain x.aib&&decide (1≤x.id)&&decide (x.id≤999)
 else false
def bA:List It→List It→Int
 | _,[]=>0
 | pre,x::rest=>if cH pre.getLast? x=false then 1 else if(bW x&&!fits pre x)=true then 7 else bA (pre++[x]) rest
def bX(f:List It):Int:=if 512<f.length∨1024<ff 0 f then 3 else bA [] f
def ck:List Int→List It→List Int
 | acc,[]=>acc
 | acc,x::r=>if(bW x&&!acc.contains x.id)=true then ck (acc++[x.id]) r else ck acc r
def aio(f:List It):List Int:=ck [] f
def fK(l:List Int):List (V×V):=l.map fun n=>(.i .i64 n,.b true)
theorem vD(n:Nat)(l:List Int):eI n ((fK l).map (·.2)):=mO fun x hx=>by
 obtain⟨k,_,rfl⟩:=bH.1 hx;exact .b _
theorem rz(n:Int):∀ (l:List Int) (k:Nat),dM 0 (.i .i64 n) (fK l) k=if n∈l then some (some (k+l.idxOf n,.b true))else some none
 | [],k=>by simp[fK,dM]
 | m::l,k=>by
  have ih:=rz n l (k+1)
  by_cases h:n=m
  ·subst h
   have e:dM 0 (.i .i64 n) (fK (n::l)) k=some (some (k,.b true)):=by
    simp only[fK,ay,dM,bY,aL,xl]
   rw[e];simp
  ·have h1:(n==m)=false:=by simpa using h
   have h2:(m==n)=false:=by simpa using fun e=>h e.symm
   have e:dM 0 (.i .i64 n) (fK (m::l)) k=dM 0 (.i .i64 n) (fK l) (k+1):=by
    simp only[fK,ay,dM,bY,aL,h1]
   rw[e,ih]
   by_cases h3:n∈l
   ·have h4:(m::l).idxOf n=l.idxOf n+1:=by rw[Ak,h2];rfl
    rw[bf h3,bf (dh _ h3),h4];congr 3;omega
   ·rw[aI h3,aI (by simp[h,h3])]
def cc(n:Nat):List Int:=(List.range n).map fun(i:Nat)=>(i:Int)+1
def fD(N i:Nat):List (List V):=(cc i).map bR++List.replicate (N - i) [V.i .i64 0]
theorem sf{N i:Nat}(h:i≤N):(fD N i).length=N:=by simp[fD,cc];omega
theorem AR{N i:Nat}(h:i<N):(fD N i).set i [V.i .i64 ((i:Int)+1)]=fD N (i+1):=by
 have e:N - i=(N - (i+1))+1:=by omega
 have hl:((cc i).map bR).length=i:=by simp[cc]
 simp only[fD];rw[cd _ _ (by omega),hl,eJ,e,rF,jV];simp[cc,Ai,bR]
theorem AS{N i:Nat}(h:i<N):(fD N i).getD i []=[V.i .i64 0]:=by
 have hl:((cc i).map bR).length=i:=by simp[cc]
 have e:N - i=(N - (i+1))+1:=by omega
 simp only[fD,an];rw[aA (by omega),hl,eJ,e,rF];rfl
def Hl(a b:It):Bool:=a.ah9==b.ah9&&(a.aib==b.aib&&a.id==b.id)
theorem NR{a b:It}:Hl a b=true↔a=b:=by
 obtain⟨k,t,i⟩:=a;obtain⟨k',t',i'⟩:=b;simp[Hl]
def ju:List It→List It→Bool
 | [],[]=>true
 | a::x,b::y=>Hl a b&&ju x y
 | _,_=>false
theorem rl:∀ {a b:List It},ju a b=true↔a=b
 | [],[]=>by simp[ju]
 | a::x,b::y=>by simp[ju,NR,rl (a:=x) (b:=y)]
 | [],b::y=>by simp[ju]
 | a::x,[]=>by simp[ju]
theorem Lb:∀ {a b:List It},ju a b=true→a.length=b.length:=fun h=>by rw[rl.1 h]
def aie:List It→List UInt8×List It
 | []=>([],[])
 | x::r=>if x.ah9=1 then(x.aib++(aie r).1,(aie r).2)else([],x::r)
theorem vO:∀ (l:List It),(aie l).2.length≤l.length
 | []=>aq _
 | x::r=>by
  have:=vO r;simp only[aie];split
  ·simp only[ai];omega
  ·exact aq _
def gD:Nat→List It→List It
 | 0,_=>[]
 | _+1,[]=>[]
 | n+1,x::r=>if x.ah9≠1 then x::gD n r else
   if(aie (x::r)).1.length=0 then gD n (aie (x::r)).2 else⟨1,(aie (x::r)).1,0⟩::gD n (aie (x::r)).2
def aih(f:List It):List It:=gD f.length f
def aH:List It→Nat
 | []=>0
 | x::r=>x.aib.length+aH r
theorem rT:∀ (l:List It),∃ run,l=run++(aie l).2
 | []=>⟨[],rfl⟩
 | x::r=>by
  obtain⟨run,h⟩:=rT r
  by_cases hk:x.ah9=1
  ·refine⟨x::run,?_⟩;simp only[aie,hk,aL,bn];rw[← h]
  ·exact⟨[],by simp[aie,hk]⟩
theorem nJ{x:It}{r:List It}(h:x.ah9=1):(aie (x::r)).2.length≤r.length:=by
 simp only[aie,h,aL];exact vO r
theorem tm:∀ (l:List It),(aie l).1.length+aH (aie l).2=aH l
 | []=>rfl
 | x::r=>by
  have:=tm r
  by_cases hk:x.ah9=1
  ·simp only[aie,hk,aL,al,aH];omega
  ·simp[aie,hk,aH]
def Ab:List Int→List Int→Int→Option Int
 | a::fr,b::to,x=>if x=a then some b else Ab fr to x
 | _,_,_=>none
def Kk(fr to:List Int)(x:It):Option It:=if bW x then(Ab fr to x.id).map fun n=>⟨x.ah9,x.aib,n⟩else some x
def aip(f:List It)(fr to:List Int):List It:=f.filterMap (Kk fr to)
def rename(f:List It)(fr to:List Int):List It:=aih (aip f fr to)
def dV(l m:List Int):List Int:=m.foldl (fun l n=>if l.contains n then l else l++[n]) l
def bE(s t:List It):List Int:=dV (aio s) (aio t)
def eu(s t:List It):List It:=rename s (bE s t) (cc (bE s t).length)
def eF(s t:List It):List It:=rename t (bE s t) (cc (bE s t).length)
def lT(l:List (Int×Int)):List (V×V):=emap VT VT l
theorem wP(n:Nat)(l:List (Int×Int)):eI n ((lT l).map (·.2)):=mO fun x hx=>by
 obtain⟨k,_,rfl⟩:=bH.1 hx;exact .i _ _
theorem wg(l:List (Int×Int))(a:Int):
  (bS a l=none∧dM 0 (.i .i64 a) (lT l) 0=some none∧∀ b,lT l++[(V.i .i64 a,V.i .i64 b)]=lT (eO l a b)) ∨
  (∃ i b0,bS a l=some b0∧dM 0 (.i .i64 a) (lT l) 0=some (some (i,.i .i64 b0))∧∀ b,(lT l).set i (V.i .i64 a,V.i .i64 b)=lT (eO l a b)):=iB Hk l a
theorem D1{fr to:List Int}{i:Nat}(h1:i<fr.length)(h2:i<to.length)(x:Int):Ab (fr.drop i) (to.drop i) x=if x=fr.getD i 0 then some (to.getD i 0)else Ab (fr.drop (i+1)) (to.drop (i+1)) x:=by
 rw[db h1,db h2];simp only[Ab];simp[an,h1,h2]
theorem Im{fr to:List Int}{i:Nat}(h:min fr.length to.length≤i)(x:Int):Ab (fr.drop i) (to.drop i) x=none:=by
 by_cases h1:fr.length≤i
 ·rw[ad0 h1];simp[Ab]
 ·have h2:to.length≤i:=by omega
  rw[ad0 h2];cases fr.drop i<;>simp[Ab]
theorem vR(f:List It)(fr to:List Int):(aip f fr to).length≤f.length:=jl _ _
theorem tt(f:List It)(fr to:List Int):aH (aip f fr to)≤aH f:=by
 induction f with
 | nil=>exact aq _
 | cons x f ih =>
  simp only[aip,fR]at ih ⊢;split
  ·simp only[aH];omega
  ·rename_i y hy
   have:y.aib=x.aib:=by
    simp only[Kk]at hy;split at hy
    ·rw[aj]at hy;obtain⟨n,_,rfl⟩:=hy;rfl
    ·simp at hy;rw[hy]
   simp only[aH,this];omega
theorem pC(m:List Int):∀ (l:List Int),(dV l m).length≤l.length+m.length:=by
 induction m with
 | nil=>intro l;simp[dV]
 | cons n m ih =>
  intro l;simp only[dV,c8]at ih ⊢;have:=ih (if l.contains n then l else l++[n]);split at this
  ·simp only[ai];rw[bf (by assumption)];omega
  ·simp only[ai];rw[aI (by assumption)];simp at this ⊢;omega
theorem wW(f:List It):∀ (acc:List Int),(ck acc f).length≤acc.length+f.length:=by
 induction f with
 | nil=>intro acc;simp[ck]
 | cons x f ih =>
  intro acc;simp only[ck];split
  ·have:=ih (acc++[x.id]);simp at this ⊢;omega
  ·have:=ih acc;simp;omega
theorem lA(f:List It):(aio f).length≤f.length:=by
 have:=wW f [];simpa[aio]using this
theorem uD{p:UInt8→Prop}(h:∀ n:Fin 256,p (UInt8.ofNat n.val))(c:UInt8):p c:=by
 have:=h ⟨c.toNat,c.toNat_lt⟩;simpa using this
def uP(c:UInt8):Bool:=c != 92&&c != 60&&c != 123&&c != 9&&c != 10&&c != 13&&dd c != 1
def lP(n:Nat):UInt8:=if n<10 then UInt8.ofNat (48+n)else UInt8.ofNat (87+n)
def ml(c:UInt8):List UInt8 :=
 if uP c then[c]else if c=10 then[92,110]else if c=9 then[92,116]else if c=92∨c=60∨c=123 then[92,c]else[92,120,lP (c.toNat / 16),lP (c.toNat % 16)]
def jG(c:UInt8):UInt8×Bool :=
 if 48≤c.toNat∧c.toNat≤57 then(UInt8.ofNat (c.toNat - 48),true)else if 97≤c.toNat∧c.toNat≤102 then(UInt8.ofNat (c.toNat - 87),true)else(0,false)
theorem Fv(c:UInt8):(jG c).1.toNat<16:=by
 revert c;exact uD (by decide +kernel)
def ru(a b:UInt8):UInt8:=UInt8.ofNat (16*(jG a).1.toNat+(jG b).1.toNat)
def dI(s:List UInt8):UInt8×Int×Bool :=
 if s.length<2 then(0,0,false)else
 let c:=s.getD 1 0
 if c=92∨c=60∨c=123 then(c,2,true)else if c=110 then(10,2,true)else if c=116 then(9,2,true)else if c=120 then
  if s.length<4 then(0,0,false)else
  let b:=ru (s.getD 2 0) (s.getD 3 0)
  (b,4,(jG (s.getD 2 0)).2&&(jG (s.getD 3 0)).2&&(b==13||dd b==1))
 else(0,0,false)
def lQ(c:UInt8):Bool:=48≤c.toNat&&c.toNat≤57
def lu(n:Int)(s:List UInt8):Int:=s.foldl (fun n c=>10*n+(c.toNat - 48:Int)) n
def aiq(s:List UInt8):Int×Bool :=
 if s.length<1∨3<s.length∨s.getD 0 0=48 then(0,false)else if s.all lQ then(lu 0 s,true)else(0,false)
theorem HT(s:List UInt8):∀ (n:Int) (k:Nat),s.length=k→s.all lQ=true→0≤n→0≤lu n s∧lu n s<10^k*(n+1):=by
 induction s with
 | nil=>intro n k hk _ hn;simp at hk;subst hk;simp[lu];omega
 | cons c s ih =>
  intro n k hk hs hn;simp only[me,aO]at hs;have hc:=hs.1;simp only[lQ,aO,aY]at hc;obtain⟨k,rfl⟩:∃ j,k=j+1:=⟨s.length,by simpa using hk.symm⟩;have h:=ih (10*n+(c.toNat - 48:Int)) k (by simpa using hk) hs.2 (by omega);simp only[lu,c8]at h ⊢;refine⟨h.1,Int.lt_of_lt_of_le h.2 ?_⟩;have h3:(10*n+(c.toNat - 48:Int))+1≤10*(n+1):=by omega
  have h4:=jQ h3 (show(0:Int)≤10^k from Int.pow_nonneg (by omega));have h5:(10:Int)^(k+1)*(n+1)=10^k*(10*(n+1)):=by rw[Int.pow_succ];simp only[Int.mul_assoc]
  omega
def jZ(s:List UInt8):It×Bool :=
 let close:=hasPrefix s [47];let s:=if close then s.drop 1 else s
 let p:=cutAt s 58;let empty:=!close&&hasSuffix p.2.1 [47];let ah9:Int:=if close then 3 else if empty then 4 else 2
 let content:=if empty then p.2.1.take (p.2.1.length - 1)else p.2.1
 if p.2.2&&(aiq p.1).2 then(⟨ah9,content,(aiq p.1).1⟩,if ah9=3 then ain content else fB content)else(⟨0,[],0⟩,false)
def C2:It:=⟨0,[],0⟩
def cM(s:List UInt8):It×Int×Bool :=
 let c:=s.getD 0 0
 if c=92 then(⟨1,[(dI s).1],0⟩,(dI s).2.1,(dI s).2.2)
 else if c=60 then
  let e:=Lib.indexByte s 62
  if e<0 then(C2,0,false)else
  let t:=(s.take e.toNat).drop 1
  ((jZ t).1,e+1,(jZ t).2)
 else if c=123 then
  let e:=Lib.indexByte s 125
  if e<0∨ain ((s.take e.toNat).drop 1)=false then(C2,0,false)else(⟨5,(s.take e.toNat).drop 1,0⟩,e+1,true)
 else(⟨1,s.take 1,0⟩,1,uP c)
theorem Ro(c:UInt8)(h:48≤c.toNat∧c.toNat≤57):jG c=(UInt8.ofNat (c.toNat - 48),true)∧IntKind.u8.wrap ((c.toNat:Int) - 48)=((jG c).1.toNat:Int):=by
 have h1:jG c=(UInt8.ofNat (c.toNat - 48),true):=by simp only[jG,h,jx,aL]
 refine⟨h1,?_⟩;rw[h1];revert h h1;revert c;exact uD (by decide +kernel)
theorem Rn(c:UInt8)(h:97≤c.toNat∧c.toNat≤102):jG c=(UInt8.ofNat (c.toNat - 87),true)∧IntKind.u8.wrap (IntKind.u8.wrap ((c.toNat:Int) - 97)+10)=((jG c).1.toNat:Int):=by
 have h0:¬ (48≤c.toNat∧c.toNat≤57):=by omega
 have h1:jG c=(UInt8.ofNat (c.toNat - 87),true):=by simp only[jG,h0,h,jx,aL,aK]
 refine⟨h1,?_⟩;rw[h1];revert h h0 h1;revert c;exact uD (by decide +kernel)
theorem US(c:UInt8)(h0:¬ (48≤c.toNat∧c.toNat≤57))(h:¬ (97≤c.toNat∧c.toNat≤102)):jG c=(0,false):=by
 simp only[jG,h0,h,aK]
theorem HA(a b:UInt8):
  IntKind.u8.wrap (((BitVec.ofInt IntKind.u8.bits (IntKind.u8.wrap (((jG a).1.toNat:Int)*2^(min 4 IntKind.u8.bits))) ||| BitVec.ofInt IntKind.u8.bits ((jG b).1.toNat:Int)).toNat:Nat):Int)=((ru a b).toNat:Int):=by
 have key:∀ m n:Fin 16,IntKind.u8.wrap (((BitVec.ofInt IntKind.u8.bits (IntKind.u8.wrap ((m.val:Int)*2^(min 4 IntKind.u8.bits))) ||| BitVec.ofInt IntKind.u8.bits (n.val:Int)).toNat:Nat):Int)=((UInt8.ofNat (16*m.val+n.val)).toNat:Int):=by decide +kernel
 exact key ⟨_,Fv a⟩ ⟨_,Fv b⟩
theorem MG(c:UInt8)(h:lQ c=true):IntKind.u8.wrap ((c.toNat:Int) - 48)=(c.toNat:Int) - 48:=by
 revert h;revert c;exact uD (by decide +kernel)
theorem uC(a b:UInt8):((a.toNat:Int)==(b.toNat:Int))=(a==b):=by
 rw[gP];simp only[bT];constructor
 ·intro h;exact Sy.1 (by omega)
 ·intro h;rw[h]
theorem TG(a b:UInt8):((a.toNat:Int) != (b.toNat:Int))=(a != b):=by
 simp only[bne,uC]
theorem nZ{c d:UInt8}{k:Int}(h:¬ c=d)(hk:(d.toNat:Int)=k):((c.toNat:Int)==k)=false:=by
 subst hk;rw[uC];simpa using h
theorem JV{c d:UInt8}{k:Int}(h:c=d)(hk:(d.toNat:Int)=k):((c.toNat:Int)==k)=true:=by
 subst hk;rw[uC];simpa using h
theorem rY(l:List UInt8)(c:UInt8)(h:l.getD 0 0≠c)(h2:¬ Lib.indexByte l c<0):1≤Lib.indexByte l c:=by
 cases l with
 | nil=>simp[Lib.indexByte]at h2
 | cons b l =>
  have hb:¬ b=c:=h;have hb:(b==c)=false:=by simpa using hb
  have abQ:∀ l:List UInt8,-1≤Lib.indexByte l c:=by
   intro l
   induction l with
   | nil=>simp[Lib.indexByte]
   | cons a l ih =>
    simp only[Lib.indexByte];split
    ·omega
    ·split<;>omega
  have h3:=abQ l;simp only[Lib.indexByte,hb,aF,aK]at h2 ⊢
  by_cases h4:(Lib.indexByte l c == -1)=true
  ·rw[bf h4]at h2;omega
  ·rw[aI h4]at h2 ⊢;have h5:Lib.indexByte l c ≠ -1:=by simpa using h4
   omega
structure Rd where
 f:List It
 aib:List UInt8
 len:Nat
 tags:List (Int×It)
def fy(s:Rd):Rd:=if 0<s.aib.length then⟨s.f++[⟨1,s.aib,0⟩],[],s.len,s.tags⟩else s
def Uw(x:It):V:=.agg x.ah7
def ow(l:List (Int×It)):List (V×V):=emap VT Uw l
theorem qP(n:Nat)(l:List (Int×It)):eI n ((ow l).map (·.2)):=mO fun x hx=>by
 obtain⟨k,_,rfl⟩:=bH.1 hx;exact Nt.2 (by simp[It.ah7,eI,Qt,T8])
theorem we(l:List (Int×It))(a:Int):
  (bS a l=none∧dM 0 (.i .i64 a) (ow l) 0=some none∧∀ b,ow l++[(V.i .i64 a,Uw b)]=ow (eO l a b)) ∨
  (∃ i b0,bS a l=some b0∧dM 0 (.i .i64 a) (ow l) 0=some (some (i,Uw b0))∧∀ b,(ow l).set i (V.i .i64 a,Uw b)=ow (eO l a b)):=iB Hk l a
def tagged(x:It):Bool:=x.ah9 != 1&&x.ah9 != 5
def BS(s:Rd)(x:It):Bool:=match bS x.id s.tags with
 | some b=>x.ah9 != 3||b.ah9 != 2||ey b.aib != x.aib
 | none=>false
def lI(s:Rd)(x:It):Nat:=s.f.length+(if 0<s.aib.length then 1 else 0)+(if x.ah9≠1∨s.aib.length=0 then 1 else 0)
def ni(s:Rd)(x:It):Rd:=⟨s.f,s.aib,s.len+1,if tagged x then eO s.tags x.id x else s.tags⟩
def vS(s:Rd)(x:It):Rd:=⟨s.f++[x],s.aib,s.len,s.tags⟩
def jA(s:Rd)(x:It):Int×Rd :=
 if tagged x&&BS s x then(7,s)else if 512<lI s x∨1024<s.len+1 then(3,s)else
 if x.ah9=1 then(0,⟨s.f,s.aib++x.aib,s.len+1,s.tags⟩)else(0,vS (fy (ni s x)) x)
def yn:Rd:=⟨[],[],0,[]⟩
def nM:Nat→Rd→List UInt8→Int→List It×Int×Int
 | 0,_,_,at'=>([],at',2)
 | _+1,s,[],_=>((fy s).f,0,0)
 | n+1,s,c::l,at' =>
  let e:=cM (c::l)
  if e.2.2=false then([],at',2)else
  let r:=jA s e.1
  if r.1≠0 then([],at',r.1)else nM n r.2 ((c::l).drop e.2.1.toNat) (at'+e.2.1)
def parse(s:List UInt8):List It×Int×Int:=nM (s.length+1) yn s 0
structure Rd.ok (r:Rd):Prop where
 f:r.f.length+(if 0<r.aib.length then 1 else 0)≤r.len
 aib:r.aib.length≤r.len
 len:r.len≤1024
theorem Kn(r:Rd):(fy r).f.length=r.f.length+(if 0<r.aib.length then 1 else 0):=by
 simp only[fy];split<;>rename_i h<;>simp[h]
theorem tw(r:Rd):(fy r).aib.length=0:=by
 simp only[fy];split<;>rename_i h
 ·rfl
 ·simpa using h
theorem vT(r:Rd):(fy r).len=r.len:=by
 simp only[fy];split<;>rfl
theorem M8{r:Rd}{x:It}(h:r.ok)(hx:x.ah9=1→x.aib.length≤1)(h0:(jA r x).1=0):(jA r x).2.ok:=by
 obtain⟨h1,h2,h3⟩:=h;simp only[jA]at h0 ⊢;split
 ·rename_i h4;rw[bf h4]at h0;simp at h0
 ·rename_i h4;rw[aI h4]at h0;split
  ·rename_i h5;rw[bf h5]at h0;simp at h0
  ·rename_i h5;split
   ·rename_i h6;have:=hx h6;refine⟨?_,?_,?_⟩
    ·simp only[al];split at h1<;>split<;>omega
    ·simp only[al];omega
    ·simp only;omega
   ·refine⟨?_,?_,?_⟩
    ·simp only[vS,al,ai,aC,Kn,tw,vT,ni];simp only[Nat.lt_irrefl,aK];omega
    ·simp only[vS,tw];omega
    ·simp only[vS,vT,ni];omega
theorem vl(l:List UInt8)(c:UInt8):(cutAt l c).1.length≤l.length∧(cutAt l c).2.1.length≤l.length:=by
 simp only[cutAt];split
 ·simp;omega
 ·simp
theorem GB(s:List UInt8):(jZ s).1.aib.length≤s.length∧(jZ s).1.ah9≠1:=by
 have h1:=(vl s 58).2;have h2:=(vl (s.drop 1) 58).2;have h3:(s.drop 1).length≤s.length:=by simp
 unfold jZ;dsimp only;cases hasPrefix s [47]with
 | true =>
  simp only[aL,fG,eY,aF,aK];split
  ·exact⟨aQ h2 h3,by simp⟩
  ·exact⟨by simp,by simp⟩
 | false =>
  simp only[aF,aK,iF,dP];cases hasSuffix (cutAt s 58).2.1 [47]with
  | true =>
   simp only[aL];split
   ·exact⟨by rw[cz];omega,by simp⟩
   ·exact⟨by simp,by simp⟩
  | false =>
   simp only[aF,aK];split
   ·exact⟨h1,by simp⟩
   ·exact⟨by simp,by simp⟩
theorem Dq{s:List UInt8}(hs:s≠[]):(cM s).1.aib.length≤s.length∧((cM s).1.ah9=1→(cM s).1.aib.length≤1) ∧
  ((cM s).2.2=true→1≤(cM s).2.1∧(cM s).2.1≤s.length):=by
 have hl:0<s.length:=gR.2 hs;simp only[cM]
 by_cases c92:s.getD 0 0=92
 ·rw[bf c92];refine⟨by simp;omega,fun _=>by simp,?_⟩;simp only[dI];split
  ·intro h;simp at h
  ·split
   ·intro _;simp;omega
   ·split
    ·intro _;simp;omega
    ·split
     ·intro _;simp;omega
     ·split
      ·split
       ·intro h;simp at h
       ·intro _;simp;omega
      ·intro h;simp at h
 ·rw[aI c92]
  by_cases c60:s.getD 0 0=60
  ·rw[bf c60];have hb:=kt s 62;split
   ·exact⟨by simp[C2],by simp[C2],by simp⟩
   ·rename_i h;have ht:=GB ((s.take (Lib.indexByte s 62).toNat).drop 1);refine⟨aQ ht.1 (by simp;omega),fun h=>absurd h ht.2,fun _=>?_⟩;simp only;omega
  ·rw[aI c60]
   by_cases na:s.getD 0 0=123
   ·rw[bf na];have hb:=kt s 125;split
    ·exact⟨by simp[C2],by simp[C2],by simp⟩
    ·rename_i h;have:¬ Lib.indexByte s 125<0:=fun h2=>h (.inl h2);refine⟨by simp;omega,fun h=>by simp at h,fun _=>?_⟩;simp only;omega
   ·rw[aI na];refine⟨by simp;omega,fun _=>by simp;omega,fun _=>?_⟩;simp only;omega
def iz(l:List Int)(n:Int):List Int:=if l.contains n then l else l++[n]
theorem NT{l:List Int}{n m:Int}(h:m∈l):m∈iz l n:=by
 simp only[iz];split
 ·exact h
 ·simp[h]
theorem Lc(l:List Int)(n:Int):n∈iz l n:=by
 simp only[iz];split
 ·rename_i h;simpa using h
 ·simp
theorem zr:∀ (b:List Int) {acc:List Int} {m:Int},m∈acc→m∈b.foldl iz acc
 | [],_,_,h=>h
 | _::b,_,_,h=>zr b (NT h)
theorem rv:∀ (b:List Int) {acc:List Int} {m:Int},m∈b→m∈b.foldl iz acc
 | n::b,acc,m,h=>by
  rcases bJ.1 h with rfl | h
  ·exact zr b (Lc _ _)
  ·exact rv b h
theorem LH(b acc:List Int)(n:Int):(iz b n).foldl iz acc=iz (b.foldl iz acc) n:=by
 by_cases h:b.contains n=true
 ·have e:iz b n=b:=by simp only[iz,h,aL]
  have h2:n∈b:=by simpa using h
  have h3:(b.foldl iz acc).contains n=true:=by simpa using rv b (acc:=acc) h2
  rw[e];simp only[iz,h3,aL]
 ·have e:iz b n=b++[n]:=by simp only[iz,h];rfl
  rw[e,List.foldl_append];rfl
theorem wD:∀ (l b acc:List Int),(l.foldl iz b).foldl iz acc=l.foldl iz (b.foldl iz acc)
 | [],_,_=>rfl
 | n::l,b,acc=>by
  simp only[c8];rw[wD l (iz b n) acc,LH]
theorem gV:∀ (f:List It) (acc:List Int),ck acc f=((f.filter bW).map (·.id)).foldl iz acc
 | [],_=>rfl
 | x::f,acc=>by
  simp only[ck];cases ht:bW x with
  | false =>
   simp only[eY,aF,aK,eM,ht];exact gV f acc
  | true =>
   simp only[dP,eM,ht,aL,ay,c8]
   by_cases h:acc.contains x.id=true
   ·simp only[h,fG,aF,aK,iz,aL];exact gV f acc
   ·simp only[h,iF,aL,iz,aK,aF];exact gV f _
theorem mB(s t:List It):aio (s++t)=bE s t:=by
 have e:∀ l m:List Int,dV l m=m.foldl iz l:=fun _ _=>rfl;simp only[bE,e,aio,gV,jW,ee,List.foldl_append];rw[wD];rfl
end Go.Bt
