/- A part of a proof; the claim's last text says of what. -/
import Derived.Lib.Bytealg
import Derived.Test.YtlakkaamfadipaaGreatDoorV15
set_option linter.all false

namespace Go.Bt
open Go Go.Pm
structure It where
 ahr:Int
 aht:List UInt8
 id:Int
def It.ahq(x:It):List V:=[.i .i64 x.ahr,.s x.aht,.i .i64 x.id]
def width(x:It):Int:=if x.ahr=1 then x.aht.length else 1
def dA(a:Int)(l:List It):Int:=l.foldl (fun a x=>IntKind.i64.wrap (a+width x)) a
structure IN where
 time:Int
 jW:Int
 number:Int
def IN.ahq(x:IN):List V:=[.i .i64 x.time,.i .i64 x.jW,.i .i64 x.number]
def Py(s:IN):Bool:=decide (1≤s.time∧s.time≤2^30∧0≤s.jW∧s.jW<8∧1≤s.number∧s.number≤128)
def fX(b:UInt8):Bool:=(97≤b.toNat&&b.toNat≤122)||(48≤b.toNat&&b.toNat≤57)||b.toNat==45
def ahz(s:List UInt8):Bool:=match s with
 | []=>false
 | c::r=>decide (s.length≤24)&&decide (97≤c.toNat∧c.toNat≤122)&&r.all fX
def VT(v:List Int)(o:Int):Int:=if o<0∨(v.length:Int)≤o∨8≤o then 0 else if v.getD o.toNat 0<0 then 0 else v.getD o.toNat 0
def l4(a b:Int):Int:=if a<b then -1 else if b<a then 1 else 0
def wA:List Int→Int
 | []=>0
 | x::r=>if x≠0 then x else wA r
def M9(a b:List Int)(n:Nat):List Int:=(List.range n).map fun(i:Nat)=>let x:=VT a i;let y:=VT b i;if x<y then y else x
def Ef(a b:List Int):Nat→Nat
 | 0=>0
 | n+1=>if(let x:=VT a n;let y:=VT b n;if x<y then y else x)≠0 then n+1 else Ef a b n
def VS(a b:List Int):List Int:=(M9 a b 8).take (Ef a b 8)
def cutAt(l:List UInt8)(c:UInt8):List UInt8×List UInt8×Bool :=
 if 0≤Lib.indexByte l c then(l.take (Lib.indexByte l c).toNat,l.drop ((Lib.indexByte l c).toNat+1),true)else(l,[],false)
theorem jw(l:List UInt8)(c:UInt8):Lib.indexByte l c<l.length:=by
 induction l with
 | nil=>simp[Lib.indexByte]
 | cons b l ih =>
  simp only[Lib.indexByte,ag];split
  ·omega
  ·split<;>omega
def ahK(l p:List UInt8):Bool:=decide (p.length≤l.length)&&l.take p.length==p
def hasSuffix(l p:List UInt8):Bool:=decide (p.length≤l.length)&&l.drop (l.length - p.length)==p
def cG(l:List UInt8):List UInt8:=(cutAt l 32).1
def dD(b:UInt8):Int :=
 if b.toNat=9∨b.toNat=10∨b.toNat=13∨b.toNat=32 then 2 else if b.toNat<32∨b.toNat=127 then 1 else if 48≤b.toNat∧b.toNat≤57 then 3
 else if 97≤b.toNat∧b.toNat≤122∨65≤b.toNat∧b.toNat≤90∨128≤b.toNat then 4 else 5
def gu(b:UInt8):Bool:=decide (b.toNat<32)||decide (126<b.toNat)||decide (0≤Lib.indexByte [60,62,123,125] b)
def iz(s:List UInt8):Bool:=decide (s.length≤64)&&decide (s.length≠0)&&decide ((s.getD (s.length - 1) 0).toNat≠47)
def iy(s:List UInt8):Bool:=ahz (cutAt s 32).1&&(!(cutAt s 32).2.2||decide (0<(cutAt s 32).2.1.length))
def cP(s:List UInt8):Bool:=iz s&&s.all (fun b=>!gu b)&&iy s
def bG(x:It):Bool:=x.ahr==2||x.ahr==3||x.ahr==4
def dB(x y:It):Bool:=!(!bG y||y.id != x.id)&&(x.ahr != 3||y.ahr != 2||!(cG y.aht==x.aht))
def fits(before:List It)(x:It):Bool:=before.all fun y=>!dB x y
def bB(p:Option It)(x:It):Bool :=
 if x.ahr=1 then !(x.aht==[])&&x.id==0&&(match p with | none=>true | some y=>y.ahr != 1)
 else if x.ahr=5 then ahz x.aht&&x.id==0
 else if x.ahr=2∨x.ahr=4 then cP x.aht&&decide (1≤x.id)&&decide (x.id≤999)
 else if x.ahr=3 then ahz x.aht&&decide (1≤x.id)&&decide (x.id≤999)
 else false
def bh:List It→List It→Int
 | _,[]=>0
 | pre,x::rest=>if bB pre.getLast? x=false then 1 else if(bG x&&!fits pre x)=true then 7 else bh (pre++[x]) rest
def bW(f:List It):Int:=if 512<f.length∨1024<dA 0 f then 3 else bh [] f
def ca:List Int→List It→List Int
 | acc,[]=>acc
 | acc,x::r=>if(bG x&&!acc.contains x.id)=true then ca (acc++[x.id]) r else ca acc r
def ahH(f:List It):List Int:=ca [] f
def fL(l:List Int):List (V×V):=l.map fun n=>(.i .i64 n,.b true)
theorem uV(n:Nat)(l:List Int):eQ n ((fL l).map (·.2)):=mN fun x hx=>by
 obtain⟨k,_,rfl⟩:=bI.1 hx;exact .b _
theorem qQ(n:Int):∀ (l:List Int) (k:Nat),dM 0 (.i .i64 n) (fL l) k=if n∈l then some (some (k+l.idxOf n,.b true))else some none
 | [],k=>by simp[fL,dM]
 | m::l,k=>by
  have ih:=qQ n l (k+1)
  by_cases h:n=m
  ·subst h
   have e:dM 0 (.i .i64 n) (fL (n::l)) k=some (some (k,.b true)):=by
    simp only[fL,az,dM,bX,aO,OX]
   rw[e];simp
  ·have h1:(n==m)=false:=by simpa using h
   have h2:(m==n)=false:=by simpa using fun e=>h e.symm
   have e:dM 0 (.i .i64 n) (fL (m::l)) k=dM 0 (.i .i64 n) (fL l) (k+1):=by
    simp only[fL,az,dM,bX,aO,h1]
   rw[e,ih]
   by_cases h3:n∈l
   ·have h4:(m::l).idxOf n=l.idxOf n+1:=by rw[zu,h2];rfl
    rw[aI h3,aI (de _ h3),h4];congr 3;omega
   ·rw[aw h3,aw (by simp[h,h3])]
def b8(n:Nat):List Int:=(List.range n).map fun(i:Nat)=>(i:Int)+1
def fI(N i:Nat):List (List V):=(b8 i).map b5++List.replicate (N - i) [V.i .i64 0]
theorem rE{N i:Nat}(h:i≤N):(fI N i).length=N:=by simp[fI,b8];omega
theorem Ab{N i:Nat}(h:i<N):(fI N i).set i [V.i .i64 ((i:Int)+1)]=fI N (i+1):=by
 have e:N - i=(N - (i+1))+1:=by omega
 have hl:((b8 i).map b5).length=i:=by simp[b8]
 simp only[fI];rw[cI _ _ (by omega),hl,eT,e,qX,sj];simp[b8,RY,b5]
theorem Ac{N i:Nat}(h:i<N):(fI N i).getD i []=[V.i .i64 0]:=by
 have hl:((b8 i).map b5).length=i:=by simp[b8]
 have e:N - i=(N - (i+1))+1:=by omega
 simp only[fI,ar];rw[aH (by omega),hl,eT,e,qX];rfl
def Gm(a b:It):Bool:=a.ahr==b.ahr&&(a.aht==b.aht&&a.id==b.id)
theorem Nc{a b:It}:Gm a b=true↔a=b:=by
 obtain⟨k,t,i⟩:=a;obtain⟨k',t',i'⟩:=b;simp[Gm]
def jy:List It→List It→Bool
 | [],[]=>true
 | a::x,b::y=>Gm a b&&jy x y
 | _,_=>false
theorem uC:∀ {a b:List It},jy a b=true↔a=b
 | [],[]=>by simp[jy]
 | a::x,b::y=>by simp[jy,Nc,uC (a:=x) (b:=y)]
 | [],b::y=>by simp[jy]
 | a::x,[]=>by simp[jy]
theorem Kj:∀ {a b:List It},jy a b=true→a.length=b.length:=fun h=>by rw[uC.1 h]
def ahx:List It→List UInt8×List It
 | []=>([],[])
 | x::r=>if x.ahr=1 then(x.aht++(ahx r).1,(ahx r).2)else([],x::r)
theorem u7:∀ (l:List It),(ahx l).2.length≤l.length
 | []=>au _
 | x::r=>by
  have:=u7 r;simp only[ahx];split
  ·simp only[ag];omega
  ·exact au _
def gJ:Nat→List It→List It
 | 0,_=>[]
 | _+1,[]=>[]
 | n+1,x::r=>if x.ahr≠1 then x::gJ n r else
   if(ahx (x::r)).1.length=0 then gJ n (ahx (x::r)).2 else⟨1,(ahx (x::r)).1,0⟩::gJ n (ahx (x::r)).2
def ahy(f:List It):List It:=gJ f.length f
def aN:List It→Nat
 | []=>0
 | x::r=>x.aht.length+aN r
theorem rn:∀ (l:List It),∃ run,l=run++(ahx l).2
 | []=>⟨[],rfl⟩
 | x::r=>by
  obtain⟨run,h⟩:=rn r
  by_cases hk:x.ahr=1
  ·refine⟨x::run,?_⟩;simp only[ahx,hk,aO,bg];rw[← h]
  ·exact⟨[],by simp[ahx,hk]⟩
theorem nB{x:It}{r:List It}(h:x.ahr=1):(ahx (x::r)).2.length≤r.length:=by
 simp only[ahx,h,aO];exact u7 r
theorem sK:∀ (l:List It),(ahx l).1.length+aN (ahx l).2=aN l
 | []=>rfl
 | x::r=>by
  have:=sK r
  by_cases hk:x.ahr=1
  ·simp only[ahx,hk,aO,ak,aN];omega
  ·simp[ahx,hk,aN]
def zi:List Int→List Int→Int→Option Int
 | a::fr,b::to,x=>if x=a then some b else zi fr to x
 | _,_,_=>none
def Jt(fr to:List Int)(x:It):Option It:=if bG x then(zi fr to x.id).map fun n=>⟨x.ahr,x.aht,n⟩else some x
def ahJ(f:List It)(fr to:List Int):List It:=f.filterMap (Jt fr to)
def rename(f:List It)(fr to:List Int):List It:=ahy (ahJ f fr to)
def dX(l m:List Int):List Int:=m.foldl (fun l n=>if l.contains n then l else l++[n]) l
def bE(s t:List It):List Int:=dX (ahH s) (ahH t)
def fO(s t:List It):List It:=rename s (bE s t) (b8 (bE s t).length)
def gh(s t:List It):List It:=rename t (bE s t) (b8 (bE s t).length)
def lQ(l:List (Int×Int)):List (V×V):=emap Vj Vj l
theorem vK(n:Nat)(l:List (Int×Int)):eQ n ((lQ l).map (·.2)):=mN fun x hx=>by
 obtain⟨k,_,rfl⟩:=bI.1 hx;exact .i _ _
theorem vn(l:List (Int×Int))(a:Int):
  (bS a l=none∧dM 0 (.i .i64 a) (lQ l) 0=some none∧∀ b,lQ l++[(V.i .i64 a,V.i .i64 b)]=lQ (eW l a b)) ∨
  (∃ i b0,bS a l=some b0∧dM 0 (.i .i64 a) (lQ l) 0=some (some (i,.i .i64 b0))∧∀ b,(lQ l).set i (V.i .i64 a,V.i .i64 b)=lQ (eW l a b)):=iF Gl l a
theorem Df{fr to:List Int}{i:Nat}(h1:i<fr.length)(h2:i<to.length)(x:Int):zi (fr.drop i) (to.drop i) x=if x=fr.getD i 0 then some (to.getD i 0)else zi (fr.drop (i+1)) (to.drop (i+1)) x:=by
 rw[dU h1,dU h2];simp only[zi];simp[ar,h1,h2]
theorem Hs{fr to:List Int}{i:Nat}(h:min fr.length to.length≤i)(x:Int):zi (fr.drop i) (to.drop i) x=none:=by
 by_cases h1:fr.length≤i
 ·rw[ac6 h1];simp[zi]
 ·have h2:to.length≤i:=by omega
  rw[ac6 h2];cases fr.drop i<;>simp[zi]
theorem vc(f:List It)(fr to:List Int):(ahJ f fr to).length≤f.length:=jr _ _
theorem sO(f:List It)(fr to:List Int):aN (ahJ f fr to)≤aN f:=by
 induction f with
 | nil=>exact au _
 | cons x f ih =>
  simp only[ahJ,fW]at ih ⊢;split
  ·simp only[aN];omega
  ·rename_i y hy
   have:y.aht=x.aht:=by
    simp only[Jt]at hy;split at hy
    ·rw[aj]at hy;obtain⟨n,_,rfl⟩:=hy;rfl
    ·simp at hy;rw[hy]
   simp only[aN,this];omega
theorem pj(m:List Int):∀ (l:List Int),(dX l m).length≤l.length+m.length:=by
 induction m with
 | nil=>intro l;simp[dX]
 | cons n m ih =>
  intro l;simp only[dX,cV]at ih ⊢;have:=ih (if l.contains n then l else l++[n]);split at this
  ·simp only[ag];rw[aI (by assumption)];omega
  ·simp only[ag];rw[aw (by assumption)];simp at this ⊢;omega
theorem vS(f:List It):∀ (acc:List Int),(ca acc f).length≤acc.length+f.length:=by
 induction f with
 | nil=>intro acc;simp[ca]
 | cons x f ih =>
  intro acc;simp only[ca];split
  ·have:=ih (acc++[x.id]);simp at this ⊢;omega
  ·have:=ih acc;simp;omega
theorem lD(f:List It):(ahH f).length≤f.length:=by
 have:=vS f [];simpa[ahH]using this
theorem fK{p:UInt8→Prop}(h:∀ n:Fin 256,p (UInt8.ofNat n.val))(c:UInt8):p c:=by
 have:=h ⟨c.toNat,c.toNat_lt⟩;simpa using this
def oG(c:UInt8):Bool:=c != 92&&c != 60&&c != 123&&c != 9&&c != 10&&c != 13&&dD c != 1
def gq(n:Nat):UInt8:=if n<10 then UInt8.ofNat (48+n)else UInt8.ofNat (87+n)
def dO(c:UInt8):List UInt8 :=
 if oG c then[c]else if c=10 then[92,110]else if c=9 then[92,116]else if c=92∨c=60∨c=123 then[92,c]else[92,120,gq (c.toNat / 16),gq (c.toNat % 16)]
def fY(c:UInt8):UInt8×Bool :=
 if 48≤c.toNat∧c.toNat≤57 then(UInt8.ofNat (c.toNat - 48),true)else if 97≤c.toNat∧c.toNat≤102 then(UInt8.ofNat (c.toNat - 87),true)else(0,false)
theorem th(c:UInt8):(fY c).1.toNat<16:=by
 revert c;exact fK (by decide +kernel)
def gK(a b:UInt8):UInt8:=UInt8.ofNat (16*(fY a).1.toNat+(fY b).1.toNat)
def cH(s:List UInt8):UInt8×Int×Bool :=
 if s.length<2 then(0,0,false)else
 let c:=s.getD 1 0
 if c=92∨c=60∨c=123 then(c,2,true)else if c=110 then(10,2,true)else if c=116 then(9,2,true)else if c=120 then
  if s.length<4 then(0,0,false)else
  let b:=gK (s.getD 2 0) (s.getD 3 0)
  (b,4,(fY (s.getD 2 0)).2&&(fY (s.getD 3 0)).2&&(b==13||dD b==1))
 else(0,0,false)
def dc(c:UInt8):Bool:=48≤c.toNat&&c.toNat≤57
def da(n:Int)(s:List UInt8):Int:=s.foldl (fun n c=>10*n+(c.toNat - 48:Int)) n
def ahC(s:List UInt8):Int×Bool :=
 if s.length<1∨3<s.length∨s.getD 0 0=48 then(0,false)else if s.all dc then(da 0 s,true)else(0,false)
theorem yA(s:List UInt8):∀ (n:Int) (k:Nat),s.length=k→s.all dc=true→0≤n→0≤da n s∧da n s<10^k*(n+1):=by
 induction s with
 | nil=>intro n k hk _ hn;simp at hk;subst hk;simp[da];omega
 | cons c s ih =>
  intro n k hk hs hn;simp only[ij,aG]at hs;have hc:=hs.1;simp only[dc,aG,aU]at hc;obtain⟨k,rfl⟩:∃ j,k=j+1:=⟨s.length,by simpa using hk.symm⟩;have h:=ih (10*n+(c.toNat - 48:Int)) k (by simpa using hk) hs.2 (by omega);simp only[da,cV]at h ⊢;refine⟨h.1,Int.lt_of_lt_of_le h.2 ?_⟩;have h3:(10*n+(c.toNat - 48:Int))+1≤10*(n+1):=by omega
  have h4:=jT h3 (show(0:Int)≤10^k from Int.pow_nonneg (by omega));have h5:(10:Int)^(k+1)*(n+1)=10^k*(10*(n+1)):=by rw[Int.pow_succ];simp only[Int.mul_assoc]
  omega
def gC(s:List UInt8):It×Bool :=
 let close:=ahK s [47];let s:=if close then s.drop 1 else s
 let p:=cutAt s 58;let empty:=!close&&hasSuffix p.2.1 [47];let ahr:Int:=if close then 3 else if empty then 4 else 2
 let content:=if empty then p.2.1.take (p.2.1.length - 1)else p.2.1
 if p.2.2&&(ahC p.1).2 then(⟨ahr,content,(ahC p.1).1⟩,if ahr=3 then ahz content else cP content)else(⟨0,[],0⟩,false)
def kA:It:=⟨0,[],0⟩
def aZ(s:List UInt8):It×Int×Bool :=
 let c:=s.getD 0 0
 if c=92 then(⟨1,[(cH s).1],0⟩,(cH s).2.1,(cH s).2.2)
 else if c=60 then
  let e:=Lib.indexByte s 62
  if e<0 then(kA,0,false)else
  let t:=(s.take e.toNat).drop 1
  ((gC t).1,e+1,(gC t).2)
 else if c=123 then
  let e:=Lib.indexByte s 125
  if e<0∨ahz ((s.take e.toNat).drop 1)=false then(kA,0,false)else(⟨5,(s.take e.toNat).drop 1,0⟩,e+1,true)
 else(⟨1,s.take 1,0⟩,1,oG c)
theorem QR(c:UInt8)(h:48≤c.toNat∧c.toNat≤57):fY c=(UInt8.ofNat (c.toNat - 48),true)∧IntKind.u8.wrap ((c.toNat:Int) - 48)=((fY c).1.toNat:Int):=by
 have h1:fY c=(UInt8.ofNat (c.toNat - 48),true):=by simp only[fY,h,kY,aO]
 refine⟨h1,?_⟩;rw[h1];revert h h1;revert c;exact fK (by decide +kernel)
theorem QQ(c:UInt8)(h:97≤c.toNat∧c.toNat≤102):fY c=(UInt8.ofNat (c.toNat - 87),true)∧IntKind.u8.wrap (IntKind.u8.wrap ((c.toNat:Int) - 97)+10)=((fY c).1.toNat:Int):=by
 have h0:¬ (48≤c.toNat∧c.toNat≤57):=by omega
 have h1:fY c=(UInt8.ofNat (c.toNat - 87),true):=by simp only[fY,h0,h,kY,aO,aJ]
 refine⟨h1,?_⟩;rw[h1];revert h h0 h1;revert c;exact fK (by decide +kernel)
theorem Ud(c:UInt8)(h0:¬ (48≤c.toNat∧c.toNat≤57))(h:¬ (97≤c.toNat∧c.toNat≤102)):fY c=(0,false):=by
 simp only[fY,h0,h,aJ]
theorem GH(a b:UInt8):
  IntKind.u8.wrap (((BitVec.ofInt IntKind.u8.bits (IntKind.u8.wrap (((fY a).1.toNat:Int)*2^(min 4 IntKind.u8.bits))) ||| BitVec.ofInt IntKind.u8.bits ((fY b).1.toNat:Int)).toNat:Nat):Int)=((gK a b).toNat:Int):=by
 have key:∀ m n:Fin 16,IntKind.u8.wrap (((BitVec.ofInt IntKind.u8.bits (IntKind.u8.wrap ((m.val:Int)*2^(min 4 IntKind.u8.bits))) ||| BitVec.ofInt IntKind.u8.bits (n.val:Int)).toNat:Nat):Int)=((UInt8.ofNat (16*m.val+n.val)).toNat:Int):=by decide +kernel
 exact key ⟨_,th a⟩ ⟨_,th b⟩
theorem LS(c:UInt8)(h:dc c=true):IntKind.u8.wrap ((c.toNat:Int) - 48)=(c.toNat:Int) - 48:=by
 revert h;revert c;exact fK (by decide +kernel)
theorem tV(a b:UInt8):((a.toNat:Int)==(b.toNat:Int))=(a==b):=by
 rw[df];simp only[bR];constructor
 ·intro h;exact zq.1 (by omega)
 ·intro h;rw[h]
theorem S3(a b:UInt8):((a.toNat:Int) != (b.toNat:Int))=(a != b):=by
 simp only[bne,tV]
theorem nP{c d:UInt8}{k:Int}(h:¬ c=d)(hk:(d.toNat:Int)=k):((c.toNat:Int)==k)=false:=by
 subst hk;rw[tV];simpa using h
theorem I0{c d:UInt8}{k:Int}(h:c=d)(hk:(d.toNat:Int)=k):((c.toNat:Int)==k)=true:=by
 subst hk;rw[tV];simpa using h
theorem lu(l:List UInt8)(c:UInt8)(h:l.getD 0 0≠c)(h2:¬ Lib.indexByte l c<0):1≤Lib.indexByte l c:=by
 cases l with
 | nil=>simp[Lib.indexByte]at h2
 | cons b l =>
  have hb:¬ b=c:=h;have hb:(b==c)=false:=by simpa using hb
  have aa3:∀ l:List UInt8,-1≤Lib.indexByte l c:=by
   intro l
   induction l with
   | nil=>simp[Lib.indexByte]
   | cons a l ih =>
    simp only[Lib.indexByte];split
    ·omega
    ·split<;>omega
  have h3:=aa3 l;simp only[Lib.indexByte,hb,aA,aJ]at h2 ⊢
  by_cases h4:(Lib.indexByte l c == -1)=true
  ·rw[aI h4]at h2;omega
  ·rw[aw h4]at h2 ⊢;have h5:Lib.indexByte l c ≠ -1:=by simpa using h4
   omega
structure Rd where
 f:List It
 aht:List UInt8
 len:Nat
 tags:List (Int×It)
def eR(s:Rd):Rd:=if 0<s.aht.length then⟨s.f++[⟨1,s.aht,0⟩],[],s.len,s.tags⟩else s
def TJ(x:It):V:=.agg x.ahq
def nY(l:List (Int×It)):List (V×V):=emap Vj TJ l
theorem qw(n:Nat)(l:List (Int×It)):eQ n ((nY l).map (·.2)):=mN fun x hx=>by
 obtain⟨k,_,rfl⟩:=bI.1 hx;exact MK.2 (by simp[It.ahq,eQ,PX,Tn])
theorem vm(l:List (Int×It))(a:Int):
  (bS a l=none∧dM 0 (.i .i64 a) (nY l) 0=some none∧∀ b,nY l++[(V.i .i64 a,TJ b)]=nY (eW l a b)) ∨
  (∃ i b0,bS a l=some b0∧dM 0 (.i .i64 a) (nY l) 0=some (some (i,TJ b0))∧∀ b,(nY l).set i (V.i .i64 a,TJ b)=nY (eW l a b)):=iF Gl l a
def tagged(x:It):Bool:=x.ahr != 1&&x.ahr != 5
def tG(s:Rd)(x:It):Bool:=match bS x.id s.tags with
 | some b=>x.ahr != 3||b.ahr != 2||cG b.aht != x.aht
 | none=>false
def jL(s:Rd)(x:It):Nat:=s.f.length+(if 0<s.aht.length then 1 else 0)+(if x.ahr≠1∨s.aht.length=0 then 1 else 0)
def lO(s:Rd)(x:It):Rd:=⟨s.f,s.aht,s.len+1,if tagged x then eW s.tags x.id x else s.tags⟩
def sQ(s:Rd)(x:It):Rd:=⟨s.f++[x],s.aht,s.len,s.tags⟩
def iJ(s:Rd)(x:It):Int×Rd :=
 if tagged x&&tG s x then(7,s)else if 512<jL s x∨1024<s.len+1 then(3,s)else
 if x.ahr=1 then(0,⟨s.f,s.aht++x.aht,s.len+1,s.tags⟩)else(0,sQ (eR (lO s x)) x)
def xA:Rd:=⟨[],[],0,[]⟩
def kO:Nat→Rd→List UInt8→Int→List It×Int×Int
 | 0,_,_,at'=>([],at',2)
 | _+1,s,[],_=>((eR s).f,0,0)
 | n+1,s,c::l,at' =>
  let e:=aZ (c::l)
  if e.2.2=false then([],at',2)else
  let r:=iJ s e.1
  if r.1≠0 then([],at',r.1)else kO n r.2 ((c::l).drop e.2.1.toNat) (at'+e.2.1)
def parse(s:List UInt8):List It×Int×Int:=kO (s.length+1) xA s 0
structure Rd.ok (r:Rd):Prop where
 f:r.f.length+(if 0<r.aht.length then 1 else 0)≤r.len
 aht:r.aht.length≤r.len
 len:r.len≤1024
theorem Jw(r:Rd):(eR r).f.length=r.f.length+(if 0<r.aht.length then 1 else 0):=by
 simp only[eR];split<;>rename_i h<;>simp[h]
theorem sR(r:Rd):(eR r).aht.length=0:=by
 simp only[eR];split<;>rename_i h
 ·rfl
 ·simpa using h
theorem vd(r:Rd):(eR r).len=r.len:=by
 simp only[eR];split<;>rfl
theorem Mn{r:Rd}{x:It}(h:r.ok)(hx:x.ahr=1→x.aht.length≤1)(h0:(iJ r x).1=0):(iJ r x).2.ok:=by
 obtain⟨h1,h2,h3⟩:=h;simp only[iJ]at h0 ⊢;split
 ·rename_i h4;rw[aI h4]at h0;simp at h0
 ·rename_i h4;rw[aw h4]at h0;split
  ·rename_i h5;rw[aI h5]at h0;simp at h0
  ·rename_i h5;split
   ·rename_i h6;have:=hx h6;refine⟨?_,?_,?_⟩
    ·simp only[ak];split at h1<;>split<;>omega
    ·simp only[ak];omega
    ·simp only;omega
   ·refine⟨?_,?_,?_⟩
    ·simp only[sQ,ak,ag,ay,Jw,sR,vd,lO];simp only[Nat.lt_irrefl,aJ];omega
    ·simp only[sQ,sR];omega
    ·simp only[sQ,vd,lO];omega
theorem qS(l:List UInt8)(c:UInt8):(cutAt l c).1.length≤l.length∧(cutAt l c).2.1.length≤l.length:=by
 simp only[cutAt];split
 ·simp;omega
 ·simp
theorem Fz(s:List UInt8):(gC s).1.aht.length≤s.length∧(gC s).1.ahr≠1:=by
 have h1:=(qS s 58).2;have h2:=(qS (s.drop 1) 58).2;have h3:(s.drop 1).length≤s.length:=by simp
 unfold gC;dsimp only;cases ahK s [47]with
 | true =>
  simp only[aO,eB,dN,aA,aJ];split
  ·exact⟨br h2 h3,by simp⟩
  ·exact⟨by simp,by simp⟩
 | false =>
  simp only[aA,aJ,fT,cm];cases hasSuffix (cutAt s 58).2.1 [47]with
  | true =>
   simp only[aO];split
   ·exact⟨by rw[bT];omega,by simp⟩
   ·exact⟨by simp,by simp⟩
  | false =>
   simp only[aA,aJ];split
   ·exact⟨h1,by simp⟩
   ·exact⟨by simp,by simp⟩
theorem oP{s:List UInt8}(hs:s≠[]):(aZ s).1.aht.length≤s.length∧((aZ s).1.ahr=1→(aZ s).1.aht.length≤1) ∧
  ((aZ s).2.2=true→1≤(aZ s).2.1∧(aZ s).2.1≤s.length):=by
 have hl:0<s.length:=dK.2 hs;simp only[aZ]
 by_cases c92:s.getD 0 0=92
 ·rw[aI c92];refine⟨by simp;omega,fun _=>by simp,?_⟩;simp only[cH];split
  ·intro h;simp at h
  ·split
   ·intro _;simp;omega
   ·split
    ·intro _;simp;omega
    ·split
     ·intro _;simp;omega
     ·split
      ·split
       ·intro h;simp at h
       ·intro _;simp;omega
      ·intro h;simp at h
 ·rw[aw c92]
  by_cases c60:s.getD 0 0=60
  ·rw[aI c60];have hb:=jw s 62;split
   ·exact⟨by simp[kA],by simp[kA],by simp⟩
   ·rename_i h;have ht:=Fz ((s.take (Lib.indexByte s 62).toNat).drop 1);refine⟨br ht.1 (by simp;omega),fun h=>absurd h ht.2,fun _=>?_⟩;simp only;omega
  ·rw[aw c60]
   by_cases kC:s.getD 0 0=123
   ·rw[aI kC];have hb:=jw s 125;split
    ·exact⟨by simp[kA],by simp[kA],by simp⟩
    ·rename_i h;have:¬ Lib.indexByte s 125<0:=fun h2=>h (.inl h2);refine⟨by simp;omega,fun h=>by simp at h,fun _=>?_⟩;simp only;omega
   ·rw[aw kC];refine⟨by simp;omega,fun _=>by simp;omega,fun _=>?_⟩;simp only;omega
def iD(l:List Int)(n:Int):List Int:=if l.contains n then l else l++[n]
theorem Nf{l:List Int}{n m:Int}(h:m∈l):m∈iD l n:=by
 simp only[iD];split
 ·exact h
 ·simp[h]
theorem Kk(l:List Int)(n:Int):n∈iD l n:=by
 simp only[iD];split
 ·rename_i h;simpa using h
 ·simp
theorem yu:∀ (b:List Int) {acc:List Int} {m:Int},m∈acc→m∈b.foldl iD acc
 | [],_,_,h=>h
 | _::b,_,_,h=>yu b (Nf h)
theorem qO:∀ (b:List Int) {acc:List Int} {m:Int},m∈b→m∈b.foldl iD acc
 | n::b,acc,m,h=>by
  rcases bA.1 h with rfl | h
  ·exact yu b (Kk _ _)
  ·exact qO b h
theorem KJ(b acc:List Int)(n:Int):(iD b n).foldl iD acc=iD (b.foldl iD acc) n:=by
 by_cases h:b.contains n=true
 ·have e:iD b n=b:=by simp only[iD,h,aO]
  have h2:n∈b:=by simpa using h
  have h3:(b.foldl iD acc).contains n=true:=by simpa using qO b (acc:=acc) h2
  rw[e];simp only[iD,h3,aO]
 ·have e:iD b n=b++[n]:=by simp only[iD,h];rfl
  rw[e,List.foldl_append];rfl
theorem vD:∀ (l b acc:List Int),(l.foldl iD b).foldl iD acc=l.foldl iD (b.foldl iD acc)
 | [],_,_=>rfl
 | n::l,b,acc=>by
  simp only[cV];rw[vD l (iD b n) acc,KJ]
theorem gY:∀ (f:List It) (acc:List Int),ca acc f=((f.filter bG).map (·.id)).foldl iD acc
 | [],_=>rfl
 | x::f,acc=>by
  simp only[ca];cases ht:bG x with
  | false =>
   simp only[dN,aA,aJ,eU,ht];exact gY f acc
  | true =>
   simp only[cm,eU,ht,aO,az,cV]
   by_cases h:acc.contains x.id=true
   ·simp only[h,eB,aA,aJ,iD,aO];exact gY f acc
   ·simp only[h,fT,aO,iD,aJ,aA];exact gY f _
theorem mA(s t:List It):ahH (s++t)=bE s t:=by
 have e:∀ l m:List Int,dX l m=m.foldl iD l:=fun _ _=>rfl;simp only[bE,e,ahH,gY,jZ,eN,List.foldl_append];rw[vD];rfl
end Go.Bt
