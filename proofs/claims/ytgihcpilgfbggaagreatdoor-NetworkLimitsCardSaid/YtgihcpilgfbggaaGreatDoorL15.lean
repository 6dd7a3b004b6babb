/- A part of the proof that for every input the law NetworkLimits returns true and leaves its argument as it was. -/
import Derived.Lib.Bytealg
import Derived.Test.YtgihcpilgfbggaaGreatDoorL14
set_option linter.all false

namespace Go.Bt
open Go Go.Pm
structure It where
 kind:Int
 text:List UInt8
 id:Int
def It.cells(x:It):List V:=[.i .i64 x.kind,.s x.text,.i .i64 x.id]
def width(x:It):Int:=if x.kind=1 then x.text.length else 1
def dS(a:Int)(l:List It):Int:=l.foldl (fun a x=>IntKind.i64.wrap (a+width x)) a
structure bY where
 time:Int
 bP:Int
 number:Int
def bY.cells(x:bY):List V:=[.i .i64 x.time,.i .i64 x.bP,.i .i64 x.number]
def gH(s:bY):Bool:=decide (1≤s.time∧s.time≤2^30∧0≤s.bP∧s.bP<8∧1≤s.number∧s.number≤128)
def gv(b:UInt8):Bool:=(97≤b.toNat&&b.toNat≤122)||(48≤b.toNat&&b.toNat≤57)||b.toNat==45
def isName(s:List UInt8):Bool:=match s with
 | []=>false
 | c::r=>decide (s.length≤24)&&decide (97≤c.toNat∧c.toNat≤122)&&r.all gv
def lL(v:List Int)(o:Int):Int:=if o<0∨(v.length:Int)≤o∨8≤o then 0 else if v.getD o.toNat 0<0 then 0 else v.getD o.toNat 0
def eT(a b:Int):Int:=if a<b then -1 else if b<a then 1 else 0
def qN:List Int→Int
 | []=>0
 | x::r=>if x≠0 then x else qN r
def jh(a b:bY):Int:=qN [eT a.time b.time,eT a.bP b.bP,eT a.number b.number]
def M9(v:List Int)(s:bY):Bool:=decide (1≤s.number)&&decide (s.number≤lL v s.bP)
def im(a b:List Int)(n:Nat):List Int:=(List.range n).map fun(i:Nat)=>let x:=lL a i;let y:=lL b i;if x<y then y else x
def gw(a b:List Int):Nat→Nat
 | 0=>0
 | n+1=>if(let x:=lL a n;let y:=lL b n;if x<y then y else x)≠0 then n+1 else gw a b n
theorem qe(a b:List Int):∀ n,gw a b n≤n
 | 0=>aw _
 | n+1=>by
  have:=qe a b n;simp only[gw]
  (repeat' split)<;>omega
def ph(a b:List Int):List Int:=(im a b 8).take (gw a b 8)
theorem rF(a b:List Int)(n:Nat):im a b (n+1)=im a b n++[if lL a n<lL b n then lL b n else lL a n]:=by
 simp[im,mw]
theorem jX(a b:List Int)(n:Nat):(im a b n).length=n:=by simp[im]
def cutAt(l:List UInt8)(c:UInt8):List UInt8×List UInt8×Bool :=
 if 0≤Lib.indexByte l c then(l.take (Lib.indexByte l c).toNat,l.drop ((Lib.indexByte l c).toNat+1),true)else(l,[],false)
theorem jF(l:List UInt8)(c:UInt8):Lib.indexByte l c<l.length:=by
 induction l with
 | nil=>simp[Lib.indexByte]
 | cons b l ih =>
  simp only[Lib.indexByte,ag];split
  ·omega
  ·split<;>omega
def hasPrefix(l p:List UInt8):Bool:=decide (p.length≤l.length)&&l.take p.length==p
def hasSuffix(l p:List UInt8):Bool:=decide (p.length≤l.length)&&l.drop (l.length - p.length)==p
def dz(l:List UInt8):List UInt8:=(cutAt l 32).1
def jG(b:UInt8):Int :=
 if b.toNat=9∨b.toNat=10∨b.toNat=13∨b.toNat=32 then 2 else if b.toNat<32∨b.toNat=127 then 1 else if 48≤b.toNat∧b.toNat≤57 then 3
 else if 97≤b.toNat∧b.toNat≤122∨65≤b.toNat∧b.toNat≤90∨128≤b.toNat then 4 else 5
def fy(b:UInt8):Bool:=decide (b.toNat<32)||decide (126<b.toNat)||decide (0≤Lib.indexByte [60,62,123,125] b)
def gO(s:List UInt8):Bool:=decide (s.length≤64)&&decide (s.length≠0)&&decide ((s.getD (s.length - 1) 0).toNat≠47)
def iX(s:List UInt8):Bool:=isName (cutAt s 32).1&&(!(cutAt s 32).2.2||decide (0<(cutAt s 32).2.1.length))
def cA(s:List UInt8):Bool:=gO s&&s.all (fun b=>!fy b)&&iX s
def cX(x:It):Bool:=x.kind==2||x.kind==3||x.kind==4
def ek(x y:It):Bool:=!(!cX y||y.id != x.id)&&(x.kind != 3||y.kind != 2||!(dz y.text==x.text))
def fits(before:List It)(x:It):Bool:=before.all fun y=>!ek x y
def bh(p:Option It)(x:It):Bool :=
 if x.kind=1 then !(x.text==[])&&x.id==0&&(match p with | none=>true | some y=>y.kind != 1)
 else if x.kind=5 then isName x.text&&x.id==0
 else if x.kind=2∨x.kind=4 then cA x.text&&decide (1≤x.id)&&decide (x.id≤999)
 else if x.kind=3 then isName x.text&&decide (1≤x.id)&&decide (x.id≤999)
 else false
def bD:List It→List It→Int
 | _,[]=>0
 | pre,x::rest=>if bh pre.getLast? x=false then 1 else if(cX x&&!fits pre x)=true then 7 else bD (pre++[x]) rest
def bC(f:List It):Int:=if 512<f.length∨1024<dS 0 f then 3 else bD [] f
def ca:List Int→List It→List Int
 | acc,[]=>acc
 | acc,x::r=>if(cX x&&!acc.contains x.id)=true then ca (acc++[x.id]) r else ca acc r
def numbers(f:List It):List Int:=ca [] f
def ju(l:List Int):List (V×V):=l.map fun n=>(.i .i64 n,.b true)
theorem qT(n:Int):∀ (l:List Int) (k:Nat),fx 0 (.i .i64 n) (ju l) k=if n∈l then some (some (k+l.idxOf n,.b true))else some none
 | [],k=>by simp[ju,fx]
 | m::l,k=>by
  have ih:=qT n l (k+1)
  by_cases h:n=m
  ·subst h
   have e:fx 0 (.i .i64 n) (ju (n::l)) k=some (some (k,.b true)):=by
    simp only[ju,aW,fx,cu,if_true,beq_self_eq_true]
   rw[e];simp
  ·have h1:(n==m)=false:=by simpa using h
   have h2:(m==n)=false:=by simpa using fun e=>h e.symm
   have e:fx 0 (.i .i64 n) (ju (m::l)) k=fx 0 (.i .i64 n) (ju l) (k+1):=by
    simp only[ju,aW,fx,cu,if_true,h1]
   rw[e,ih]
   by_cases h3:n∈l
   ·have h4:(m::l).idxOf n=l.idxOf n+1:=by rw[List.idxOf_cons,h2];rfl
    rw[if_pos h3,if_pos (bz _ h3),h4];congr 3;omega
   ·rw[if_neg h3,if_neg (by simp[h,h3])]
def dH(n:Nat):List Int:=(List.range n).map fun(i:Nat)=>(i:Int)+1
def gn(N i:Nat):List (List V):=(dH i).map bW++List.replicate (N - i) [V.i .i64 0]
theorem rM{N i:Nat}(h:i≤N):(gn N i).length=N:=by simp[gn,dH];omega
theorem zC{N i:Nat}(h:i<N):(gn N i).set i [V.i .i64 ((i:Int)+1)]=gn N (i+1):=by
 have e:N - i=(N - (i+1))+1:=by omega
 have hl:((dH i).map bW).length=i:=by simp[dH]
 simp only[gn];rw[ed _ _ (by omega),hl,eU,e,Fl,cU];simp[dH,mw,bW]
theorem zD{N i:Nat}(h:i<N):(gn N i).getD i []=[V.i .i64 0]:=by
 have hl:((dH i).map bW).length=i:=by simp[dH]
 have e:N - i=(N - (i+1))+1:=by omega
 simp only[gn,List.getD_eq_getElem?_getD];rw[aM (by omega),hl,eU,e,Fl];rfl
def zi(a b:It):Bool:=a.kind==b.kind&&(a.text==b.text&&a.id==b.id)
theorem L9{a b:It}:zi a b=true↔a=b:=by
 obtain⟨k,t,i⟩:=a;obtain⟨k',t',i'⟩:=b;simp[zi]
def eM:List It→List It→Bool
 | [],[]=>true
 | a::x,b::y=>zi a b&&eM x y
 | _,_=>false
theorem uH:∀ {a b:List It},eM a b=true↔a=b
 | [],[]=>by simp[eM]
 | a::x,b::y=>by simp[eM,L9,uH (a:=x) (b:=y)]
 | [],b::y=>by simp[eM]
 | a::x,[]=>by simp[eM]
theorem Ar:∀ {a b:List It},eM a b=true→a.length=b.length:=fun h=>by rw[uH.1 h]
def runText:List It→List UInt8×List It
 | []=>([],[])
 | x::r=>if x.kind=1 then(x.text++(runText r).1,(runText r).2)else([],x::r)
theorem u5:∀ (l:List It),(runText l).2.length≤l.length
 | []=>aw _
 | x::r=>by
  have:=u5 r;simp only[runText];split
  ·simp only[ag];omega
  ·exact aw _
def il:Nat→List It→List It
 | 0,_=>[]
 | _+1,[]=>[]
 | n+1,x::r=>if x.kind≠1 then x::il n r else
   if(runText (x::r)).1.length=0 then il n (runText (x::r)).2 else⟨1,(runText (x::r)).1,0⟩::il n (runText (x::r)).2
def normalize(f:List It):List It:=il f.length f
def bp:List It→Nat
 | []=>0
 | x::r=>x.text.length+bp r
theorem rB:∀ (l:List It),∃ run,l=run++(runText l).2
 | []=>⟨[],rfl⟩
 | x::r=>by
  obtain⟨run,h⟩:=rB r
  by_cases hk:x.kind=1
  ·refine⟨x::run,?_⟩;simp only[runText,hk,if_true,aJ];rw[← h]
  ·exact⟨[],by simp[runText,hk]⟩
theorem nJ{x:It}{r:List It}(h:x.kind=1):(runText (x::r)).2.length≤r.length:=by
 simp only[runText,h,if_true];exact u5 r
theorem sD:∀ (l:List It),(runText l).1.length+bp (runText l).2=bp l
 | []=>rfl
 | x::r=>by
  have:=sD r
  by_cases hk:x.kind=1
  ·simp only[runText,hk,if_true,List.length_append,bp];omega
  ·simp[runText,hk,bp]
def DA:List Int→List Int→Int→Option Int
 | a::fr,b::to,x=>if x=a then some b else DA fr to x
 | _,_,_=>none
def Kl(fr to:List Int)(x:It):Option It:=if cX x then(DA fr to x.id).map fun n=>⟨x.kind,x.text,n⟩else some x
def renamed(f:List It)(fr to:List Int):List It:=f.filterMap (Kl fr to)
def rename(f:List It)(fr to:List Int):List It:=normalize (renamed f fr to)
def ef(l m:List Int):List Int:=m.foldl (fun l n=>if l.contains n then l else l++[n]) l
def cN(s t:List It):List Int:=ef (numbers s) (numbers t)
def lj(s t:List It):List It:=rename s (cN s t) (dH (cN s t).length)
def nO(s t:List It):List It:=rename t (cN s t) (dH (cN s t).length)
def mI(l:List (Int×Int)):List (V×V):=emap T0 T0 l
theorem vt(l:List (Int×Int))(a:Int):
  (fP a l=none∧fx 0 (.i .i64 a) (mI l) 0=some none∧∀ b,mI l++[(V.i .i64 a,V.i .i64 b)]=mI (je l a b)) ∨
  (∃ i b0,fP a l=some b0∧fx 0 (.i .i64 a) (mI l) 0=some (some (i,.i .i64 b0))∧∀ b,(mI l).set i (V.i .i64 a,V.i .i64 b)=mI (je l a b)):=r3 L8 l a
theorem Dz{fr to:List Int}{i:Nat}(h1:i<fr.length)(h2:i<to.length)(x:Int):DA (fr.drop i) (to.drop i) x=if x=fr.getD i 0 then some (to.getD i 0)else DA (fr.drop (i+1)) (to.drop (i+1)) x:=by
 rw[dM h1,dM h2];simp only[DA];simp[List.getD_eq_getElem?_getD,h1,h2]
theorem G9{fr to:List Int}{i:Nat}(h:min fr.length to.length≤i)(x:Int):DA (fr.drop i) (to.drop i) x=none:=by
 by_cases h1:fr.length≤i
 ·rw[yF h1];simp[DA]
 ·have h2:to.length≤i:=by omega
  rw[yF h2];cases fr.drop i<;>simp[DA]
theorem u7(f:List It)(fr to:List Int):(renamed f fr to).length≤f.length:=XM _ _
theorem sF(f:List It)(fr to:List Int):bp (renamed f fr to)≤bp f:=by
 induction f with
 | nil=>exact aw _
 | cons x f ih =>
  simp only[renamed,jH]at ih ⊢;split
  ·simp only[bp];omega
  ·rename_i y hy
   have:y.text=x.text:=by
    simp only[Kl]at hy;split at hy
    ·rw[ak]at hy;obtain⟨n,_,rfl⟩:=hy;rfl
    ·simp at hy;rw[hy]
   simp only[bp,this];omega
theorem vU(m:List Int):∀ (l:List Int),(ef l m).length≤l.length+m.length:=by
 induction m with
 | nil=>intro l;simp[ef]
 | cons n m ih =>
  intro l;simp only[ef,cj]at ih ⊢;have:=ih (if l.contains n then l else l++[n]);split at this
  ·simp only[ag];rw[if_pos (by assumption)];omega
  ·simp only[ag];rw[if_neg (by assumption)];simp at this ⊢;omega
theorem vP(f:List It):∀ (acc:List Int),(ca acc f).length≤acc.length+f.length:=by
 induction f with
 | nil=>intro acc;simp[ca]
 | cons x f ih =>
  intro acc;simp only[ca];split
  ·have:=ih (acc++[x.id]);simp at this ⊢;omega
  ·have:=ih acc;simp;omega
theorem pV(f:List It):(numbers f).length≤f.length:=by
 have:=vP f [];simpa[numbers]using this
theorem fO{p:UInt8→Prop}(h:∀ n:Fin 256,p (UInt8.ofNat n.val))(c:UInt8):p c:=by
 have:=h ⟨c.toNat,c.toNat_lt⟩;simpa using this
def oM(c:UInt8):Bool:=c != 92&&c != 60&&c != 123&&c != 9&&c != 10&&c != 13&&jG c != 1
def ia(n:Nat):UInt8:=if n<10 then UInt8.ofNat (48+n)else UInt8.ofNat (87+n)
def dC(c:UInt8):List UInt8 :=
 if oM c then[c]else if c=10 then[92,110]else if c=9 then[92,116]else if c=92∨c=60∨c=123 then[92,c]else[92,120,ia (c.toNat / 16),ia (c.toNat % 16)]
def gD(c:UInt8):UInt8×Bool :=
 if 48≤c.toNat∧c.toNat≤57 then(UInt8.ofNat (c.toNat - 48),true)else if 97≤c.toNat∧c.toNat≤102 then(UInt8.ofNat (c.toNat - 87),true)else(0,false)
theorem s7(c:UInt8):(gD c).1.toNat<16:=by
 revert c;exact fO (by decide +kernel)
def ir(a b:UInt8):UInt8:=UInt8.ofNat (16*(gD a).1.toNat+(gD b).1.toNat)
def cz(s:List UInt8):UInt8×Int×Bool :=
 if s.length<2 then(0,0,false)else
 let c:=s.getD 1 0
 if c=92∨c=60∨c=123 then(c,2,true)else if c=110 then(10,2,true)else if c=116 then(9,2,true)else if c=120 then
  if s.length<4 then(0,0,false)else
  let b:=ir (s.getD 2 0) (s.getD 3 0)
  (b,4,(gD (s.getD 2 0)).2&&(gD (s.getD 3 0)).2&&(b==13||jG b==1))
 else(0,0,false)
def di(c:UInt8):Bool:=48≤c.toNat&&c.toNat≤57
def dq(n:Int)(s:List UInt8):Int:=s.foldl (fun n c=>10*n+(c.toNat - 48:Int)) n
def numberOf(s:List UInt8):Int×Bool :=
 if s.length<1∨3<s.length∨s.getD 0 0=48 then(0,false)else if s.all di then(dq 0 s,true)else(0,false)
theorem yi(s:List UInt8):∀ (n:Int) (k:Nat),s.length=k→s.all di=true→0≤n→0≤dq n s∧dq n s<10^k*(n+1):=by
 induction s with
 | nil=>intro n k hk _ hn;simp at hk;subst hk;simp[dq];omega
 | cons c s ih =>
  intro n k hk hs hn;simp only[ey,aB]at hs;have hc:=hs.1;simp only[di,aB,decide_eq_true_eq]at hc;obtain⟨k,rfl⟩:∃ j,k=j+1:=⟨s.length,by simpa using hk.symm⟩;have h:=ih (10*n+(c.toNat - 48:Int)) k (by simpa using hk) hs.2 (by omega);simp only[dq,cj]at h ⊢;refine⟨h.1,Int.lt_of_lt_of_le h.2 ?_⟩;have h3:(10*n+(c.toNat - 48:Int))+1≤10*(n+1):=by omega
  have h4:=Int.mul_le_mul_of_nonneg_left h3 (show(0:Int)≤10^k from Int.pow_nonneg (by omega));have h5:(10:Int)^(k+1)*(n+1)=10^k*(10*(n+1)):=by rw[Int.pow_succ];simp only[Int.mul_assoc]
  omega
def gd(s:List UInt8):It×Bool :=
 let close:=hasPrefix s [47];let s:=if close then s.drop 1 else s
 let p:=cutAt s 58;let empty:=!close&&hasSuffix p.2.1 [47];let kind:Int:=if close then 3 else if empty then 4 else 2
 let content:=if empty then p.2.1.take (p.2.1.length - 1)else p.2.1
 if p.2.2&&(numberOf p.1).2 then(⟨kind,content,(numberOf p.1).1⟩,if kind=3 then isName content else cA content)else(⟨0,[],0⟩,false)
def kQ:It:=⟨0,[],0⟩
def aR(s:List UInt8):It×Int×Bool :=
 let c:=s.getD 0 0
 if c=92 then(⟨1,[(cz s).1],0⟩,(cz s).2.1,(cz s).2.2)
 else if c=60 then
  let e:=Lib.indexByte s 62
  if e<0 then(kQ,0,false)else
  let t:=(s.take e.toNat).drop 1
  ((gd t).1,e+1,(gd t).2)
 else if c=123 then
  let e:=Lib.indexByte s 125
  if e<0∨isName ((s.take e.toNat).drop 1)=false then(kQ,0,false)else(⟨5,(s.take e.toNat).drop 1,0⟩,e+1,true)
 else(⟨1,s.take 1,0⟩,1,oM c)
theorem PE(c:UInt8)(h:48≤c.toNat∧c.toNat≤57):gD c=(UInt8.ofNat (c.toNat - 48),true)∧IntKind.u8.wrap ((c.toNat:Int) - 48)=((gD c).1.toNat:Int):=by
 have h1:gD c=(UInt8.ofNat (c.toNat - 48),true):=by simp only[gD,h,and_self,if_true]
 refine⟨h1,?_⟩;rw[h1];revert h h1;revert c;exact fO (by decide +kernel)
theorem PD(c:UInt8)(h:97≤c.toNat∧c.toNat≤102):gD c=(UInt8.ofNat (c.toNat - 87),true)∧IntKind.u8.wrap (IntKind.u8.wrap ((c.toNat:Int) - 97)+10)=((gD c).1.toNat:Int):=by
 have h0:¬ (48≤c.toNat∧c.toNat≤57):=by omega
 have h1:gD c=(UInt8.ofNat (c.toNat - 87),true):=by simp only[gD,h0,h,and_self,if_true,if_false]
 refine⟨h1,?_⟩;rw[h1];revert h h0 h1;revert c;exact fO (by decide +kernel)
theorem S1(c:UInt8)(h0:¬ (48≤c.toNat∧c.toNat≤57))(h:¬ (97≤c.toNat∧c.toNat≤102)):gD c=(0,false):=by
 simp only[gD,h0,h,if_false]
theorem Gw(a b:UInt8):
  IntKind.u8.wrap (((BitVec.ofInt IntKind.u8.bits (IntKind.u8.wrap (((gD a).1.toNat:Int)*2^(min 4 IntKind.u8.bits))) ||| BitVec.ofInt IntKind.u8.bits ((gD b).1.toNat:Int)).toNat:Nat):Int)=((ir a b).toNat:Int):=by
 have key:∀ m n:Fin 16,IntKind.u8.wrap (((BitVec.ofInt IntKind.u8.bits (IntKind.u8.wrap ((m.val:Int)*2^(min 4 IntKind.u8.bits))) ||| BitVec.ofInt IntKind.u8.bits (n.val:Int)).toNat:Nat):Int)=((UInt8.ofNat (16*m.val+n.val)).toNat:Int):=by decide +kernel
 exact key ⟨_,s7 a⟩ ⟨_,s7 b⟩
theorem KF(c:UInt8)(h:di c=true):IntKind.u8.wrap ((c.toNat:Int) - 48)=(c.toNat:Int) - 48:=by
 revert h;revert c;exact fO (by decide +kernel)
theorem tL(a b:UInt8):((a.toNat:Int)==(b.toNat:Int))=(a==b):=by
 rw[cP];simp only[beq_iff_eq];constructor
 ·intro h;exact Qx.1 (by omega)
 ·intro h;rw[h]
theorem Rq(a b:UInt8):((a.toNat:Int) != (b.toNat:Int))=(a != b):=by
 simp only[bne,tL]
theorem nV{c d:UInt8}{k:Int}(h:¬ c=d)(hk:(d.toNat:Int)=k):((c.toNat:Int)==k)=false:=by
 subst hk;rw[tL];simpa using h
theorem IA{c d:UInt8}{k:Int}(h:c=d)(hk:(d.toNat:Int)=k):((c.toNat:Int)==k)=true:=by
 subst hk;rw[tL];simpa using h
theorem lB(l:List UInt8)(c:UInt8)(h:l.getD 0 0≠c)(h2:¬ Lib.indexByte l c<0):1≤Lib.indexByte l c:=by
 cases l with
 | nil=>simp[Lib.indexByte]at h2
 | cons b l =>
  have hb:¬ b=c:=h;have hb:(b==c)=false:=by simpa using hb
  have Y2:∀ l:List UInt8,-1≤Lib.indexByte l c:=by
   intro l
   induction l with
   | nil=>simp[Lib.indexByte]
   | cons a l ih =>
    simp only[Lib.indexByte];split
    ·omega
    ·split<;>omega
  have h3:=Y2 l;simp only[Lib.indexByte,hb,aF,if_false]at h2 ⊢
  by_cases h4:(Lib.indexByte l c == -1)=true
  ·rw[if_pos h4]at h2;omega
  ·rw[if_neg h4]at h2 ⊢;have h5:Lib.indexByte l c ≠ -1:=by simpa using h4
   omega
structure Rd where
 f:List It
 text:List UInt8
 len:Nat
 tags:List (Int×It)
def fk(s:Rd):Rd:=if 0<s.text.length then⟨s.f++[⟨1,s.text,0⟩],[],s.len,s.tags⟩else s
def SG(x:It):V:=.agg x.cells
def pn(l:List (Int×It)):List (V×V):=emap T0 SG l
theorem vr(l:List (Int×It))(a:Int):
  (fP a l=none∧fx 0 (.i .i64 a) (pn l) 0=some none∧∀ b,pn l++[(V.i .i64 a,SG b)]=pn (je l a b)) ∨
  (∃ i b0,fP a l=some b0∧fx 0 (.i .i64 a) (pn l) 0=some (some (i,SG b0))∧∀ b,(pn l).set i (V.i .i64 a,SG b)=pn (je l a b)):=r3 L8 l a
def tagged(x:It):Bool:=x.kind != 1&&x.kind != 5
def tq(s:Rd)(x:It):Bool:=match fP x.id s.tags with
 | some b=>x.kind != 3||b.kind != 2||dz b.text != x.text
 | none=>false
def jS(s:Rd)(x:It):Nat:=s.f.length+(if 0<s.text.length then 1 else 0)+(if x.kind≠1∨s.text.length=0 then 1 else 0)
def lT(s:Rd)(x:It):Rd:=⟨s.f,s.text,s.len+1,if tagged x then je s.tags x.id x else s.tags⟩
def sI(s:Rd)(x:It):Rd:=⟨s.f++[x],s.text,s.len,s.tags⟩
def iC(s:Rd)(x:It):Int×Rd :=
 if tagged x&&tq s x then(7,s)else if 512<jS s x∨1024<s.len+1 then(3,s)else
 if x.kind=1 then(0,⟨s.f,s.text++x.text,s.len+1,s.tags⟩)else(0,sI (fk (lT s x)) x)
def wY:Rd:=⟨[],[],0,[]⟩
def iI:Nat→Rd→List UInt8→Int→List It×Int×Int
 | 0,_,_,at'=>([],at',2)
 | _+1,s,[],_=>((fk s).f,0,0)
 | n+1,s,c::l,at' =>
  let e:=aR (c::l)
  if e.2.2=false then([],at',2)else
  let r:=iC s e.1
  if r.1≠0 then([],at',r.1)else iI n r.2 ((c::l).drop e.2.1.toNat) (at'+e.2.1)
def parse(s:List UInt8):List It×Int×Int:=iI (s.length+1) wY s 0
structure Rd.ok (r:Rd):Prop where
 f:r.f.length+(if 0<r.text.length then 1 else 0)≤r.len
 text:r.text.length≤r.len
 len:r.len≤1024
theorem IY(r:Rd):(fk r).f.length=r.f.length+(if 0<r.text.length then 1 else 0):=by
 simp only[fk];split<;>rename_i h<;>simp[h]
theorem sJ(r:Rd):(fk r).text.length=0:=by
 simp only[fk];split<;>rename_i h
 ·rfl
 ·simpa using h
theorem u9(r:Rd):(fk r).len=r.len:=by
 simp only[fk];split<;>rfl
theorem Lf{r:Rd}{x:It}(h:r.ok)(hx:x.kind=1→x.text.length≤1)(h0:(iC r x).1=0):(iC r x).2.ok:=by
 obtain⟨h1,h2,h3⟩:=h;simp only[iC]at h0 ⊢;split
 ·rename_i h4;rw[if_pos h4]at h0;simp at h0
 ·rename_i h4;rw[if_neg h4]at h0;split
  ·rename_i h5;rw[if_pos h5]at h0;simp at h0
  ·rename_i h5;split
   ·rename_i h6;have:=hx h6;refine⟨?_,?_,?_⟩
    ·simp only[List.length_append];split at h1<;>split<;>omega
    ·simp only[List.length_append];omega
    ·simp only;omega
   ·refine⟨?_,?_,?_⟩
    ·simp only[sI,List.length_append,ag,ai,IY,sJ,u9,lT];simp only[Nat.lt_irrefl,if_false];omega
    ·simp only[sI,sJ];omega
    ·simp only[sI,u9,lT];omega
theorem uQ(l:List UInt8)(c:UInt8):(cutAt l c).1.length≤l.length∧(cutAt l c).2.1.length≤l.length:=by
 simp only[cutAt];split
 ·simp;omega
 ·simp
theorem FF(s:List UInt8):(gd s).1.text.length≤s.length∧(gd s).1.kind≠1:=by
 have h1:=(uQ s 58).2;have h2:=(uQ (s.drop 1) 58).2;have h3:(s.drop 1).length≤s.length:=by simp
 unfold gd;dsimp only;cases hasPrefix s [47]with
 | true =>
  simp only[if_true,fH,bA,aF,if_false];split
  ·exact⟨bF h2 h3,by simp⟩
  ·exact⟨by simp,by simp⟩
 | false =>
  simp only[aF,if_false,jd,bu];cases hasSuffix (cutAt s 58).2.1 [47]with
  | true =>
   simp only[if_true];split
   ·exact⟨by rw[ba];omega,by simp⟩
   ·exact⟨by simp,by simp⟩
  | false =>
   simp only[aF,if_false];split
   ·exact⟨h1,by simp⟩
   ·exact⟨by simp,by simp⟩
theorem oY{s:List UInt8}(hs:s≠[]):(aR s).1.text.length≤s.length∧((aR s).1.kind=1→(aR s).1.text.length≤1) ∧
  ((aR s).2.2=true→1≤(aR s).2.1∧(aR s).2.1≤s.length):=by
 have hl:0<s.length:=cZ.2 hs;simp only[aR]
 by_cases c92:s.getD 0 0=92
 ·rw[if_pos c92];refine⟨by simp;omega,fun _=>by simp,?_⟩;simp only[cz];split
  ·intro h;simp at h
  ·split
   ·intro _;simp;omega
   ·split
    ·intro _;simp;omega
    ·split
     ·intro _;simp;omega
     ·split
      ·split
       ·intro h;simp at h
       ·intro _;simp;omega
      ·intro h;simp at h
 ·rw[if_neg c92]
  by_cases c60:s.getD 0 0=60
  ·rw[if_pos c60];have hb:=jF s 62;split
   ·exact⟨by simp[kQ],by simp[kQ],by simp⟩
   ·rename_i h;have ht:=FF ((s.take (Lib.indexByte s 62).toNat).drop 1);refine⟨bF ht.1 (by simp;omega),fun h=>absurd h ht.2,fun _=>?_⟩;simp only;omega
  ·rw[if_neg c60]
   by_cases kR:s.getD 0 0=123
   ·rw[if_pos kR];have hb:=jF s 125;split
    ·exact⟨by simp[kQ],by simp[kQ],by simp⟩
    ·rename_i h;have:¬ Lib.indexByte s 125<0:=fun h2=>h (.inl h2);refine⟨by simp;omega,fun h=>by simp at h,fun _=>?_⟩;simp only;omega
   ·rw[if_neg kR];refine⟨by simp;omega,fun _=>by simp;omega,fun _=>?_⟩;simp only;omega
def jJ(l:List Int)(n:Int):List Int:=if l.contains n then l else l++[n]
theorem Mb{l:List Int}{n m:Int}(h:m∈l):m∈jJ l n:=by
 simp only[jJ];split
 ·exact h
 ·simp[h]
theorem JF(l:List Int)(n:Int):n∈jJ l n:=by
 simp only[jJ];split
 ·rename_i h;simpa using h
 ·simp
theorem x9:∀ (b:List Int) {acc:List Int} {m:Int},m∈acc→m∈b.foldl jJ acc
 | [],_,_,h=>h
 | _::b,_,_,h=>x9 b (Mb h)
theorem uO:∀ (b:List Int) {acc:List Int} {m:Int},m∈b→m∈b.foldl jJ acc
 | n::b,acc,m,h=>by
  rcases aY.1 h with rfl | h
  ·exact x9 b (JF _ _)
  ·exact uO b h
theorem J1(b acc:List Int)(n:Int):(jJ b n).foldl jJ acc=jJ (b.foldl jJ acc) n:=by
 by_cases h:b.contains n=true
 ·have e:jJ b n=b:=by simp only[jJ,h,if_true]
  have h2:n∈b:=by simpa using h
  have h3:(b.foldl jJ acc).contains n=true:=by simpa using uO b (acc:=acc) h2
  rw[e];simp only[jJ,h3,if_true]
 ·have e:jJ b n=b++[n]:=by simp only[jJ,h];rfl
  rw[e,List.foldl_append];rfl
theorem vA:∀ (l b acc:List Int),(l.foldl jJ b).foldl jJ acc=l.foldl jJ (b.foldl jJ acc)
 | [],_,_=>rfl
 | n::l,b,acc=>by
  simp only[cj];rw[vA l (jJ b n) acc,J1]
theorem iJ:∀ (f:List It) (acc:List Int),ca acc f=((f.filter cX).map (·.id)).foldl jJ acc
 | [],_=>rfl
 | x::f,acc=>by
  simp only[ca];cases ht:cX x with
  | false =>
   simp only[bA,aF,if_false,o7,ht];exact iJ f acc
  | true =>
   simp only[bu,o7,ht,if_true,aW,cj]
   by_cases h:acc.contains x.id=true
   ·simp only[h,fH,aF,if_false,jJ,if_true];exact iJ f acc
   ·simp only[h,jd,if_true,jJ,if_false,aF];exact iJ f _
theorem pW(s t:List It):numbers (s++t)=cN s t:=by
 have e:∀ l m:List Int,ef l m=m.foldl jJ l:=fun _ _=>rfl;simp only[cN,e,numbers,iJ,si,yK,List.foldl_append];rw[vA];rfl
end Go.Bt
