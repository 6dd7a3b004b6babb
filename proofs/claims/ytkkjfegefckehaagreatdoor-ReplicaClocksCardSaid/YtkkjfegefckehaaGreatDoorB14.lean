/- A part of the proof of the statement of the last text of this claim; its conditions stand there. -/
import Derived.Lib.Bytealg
import Derived.Test.YtkkjfegefckehaaGreatDoorB13
set_option linter.all false

namespace Go.Bt
open Go Go.Pm
structure It where
 kind:Int
 text:List UInt8
 id:Int
def It.cells(x:It):List V:=[.i .i64 x.kind,.s x.text,.i .i64 x.id]
def width(x:It):Int:=if x.kind=1 then x.text.length else 1
def eZ(a:Int)(l:List It):Int:=l.foldl (fun a x=>IntKind.i64.wrap (a+width x)) a
structure bc where
 time:Int
 aS:Int
 number:Int
def bc.cells(x:bc):List V:=[.i .i64 x.time,.i .i64 x.aS,.i .i64 x.number]
def gf(s:bc):Bool:=decide (1≤s.time∧s.time≤2^30∧0≤s.aS∧s.aS<8∧1≤s.number∧s.number≤128)
def jg(b:UInt8):Bool:=(97≤b.toNat&&b.toNat≤122)||(48≤b.toNat&&b.toNat≤57)||b.toNat==45
def isName(s:List UInt8):Bool:=match s with
 | []=>false
 | c::r=>decide (s.length≤24)&&decide (97≤c.toNat∧c.toNat≤122)&&r.all jg
def je(v:List Int)(o:Int):Int:=if o<0∨(v.length:Int)≤o∨8≤o then 0 else if v.getD o.toNat 0<0 then 0 else v.getD o.toNat 0
def eV(a b:Int):Int:=if a<b then -1 else if b<a then 1 else 0
def rz:List Int→Int
 | []=>0
 | x::r=>if x≠0 then x else rz r
def iq(a b:bc):Int:=rz [eV a.time b.time,eV a.aS b.aS,eV a.number b.number]
def jh(a b:List Int)(n:Nat):List Int:=(List.range n).map fun(i:Nat)=>let x:=je a i;let y:=je b i;if x<y then y else x
def fq(a b:List Int):Nat→Nat
 | 0=>0
 | n+1=>if(let x:=je a n;let y:=je b n;if x<y then y else x)≠0 then n+1 else fq a b n
theorem lP(a b:List Int):∀ n,fq a b n≤n
 | 0=>aB _
 | n+1=>by
  have:=lP a b n;simp only[fq]
  (repeat' split)<;>omega
def nc(a b:List Int):List Int:=(jh a b 8).take (fq a b 8)
theorem wF(a b:List Int)(n:Nat):jh a b (n+1)=jh a b n++[if je a n<je b n then je b n else je a n]:=by
 simp[jh,vy]
theorem lr(a b:List Int)(n:Nat):(jh a b n).length=n:=by simp[jh]
def cutAt(l:List UInt8)(c:UInt8):List UInt8×List UInt8×Bool :=
 if 0≤Lib.indexByte l c then(l.take (Lib.indexByte l c).toNat,l.drop ((Lib.indexByte l c).toNat+1),true)else(l,[],false)
theorem lY(l:List UInt8)(c:UInt8):Lib.indexByte l c<l.length:=by
 induction l with
 | nil=>simp[Lib.indexByte]
 | cons b l ih =>
  simp only[Lib.indexByte,ab];split
  ·omega
  ·split<;>omega
def hasPrefix(l p:List UInt8):Bool:=decide (p.length≤l.length)&&l.take p.length==p
def hasSuffix(l p:List UInt8):Bool:=decide (p.length≤l.length)&&l.drop (l.length - p.length)==p
def dm(l:List UInt8):List UInt8:=(cutAt l 32).1
def l0(b:UInt8):Int :=
 if b.toNat=9∨b.toNat=10∨b.toNat=13∨b.toNat=32 then 2 else if b.toNat<32∨b.toNat=127 then 1 else if 48≤b.toNat∧b.toNat≤57 then 3
 else if 97≤b.toNat∧b.toNat≤122∨65≤b.toNat∧b.toNat≤90∨128≤b.toNat then 4 else 5
def gJ(b:UInt8):Bool:=decide (b.toNat<32)||decide (126<b.toNat)||decide (0≤Lib.indexByte [60,62,123,125] b)
def jz(s:List UInt8):Bool:=decide (s.length≤64)&&decide (s.length≠0)&&decide ((s.getD (s.length - 1) 0).toNat≠47)
def kS(s:List UInt8):Bool:=isName (cutAt s 32).1&&(!(cutAt s 32).2.2||decide (0<(cutAt s 32).2.1.length))
def db(s:List UInt8):Bool:=jz s&&s.all (fun b=>!gJ b)&&kS s
def cI(x:It):Bool:=x.kind==2||x.kind==3||x.kind==4
def fa(x y:It):Bool:=!(!cI y||y.id != x.id)&&(x.kind != 3||y.kind != 2||!(dm y.text==x.text))
def fits(before:List It)(x:It):Bool:=before.all fun y=>!fa x y
def bB(p:Option It)(x:It):Bool :=
 if x.kind=1 then !(x.text==[])&&x.id==0&&(match p with | none=>true | some y=>y.kind != 1)
 else if x.kind=5 then isName x.text&&x.id==0
 else if x.kind=2∨x.kind=4 then db x.text&&decide (1≤x.id)&&decide (x.id≤999)
 else if x.kind=3 then isName x.text&&decide (1≤x.id)&&decide (x.id≤999)
 else false
def bt:List It→List It→Int
 | _,[]=>0
 | pre,x::rest=>if bB pre.getLast? x=false then 1 else if(cI x&&!fits pre x)=true then 7 else bt (pre++[x]) rest
def bO(f:List It):Int:=if 512<f.length∨1024<eZ 0 f then 3 else bt [] f
def cB:List Int→List It→List Int
 | acc,[]=>acc
 | acc,x::r=>if(cI x&&!acc.contains x.id)=true then cB (acc++[x.id]) r else cB acc r
def numbers(f:List It):List Int:=cB [] f
def lL(l:List Int):List (V×V):=l.map fun n=>(.i .i64 n,.b true)
theorem vZ(n:Int):∀ (l:List Int) (k:Nat),gH 0 (.i .i64 n) (lL l) k=if n∈l then some (some (k+l.idxOf n,.b true))else some none
 | [],k=>by simp[lL,gH]
 | m::l,k=>by
  have ih:=vZ n l (k+1)
  by_cases h:n=m
  ·subst h
   have e:gH 0 (.i .i64 n) (lL (n::l)) k=some (some (k,.b true)):=by
    simp only[lL,ay,gH,di,if_true,beq_self_eq_true]
   rw[e];simp
  ·have h1:(n==m)=false:=by simpa using h
   have h2:(m==n)=false:=by simpa using fun e=>h e.symm
   have e:gH 0 (.i .i64 n) (lL (m::l)) k=gH 0 (.i .i64 n) (lL l) (k+1):=by
    simp only[lL,ay,gH,di,if_true,h1]
   rw[e,ih]
   by_cases h3:n∈l
   ·have h4:(m::l).idxOf n=l.idxOf n+1:=by rw[El,h2];rfl
    rw[if_pos h3,if_pos (cY _ h3),h4];congr 3;omega
   ·rw[if_neg h3,if_neg (by simp[h,h3])]
def cu(n:Nat):List Int:=(List.range n).map fun(i:Nat)=>(i:Int)+1
def iX(N i:Nat):List (List V):=(cu i).map bj++List.replicate (N - i) [V.i .i64 0]
theorem wL{N i:Nat}(h:i≤N):(iX N i).length=N:=by simp[iX,cu];omega
theorem Fe{N i:Nat}(h:i<N):(iX N i).set i [V.i .i64 ((i:Int)+1)]=iX N (i+1):=by
 have e:N - i=(N - (i+1))+1:=by omega
 have hl:((cu i).map bj).length=i:=by simp[cu]
 simp only[iX];rw[fT _ _ (by omega),hl,iu,e,Lq,dU];simp[cu,vy,bj]
theorem Ff{N i:Nat}(h:i<N):(iX N i).getD i []=[V.i .i64 0]:=by
 have hl:((cu i).map bj).length=i:=by simp[cu]
 have e:N - i=(N - (i+1))+1:=by omega
 simp only[iX,List.getD_eq_getElem?_getD];rw[aN (by omega),hl,iu,e,Lq];rfl
def EY(a b:It):Bool:=a.kind==b.kind&&(a.text==b.text&&a.id==b.id)
theorem SU{a b:It}:EY a b=true↔a=b:=by
 obtain⟨k,t,i⟩:=a;obtain⟨k',t',i'⟩:=b;simp[EY]
def gq:List It→List It→Bool
 | [],[]=>true
 | a::x,b::y=>EY a b&&gq x y
 | _,_=>false
theorem vV:∀ {a b:List It},gq a b=true↔a=b
 | [],[]=>by simp[gq]
 | a::x,b::y=>by simp[gq,SU,vV (a:=x) (b:=y)]
 | [],b::y=>by simp[gq]
 | a::x,[]=>by simp[gq]
theorem FV:∀ {a b:List It},gq a b=true→a.length=b.length:=fun h=>by rw[vV.1 h]
def runText:List It→List UInt8×List It
 | []=>([],[])
 | x::r=>if x.kind=1 then(x.text++(runText r).1,(runText r).2)else([],x::r)
theorem AZ:∀ (l:List It),(runText l).2.length≤l.length
 | []=>aB _
 | x::r=>by
  have:=AZ r;simp only[runText];split
  ·simp only[ab];omega
  ·exact aB _
def jX:Nat→List It→List It
 | 0,_=>[]
 | _+1,[]=>[]
 | n+1,x::r=>if x.kind≠1 then x::jX n r else
   if(runText (x::r)).1.length=0 then jX n (runText (x::r)).2 else⟨1,(runText (x::r)).1,0⟩::jX n (runText (x::r)).2
def normalize(f:List It):List It:=jX f.length f
def aM:List It→Nat
 | []=>0
 | x::r=>x.text.length+aM r
theorem wv:∀ (l:List It),∃ run,l=run++(runText l).2
 | []=>⟨[],rfl⟩
 | x::r=>by
  obtain⟨run,h⟩:=wv r
  by_cases hk:x.kind=1
  ·refine⟨x::run,?_⟩;simp only[runText,hk,if_true,aq];rw[← h]
  ·exact⟨[],by simp[runText,hk]⟩
theorem q8{x:It}{r:List It}(h:x.kind=1):(runText (x::r)).2.length≤r.length:=by
 simp only[runText,h,if_true];exact AZ r
theorem yu:∀ (l:List It),(runText l).1.length+aM (runText l).2=aM l
 | []=>rfl
 | x::r=>by
  have:=yu r
  by_cases hk:x.kind=1
  ·simp only[runText,hk,if_true,List.length_append,aM];omega
  ·simp[runText,hk,aM]
def Eu:List Int→List Int→Int→Option Int
 | a::fr,b::to,x=>if x=a then some b else Eu fr to x
 | _,_,_=>none
def NA(fr to:List Int)(x:It):Option It:=if cI x then(Eu fr to x.id).map fun n=>⟨x.kind,x.text,n⟩else some x
def renamed(f:List It)(fr to:List Int):List It:=f.filterMap (NA fr to)
def rename(f:List It)(fr to:List Int):List It:=normalize (renamed f fr to)
def fj(l m:List Int):List Int:=m.foldl (fun l n=>if l.contains n then l else l++[n]) l
def bG(s t:List It):List Int:=fj (numbers s) (numbers t)
def fZ(s t:List It):List It:=rename s (bG s t) (cu (bG s t).length)
def gT(s t:List It):List It:=rename t (bG s t) (cu (bG s t).length)
def qj(l:List (Int×Int)):List (V×V):=emap keI keI l
theorem Bh(l:List (Int×Int))(a:Int):
  (gz a l=none∧gH 0 (.i .i64 a) (qj l) 0=some none∧∀ b,qj l++[(V.i .i64 a,V.i .i64 b)]=qj (ln l a b)) ∨
  (∃ i b0,gz a l=some b0∧gH 0 (.i .i64 a) (qj l) 0=some (some (i,.i .i64 b0))∧∀ b,(qj l).set i (V.i .i64 a,V.i .i64 b)=qj (ln l a b)):=xR SO l a
theorem Jh{fr to:List Int}{i:Nat}(h1:i<fr.length)(h2:i<to.length)(x:Int):Eu (fr.drop i) (to.drop i) x=if x=fr.getD i 0 then some (to.getD i 0)else Eu (fr.drop (i+1)) (to.drop (i+1)) x:=by
 rw[eU h1,eU h2];simp only[Eu];simp[List.getD_eq_getElem?_getD,h1,h2]
theorem Nw{fr to:List Int}{i:Nat}(h:min fr.length to.length≤i)(x:Int):Eu (fr.drop i) (to.drop i) x=none:=by
 by_cases h1:fr.length≤i
 ·rw[ry h1];simp[Eu]
 ·have h2:to.length≤i:=by omega
  rw[ry h2];cases fr.drop i<;>simp[Eu]
theorem A1(f:List It)(fr to:List Int):(renamed f fr to).length≤f.length:=afw _ _
theorem yC(f:List It)(fr to:List Int):aM (renamed f fr to)≤aM f:=by
 induction f with
 | nil=>exact aB _
 | cons x f ih =>
  simp only[renamed,kz]at ih ⊢;split
  ·simp only[aM];omega
  ·rename_i y hy
   have:y.text=x.text:=by
    simp only[NA]at hy;split at hy
    ·rw[ar]at hy;obtain⟨n,_,rfl⟩:=hy;rfl
    ·simp at hy;rw[hy]
   simp only[aM,this];omega
theorem tv(m:List Int):∀ (l:List Int),(fj l m).length≤l.length+m.length:=by
 induction m with
 | nil=>intro l;simp[fj]
 | cons n m ih =>
  intro l;simp only[fj,bd]at ih ⊢;have:=ih (if l.contains n then l else l++[n]);split at this
  ·simp only[ab];rw[if_pos (by assumption)];omega
  ·simp only[ab];rw[if_neg (by assumption)];simp at this ⊢;omega
theorem BN(f:List It):∀ (acc:List Int),(cB acc f).length≤acc.length+f.length:=by
 induction f with
 | nil=>intro acc;simp[cB]
 | cons x f ih =>
  intro acc;simp only[cB];split
  ·have:=ih (acc++[x.id]);simp at this ⊢;omega
  ·have:=ih acc;simp;omega
theorem oM(f:List It):(numbers f).length≤f.length:=by
 have:=BN f [];simpa[numbers]using this
theorem iw{p:UInt8→Prop}(h:∀ n:Fin 256,p (UInt8.ofNat n.val))(c:UInt8):p c:=by
 have:=h ⟨c.toNat,c.toNat_lt⟩;simpa using this
def sq(c:UInt8):Bool:=c != 92&&c != 60&&c != 123&&c != 9&&c != 10&&c != 13&&l0 c != 1
def jF(n:Nat):UInt8:=if n<10 then UInt8.ofNat (48+n)else UInt8.ofNat (87+n)
def eB(c:UInt8):List UInt8 :=
 if sq c then[c]else if c=10 then[92,110]else if c=9 then[92,116]else if c=92∨c=60∨c=123 then[92,c]else[92,120,jF (c.toNat / 16),jF (c.toNat % 16)]
def ji(c:UInt8):UInt8×Bool :=
 if 48≤c.toNat∧c.toNat≤57 then(UInt8.ofNat (c.toNat - 48),true)else if 97≤c.toNat∧c.toNat≤102 then(UInt8.ofNat (c.toNat - 87),true)else(0,false)
theorem zj(c:UInt8):(ji c).1.toNat<16:=by
 revert c;exact iw (by decide +kernel)
def jZ(a b:UInt8):UInt8:=UInt8.ofNat (16*(ji a).1.toNat+(ji b).1.toNat)
def dp(s:List UInt8):UInt8×Int×Bool :=
 if s.length<2 then(0,0,false)else
 let c:=s.getD 1 0
 if c=92∨c=60∨c=123 then(c,2,true)else if c=110 then(10,2,true)else if c=116 then(9,2,true)else if c=120 then
  if s.length<4 then(0,0,false)else
  let b:=jZ (s.getD 2 0) (s.getD 3 0)
  (b,4,(ji (s.getD 2 0)).2&&(ji (s.getD 3 0)).2&&(b==13||l0 b==1))
 else(0,0,false)
def dP(c:UInt8):Bool:=48≤c.toNat&&c.toNat≤57
def dZ(n:Int)(s:List UInt8):Int:=s.foldl (fun n c=>10*n+(c.toNat - 48:Int)) n
def numberOf(s:List UInt8):Int×Bool :=
 if s.length<1∨3<s.length∨s.getD 0 0=48 then(0,false)else if s.all dP then(dZ 0 s,true)else(0,false)
theorem DW(s:List UInt8):∀ (n:Int) (k:Nat),s.length=k→s.all dP=true→0≤n→0≤dZ n s∧dZ n s<10^k*(n+1):=by
 induction s with
 | nil=>intro n k hk _ hn;simp at hk;subst hk;simp[dZ];omega
 | cons c s ih =>
  intro n k hk hs hn;simp only[kM,aC]at hs;have hc:=hs.1;simp only[dP,aC,decide_eq_true_eq]at hc;obtain⟨k,rfl⟩:∃ j,k=j+1:=⟨s.length,by simpa using hk.symm⟩;have h:=ih (10*n+(c.toNat - 48:Int)) k (by simpa using hk) hs.2 (by omega);simp only[dZ,bd]at h ⊢;refine⟨h.1,Int.lt_of_lt_of_le h.2 ?_⟩;have h3:(10*n+(c.toNat - 48:Int))+1≤10*(n+1):=by omega
  have h4:=Int.mul_le_mul_of_nonneg_left h3 (show(0:Int)≤10^k from aaY (by omega));have h5:(10:Int)^(k+1)*(n+1)=10^k*(10*(n+1)):=by rw[Int.pow_succ];simp only[Int.mul_assoc]
  omega
def iL(s:List UInt8):It×Bool :=
 let close:=hasPrefix s [47];let s:=if close then s.drop 1 else s
 let p:=cutAt s 58;let empty:=!close&&hasSuffix p.2.1 [47];let kind:Int:=if close then 3 else if empty then 4 else 2
 let content:=if empty then p.2.1.take (p.2.1.length - 1)else p.2.1
 if p.2.2&&(numberOf p.1).2 then(⟨kind,content,(numberOf p.1).1⟩,if kind=3 then isName content else db content)else(⟨0,[],0⟩,false)
def nE:It:=⟨0,[],0⟩
def aX(s:List UInt8):It×Int×Bool :=
 let c:=s.getD 0 0
 if c=92 then(⟨1,[(dp s).1],0⟩,(dp s).2.1,(dp s).2.2)
 else if c=60 then
  let e:=Lib.indexByte s 62
  if e<0 then(nE,0,false)else
  let t:=(s.take e.toNat).drop 1
  ((iL t).1,e+1,(iL t).2)
 else if c=123 then
  let e:=Lib.indexByte s 125
  if e<0∨isName ((s.take e.toNat).drop 1)=false then(nE,0,false)else(⟨5,(s.take e.toNat).drop 1,0⟩,e+1,true)
 else(⟨1,s.take 1,0⟩,1,sq c)
theorem WG(c:UInt8)(h:48≤c.toNat∧c.toNat≤57):ji c=(UInt8.ofNat (c.toNat - 48),true)∧IntKind.u8.wrap ((c.toNat:Int) - 48)=((ji c).1.toNat:Int):=by
 have h1:ji c=(UInt8.ofNat (c.toNat - 48),true):=by simp only[ji,h,and_self,if_true]
 refine⟨h1,?_⟩;rw[h1];revert h h1;revert c;exact iw (by decide +kernel)
theorem WE(c:UInt8)(h:97≤c.toNat∧c.toNat≤102):ji c=(UInt8.ofNat (c.toNat - 87),true)∧IntKind.u8.wrap (IntKind.u8.wrap ((c.toNat:Int) - 97)+10)=((ji c).1.toNat:Int):=by
 have h0:¬ (48≤c.toNat∧c.toNat≤57):=by omega
 have h1:ji c=(UInt8.ofNat (c.toNat - 87),true):=by simp only[ji,h0,h,and_self,if_true,if_false]
 refine⟨h1,?_⟩;rw[h1];revert h h0 h1;revert c;exact iw (by decide +kernel)
theorem ZZ(c:UInt8)(h0:¬ (48≤c.toNat∧c.toNat≤57))(h:¬ (97≤c.toNat∧c.toNat≤102)):ji c=(0,false):=by
 simp only[ji,h0,h,if_false]
theorem MK(a b:UInt8):
  IntKind.u8.wrap (((BitVec.ofInt IntKind.u8.bits (IntKind.u8.wrap (((ji a).1.toNat:Int)*2^(min 4 IntKind.u8.bits))) ||| BitVec.ofInt IntKind.u8.bits ((ji b).1.toNat:Int)).toNat:Nat):Int)=((jZ a b).toNat:Int):=by
 have key:∀ m n:Fin 16,IntKind.u8.wrap (((BitVec.ofInt IntKind.u8.bits (IntKind.u8.wrap ((m.val:Int)*2^(min 4 IntKind.u8.bits))) ||| BitVec.ofInt IntKind.u8.bits (n.val:Int)).toNat:Nat):Int)=((UInt8.ofNat (16*m.val+n.val)).toNat:Int):=by decide +kernel
 exact key ⟨_,zj a⟩ ⟨_,zj b⟩
theorem Rq(c:UInt8)(h:dP c=true):IntKind.u8.wrap ((c.toNat:Int) - 48)=(c.toNat:Int) - 48:=by
 revert h;revert c;exact iw (by decide +kernel)
theorem zV(a b:UInt8):((a.toNat:Int)==(b.toNat:Int))=(a==b):=by
 rw[du];simp only[beq_iff_eq];constructor
 ·intro h;exact mY.1 (by omega)
 ·intro h;rw[h]
theorem Yw(a b:UInt8):((a.toNat:Int) != (b.toNat:Int))=(a != b):=by
 simp only[bne,zV]
theorem rD{c d:UInt8}{k:Int}(h:¬ c=d)(hk:(d.toNat:Int)=k):((c.toNat:Int)==k)=false:=by
 subst hk;rw[zV];simpa using h
theorem OV{c d:UInt8}{k:Int}(h:c=d)(hk:(d.toNat:Int)=k):((c.toNat:Int)==k)=true:=by
 subst hk;rw[zV];simpa using h
theorem oz(l:List UInt8)(c:UInt8)(h:l.getD 0 0≠c)(h2:¬ Lib.indexByte l c<0):1≤Lib.indexByte l c:=by
 cases l with
 | nil=>simp[Lib.indexByte]at h2
 | cons b l =>
  have hb:¬ b=c:=h;have hb:(b==c)=false:=by simpa using hb
  have aiD:∀ l:List UInt8,-1≤Lib.indexByte l c:=by
   intro l
   induction l with
   | nil=>simp[Lib.indexByte]
   | cons a l ih =>
    simp only[Lib.indexByte];split
    ·omega
    ·split<;>omega
  have h3:=aiD l;simp only[Lib.indexByte,hb,aD,if_false]at h2 ⊢
  by_cases h4:(Lib.indexByte l c == -1)=true
  ·rw[if_pos h4]at h2;omega
  ·rw[if_neg h4]at h2 ⊢;have h5:Lib.indexByte l c ≠ -1:=by simpa using h4
   omega
structure Rd where
 f:List It
 text:List UInt8
 len:Nat
 tags:List (Int×It)
def gv(s:Rd):Rd:=if 0<s.text.length then⟨s.f++[⟨1,s.text,0⟩],[],s.len,s.tags⟩else s
def itV(x:It):V:=.agg x.cells
def tx(l:List (Int×It)):List (V×V):=emap keI itV l
theorem Bg(l:List (Int×It))(a:Int):
  (gz a l=none∧gH 0 (.i .i64 a) (tx l) 0=some none∧∀ b,tx l++[(V.i .i64 a,itV b)]=tx (ln l a b)) ∨
  (∃ i b0,gz a l=some b0∧gH 0 (.i .i64 a) (tx l) 0=some (some (i,itV b0))∧∀ b,(tx l).set i (V.i .i64 a,itV b)=tx (ln l a b)):=xR SO l a
def tagged(x:It):Bool:=x.kind != 1&&x.kind != 5
def wN(s:Rd)(x:It):Bool:=match gz x.id s.tags with
 | some b=>x.kind != 3||b.kind != 2||dm b.text != x.text
 | none=>false
def mo(s:Rd)(x:It):Nat:=s.f.length+(if 0<s.text.length then 1 else 0)+(if x.kind≠1∨s.text.length=0 then 1 else 0)
def o0(s:Rd)(x:It):Rd:=⟨s.f,s.text,s.len+1,if tagged x then ln s.tags x.id x else s.tags⟩
def yH(s:Rd)(x:It):Rd:=⟨s.f++[x],s.text,s.len,s.tags⟩
def kr(s:Rd)(x:It):Int×Rd :=
 if tagged x&&wN s x then(7,s)else if 512<mo s x∨1024<s.len+1 then(3,s)else
 if x.kind=1 then(0,⟨s.f,s.text++x.text,s.len+1,s.tags⟩)else(0,yH (gv (o0 s x)) x)
def CH:Rd:=⟨[],[],0,[]⟩
def jl:Nat→Rd→List UInt8→Int→List It×Int×Int
 | 0,_,_,at'=>([],at',2)
 | _+1,s,[],_=>((gv s).f,0,0)
 | n+1,s,c::l,at' =>
  let e:=aX (c::l)
  if e.2.2=false then([],at',2)else
  let r:=kr s e.1
  if r.1≠0 then([],at',r.1)else jl n r.2 ((c::l).drop e.2.1.toNat) (at'+e.2.1)
def parse(s:List UInt8):List It×Int×Int:=jl (s.length+1) CH s 0
structure Rd.ok (r:Rd):Prop where
 f:r.f.length+(if 0<r.text.length then 1 else 0)≤r.len
 text:r.text.length≤r.len
 len:r.len≤1024
theorem Ph(r:Rd):(gv r).f.length=r.f.length+(if 0<r.text.length then 1 else 0):=by
 simp only[gv];split<;>rename_i h<;>simp[h]
theorem yI(r:Rd):(gv r).text.length=0:=by
 simp only[gv];split<;>rename_i h
 ·rfl
 ·simpa using h
theorem A2(r:Rd):(gv r).len=r.len:=by
 simp only[gv];split<;>rfl
theorem RY{r:Rd}{x:It}(h:r.ok)(hx:x.kind=1→x.text.length≤1)(h0:(kr r x).1=0):(kr r x).2.ok:=by
 obtain⟨h1,h2,h3⟩:=h;simp only[kr]at h0 ⊢;split
 ·rename_i h4;rw[if_pos h4]at h0;simp at h0
 ·rename_i h4;rw[if_neg h4]at h0;split
  ·rename_i h5;rw[if_pos h5]at h0;simp at h0
  ·rename_i h5;split
   ·rename_i h6;have:=hx h6;refine⟨?_,?_,?_⟩
    ·simp only[List.length_append];split at h1<;>split<;>omega
    ·simp only[List.length_append];omega
    ·simp only;omega
   ·refine⟨?_,?_,?_⟩
    ·simp only[yH,List.length_append,ab,ah,Ph,yI,A2,o0];simp only[Nat.lt_irrefl,if_false];omega
    ·simp only[yH,yI];omega
    ·simp only[yH,A2,o0];omega
theorem wa(l:List UInt8)(c:UInt8):(cutAt l c).1.length≤l.length∧(cutAt l c).2.1.length≤l.length:=by
 simp only[cutAt];split
 ·simp;omega
 ·simp
theorem LG(s:List UInt8):(iL s).1.text.length≤s.length∧(iL s).1.kind≠1:=by
 have h1:=(wa s 58).2;have h2:=(wa (s.drop 1) 58).2;have h3:(s.drop 1).length≤s.length:=by simp
 unfold iL;dsimp only;cases hasPrefix s [47]with
 | true =>
  simp only[if_true,gU,gV,aD,if_false];split
  ·exact⟨bZ h2 h3,by simp⟩
  ·exact⟨by simp,by simp⟩
 | false =>
  simp only[aD,if_false,jS,dM];cases hasSuffix (cutAt s 58).2.1 [47]with
  | true =>
   simp only[if_true];split
   ·exact⟨by rw[aR];omega,by simp⟩
   ·exact⟨by simp,by simp⟩
  | false =>
   simp only[aD,if_false];split
   ·exact⟨h1,by simp⟩
   ·exact⟨by simp,by simp⟩
theorem sW{s:List UInt8}(hs:s≠[]):(aX s).1.text.length≤s.length∧((aX s).1.kind=1→(aX s).1.text.length≤1) ∧
  ((aX s).2.2=true→1≤(aX s).2.1∧(aX s).2.1≤s.length):=by
 have hl:0<s.length:=dK.2 hs;simp only[aX]
 by_cases c92:s.getD 0 0=92
 ·rw[if_pos c92];refine⟨by simp;omega,fun _=>by simp,?_⟩;simp only[dp];split
  ·intro h;simp at h
  ·split
   ·intro _;simp;omega
   ·split
    ·intro _;simp;omega
    ·split
     ·intro _;simp;omega
     ·split
      ·split
       ·intro h;simp at h
       ·intro _;simp;omega
      ·intro h;simp at h
 ·rw[if_neg c92]
  by_cases wm:s.getD 0 0=60
  ·rw[if_pos wm];have hb:=lY s 62;split
   ·exact⟨by simp[nE],by simp[nE],by simp⟩
   ·rename_i h;have ht:=LG ((s.take (Lib.indexByte s 62).toNat).drop 1);refine⟨bZ ht.1 (by simp;omega),fun h=>absurd h ht.2,fun _=>?_⟩;simp only;omega
  ·rw[if_neg wm]
   by_cases nJ:s.getD 0 0=123
   ·rw[if_pos nJ];have hb:=lY s 125;split
    ·exact⟨by simp[nE],by simp[nE],by simp⟩
    ·rename_i h;have:¬ Lib.indexByte s 125<0:=fun h2=>h (.inl h2);refine⟨by simp;omega,fun h=>by simp at h,fun _=>?_⟩;simp only;omega
   ·rw[if_neg nJ];refine⟨by simp;omega,fun _=>by simp;omega,fun _=>?_⟩;simp only;omega
def jE(l:List Int)(n:Int):List Int:=if l.contains n then l else l++[n]
theorem SX{l:List Int}{n m:Int}(h:m∈l):m∈jE l n:=by
 simp only[jE];split
 ·exact h
 ·simp[h]
theorem Qd(l:List Int)(n:Int):n∈jE l n:=by
 simp only[jE];split
 ·rename_i h;simpa using h
 ·simp
theorem DK:∀ (b:List Int) {acc:List Int} {m:Int},m∈acc→m∈b.foldl jE acc
 | [],_,_,h=>h
 | _::b,_,_,h=>DK b (SX h)
theorem rX:∀ (b:List Int) {acc:List Int} {m:Int},m∈b→m∈b.foldl jE acc
 | n::b,acc,m,h=>by
  rcases aU.1 h with rfl | h
  ·exact DK b (Qd _ _)
  ·exact rX b h
theorem QB(b acc:List Int)(n:Int):(jE b n).foldl jE acc=jE (b.foldl jE acc) n:=by
 by_cases h:b.contains n=true
 ·have e:jE b n=b:=by simp only[jE,h,if_true]
  have h2:n∈b:=by simpa using h
  have h3:(b.foldl jE acc).contains n=true:=by simpa using rX b (acc:=acc) h2
  rw[e];simp only[jE,h3,if_true]
 ·have e:jE b n=b++[n]:=by simp only[jE,h];rfl
  rw[e,zR];rfl
theorem Bq:∀ (l b acc:List Int),(l.foldl jE b).foldl jE acc=l.foldl jE (b.foldl jE acc)
 | [],_,_=>rfl
 | n::l,b,acc=>by
  simp only[bd];rw[Bq l (jE b n) acc,QB]
theorem jB:∀ (f:List It) (acc:List Int),cB acc f=((f.filter cI).map (·.id)).foldl jE acc
 | [],_=>rfl
 | x::f,acc=>by
  simp only[cB];cases ht:cI x with
  | false =>
   simp only[gV,aD,if_false,fQ,ht];exact jB f acc
  | true =>
   simp only[dM,fQ,ht,if_true,ay,bd]
   by_cases h:acc.contains x.id=true
   ·simp only[h,gU,aD,if_false,jE,if_true];exact jB f acc
   ·simp only[h,jS,if_true,jE,if_false,aD];exact jB f _
theorem qd(s t:List It):numbers (s++t)=bG s t:=by
 have e:∀ l m:List Int,fj l m=m.foldl jE l:=fun _ _=>rfl;simp only[bG,e,numbers,jB,List.filter_append,List.map_append,zR];rw[Bq];rfl
end Go.Bt
