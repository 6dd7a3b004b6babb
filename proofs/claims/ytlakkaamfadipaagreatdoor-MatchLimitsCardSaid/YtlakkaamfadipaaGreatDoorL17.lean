/- A part of a proof; the claim's last text says of what. -/
import Derived.Lib.Bytealg
import Derived.Test.YtlakkaamfadipaaGreatDoorL16
set_option linter.all false

namespace Go.Bt
open Go Go.Pm
structure It where
 aep:Int
 aer:List UInt8
 id:Int
def It.aen(x:It):List V:=[.i .i64 x.aep,.s x.aer,.i .i64 x.id]
def width(x:It):Int:=if x.aep=1 then x.aer.length else 1
def jq(a:Int)(l:List It):Int:=l.foldl (fun a x=>IntKind.i64.wrap (a+width x)) a
structure GL where
 time:Int
 jn:Int
 number:Int
def GL.aen(x:GL):List V:=[.i .i64 x.time,.i .i64 x.jn,.i .i64 x.number]
def MH(s:GL):Bool:=decide (1≤s.time∧s.time≤2^30∧0≤s.jn∧s.jn<8∧1≤s.number∧s.number≤128)
def mY(b:UInt8):Bool:=(97≤b.toNat&&b.toNat≤122)||(48≤b.toNat&&b.toNat≤57)||b.toNat==45
def aeC(s:List UInt8):Bool:=match s with
 | []=>false
 | c::r=>decide (s.length≤24)&&decide (97≤c.toNat∧c.toNat≤122)&&r.all mY
def SP(v:List Int)(o:Int):Int:=if o<0∨(v.length:Int)≤o∨8≤o then 0 else if v.getD o.toNat 0<0 then 0 else v.getD o.toNat 0
def jY(a b:Int):Int:=if a<b then -1 else if b<a then 1 else 0
def tR:List Int→Int
 | []=>0
 | x::r=>if x≠0 then x else tR r
def Kr(a b:List Int)(n:Nat):List Int:=(List.range n).map fun(i:Nat)=>let x:=SP a i;let y:=SP b i;if x<y then y else x
def Cz(a b:List Int):Nat→Nat
 | 0=>0
 | n+1=>if(let x:=SP a n;let y:=SP b n;if x<y then y else x)≠0 then n+1 else Cz a b n
def SO(a b:List Int):List Int:=(Kr a b 8).take (Cz a b 8)
def cutAt(l:List UInt8)(c:UInt8):List UInt8×List UInt8×Bool :=
 if 0≤Lib.indexByte l c then(l.take (Lib.indexByte l c).toNat,l.drop ((Lib.indexByte l c).toNat+1),true)else(l,[],false)
theorem jK(l:List UInt8)(c:UInt8):Lib.indexByte l c<l.length:=by
 induction l with
 | nil=>simp[Lib.indexByte]
 | cons b l ih =>
  simp only[Lib.indexByte,ai];split
  ·omega
  ·split<;>omega
def hasPrefix(l p:List UInt8):Bool:=decide (p.length≤l.length)&&l.take p.length==p
def hasSuffix(l p:List UInt8):Bool:=decide (p.length≤l.length)&&l.drop (l.length - p.length)==p
def iH(l:List UInt8):List UInt8:=(cutAt l 32).1
def eE(b:UInt8):Int :=
 if b.toNat=9∨b.toNat=10∨b.toNat=13∨b.toNat=32 then 2 else if b.toNat<32∨b.toNat=127 then 1 else if 48≤b.toNat∧b.toNat≤57 then 3
 else if 97≤b.toNat∧b.toNat≤122∨65≤b.toNat∧b.toNat≤90∨128≤b.toNat then 4 else 5
def lZ(b:UInt8):Bool:=decide (b.toNat<32)||decide (126<b.toNat)||decide (0≤Lib.indexByte [60,62,123,125] b)
def jz(s:List UInt8):Bool:=decide (s.length≤64)&&decide (s.length≠0)&&decide ((s.getD (s.length - 1) 0).toNat≠47)
def ui(s:List UInt8):Bool:=aeC (cutAt s 32).1&&(!(cutAt s 32).2.2||decide (0<(cutAt s 32).2.1.length))
def gy(s:List UInt8):Bool:=jz s&&s.all (fun b=>!lZ b)&&ui s
def b5(x:It):Bool:=x.aep==2||x.aep==3||x.aep==4
def jj(x y:It):Bool:=!(!b5 y||y.id != x.id)&&(x.aep != 3||y.aep != 2||!(iH y.aer==x.aer))
def fits(before:List It)(x:It):Bool:=before.all fun y=>!jj x y
def cH(p:Option It)(x:It):Bool :=
 if x.aep=1 then !(x.aer==[])&&x.id==0&&(match p with | none=>true | some y=>y.aep != 1)
 else if x.aep=5 then aeC x.aer&&x.id==0
 else if x.aep=2∨x.aep=4 then gy x.aer&&decide (1≤x.id)&&decide (x.id≤999)
 else if x.aep=3 then aeC x.aer&&decide (1≤x.id)&&decide (x.id≤999)
 else false
def cB:List It→List It→Int
 | _,[]=>0
 | pre,x::rest=>if cH pre.getLast? x=false then 1 else if(b5 x&&!fits pre x)=true then 7 else cB (pre++[x]) rest
def b6(f:List It):Int:=if 512<f.length∨1024<jq 0 f then 3 else cB [] f
def cW:List Int→List It→List Int
 | acc,[]=>acc
 | acc,x::r=>if(b5 x&&!acc.contains x.id)=true then cW (acc++[x.id]) r else cW acc r
def aeD(f:List It):List Int:=cW [] f
def fm(l:List Int):List (V×V):=l.map fun n=>(.i .i64 n,.b true)
theorem tw(n:Nat)(l:List Int):eF n ((fm l).map (·.2)):=l9 fun x hx=>by
 obtain⟨k,_,rfl⟩:=aT.1 hx;exact .b _
theorem pG(n:Int):∀ (l:List Int) (k:Nat),c4 0 (.i .i64 n) (fm l) k=if n∈l then some (some (k+l.idxOf n,.b true))else some none
 | [],k=>by simp[fm,c4]
 | m::l,k=>by
  have ih:=pG n l (k+1)
  by_cases h:n=m
  ·subst h
   have e:c4 0 (.i .i64 n) (fm (n::l)) k=some (some (k,.b true)):=by
    simp only[fm,az,c4,bI,aR,uM]
   rw[e];simp
  ·have h1:(n==m)=false:=by simpa using h
   have h2:(m==n)=false:=by simpa using fun e=>h e.symm
   have e:c4 0 (.i .i64 n) (fm (m::l)) k=c4 0 (.i .i64 n) (fm l) (k+1):=by
    simp only[fm,az,c4,bI,aR,h1]
   rw[e,ih]
   by_cases h3:n∈l
   ·have h4:(m::l).idxOf n=l.idxOf n+1:=by rw[List.idxOf_cons,h2];rfl
    rw[aQ h3,aQ (di _ h3),h4];congr 3;omega
   ·rw[aC h3,aC (by simp[h,h3])]
def gA(n:Nat):List Int:=(List.range n).map fun(i:Nat)=>(i:Int)+1
def fk(N i:Nat):List (List V):=(gA i).map cq++List.replicate (N - i) [V.i .i64 0]
theorem qi{N i:Nat}(h:i≤N):(fk N i).length=N:=by simp[fk,gA];omega
theorem yj{N i:Nat}(h:i<N):(fk N i).set i [V.i .i64 ((i:Int)+1)]=fk N (i+1):=by
 have e:N - i=(N - (i+1))+1:=by omega
 have hl:((gA i).map cq).length=i:=by simp[gA]
 simp only[fk];rw[bZ _ _ (by omega),hl,eQ,e,pN,List.set_cons_zero];simp[gA,O6,cq]
theorem yk{N i:Nat}(h:i<N):(fk N i).getD i []=[V.i .i64 0]:=by
 have hl:((gA i).map cq).length=i:=by simp[gA]
 have e:N - i=(N - (i+1))+1:=by omega
 simp only[fk,ar];rw[aw (by omega),hl,eQ,e,pN];rfl
def Ew(a b:It):Bool:=a.aep==b.aep&&(a.aer==b.aer&&a.id==b.id)
theorem Ku{a b:It}:Ew a b=true↔a=b:=by
 obtain⟨k,t,i⟩:=a;obtain⟨k',t',i'⟩:=b;simp[Ew]
def iN:List It→List It→Bool
 | [],[]=>true
 | a::x,b::y=>Ew a b&&iN x y
 | _,_=>false
theorem za:∀ {a b:List It},iN a b=true↔a=b
 | [],[]=>by simp[iN]
 | a::x,b::y=>by simp[iN,Ku,za (a:=x) (b:=y)]
 | [],b::y=>by simp[iN]
 | a::x,[]=>by simp[iN]
theorem H7:∀ {a b:List It},iN a b=true→a.length=b.length:=fun h=>by rw[za.1 h]
def aeu:List It→List UInt8×List It
 | []=>([],[])
 | x::r=>if x.aep=1 then(x.aer++(aeu r).1,(aeu r).2)else([],x::r)
theorem tK:∀ (l:List It),(aeu l).2.length≤l.length
 | []=>aq _
 | x::r=>by
  have:=tK r;simp only[aeu];split
  ·simp only[ai];omega
  ·exact aq _
def fD:Nat→List It→List It
 | 0,_=>[]
 | _+1,[]=>[]
 | n+1,x::r=>if x.aep≠1 then x::fD n r else
   if(aeu (x::r)).1.length=0 then fD n (aeu (x::r)).2 else⟨1,(aeu (x::r)).1,0⟩::fD n (aeu (x::r)).2
def aeB(f:List It):List It:=fD f.length f
def bP:List It→Nat
 | []=>0
 | x::r=>x.aer.length+bP r
theorem pY:∀ (l:List It),∃ run,l=run++(aeu l).2
 | []=>⟨[],rfl⟩
 | x::r=>by
  obtain⟨run,h⟩:=pY r
  by_cases hk:x.aep=1
  ·refine⟨x::run,?_⟩;simp only[aeu,hk,aR,bq];rw[← h]
  ·exact⟨[],by simp[aeu,hk]⟩
theorem kJ{x:It}{r:List It}(h:x.aep=1):(aeu (x::r)).2.length≤r.length:=by
 simp only[aeu,h,aR];exact tK r
theorem rn:∀ (l:List It),(aeu l).1.length+bP (aeu l).2=bP l
 | []=>rfl
 | x::r=>by
  have:=rn r
  by_cases hk:x.aep=1
  ·simp only[aeu,hk,aR,al,bP];omega
  ·simp[aeu,hk,bP]
def DD:List Int→List Int→Int→Option Int
 | a::fr,b::to,x=>if x=a then some b else DD fr to x
 | _,_,_=>none
def MO(fr to:List Int)(x:It):Option It:=if b5 x then(DD fr to x.id).map fun n=>⟨x.aep,x.aer,n⟩else some x
def renamed(f:List It)(fr to:List Int):List It:=f.filterMap (MO fr to)
def rename(f:List It)(fr to:List Int):List It:=aeB (renamed f fr to)
def dR(l m:List Int):List Int:=m.foldl (fun l n=>if l.contains n then l else l++[n]) l
def eT(s t:List It):List Int:=dR (aeD s) (aeD t)
def xo(s t:List It):List It:=rename s (eT s t) (gA (eT s t).length)
def xn(s t:List It):List It:=rename t (eT s t) (gA (eT s t).length)
def lu(l:List (Int×Int)):List (V×V):=emap Sh Sh l
theorem uo(n:Nat)(l:List (Int×Int)):eF n ((lu l).map (·.2)):=l9 fun x hx=>by
 obtain⟨k,_,rfl⟩:=aT.1 hx;exact .i _ _
theorem tX(l:List (Int×Int))(a:Int):
  (bo a l=none∧c4 0 (.i .i64 a) (lu l) 0=some none∧∀ b,lu l++[(V.i .i64 a,V.i .i64 b)]=lu (ee l a b)) ∨
  (∃ i b0,bo a l=some b0∧c4 0 (.i .i64 a) (lu l) 0=some (some (i,.i .i64 b0))∧∀ b,(lu l).set i (V.i .i64 a,V.i .i64 b)=lu (ee l a b)):=gP Eu l a
theorem Jl{fr to:List Int}{i:Nat}(h1:i<fr.length)(h2:i<to.length)(x:Int):DD (fr.drop i) (to.drop i) x=if x=fr.getD i 0 then some (to.getD i 0)else DD (fr.drop (i+1)) (to.drop (i+1)) x:=by
 rw[eC h1,eC h2];simp only[DD];simp[ar,h1,h2]
theorem MB{fr to:List Int}{i:Nat}(h:min fr.length to.length≤i)(x:Int):DD (fr.drop i) (to.drop i) x=none:=by
 by_cases h1:fr.length≤i
 ·rw[mO h1];simp[DD]
 ·have h2:to.length≤i:=by omega
  rw[mO h2];cases fr.drop i<;>simp[DD]
theorem BY(f:List It)(fr to:List Int):(renamed f fr to).length≤f.length:=eN _ _
theorem zV(f:List It)(fr to:List Int):bP (renamed f fr to)≤bP f:=by
 induction f with
 | nil=>exact aq _
 | cons x f ih =>
  simp only[renamed,lp]at ih ⊢;split
  ·simp only[bP];omega
  ·rename_i y hy
   have:y.aer=x.aer:=by
    simp only[MO]at hy;split at hy
    ·rw[ah]at hy;obtain⟨n,_,rfl⟩:=hy;rfl
    ·simp at hy;rw[hy]
   simp only[bP,this];omega
theorem uA(m:List Int):∀ (l:List Int),(dR l m).length≤l.length+m.length:=by
 induction m with
 | nil=>intro l;simp[dR]
 | cons n m ih =>
  intro l;simp only[dR,eS]at ih ⊢;have:=ih (if l.contains n then l else l++[n]);split at this
  ·simp only[ai];rw[aQ (by assumption)];omega
  ·simp only[ai];rw[aC (by assumption)];simp at this ⊢;omega
theorem uy(f:List It):∀ (acc:List Int),(cW acc f).length≤acc.length+f.length:=by
 induction f with
 | nil=>intro acc;simp[cW]
 | cons x f ih =>
  intro acc;simp only[cW];split
  ·have:=ih (acc++[x.id]);simp at this ⊢;omega
  ·have:=ih acc;simp;omega
theorem tT(f:List It):(aeD f).length≤f.length:=by
 have:=uy f [];simpa[aeD]using this
theorem sq{p:UInt8→Prop}(h:∀ n:Fin 256,p (UInt8.ofNat n.val))(c:UInt8):p c:=by
 have:=h ⟨c.toNat,c.toNat_lt⟩;simpa using this
def sK(c:UInt8):Bool:=c != 92&&c != 60&&c != 123&&c != 9&&c != 10&&c != 13&&eE c != 1
def ll(n:Nat):UInt8:=if n<10 then UInt8.ofNat (48+n)else UInt8.ofNat (87+n)
def lP(c:UInt8):List UInt8 :=
 if sK c then[c]else if c=10 then[92,110]else if c=9 then[92,116]else if c=92∨c=60∨c=123 then[92,c]else[92,120,ll (c.toNat / 16),ll (c.toNat % 16)]
def jd(c:UInt8):UInt8×Bool :=
 if 48≤c.toNat∧c.toNat≤57 then(UInt8.ofNat (c.toNat - 48),true)else if 97≤c.toNat∧c.toNat≤102 then(UInt8.ofNat (c.toNat - 87),true)else(0,false)
theorem CX(c:UInt8):(jd c).1.toNat<16:=by
 revert c;exact sq (by decide +kernel)
def pF(a b:UInt8):UInt8:=UInt8.ofNat (16*(jd a).1.toNat+(jd b).1.toNat)
def dt(s:List UInt8):UInt8×Int×Bool :=
 if s.length<2 then(0,0,false)else
 let c:=s.getD 1 0
 if c=92∨c=60∨c=123 then(c,2,true)else if c=110 then(10,2,true)else if c=116 then(9,2,true)else if c=120 then
  if s.length<4 then(0,0,false)else
  let b:=pF (s.getD 2 0) (s.getD 3 0)
  (b,4,(jd (s.getD 2 0)).2&&(jd (s.getD 3 0)).2&&(b==13||eE b==1))
 else(0,0,false)
def ln(c:UInt8):Bool:=48≤c.toNat&&c.toNat≤57
def kO(n:Int)(s:List UInt8):Int:=s.foldl (fun n c=>10*n+(c.toNat - 48:Int)) n
def aeE(s:List UInt8):Int×Bool :=
 if s.length<1∨3<s.length∨s.getD 0 0=48 then(0,false)else if s.all ln then(kO 0 s,true)else(0,false)
theorem E5(s:List UInt8):∀ (n:Int) (k:Nat),s.length=k→s.all ln=true→0≤n→0≤kO n s∧kO n s<10^k*(n+1):=by
 induction s with
 | nil=>intro n k hk _ hn;simp at hk;subst hk;simp[kO];omega
 | cons c s ih =>
  intro n k hk hs hn;simp only[lI,aP]at hs;have hc:=hs.1;simp only[ln,aP,a8]at hc;obtain⟨k,rfl⟩:∃ j,k=j+1:=⟨s.length,by simpa using hk.symm⟩;have h:=ih (10*n+(c.toNat - 48:Int)) k (by simpa using hk) hs.2 (by omega);simp only[kO,eS]at h ⊢;refine⟨h.1,Int.lt_of_lt_of_le h.2 ?_⟩;have h3:(10*n+(c.toNat - 48:Int))+1≤10*(n+1):=by omega
  have h4:=jk h3 (show(0:Int)≤10^k from Int.pow_nonneg (by omega));have h5:(10:Int)^(k+1)*(n+1)=10^k*(10*(n+1)):=by rw[Int.pow_succ];simp only[Int.mul_assoc]
  omega
def jw(s:List UInt8):It×Bool :=
 let close:=hasPrefix s [47];let s:=if close then s.drop 1 else s
 let p:=cutAt s 58;let empty:=!close&&hasSuffix p.2.1 [47];let aep:Int:=if close then 3 else if empty then 4 else 2
 let content:=if empty then p.2.1.take (p.2.1.length - 1)else p.2.1
 if p.2.2&&(aeE p.1).2 then(⟨aep,content,(aeE p.1).1⟩,if aep=3 then aeC content else gy content)else(⟨0,[],0⟩,false)
def AA:It:=⟨0,[],0⟩
def cm(s:List UInt8):It×Int×Bool :=
 let c:=s.getD 0 0
 if c=92 then(⟨1,[(dt s).1],0⟩,(dt s).2.1,(dt s).2.2)
 else if c=60 then
  let e:=Lib.indexByte s 62
  if e<0 then(AA,0,false)else
  let t:=(s.take e.toNat).drop 1
  ((jw t).1,e+1,(jw t).2)
 else if c=123 then
  let e:=Lib.indexByte s 125
  if e<0∨aeC ((s.take e.toNat).drop 1)=false then(AA,0,false)else(⟨5,(s.take e.toNat).drop 1,0⟩,e+1,true)
 else(⟨1,s.take 1,0⟩,1,sK c)
theorem NZ(c:UInt8)(h:48≤c.toNat∧c.toNat≤57):jd c=(UInt8.ofNat (c.toNat - 48),true)∧IntKind.u8.wrap ((c.toNat:Int) - 48)=((jd c).1.toNat:Int):=by
 have h1:jd c=(UInt8.ofNat (c.toNat - 48),true):=by simp only[jd,h,oC,aR]
 refine⟨h1,?_⟩;rw[h1];revert h h1;revert c;exact sq (by decide +kernel)
theorem NY(c:UInt8)(h:97≤c.toNat∧c.toNat≤102):jd c=(UInt8.ofNat (c.toNat - 87),true)∧IntKind.u8.wrap (IntKind.u8.wrap ((c.toNat:Int) - 97)+10)=((jd c).1.toNat:Int):=by
 have h0:¬ (48≤c.toNat∧c.toNat≤57):=by omega
 have h1:jd c=(UInt8.ofNat (c.toNat - 87),true):=by simp only[jd,h0,h,oC,aR,aO]
 refine⟨h1,?_⟩;rw[h1];revert h h0 h1;revert c;exact sq (by decide +kernel)
theorem Q5(c:UInt8)(h0:¬ (48≤c.toNat∧c.toNat≤57))(h:¬ (97≤c.toNat∧c.toNat≤102)):jd c=(0,false):=by
 simp only[jd,h0,h,aO]
theorem EJ(a b:UInt8):
  IntKind.u8.wrap (((BitVec.ofInt IntKind.u8.bits (IntKind.u8.wrap (((jd a).1.toNat:Int)*2^(min 4 IntKind.u8.bits))) ||| BitVec.ofInt IntKind.u8.bits ((jd b).1.toNat:Int)).toNat:Nat):Int)=((pF a b).toNat:Int):=by
 have key:∀ m n:Fin 16,IntKind.u8.wrap (((BitVec.ofInt IntKind.u8.bits (IntKind.u8.wrap ((m.val:Int)*2^(min 4 IntKind.u8.bits))) ||| BitVec.ofInt IntKind.u8.bits (n.val:Int)).toNat:Nat):Int)=((UInt8.ofNat (16*m.val+n.val)).toNat:Int):=by decide +kernel
 exact key ⟨_,CX a⟩ ⟨_,CX b⟩
theorem Jk(c:UInt8)(h:ln c=true):IntKind.u8.wrap ((c.toNat:Int) - 48)=(c.toNat:Int) - 48:=by
 revert h;revert c;exact sq (by decide +kernel)
theorem zJ(a b:UInt8):((a.toNat:Int)==(b.toNat:Int))=(a==b):=by
 rw[ir];simp only[bN];constructor
 ·intro h;exact O4.1 (by omega)
 ·intro h;rw[h]
theorem P7(a b:UInt8):((a.toNat:Int) != (b.toNat:Int))=(a != b):=by
 simp only[bne,zJ]
theorem mQ{c d:UInt8}{k:Int}(h:¬ c=d)(hk:(d.toNat:Int)=k):((c.toNat:Int)==k)=false:=by
 subst hk;rw[zJ];simpa using h
theorem GY{c d:UInt8}{k:Int}(h:c=d)(hk:(d.toNat:Int)=k):((c.toNat:Int)==k)=true:=by
 subst hk;rw[zJ];simpa using h
theorem qa(l:List UInt8)(c:UInt8)(h:l.getD 0 0≠c)(h2:¬ Lib.indexByte l c<0):1≤Lib.indexByte l c:=by
 cases l with
 | nil=>simp[Lib.indexByte]at h2
 | cons b l =>
  have hb:¬ b=c:=h;have hb:(b==c)=false:=by simpa using hb
  have Yq:∀ l:List UInt8,-1≤Lib.indexByte l c:=by
   intro l
   induction l with
   | nil=>simp[Lib.indexByte]
   | cons a l ih =>
    simp only[Lib.indexByte];split
    ·omega
    ·split<;>omega
  have h3:=Yq l;simp only[Lib.indexByte,hb,aG,aO]at h2 ⊢
  by_cases h4:(Lib.indexByte l c == -1)=true
  ·rw[aQ h4]at h2;omega
  ·rw[aC h4]at h2 ⊢;have h5:Lib.indexByte l c ≠ -1:=by simpa using h4
   omega
structure Rd where
 f:List It
 aer:List UInt8
 len:Nat
 tags:List (Int×It)
def fg(s:Rd):Rd:=if 0<s.aer.length then⟨s.f++[⟨1,s.aer,0⟩],[],s.len,s.tags⟩else s
def QJ(x:It):V:=.agg x.aen
def na(l:List (Int×It)):List (V×V):=emap Sh QJ l
theorem ph(n:Nat)(l:List (Int×It)):eF n ((na l).map (·.2)):=l9 fun x hx=>by
 obtain⟨k,_,rfl⟩:=aT.1 hx;exact J3.2 (by simp[It.aen,eF,M7,Qs])
theorem tW(l:List (Int×It))(a:Int):
  (bo a l=none∧c4 0 (.i .i64 a) (na l) 0=some none∧∀ b,na l++[(V.i .i64 a,QJ b)]=na (ee l a b)) ∨
  (∃ i b0,bo a l=some b0∧c4 0 (.i .i64 a) (na l) 0=some (some (i,QJ b0))∧∀ b,(na l).set i (V.i .i64 a,QJ b)=na (ee l a b)):=gP Eu l a
def tagged(x:It):Bool:=x.aep != 1&&x.aep != 5
def zu(s:Rd)(x:It):Bool:=match bo x.id s.tags with
 | some b=>x.aep != 3||b.aep != 2||iH b.aer != x.aer
 | none=>false
def kY(s:Rd)(x:It):Nat:=s.f.length+(if 0<s.aer.length then 1 else 0)+(if x.aep≠1∨s.aer.length=0 then 1 else 0)
def mr(s:Rd)(x:It):Rd:=⟨s.f,s.aer,s.len+1,if tagged x then ee s.tags x.id x else s.tags⟩
def tL(s:Rd)(x:It):Rd:=⟨s.f++[x],s.aer,s.len,s.tags⟩
def iY(s:Rd)(x:It):Int×Rd :=
 if tagged x&&zu s x then(7,s)else if 512<kY s x∨1024<s.len+1 then(3,s)else
 if x.aep=1 then(0,⟨s.f,s.aer++x.aer,s.len+1,s.tags⟩)else(0,tL (fg (mr s x)) x)
def vT:Rd:=⟨[],[],0,[]⟩
def mK:Nat→Rd→List UInt8→Int→List It×Int×Int
 | 0,_,_,at'=>([],at',2)
 | _+1,s,[],_=>((fg s).f,0,0)
 | n+1,s,c::l,at' =>
  let e:=cm (c::l)
  if e.2.2=false then([],at',2)else
  let r:=iY s e.1
  if r.1≠0 then([],at',r.1)else mK n r.2 ((c::l).drop e.2.1.toNat) (at'+e.2.1)
def parse(s:List UInt8):List It×Int×Int:=mK (s.length+1) vT s 0
structure Rd.ok (r:Rd):Prop where
 f:r.f.length+(if 0<r.aer.length then 1 else 0)≤r.len
 aer:r.aer.length≤r.len
 len:r.len≤1024
theorem Hp(r:Rd):(fg r).f.length=r.f.length+(if 0<r.aer.length then 1 else 0):=by
 simp only[fg];split<;>rename_i h<;>simp[h]
theorem rv(r:Rd):(fg r).aer.length=0:=by
 simp only[fg];split<;>rename_i h
 ·rfl
 ·simpa using h
theorem tM(r:Rd):(fg r).len=r.len:=by
 simp only[fg];split<;>rfl
theorem JO{r:Rd}{x:It}(h:r.ok)(hx:x.aep=1→x.aer.length≤1)(h0:(iY r x).1=0):(iY r x).2.ok:=by
 obtain⟨h1,h2,h3⟩:=h;simp only[iY]at h0 ⊢;split
 ·rename_i h4;rw[aQ h4]at h0;simp at h0
 ·rename_i h4;rw[aC h4]at h0;split
  ·rename_i h5;rw[aQ h5]at h0;simp at h0
  ·rename_i h5;split
   ·rename_i h6;have:=hx h6;refine⟨?_,?_,?_⟩
    ·simp only[al];split at h1<;>split<;>omega
    ·simp only[al];omega
    ·simp only;omega
   ·refine⟨?_,?_,?_⟩
    ·simp only[tL,al,ai,aK,Hp,rv,tM,mr];simp only[Nat.lt_irrefl,aO];omega
    ·simp only[tL,rv];omega
    ·simp only[tL,tM,mr];omega
theorem zt(l:List UInt8)(c:UInt8):(cutAt l c).1.length≤l.length∧(cutAt l c).2.1.length≤l.length:=by
 simp only[cutAt];split
 ·simp;omega
 ·simp
theorem DY(s:List UInt8):(jw s).1.aer.length≤s.length∧(jw s).1.aep≠1:=by
 have h1:=(zt s 58).2;have h2:=(zt (s.drop 1) 58).2;have h3:(s.drop 1).length≤s.length:=by simp
 unfold jw;dsimp only;cases hasPrefix s [47]with
 | true =>
  simp only[aR,gE,gU,aG,aO];split
  ·exact⟨bl h2 h3,by simp⟩
  ·exact⟨by simp,by simp⟩
 | false =>
  simp only[aG,aO,kH,ed];cases hasSuffix (cutAt s 58).2.1 [47]with
  | true =>
   simp only[aR];split
   ·exact⟨by rw[ba];omega,by simp⟩
   ·exact⟨by simp,by simp⟩
  | false =>
   simp only[aG,aO];split
   ·exact⟨h1,by simp⟩
   ·exact⟨by simp,by simp⟩
theorem A2{s:List UInt8}(hs:s≠[]):(cm s).1.aer.length≤s.length∧((cm s).1.aep=1→(cm s).1.aer.length≤1) ∧
  ((cm s).2.2=true→1≤(cm s).2.1∧(cm s).2.1≤s.length):=by
 have hl:0<s.length:=pO.2 hs;simp only[cm]
 by_cases c92:s.getD 0 0=92
 ·rw[aQ c92];refine⟨by simp;omega,fun _=>by simp,?_⟩;simp only[dt];split
  ·intro h;simp at h
  ·split
   ·intro _;simp;omega
   ·split
    ·intro _;simp;omega
    ·split
     ·intro _;simp;omega
     ·split
      ·split
       ·intro h;simp at h
       ·intro _;simp;omega
      ·intro h;simp at h
 ·rw[aC c92]
  by_cases c60:s.getD 0 0=60
  ·rw[aQ c60];have hb:=jK s 62;split
   ·exact⟨by simp[AA],by simp[AA],by simp⟩
   ·rename_i h;have ht:=DY ((s.take (Lib.indexByte s 62).toNat).drop 1);refine⟨bl ht.1 (by simp;omega),fun h=>absurd h ht.2,fun _=>?_⟩;simp only;omega
  ·rw[aC c60]
   by_cases ml:s.getD 0 0=123
   ·rw[aQ ml];have hb:=jK s 125;split
    ·exact⟨by simp[AA],by simp[AA],by simp⟩
    ·rename_i h;have:¬ Lib.indexByte s 125<0:=fun h2=>h (.inl h2);refine⟨by simp;omega,fun h=>by simp at h,fun _=>?_⟩;simp only;omega
   ·rw[aC ml];refine⟨by simp;omega,fun _=>by simp;omega,fun _=>?_⟩;simp only;omega
end Go.Bt
