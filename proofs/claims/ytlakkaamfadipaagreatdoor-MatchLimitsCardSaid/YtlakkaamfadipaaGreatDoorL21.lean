/- A part of a proof; the claim's last text says of what. -/
import Derived.Test.YtlakkaamfadipaaGreatDoorL17
import Derived.Test.YtlakkaamfadipaaGreatDoorL20
set_option linter.all false

namespace Go.Bt
open Go Go.Pm
theorem Vp(c:UInt8):0≤(c.toNat:Int).fdiv (2^min 4 IntKind.u8.bits)∧(c.toNat:Int).fdiv (2^min 4 IntKind.u8.bits)<16 ∧
  ([48,49,50,51,52,53,54,55,56,57,97,98,99,100,101,102]:List UInt8).getD ((c.toNat:Int).fdiv (2^min 4 IntKind.u8.bits)).toNat 0=ll (c.toNat / 16):=by
 revert c;exact sq (by decide +kernel)
theorem Vo(c:UInt8):0≤IntKind.u8.wrap (((BitVec.ofInt IntKind.u8.bits (c.toNat:Int) &&& BitVec.ofInt IntKind.u8.bits 15).toNat:Nat):Int)∧IntKind.u8.wrap (((BitVec.ofInt IntKind.u8.bits (c.toNat:Int) &&& BitVec.ofInt IntKind.u8.bits 15).toNat:Nat):Int)<16 ∧
  ([48,49,50,51,52,53,54,55,56,57,97,98,99,100,101,102]:List UInt8).getD (IntKind.u8.wrap (((BitVec.ofInt IntKind.u8.bits (c.toNat:Int) &&& BitVec.ofInt IntKind.u8.bits 15).toNat:Nat):Int)).toNat 0=ll (c.toNat % 16):=by
 revert c;exact sq (by decide +kernel)
def fW(x:It):List UInt8 :=
 if x.aep=1 then x.aer.flatMap lP else if x.aep=2 then 60::(Lib.itoa x.id++58::(x.aer++[62]))else if x.aep=3 then 60::47::(Lib.itoa x.id++58::(x.aer++[62]))
 else if x.aep=4 then 60::(Lib.itoa x.id++58::(x.aer++[47,62]))else if x.aep=5 then 123::(x.aer++[125])else[]
def format(f:List It):List UInt8×Int:=if b6 f≠0 then([],b6 f)else(f.flatMap fW,0)
theorem GR(c:UInt8):(lP c).length≤4:=by
 simp only[lP]
 (repeat' split)<;>simp
theorem zp(s:List UInt8):(s.flatMap lP).length≤4*s.length:=by
 induction s with
 | nil=>simp
 | cons c s ih =>
  have:=GR c;simp only[dm,al,ai];omega
theorem yc:∀ (rest pre:List It),cB pre rest=0→∀ x∈rest,1≤x.aep∧x.aep≤5:=by
 intro rest
 induction rest with
 | nil=>intro pre h x hx;simp at hx
 | cons y rest ih =>
  intro pre h x hx;simp only[cB]at h;split at h
  ·simp at h
  ·rename_i h1;split at h
   ·simp at h
   ·rcases bn.1 hx with rfl | hx
    ·simp only[cH]at h1
     by_cases k1:x.aep=1
     ·omega
     ·by_cases k5:x.aep=5
      ·omega
      ·by_cases k2:x.aep=2∨x.aep=4
       ·omega
       ·by_cases k3:x.aep=3
        ·omega
        ·simp[k1,k5,k2,k3]at h1
    ·exact ih _ h x hx
theorem uv{f:List It}(h:b6 f=0):∀ x∈f,1≤x.aep∧x.aep≤5:=by
 simp only[b6]at h;split at h
 ·simp at h
 ·exact yc f [] h
theorem AK(x:It)(h : -9223372036854775808≤x.id∧x.id≤9223372036854775807):(fW x).length≤4*x.aer.length+30:=by
 have h1:=Lib.itoa_length_le x.id h.1 h.2;have h2:=zp x.aer;simp only[fW];split
 ·omega
 ·split
  ·simp;omega
  ·split
   ·simp;omega
   ·split
    ·simp;omega
    ·split
     ·simp;omega
     ·simp
theorem ES(f:List It)(hl:f.length<2^30)(ht:bP f<2^30)(hid:∀ x∈f,-9223372036854775808≤x.id∧x.id≤9223372036854775807):(format f).1.length<2^36:=by
 have key:∀ f:List It,(∀ x∈f,-9223372036854775808≤x.id∧x.id≤9223372036854775807)→(f.flatMap fW).length≤4*bP f+30*f.length:=by
  intro f
  induction f with
  | nil=>intro _;simp
  | cons x f ih =>
   intro h;have h1:=ih fun y hy=>h y (by simp[hy]);have h2:=AK x (h x (by simp));simp only[dm,al,bP,ai];omega
 have:=key f hid;simp only[format];split
 ·simp
 ·simp only;omega
structure En where
 aeq:List It
 aex:List It
 bV:List UInt8
 next:List UInt8
 cC:List UInt8
 bU:List UInt8
 aey:Int
 aeA:Int
def En.aen(e:En):List V:=[.sl 3 (e.aeq.map It.aen),.sl 3 (e.aex.map It.aen),.s e.bV,.s e.next,.s e.cC,.s e.bU,.i .i64 e.aey,.i .i64 e.aeA]
def named(s:List UInt8):Bool:=s==[]||aeC s
def vh(e:En):Bool:=!(e.aeq.length==0)&&iN (xo e.aeq e.aex) e.aeq&&iN (xn e.aeq e.aex) e.aex
def cG(e:En):Int :=
 if b6 e.aeq≠0 then b6 e.aeq else if b6 e.aex≠0 then b6 e.aex else
 if vh e=false then 1 else
 if(parse e.bV).2.2≠0 then(parse e.bV).2.2 else if(parse e.next).2.2≠0 then(parse e.next).2.2 else
 if(named e.cC&&named e.bU)=false then 4 else
 if e.aey<0∨1073741824<e.aey∨e.aeA<1∨3<e.aeA then 1 else 0
structure En.aew (e:En):Prop where
 aeq:e.aeq.length<2^30
 px:bP e.aeq<2^30
 aex:e.aex.length<2^30
 ME:bP e.aex<2^30
 bV:e.bV.length<2^30
 next:e.next.length<2^30
 ids:∀ x∈e.aeq++e.aex,-9223372036854775808≤x.id∧x.id≤9223372036854775807
def gN(e:En):List UInt8:=(format e.aeq).1++10::(e.bV++10::e.next)
def aV(e:En):List UInt8:=if cG e≠0 then[]else gN e
structure xE where
 fL:GL
 aep:Int
 aev:En
 aez:List Int
def xE.aen(o:xE):List V:=o.fL.aen++[.i .i64 o.aep]++o.aev.aen++[.sl 1 (o.aez.map cq)]
structure xE.aew (o:xE):Prop where
 aev:o.aev.aew
 cC:o.aev.cC.length<2^30
 bU:o.aev.bU.length<2^30
 aez:o.aez.length<2^30
def asked(e:En):En:=⟨e.aeq,e.aeq,e.bV,e.next,[],[],0,1⟩
def looked(o:xE):En:=if o.aep≠2 then o.aev else asked o.aev
def R7(e:En):Bool:=e.aex.length==0&&(e.cC==[]&&(e.bU==[]&&(e.aey==0&&e.aeA==0)))
def SN(v:List Int):List Int:=SO v []
def Pl(o:xE):Int :=
 if MH o.fL=false then 1 else
 if(o.aep≠1∧o.aep≠2)∨SN o.aez≠o.aez then 1 else
 if o.aez.any (fun n=>decide (128<n))then 1 else
 if SP o.aez o.fL.jn≠o.fL.number - 1 then 11 else
 if o.aep=2∧R7 o.aev=false then 1 else cG (looked o)
def HJ(n:Int):UInt8:=UInt8.ofNat (n % 256).toNat
def WN(n:Int):List UInt8:=[HJ (n / 256),HJ n]
def be4(n:Int):List UInt8:=WN (n / 65536)++WN n
def pH(s:List UInt8):List UInt8:=be4 s.length++s
def OJ(o:xE):List UInt8 :=
 [1,HJ o.aep]++be4 o.fL.time++[HJ o.fL.jn]++WN o.fL.number++[HJ o.aez.length]++o.aez.flatMap WN ++
 pH (format o.aev.aeq).1++pH o.aev.bV++pH o.aev.next ++
 (if o.aep=1 then pH (format o.aev.aex).1++pH o.aev.cC++pH o.aev.bU++be4 o.aev.aey++[HJ o.aev.aeA]else[])
def eB:List UInt8→List UInt8→Int
 | [],[]=>0
 | [],_::_ => -1
 | _::_,[]=>1
 | a::x,b::y=>if a<b then -1 else if b<a then 1 else eB x y
structure Rb where
 b:List UInt8
 bad:Bool
def Rb.take(r:Rb)(n:Nat):List UInt8×Rb :=
 if r.b.length<n then(List.replicate (min n 4) 0,⟨[],true⟩)else(r.b.take n,⟨r.b.drop n,r.bad⟩)
def VX(l:List UInt8):Int:=l.foldl (fun a x=>a*256+x.toNat) 0
def Rb.number(r:Rb)(n:Nat):Int×Rb:=(VX (r.take n).1,(r.take n).2)
def Rb.aer(r:Rb):List UInt8×Rb :=
 let p:=r.number 4
 if(p.2.b.length:Int)<p.1 then([],⟨p.2.b,true⟩)else p.2.take p.1.toNat
def Rb.aeD:Nat→Rb→List Int×Rb
 | 0,r=>([],r)
 | n+1,r=>let p:=r.number 2;let q:=Rb.aeD n p.2;(p.1::q.1,q.2)
def mD(b:UInt8):UInt8:=if 65≤b.toNat∧b.toNat≤90 then UInt8.ofNat (b.toNat+32)else b
def lower(l:List UInt8):List UInt8:=l.map mD
theorem Co{b:UInt8}(h1:65≤(b.toNat:Int))(h2:(b.toNat:Int)≤90):((mD b).toNat:Int)=b.toNat+32:=by
 unfold mD;rw[aQ (by omega),UInt8.toNat_ofNat'];omega
theorem wx{b:UInt8}(h:¬ (65≤(b.toNat:Int)∧(b.toNat:Int)≤90)):mD b=b:=by
 unfold mD;rw[aC (by omega)]
theorem AF(l:List UInt8):(lower l).length=l.length:=by simp[lower]
def vm(b:UInt8):Bool:=eE b==4||eE b==3
def LA(b:UInt8):Bool:=eE b==3
def Jw(b:UInt8):Bool:=eE b==2
def gL(inner:UInt8→Bool)(j0 j1:UInt8):List UInt8→Nat
 | []=>0
 | [c]=>if inner c then 1 else 0
 | c::d::r=>if inner c then 1+gL inner j0 j1 (d::r)else if((c==j0)||(c==j1))&&inner d then 2+gL inner j0 j1 r else 0
theorem H4{inner:UInt8→Bool}{j0 j1 c:UInt8}(h:inner c=true)(r:List UInt8):gL inner j0 j1 (c::r)=1+gL inner j0 j1 r:=by
 cases r<;>simp[gL,h]
theorem H6{inner:UInt8→Bool}{j0 j1 c:UInt8}(h:inner c=false):gL inner j0 j1 [c]=0:=by simp[gL,h]
theorem H5{inner:UInt8→Bool}{j0 j1 c d:UInt8}(h:inner c=false)(hj:((c==j0||c==j1)&&inner d)=true)(r:List UInt8):gL inner j0 j1 (c::d::r)=2+gL inner j0 j1 r:=by
 simp only[gL,h,hj,aR,aG,aO]
theorem Ks{inner:UInt8→Bool}{j0 j1 c d:UInt8}(h:inner c=false)(hj:((c==j0||c==j1)&&inner d)=false)(r:List UInt8):gL inner j0 j1 (c::d::r)=0:=by
 simp only[gL,h,hj,aG,aO]
theorem rF(inner:UInt8→Bool)(j0 j1:UInt8):∀ (l:List UInt8),gL inner j0 j1 l≤l.length
 | []=>aq _
 | [c]=>by simp only[gL];split<;>simp
 | c::d::r=>by
  have h1:=rF inner j0 j1 (d::r);have h2:=rF inner j0 j1 r;simp only[gL,ai]at *
  (repeat' split)<;>omega
def l5:List UInt8→Nat
 | []=>0
 | c::r=>if Jw c then 1+l5 r else 0
theorem zz:∀ (l:List UInt8),l5 l≤l.length
 | []=>aq _
 | c::r=>by
  have:=zz r;simp only[l5,ai];split<;>omega
def ek:List UInt8→Int×Nat
 | []=>(9,1)
 | c::r=>if eE c=4 then(6,1+gL vm 39 45 r)else if eE c=3 then(7,1+gL LA 46 44 r)else if eE c=2 then(8,1+l5 r)else(9,1)
theorem mz(l:List UInt8):1≤(ek l).2:=by
 cases l with
 | nil=>simp[ek]
 | cons c r=>simp only[ek];(repeat' split)<;>simp
theorem Ei{l:List UInt8}(h:l≠[]):(ek l).2≤l.length:=by
 cases l with
 | nil=>exact absurd rfl h
 | cons c r =>
  have h1:=rF vm 39 45 r;have h2:=rF LA 46 44 r;have h3:=zz r;simp only[ek,ai]
  (repeat' split)<;>simp only<;>omega
def uJ:Nat→List UInt8→List It
 | 0,_=>[]
 | _+1,[]=>[]
 | n+1,c::r=>⟨(ek (c::r)).1,(c::r).take (ek (c::r)).2,0⟩::uJ n ((c::r).drop (ek (c::r)).2)
def nT(s:List UInt8):List It:=uJ s.length s
theorem zr:∀ (n m:Nat) (s:List UInt8),s.length≤n→s.length≤m→uJ n s=uJ m s
 | n,m,[],_,_=>by cases n<;>cases m<;>rfl
 | 0,_,c::r,h,_=>by simp at h
 | _,0,c::r,_,h=>by simp at h
 | n+1,m+1,c::r,h1,h2=>by
  have hp:=mz (c::r);simp only[uJ];rw[zr n m _ (by simp only[bJ,ai]at *;omega) (by simp only[bJ,ai]at *;omega)]
theorem Df{s:List UInt8}(h:s≠[]):nT s=⟨(ek s).1,s.take (ek s).2,0⟩::nT (s.drop (ek s).2):=by
 cases s with
 | nil=>exact absurd rfl h
 | cons c r =>
  have hp:=mz (c::r);simp only[nT,ai,uJ];rw[zr r.length _ _ (by simp only[bJ,ai];omega) (aq _)]
theorem xe:∀ (n:Nat) (s:List UInt8),(uJ n s).length≤s.length
 | 0,s=>by simp[uJ]
 | n+1,[]=>by simp[uJ]
 | n+1,c::r=>by
  have hp:=mz (c::r);have:=xe n ((c::r).drop (ek (c::r)).2);simp only[uJ,ai,bJ]at *;omega
def om(x:It):List It:=if x.aep=2∨x.aep=3∨x.aep=4∨x.aep=5 then[x]else if x.aep=1 then nT x.aer else[]
def cd(f:List It):List It:=f.flatMap om
theorem vt(pre rest:List It):bP rest≤bP (pre++rest):=by
 induction pre with
 | nil=>exact aq _
 | cons y pre ih=>simp only[bq,bP];omega
theorem yA(x:It):(om x).length≤1+x.aer.length:=by
 unfold om;have:=xe x.aer.length x.aer;simp only[nT]at *
 (repeat' split)<;>simp<;>omega
def weight(t:It):Int:=if t.aep=6∨t.aep=5 then 4 else if t.aep=7∨t.aep=2∨t.aep=3∨t.aep=4 then 3 else if t.aep=9 then 2 else if t.aep=8 then 1 else 0
def fV(l:List It):Int:=(l.map weight).sum
def kI(a b:It):Bool:=a.aep==b.aep&&a.aer==b.aer
def dE(t:It):List UInt8:=if t.aep=6 then lower t.aer else t.aer
theorem lK(t:It):0≤weight t∧weight t≤4:=by
 unfold weight
 (repeat' split)<;>omega
theorem uV(l:List It):0≤fV l∧fV l≤4*l.length:=by
 induction l with
 | nil=>simp[fV]
 | cons x l ih =>
  have:=lK x;simp only[fV,az,bB,ai]at *;omega
def single(t:It):Int:=if b5 t then 1 else weight t
def ei(a b:It):Option Int :=
 if kI a b then some 0 else if a.aep≠b.aep then none
 else if a.aep=6 then(if dE a==dE b then some 1 else some (weight a))
 else if a.aep=7∨a.aep=8∨a.aep=9∨a.aep=5 then some (weight a)else none
theorem dJ(t:It):0≤single t∧single t≤4:=by
 have:=lK t;unfold single;split<;>omega
theorem o7{a b:It}{c:Int}(h:ei a b=some c):0≤c∧c≤4:=by
 have:=lK a;unfold ei at h
 (repeat' split at h)<;>simp at h<;>omega
def dq(n:Int):V:=.i .i64 n
section
variable {α:Type} [DecidableEq α] {kd:Nat} {ke:α→V}
theorem o8(hk:∀ a b,bI kd (ke a) (ke b)=some (decide (a=b)))(C:List (α×Int))(a:α):
  (bo a C=none∧c4 kd (ke a) (emap ke dq C) 0=some none∧(∀ z,c4 kd (ke a) (emap ke dq C++[(ke a,z)]) 0=some (some ((emap ke dq C).length,z))) ∧
    (∀ z,(emap ke dq C++[(ke a,z)])[(emap ke dq C).length]?=some (ke a,z))∧∀ z v,(emap ke dq C++[(ke a,z)]).set (emap ke dq C).length (ke a,.i .i64 v)=emap ke dq (ee C a v)) ∨
  (∃ i b,bo a C=some b∧c4 kd (ke a) (emap ke dq C) 0=some (some (i,.i .i64 b))∧(emap ke dq C)[i]?=some (ke a,.i .i64 b)∧∀ v,(emap ke dq C).set i (ke a,.i .i64 v)=emap ke dq (ee C a v)):=by
 rcases gP (ve:=dq) hk C a with⟨h1,h2,h3⟩ | ⟨i,b,h1,h2,h3⟩
 ·refine .inl ⟨h1,h2,fun z=>?_,fun z=>by simp,fun z v=>?_⟩
  ·have key:∀ (es:List (V×V)) (n:Nat),c4 kd (ke a) es n=some none→c4 kd (ke a) (es++[(ke a,z)]) n=some (some (n+es.length,z)):=by
    intro es
    induction es with
    | nil=>intro n _;simp[c4,hk]
    | cons e es ih =>
     intro n h;simp only[c4,bq]at h ⊢;split at h
     ·simp at h
     ·rw[ih _ h];simp;omega
     ·simp at h
   simpa using key _ 0 h2
  ·rw[← h3 v,bZ _ _ (aq _)];simp[dq]
 ·refine .inr ⟨i,b,h1,h2,?_,h3⟩
  have key:∀ (es:List (V×V)) (n:Nat) (r:Nat) (y:V),c4 kd (ke a) es n=some (some (r,y))→∃ j k,r=n+j∧es[j]?=some (k,y)∧bI kd (ke a) k=some true:=by
   intro es
   induction es with
   | nil=>intro n r y h;simp[c4]at h
   | cons e es ih =>
    intro n r y h;obtain⟨k,x⟩:=e;simp only[c4]at h;split at h
    ·rename_i hs;simp only[aa,ao]at h;exact⟨0,k,by omega,by simp[h.2],hs⟩
    ·obtain⟨j,k2,h4,h5,h6⟩:=ih _ _ _ h;exact⟨j+1,k2,by omega,by simpa using h5,h6⟩
    ·simp at h
  obtain⟨j,k,h4,h5,h6⟩:=key _ 0 i _ h2;have:i=j:=by omega
  subst this;rw[h5,oK h6];rfl
def bump(C:List (α×Int))(a:α)(d:Int):List (α×Int):=ee C a ((bo a C).getD 0+d)
theorem nk(C:List (α×Int))(a:α)(d:Int)(x:α):(bo x (bump C a d)).getD 0=(bo x C).getD 0+if x=a then d else 0:=by
 unfold bump;rw[eD];split
 ·rename_i h;subst h;rfl
 ·simp
def gQ(C:List (α×Int)):Int:=(C.map fun p=>max p.2 (-p.2)).sum
end
abbrev TK:=Int×List UInt8
def fw(k:TK):V:=.agg [.i .i64 k.1,.s k.2,.i .i64 0]
def cY(t:It):TK:=(t.aep,t.aer)
theorem qo(a b:TK):bI 5 (fw a) (fw b)=some (decide (a=b)):=by
 obtain⟨k,t⟩:=a;obtain⟨l,s⟩:=b;simp only[bI,fw,BF,oC,aR,aa];rw[ir];simp
def dZ(d:Int)(C:List (TK×Int)):List It→List (TK×Int)
 | []=>C
 | t::r=>dZ d (if b5 t then bump C (cY t) d else C) r
def nE(a b:List It):List (TK×Int):=dZ (-1) (dZ 1 [] a) b
def gM(a b:List It):Int:=2*gQ (nE a b)
def CB{α:Type}[DecidableEq α](n:Nat)(C:List (α×Int)):Prop:=C.length≤n∧∀ k v,bo k C=some v → -(n:Int)≤v∧v≤n
theorem CB.nil{α:Type}[DecidableEq α]:CB (α:=α) 0 []:=⟨aq _,fun k v h=>by simp[bo,db]at h⟩
theorem CB.mono{α:Type}[DecidableEq α]{n m:Nat}{C:List (α×Int)}(h:CB n C)(hm:n≤m):CB m C:=⟨bl h.1 hm,fun k v hv=>by have:=h.2 k v hv;omega⟩
theorem CB.getD{α:Type}[DecidableEq α]{n:Nat}{C:List (α×Int)}(h:CB n C)(k:α): -(n:Int)≤(bo k C).getD 0∧(bo k C).getD 0≤n:=by
 cases hg:bo k C with
 | none=>simp
 | some v=>exact h.2 k v hg
theorem CB.bump{α:Type}[DecidableEq α]{n:Nat}{C:List (α×Int)}(h:CB n C)(a:α)(d:Int)(hd : -1≤d∧d≤1):CB (n+1) (Bt.bump C a d):=by
 refine⟨bl (BB _ _ _) (by have:=h.1;omega),fun k v hv=>?_⟩;unfold Bt.bump at hv;rw[eD]at hv;have h1:=h.getD a;split at hv
 ·simp only[aa]at hv;omega
 ·have:=h.2 k v hv;omega
def gH{α:Type}(C:List (α×Int)):Prop:=(C.map (·.1)).Nodup
theorem Cx{α:Type}[DecidableEq α](C:List (α×Int))(a:α)(b:Int):(ee C a b).map (·.1)=if a∈C.map (·.1)then C.map (·.1)else C.map (·.1)++[a]:=by
 induction C with
 | nil=>simp[ee]
 | cons p C ih =>
  simp only[ee];split
  ·rename_i h;subst h;simp
  ·rename_i h;simp only[az,ih]
   by_cases h2:a∈C.map (·.1)
   ·rw[aQ h2,aQ (di _ h2)]
   ·rw[aC h2,aC (by simp only[bn];rintro(h3 | h3);exact h h3;exact h2 h3)];rfl
theorem gH.oh{α:Type}[DecidableEq α]{C:List (α×Int)}(h:gH C)(a:α)(b:Int):gH (ee C a b):=by
 unfold gH at *;rw[Cx];split
 ·exact h
 ·rename_i hn;rw[fu];exact⟨h,by simp,by simp;intro x y hx;rintro rfl;exact hn (aT.2 ⟨_,hx,rfl⟩)⟩
theorem jy{α:Type}[DecidableEq α]{C:List (α×Int)}(h:gH C){p:α×Int}(hp:p∈C):bo p.1 C=some p.2:=by
 induction C with
 | nil=>simp at hp
 | cons q C ih =>
  unfold gH at h;simp only[az,cP]at h;rw[fT];rcases bn.1 hp with rfl | hp
  ·simp
  ·have:p.1≠q.1:=fun e=>h.1 (e▸aT.2 ⟨p,hp,rfl⟩);rw[aC this];exact ih h.2 hp
theorem gH.count(d:Int):∀ (l:List It) {C:List (TK×Int)},gH C→gH (dZ d C l)
 | [],_,h=>h
 | t::r,C,h=>by
  simp only[dZ];split
  ·exact gH.count d r (h.oh _ _)
  ·exact gH.count d r h
theorem CB.count(d:Int)(hd : -1≤d∧d≤1):∀ (l:List It) {n:Nat} {C:List (TK×Int)},CB n C→CB (n+l.length) (dZ d C l)
 | [],_,_,h=>h
 | t::r,n,C,h=>by
  simp only[dZ,ai];split
  ·have:=CB.count d hd r (h.bump (cY t) d hd);exact this.mono (by omega)
  ·have:=CB.count d hd r h;exact this.mono (by omega)
def oq(f:Nat→Int)(ps:List Nat):Int:=(ps.map f).sum
theorem zO(f:Nat→Int){ps:List Nat}(lM:ps.Nodup){q:Nat}(hq:q∈ps):oq f ps=f q+oq f (ps.filter fun i=>i != q):=by
 induction ps with
 | nil=>simp at hq
 | cons p ps ih =>
  simp only[cP]at lM
  by_cases h:p=q
  ·subst h
   have:(p::ps).filter (fun i=>i != p)=ps:=by
    simp only[dz,iv,aG,aO];rw[iQ];intro x hx;simp only[kC,gC];rintro rfl;exact lM.1 hx
   rw[this];simp[oq]
  ·have CL:q∈ps:=by rcases bn.1 hq with rfl | h2;exact absurd rfl h;exact h2
   have:=ih lM.2 CL
   have e:(p::ps).filter (fun i=>i != q)=p::ps.filter (fun i=>i != q):=by
    rw[ga (by simpa using h)]
   rw[e];simp only[oq,az,bB]at this ⊢;omega
theorem BM{β:Type}(g:β→Int)(l:List β)(dflt:β):oq (fun i=>g (l.getD i dflt)) (List.range l.length)=(l.map g).sum:=by
 have:(List.range l.length).map (fun i=>g (l.getD i dflt))=l.map g:=by
  apply List.ext_getElem
  ·simp
  ·intro i h1 h2;simp at h1;simp[ar,h1]
 rw[oq,this]
theorem zN(f:Nat→Int)(hf:∀ i,0≤f i)(ps:List Nat):0≤oq f ps:=by
 induction ps with
 | nil=>simp[oq]
 | cons p ps ih =>
  have:=hf p;simp only[oq,az,bB]at ih ⊢;omega
theorem pJ{α β:Type}{ke:α→V}{ve:β→V}(C:List (α×β))(d:α×β){q:Nat}(h:q<C.length):(emap ke ve C)[q]?=some (ke (C.getD q d).1,ve (C.getD q d).2):=by
 simp[emap,ar,h]
theorem rP{β:Type}{C:List β}{d:β}{q:Nat}(h:q<C.length):C.getD q d∈C:=by
 rw[ar,an h];exact cg h
theorem zB{n:Nat}{C:List (TK×Int)}(hC:CB n C)(hK:gH C):0≤gQ C∧gQ C≤(n:Int)*C.length:=by
 have key:∀ D:List (TK×Int),(∀ p∈D,-(n:Int)≤p.2∧p.2≤n)→0≤gQ D∧gQ D≤(n:Int)*D.length:=by
  intro D
  induction D with
  | nil=>intro _;simp[gQ]
  | cons p D ih =>
   intro h;have h1:=ih fun q hq=>h q (di _ hq);have h2:=h p (by simp);have e:(n:Int)*((D.length+1:Nat):Int)=(n:Int)*(D.length:Int)+n:=by rw[pk,gD];simp
   simp only[gQ,az,bB,ai]at h1 ⊢;rw[e];omega
 exact key C fun p hp=>hC.2 p.1 p.2 (jy hK hp)
theorem BG{α:Type}(C:List (α×Int)):(C.map fun p=>2*max p.2 (-p.2)).sum=2*gQ C:=by
 induction C with
 | nil=>rfl
 | cons p C ih =>
  simp only[gQ,az,bB]at ih ⊢;rw[ih];omega
theorem kr{ps:List Nat}{q:Nat}(hq:q∈ps):(ps.filter fun i=>i != q).length<ps.length :=
 zG.2 ⟨q,hq,by simp⟩
def mn(a b:Int):Int:=if b<a then b else a
def l6(t u:It)(diag left up:Int):Int:=match ei t u with
 | some c=>mn (mn (up+single t) (left+single u)) (diag+c)
 | none=>mn (up+single t) (left+single u)
def gv(t:It):Int→Int→List It→List Int→List Int
 | diag,left,u::b,up::old=>l6 t u diag left up::gv t up (l6 t u diag left up) b old
 | _,_,_,old=>old
def fy(t:It)(b:List It):List Int→List Int
 | x::old=>(x+single t)::gv t x (x+single t) b old
 | []=>[]
def jf(a:Int):List It→List Int
 | []=>[]
 | t::r=>(a+single t)::jf (a+single t) r
def rq(b:List It):List Int:=0::jf 0 b
def vQ(a b:List It):List Int:=a.foldl (fun row t=>fy t b row) (rq b)
def ib(a b:List It):Int:=(vQ a b).getD b.length 0+gM a b
def BR(M:Int)(xs:List Int):Prop:=∀ x∈xs,0≤x∧x≤M
theorem tH(t:It):∀ (b:List It) (old:List Int) (d l:Int),(gv t d l b old).length=old.length
 | [],old,_,_=>by simp[gv]
 | u::b,[],_,_=>by simp[gv]
 | u::b,up::old,d,l=>by simp[gv,tH t b old]
theorem tV(t:It)(b:List It)(xs:List Int):(fy t b xs).length=xs.length:=by
 cases xs<;>simp[fy,tH]
theorem tN:∀ (b:List It) (a:Int),(jf a b).length=b.length
 | [],_=>rfl
 | t::r,a=>by simp[jf,tN r]
theorem BV(b:List It):(rq b).length=b.length+1:=by simp[rq,tN]
theorem um{t u:It}{d l up M:Int}(hd:0≤d∧d≤M)(hl:0≤l∧l≤M+4)(hu:0≤up∧up≤M):0≤l6 t u d l up∧l6 t u d l up≤M+4:=by
 have h1:=dJ t;have h2:=dJ u;unfold l6 mn;split
 ·rename_i c hc;have:=o7 hc
  (repeat' split)<;>omega
 ·split<;>omega
theorem BR.step{t:It}{M:Int}:∀ (b:List It) (old:List Int) (d l:Int),BR M old→0≤d∧d≤M→0≤l∧l≤M+4→BR (M+4) (gv t d l b old)
 | [],old,d,l,ho,_,_=>fun x hx=>by have:=ho x (by simpa[gv]using hx);omega
 | u::b,[],d,l,ho,_,_=>fun x hx=>by simp[gv]at hx
 | u::b,up::old,d,l,ho,hd,hl=>fun x hx=>by
  have hu:=ho up (by simp);have hb:=um (t:=t) (u:=u) hd hl hu;simp only[gv,bn]at hx;rcases hx with rfl | hx
  ·exact hb
  ·exact BR.step b old up _ (fun y hy=>ho y (by simp[hy])) hu hb x hx
theorem BR.new{t:It}{M:Int}{xs:List Int}(b:List It)(h:BR M xs):BR (M+4) (fy t b xs):=by
 cases xs with
 | nil=>intro x hx;simp[fy]at hx
 | cons y old =>
  have hy:=h y (by simp);have ht:=dJ t;intro x hx;simp only[fy,bn]at hx;rcases hx with rfl | hx
  ·omega
  ·exact BR.step b old y _ (fun z hz=>h z (by simp[hz])) hy (by omega) x hx
theorem BR.pre:∀ (b:List It) (a:Int),0≤a→BR (a+4*b.length) (jf a b)
 | [],a,_=>fun x hx=>by simp[jf]at hx
 | t::r,a,ha=>fun x hx=>by
  have ht:=dJ t;simp only[jf,bn,ai]at hx ⊢;rcases hx with rfl | hx
  ·omega
  ·have:=BR.pre r (a+single t) (by omega) x hx;omega
theorem BR.rq(b:List It):BR (4*b.length) (rq b):=fun x hx=>by
 simp only[Bt.rq,bn]at hx;rcases hx with rfl | hx
 ·omega
 ·have:=BR.pre b 0 (by omega) x hx;omega
theorem qf(b:List It):∀ (a:List It) (row:List Int) (M:Int),BR M row→BR (M+4*a.length) (a.foldl (fun row t=>fy t b row) row)∧(a.foldl (fun row t=>fy t b row) row).length=row.length
 | [],row,M,h=>⟨by simpa using h,rfl⟩
 | t::a,row,M,h=>by
  have:=qf b a (fy t b row) (M+4) (h.new b);simp only[eS,ai];refine⟨fun x hx=>?_,by rw[this.2,tV]⟩;have:=this.1 x hx;omega
theorem BU(a b:List It):BR (4*b.length+4*a.length) (vQ a b)∧(vQ a b).length=b.length+1:=by
 have:=qf b a (rq b) _ (BR.rq b);exact⟨this.1,by rw[vQ,this.2,BV]⟩
theorem wD(xs ys:List Int)(x v:Int):((xs++x::ys).map cq).set xs.length [.i .i64 v]=(xs++v::ys).map cq:=by
 rw[cQ,bZ _ _ (by simp)];simp[cq]
theorem u0(xs ys:List Int)(x:Int):eV ((xs++x::ys).map cq) xs.length 0=some (.i .i64 x):=by
 simp[eV,cq]
theorem s7(xs ys:List Int)(x:Int):((xs++x::ys).map cq).getD xs.length []=[.i .i64 x]:=by
 simp[ar,cq]
structure Qr where
 aeq:List It
 bV:List UInt8
 next:List UInt8
 now:Int
 threshold:Int
 jo:Int
def Qr.aen(q:Qr):List V:=[.sl 3 (q.aeq.map It.aen),.s q.bV,.s q.next,.i .i64 q.now,.i .i64 q.threshold,.i .i64 q.jo]
structure Pn where
 aeA:Int
 cC:List UInt8
 bU:List UInt8
 gq:Int
 points:Int
def Pn.aen(p:Pn):List V:=[.i .i64 p.aeA,.s p.cC,.s p.bU,.i .i64 p.gq,.i .i64 p.points]
structure Mt where
 aev:Int
 jg:Int
 context:Int
 points:Int
 score:Int
def Mt.aen(m:Mt):List V:=[.i .i64 m.aev,.i .i64 m.jg,.i .i64 m.context,.i .i64 m.points,.i .i64 m.score]
def mx(a b:Int):Int:=if a<b then b else a
def iC(a b:List It):Int:=mx (fV a) (fV b)
def cS(a b:List It):Int:=if iC a b=0 then 100 else(100*mx (iC a b - ib a b) 0).tdiv (iC a b)
def Gx(a b:List UInt8):Bool:=a != []&&a==b
def je(e:En)(q:Qr):Int:=(if Gx e.bV q.bV then 1 else 0)+if Gx e.next q.next then 1 else 0
def nK(p:Pn):Int :=
 if p.aeA<0∨3<p.aeA∨p.gq<0∨1073741824<p.gq∨p.points<0∨100<p.points then 1
 else if(named p.cC&&named p.bU)=false then 4 else 0
def lj:List Pn→Int
 | []=>0
 | p::r=>if nK p≠0 then nK p else lj r
def oP(l:List Pn):Int:=if(16:Int)<l.length then 3 else lj l
def pg(p:Pn)(e:En)(now:Int):Bool :=
 if p.aeA != 0&&p.aeA != e.aeA then false
 else if(p.cC != []&&p.cC != e.cC)||(p.bU != []&&p.bU != e.bU)then false
 else decide (p.gq≤0)||decide (p.gq≤now - e.aey)
def lz(e:En)(now:Int):Int→List Pn→Int
 | s,[]=>s
 | s,p::r=>lz e now (if decide (0<p.points)&&pg p e now then mn (s+mn p.points 100) 100 else s) r
def jH(l:List Pn)(e:En)(now:Int):Int:=lz e now 0 l
def fb(e:En)(a b:List It)(l:List Pn)(q:Qr):Mt :=
 let p:=cS a b;let s:=jH l e q.now;let c:=if p=100 then je e q else 0
 ⟨0,p,c,s,mx (p+c - s) 0⟩
def JH(e:En)(l:List Pn)(q:Qr):Mt:=fb e (cd e.aeq) (cd q.aeq) l q
def dV(q:Qr):Int :=
 if b6 q.aeq≠0 then b6 q.aeq else
 if q.aeq.length=0 then 1 else
 if(parse q.bV).2.2≠0 then(parse q.bV).2.2 else if(parse q.next).2.2≠0 then(parse q.next).2.2 else
 if q.now<0∨1073741824<q.now∨q.threshold<1∨102<q.threshold∨q.jo<1∨100<q.jo then 1 else 0
theorem xt(a b:List It):0≤iC a b∧iC a b≤4*a.length+4*b.length:=by
 have:=uV a;have:=uV b;unfold iC mx;split<;>omega
theorem tQ(a b:List It)(hd:0≤ib a b):0≤cS a b∧cS a b≤100:=by
 have hb:=(xt a b).1;unfold cS;split
 ·omega
 ·have hm:0≤100*mx (iC a b - ib a b) 0∧100*mx (iC a b - ib a b) 0≤100*iC a b:=by
   unfold mx;split<;>omega
  rw[dA hm.1];exact⟨O7 hm.1 hb,Int.ediv_le_of_le_mul (by omega) hm.2⟩
theorem Dg(e:En)(q:Qr):0≤je e q∧je e q≤2:=by
 unfold je
 (repeat' split)<;>omega
theorem qt(e:En)(now:Int):∀ (l:List Pn) (s:Int),0≤s∧s≤100→0≤lz e now s l∧lz e now s l≤100
 | [],s,h=>h
 | p::r,s,h=>by
  unfold lz;refine qt e now r _ ?_;split
  ·rename_i hc;simp only[aP,a8]at hc;unfold mn
   (repeat' split)<;>omega
  ·exact h
def ij:List It→It→Int
 | [],_=>0
 | x::l,t=>(if kI x t then 1 else 0)+ij l t
theorem sv(a:List It)(t:It):0≤ij a t∧ij a t≤a.length:=by
 induction a with
 | nil=>simp[ij]
 | cons x a ih=>simp only[ij,ai];split<;>omega
def nu(o:Option Int)(v1 v2:Int):Int :=
 let v:=match o with
  | some v=>if v1<v then v1 else v
  | none=>v1
 if v2<v then v2 else v
def tv:List It→List It→Int
 | [],[]=>0
 | [],u::b=>single u+tv [] b
 | x::a,[]=>single x+tv a []
 | x::a,u::b=>nu ((ei x u).map (·+tv a b)) (single x+tv a (u::b)) (single u+tv (x::a) b)
theorem yz:∀ (a b:List It),0≤tv a b∧tv a b≤4*a.length+4*b.length
 | [],[]=>by simp[tv]
 | [],u::b=>by
  have:=yz [] b;have:=dJ u;simp only[tv,ai,aK]at *;omega
 | x::a,[]=>by
  have:=yz a [];have:=dJ x;simp only[tv,ai,aK]at *;omega
 | x::a,u::b=>by
  have h1:=yz a b;have h2:=yz a (u::b);have h3:=yz (x::a) b;have:=dJ x;have:=dJ u;simp only[tv,ai,aK]at *;cases hc:ei x u with
  | none =>
   simp only[xQ,nu];split<;>omega
  | some c =>
   have:=o7 hc;simp only[bL,nu]
   (repeat' split)<;>omega
def tIJ(a b:List It)(i k:Nat):Int:=tv (a.drop i) (b.drop k)
def WU(a b:List It)(i lo:Nat):List Int:=(List.range' lo (b.length+1 - lo)).map (tIJ a b i)
def Tf(a b:List It)(i j:Nat):List Int:=List.replicate j 0++WU a b i j
def lG(d:Int):Int:=if d < -d then -d else d
def BI(a b:List It):List It→List It→Int
 | _,[]=>0
 | pre,t::r=>(if b5 t&&ij pre t==0 then lG (ij a t - ij b t)else 0)+BI a b (pre++[t]) r
def BH(a b:List It):List It→List It→Int
 | _,[]=>0
 | pre,t::r=>(if(b5 t&&ij pre t==0)&&ij a t==0 then ij b t else 0)+BH a b (pre++[t]) r
def sA(a b:List It):Int:=BI a b [] a+BH a b [] b
theorem O1{d:Int}{n:Int}(h : -n≤d∧d≤n):0≤lG d∧lG d≤n:=by unfold lG;split<;>omega
theorem FE(a b:List It):∀ (rest pre:List It),0≤BI a b pre rest∧BI a b pre rest≤rest.length*((a.length:Int)+b.length)
 | [],_=>by simp[BI]
 | t::r,pre=>by
  have h:=FE a b r (pre++[t]);have h1:=sv a t;have h2:=sv b t;have h3:=O1 (d:=ij a t - ij b t) (n:=(a.length:Int)+b.length) (by omega)
  have e:(((t::r).length:Nat):Int)*((a.length:Int)+b.length)=r.length*((a.length:Int)+b.length)+((a.length:Int)+b.length):=by
   simp only[ai,pk,Mr];omega
  rw[e];simp only[BI];split<;>omega
theorem FD(a b:List It):∀ (rest pre:List It),0≤BH a b pre rest∧BH a b pre rest≤rest.length*((a.length:Int)+b.length)
 | [],_=>by simp[BH]
 | t::r,pre=>by
  have h:=FD a b r (pre++[t]);have h2:=sv b t
  have e:(((t::r).length:Nat):Int)*((a.length:Int)+b.length)=r.length*((a.length:Int)+b.length)+((a.length:Int)+b.length):=by
   simp only[ai,pk,Mr];omega
  rw[e];simp only[BH];split<;>omega
def b8{α:Type}(f:α→Int)(l:List α):Int:=(l.map f).sum
theorem sB{α:Type}(f:α→Int){l l':List α}(h:l.Perm l'):b8 f l=b8 f l':=by
 induction h with
 | nil=>rfl
 | cons x _ ih=>simp only[b8,az,bB]at ih ⊢;omega
 | swap x y l=>simp only[b8,az,bB];omega
 | trans _ _ h1 h2=>exact h1.trans h2
theorem Js{α:Type}(f:α→Int)(l l':List α):b8 f (l++l')=b8 f l+b8 f l':=by simp[b8]
theorem cZ{α:Type}{f g:α→Int}{l:List α}(h:∀ x∈l,f x=g x):b8 f l=b8 g l:=by
 induction l with
 | nil=>rfl
 | cons x l ih =>
  have h1:=h x (by simp);have h2:=ih fun y hy=>h y (by simp[hy]);simp only[b8,az,bB]at h2 ⊢;omega
def fA(k:TK):List It→Int
 | []=>0
 | x::l=>(if cY x=k then 1 else 0)+fA k l
theorem oL(x t:It):kI x t=true↔cY x=cY t:=by
 simp[kI,cY]
theorem lQ(l:List It)(t:It):ij l t=fA (cY t) l:=by
 induction l with
 | nil=>rfl
 | cons x l ih =>
  simp only[ij,fA,ih]
  by_cases h:cY x=cY t
  ·rw[aQ ((oL x t).2 h),aQ h]
  ·rw[aC (fun h2=>h ((oL x t).1 h2)),aC h]
theorem mI(k:TK)(l:List It):0≤fA k l:=by
 induction l with
 | nil=>exact bY _
 | cons x l ih=>simp only[fA];split<;>omega
theorem rU(k:TK)(l m:List It):fA k (l++m)=fA k l+fA k m:=by
 induction l with
 | nil=>simp[fA]
 | cons x l ih=>simp only[bq,fA,ih];omega
def jm(k:TK):Bool:=k.1==2||k.1==3||k.1==4
theorem pD(t:It):b5 t=jm (cY t):=rfl
def DM:List It→List It→List TK
 | _,[]=>[]
 | pre,t::r=>if b5 t&&ij pre t==0 then cY t::DM (pre++[t]) r else DM (pre++[t]) r
def DN(a:List It):List It→List It→List TK
 | _,[]=>[]
 | pre,t::r=>if(b5 t&&ij pre t==0)&&ij a t==0 then cY t::DN a (pre++[t]) r else DN a (pre++[t]) r
theorem yG(a b:List It):∀ (rest pre:List It),BI a b pre rest=b8 (fun k=>lG (fA k a - fA k b)) (DM pre rest)
 | [],_=>rfl
 | t::r,pre=>by
  have ih:=yG a b r (pre++[t]);simp only[BI,DM];split
  ·simp only[b8,az,bB]at ih ⊢;rw[ih,lQ,lQ]
  ·rw[ih,dU]
theorem yF(a b:List It):∀ (rest pre:List It),BH a b pre rest=b8 (fun k=>fA k b) (DN a pre rest)
 | [],_=>rfl
 | t::r,pre=>by
  have ih:=yF a b r (pre++[t]);simp only[BH,DN];split
  ·simp only[b8,az,bB]at ih ⊢;rw[ih,lQ]
  ·rw[ih,dU]
theorem mC(k:TK):∀ (rest pre:List It),k∈DM pre rest↔jm k=true∧fA k pre=0∧fA k rest≠0
 | [],pre=>by simp[DM,fA]
 | t::r,pre=>by
  have ih:=mC k r (pre++[t]);have h1:=mI k r;have h2:=mI k pre;simp only[DM,pD,lQ];rw[rU]at ih;have e:fA k [t]=if cY t=k then 1 else 0:=by simp[fA]
  rw[e]at ih
  by_cases hk:cY t=k
  ·subst hk;simp only[aR]at ih;have ih':¬ cY t∈DM (pre++[t]) r:=fun h=>by have:=(ih.1 h).2.1;omega
   simp only[fA,aR];split
   ·rename_i hc;simp only[aP,bN]at hc;simp only[bn,IN,true_iff];exact⟨hc.1,hc.2,by omega⟩
   ·rename_i hc;simp only[aP,bN]at hc;simp only[ih',L5];rintro⟨h3,h4,_⟩;exact hc ⟨h3,h4⟩
  ·simp only[hk,aO,IU]at ih;simp only[fA,hk,aO,dU];split
   ·rw[bn,ih];constructor
    ·rintro(h | h)
     ·exact absurd h.symm hk
     ·exact h
    ·exact .inr
   ·exact ih
theorem sR:∀ (rest pre:List It),(DM pre rest).Nodup
 | [],_=>iU
 | t::r,pre=>by
  have ih:=sR r (pre++[t]);simp only[DM];split
  ·refine cP.2 ⟨fun h=>?_,ih⟩;have:=((mC _ _ _).1 h).2.1;rw[rU]at this;have h2:=mI (cY t) pre;simp[fA]at this;omega
  ·exact ih
theorem lA(a:List It)(k:TK):∀ (rest pre:List It),k∈DN a pre rest↔jm k=true∧fA k pre=0∧fA k a=0∧fA k rest≠0
 | [],pre=>by simp[DN,fA]
 | t::r,pre=>by
  have ih:=lA a k r (pre++[t]);have h1:=mI k r;have h2:=mI k pre;simp only[DN,pD,lQ];rw[rU]at ih;have e:fA k [t]=if cY t=k then 1 else 0:=by simp[fA]
  rw[e]at ih
  by_cases hk:cY t=k
  ·subst hk;simp only[aR]at ih;have ih':¬ cY t∈DN a (pre++[t]) r:=fun h=>by have:=(ih.1 h).2.1;omega
   simp only[fA,aR];split
   ·rename_i hc;simp only[aP,bN]at hc;simp only[bn,IN,true_iff];exact⟨hc.1.1,hc.1.2,hc.2,by omega⟩
   ·rename_i hc;simp only[aP,bN]at hc;simp only[ih',L5];rintro⟨h3,h4,h5,_⟩;exact hc ⟨⟨h3,h4⟩,h5⟩
  ·simp only[hk,aO,IU]at ih;simp only[fA,hk,aO,dU];split
   ·rw[bn,ih];constructor
    ·rintro(h | h)
     ·exact absurd h.symm hk
     ·exact h
    ·exact .inr
   ·exact ih
theorem sS(a:List It):∀ (rest pre:List It),(DN a pre rest).Nodup
 | [],_=>iU
 | t::r,pre=>by
  have ih:=sS a r (pre++[t]);simp only[DN];split
  ·refine cP.2 ⟨fun h=>?_,ih⟩;have:=((lA _ _ _ _).1 h).2.1;rw[rU]at this;have h2:=mI (cY t) pre;simp[fA]at this;omega
  ·exact ih
theorem yE(a b:List It):sA a b=b8 (fun k=>lG (fA k a - fA k b)) (DM [] a++DN a [] b):=by
 rw[Js,sA,yG,yF];congr 1;refine cZ fun k hk=>?_;have h1:=((lA _ _ _ _).1 hk).2.2.1;have h2:=mI k b;rw[h1];unfold lG;split<;>omega
theorem Dy{C:List (TK×Int)}(h:gH C):gQ C=b8 (fun k=>lG ((bo k C).getD 0)) (C.map (·.1)):=by
 have e:b8 (fun k=>lG ((bo k C).getD 0)) (C.map (·.1))=(C.map fun p=>lG ((bo p.1 C).getD 0)).sum:=by
  simp only[b8,gB];rfl
 rw[e];unfold gQ;congr 1;refine cD fun p hp=>?_;rw[jy h hp];unfold lG;simp only[eW];split<;>omega
theorem qD(d:Int)(k:TK):∀ (l:List It) (C:List (TK×Int)),(bo k (dZ d C l)).getD 0=(bo k C).getD 0+d*(if jm k then fA k l else 0)
 | [],C=>by simp[dZ,fA]
 | t::r,C=>by
  have ih:=qD d k r (if b5 t then bump C (cY t) d else C);simp only[dZ];rw[ih];rw[pD]
  by_cases hk:cY t=k
  ·subst hk
   by_cases ht:jm (cY t)=true
   ·simp only[ht,aR,nk,fA,gD];omega
   ·simp only[ht,aG,aO]
  ·split
   ·rw[nk,aC (fun h=>hk h.symm)];simp only[fA,hk,aO,dU,IU]
   ·simp only[fA,hk,aO,dU]
theorem qC(d:Int)(k:TK):∀ (l:List It) (C:List (TK×Int)),k∈(dZ d C l).map (·.1)↔k∈C.map (·.1)∨(jm k=true∧fA k l≠0)
 | [],C=>by simp[dZ,fA]
 | t::r,C=>by
  have ih:=qC d k r (if b5 t then bump C (cY t) d else C);have hn:=mI k r;simp only[dZ];rw[ih,pD]
  by_cases ht:jm (cY t)=true
  ·simp only[ht,aR,bump,Cx]
   by_cases hk:cY t=k
   ·subst hk;simp only[fA,aR,ht,jD];constructor
    ·intro _;exact .inr (by omega)
    ·intro _;refine .inl ?_;split
     ·assumption
     ·simp
   ·simp only[fA,hk,aO,dU];split
    ·rfl
    ·have ny:¬ k=cY t:=fun h=>hk h.symm;simp only[bQ,cR,ny,IP]
  ·simp only[ht,aG,aO]
   by_cases hk:cY t=k
   ·subst hk;simp[ht]
   ·simp only[fA,hk,aO,dU]
theorem qp(a b:List It):gM a b=2*sA a b:=by
 have hK:gH (nE a b):=gH.count (-1) b (gH.count 1 a (by simp[gH]));unfold gM;rw[yE,Dy hK];congr 1
 have nO:∀ k,k∈(nE a b).map (·.1)↔k∈DM [] a++DN a [] b:=fun k=>by
  unfold nE;rw[qC,qC,bQ,mC,lA];simp only[dj,eZ,qL,fA,jD]
  by_cases h1:jm k=true<;>by_cases h2:fA k a=0<;>by_cases h3:fA k b=0<;>simp[h1,h2,h3]
 have lM:(DM [] a++DN a [] b).Nodup:=by
  rw[fu];refine⟨sR _ _,sS _ _ _,fun x hx y hy=>?_⟩;rintro rfl;exact((mC _ _ _).1 hx).2.2 ((lA _ _ _ _).1 hy).2.2.1
 rw[sB _ ((qQ hK lM).2 nO)];refine cZ fun k hk=>?_;congr 1
 have ht:jm k=true:=by
  rcases bQ.1 hk with h | h
  ·exact((mC _ _ _).1 h).1
  ·exact((lA _ _ _ _).1 h).1
 unfold nE;rw[qD,qD];simp[ht,bo,db];omega
inductive Al:List It→List It→Int→Prop
 | nil:Al [] [] 0
 | del (x:It) {a b:List It} {c:Int} (h:Al a b c):Al (x::a) b (single x+c)
 | ins (u:It) {a b:List It} {c:Int} (h:Al a b c):Al a (u::b) (single u+c)
 | pair (x u:It) {p:Int} (hp:ei x u=some p) {a b:List It} {c:Int} (h:Al a b c):Al (x::a) (u::b) (p+c)
theorem Al.cast{a b:List It}{c d:Int}(h:Al a b c)(e:c=d):Al a b d:=e▸h
theorem xu(o:Option Int)(v1 v2:Int):nu o v1 v2≤v1∧nu o v1 v2≤v2∧∀ v,o=some v→nu o v1 v2≤v:=by
 cases o with
 | none =>
  unfold nu;simp only;refine⟨by split<;>omega,by split<;>omega,fun v h=>by simp at h⟩
 | some w =>
  unfold nu;simp only;refine⟨by(repeat' split)<;>omega,by(repeat' split)<;>omega,fun v h=>?_⟩;simp only[aa]at h;subst h
  (repeat' split)<;>omega
theorem LZ(o:Option Int)(v1 v2:Int):nu o v1 v2=v1∨nu o v1 v2=v2∨o=some (nu o v1 v2):=by
 cases o with
 | none =>
  unfold nu;simp only;split<;>simp
 | some w =>
  unfold nu;simp only
  (repeat' split)<;>simp
theorem pW:∀ (a b:List It),Al a b (tv a b)
 | [],[]=>by simp only[tv];exact .nil
 | [],u::b=>by simp only[tv];exact .ins u (pW [] b)
 | x::a,[]=>by simp only[tv];exact .del x (pW a [])
 | x::a,u::b=>by
  have h1:=pW a b;have h2:=pW a (u::b);have h3:=pW (x::a) b;simp only[tv];rcases LZ ((ei x u).map (·+tv a b)) (single x+tv a (u::b)) (single u+tv (x::a) b)with h | h | h
  ·rw[h];exact .del x h2
  ·rw[h];exact .ins u h3
  ·obtain⟨p,hp,he⟩:=ah.1 h;rw[← he];exact .pair x u hp h1
theorem sr{a b:List It}{c:Int}(h:Al a b c):tv a b≤c:=by
 induction h with
 | nil=>simp[tv]
 | del x h ih =>
  rename_i a b c;cases b with
  | nil=>simp only[tv];omega
  | cons u b=>have:=(xu ((ei x u).map (·+tv a b)) (single x+tv a (u::b)) (single u+tv (x::a) b)).1;simp only[tv];omega
 | ins u h ih =>
  rename_i a b c;cases a with
  | nil=>simp only[tv];omega
  | cons x a=>have:=(xu ((ei x u).map (·+tv a b)) (single x+tv a (u::b)) (single u+tv (x::a) b)).2.1;simp only[tv];omega
 | pair x u hp h ih =>
  rename_i p a b c;have:=(xu ((ei x u).map (·+tv a b)) (single x+tv a (u::b)) (single u+tv (x::a) b)).2.2 (p+tv a b) (by rw[hp];rfl);simp only[tv];omega
inductive oa:List It→List It→Int→Prop
 | nil:oa [] [] 0
 | del (x:It) {a b:List It} {c:Int} (h:oa a b c):oa (a++[x]) b (c+single x)
 | ins (u:It) {a b:List It} {c:Int} (h:oa a b c):oa a (b++[u]) (c+single u)
 | pair (x u:It) {p:Int} (hp:ei x u=some p) {a b:List It} {c:Int} (h:oa a b c):oa (a++[x]) (b++[u]) (c+p)
theorem oa.cast{a b:List It}{c d:Int}(h:oa a b c)(e:c=d):oa a b d:=e▸h
theorem oa.Y7(x:It){a b:List It}{c:Int}(h:oa a b c):oa (x::a) b (single x+c):=by
 induction h with
 | nil=>exact(oa.del x .nil).cast (by omega)
 | del y h ih=>exact(oa.del y ih).cast (by omega)
 | ins u h ih=>exact(oa.ins u ih).cast (by omega)
 | pair y u hp h ih=>exact(oa.pair y u hp ih).cast (by omega)
theorem oa.Y6(u:It){a b:List It}{c:Int}(h:oa a b c):oa a (u::b) (single u+c):=by
 induction h with
 | nil=>exact(oa.ins u .nil).cast (by omega)
 | del y h ih=>exact(oa.del y ih).cast (by omega)
 | ins v h ih=>exact(oa.ins v ih).cast (by omega)
 | pair y v hp h ih=>exact(oa.pair y v hp ih).cast (by omega)
theorem oa.VU(x u:It){p:Int}(hq:ei x u=some p){a b:List It}{c:Int}(h:oa a b c):oa (x::a) (u::b) (p+c):=by
 induction h with
 | nil=>exact(oa.pair x u hq .nil).cast (by omega)
 | del y h ih=>exact(oa.del y ih).cast (by omega)
 | ins v h ih=>exact(oa.ins v ih).cast (by omega)
 | pair y v hp h ih=>exact(oa.pair y v hp ih).cast (by omega)
theorem Al.toR{a b:List It}{c:Int}(h:Al a b c):oa a b c:=by
 induction h with
 | nil=>exact .nil
 | del x h ih=>exact ih.Y7 x
 | ins u h ih=>exact ih.Y6 u
 | pair x u hp h ih=>exact ih.VU x u hp
theorem Al.S7(x:It){a b:List It}{c:Int}(h:Al a b c):Al (a++[x]) b (c+single x):=by
 induction h with
 | nil=>exact(Al.del x .nil).cast (by omega)
 | del y h ih=>exact(Al.del y ih).cast (by omega)
 | ins u h ih=>exact(Al.ins u ih).cast (by omega)
 | pair y u hp h ih=>exact(Al.pair y u hp ih).cast (by omega)
theorem Al.S0(u:It){a b:List It}{c:Int}(h:Al a b c):Al a (b++[u]) (c+single u):=by
 induction h with
 | nil=>exact(Al.ins u .nil).cast (by omega)
 | del y h ih=>exact(Al.del y ih).cast (by omega)
 | ins v h ih=>exact(Al.ins v ih).cast (by omega)
 | pair y v hp h ih=>exact(Al.pair y v hp ih).cast (by omega)
theorem Al.Pe(x u:It){p:Int}(hq:ei x u=some p){a b:List It}{c:Int}(h:Al a b c):Al (a++[x]) (b++[u]) (c+p):=by
 induction h with
 | nil=>exact(Al.pair x u hq .nil).cast (by omega)
 | del y h ih=>exact(Al.del y ih).cast (by omega)
 | ins v h ih=>exact(Al.ins v ih).cast (by omega)
 | pair y v hp h ih=>exact(Al.pair y v hp ih).cast (by omega)
theorem oa.DD{a b:List It}{c:Int}(h:oa a b c):Al a b c:=by
 induction h with
 | nil=>exact .nil
 | del x h ih=>exact ih.S7 x
 | ins u h ih=>exact ih.S0 u
 | pair x u hp h ih=>exact ih.Pe x u hp
theorem oa.last{A B:List It}{c:Int}(h:oa A B c):(A=[]∧B=[]∧c=0)∨(∃ a x d,A=a++[x]∧c=d+single x∧oa a B d)∨(∃ b u d,B=b++[u]∧c=d+single u∧oa A b d) ∨
  ∃ a x b u p d,A=a++[x]∧B=b++[u]∧ei x u=some p∧c=d+p∧oa a b d:=by
 cases h with
 | nil=>exact .inl ⟨rfl,rfl,rfl⟩
 | del x h=>exact .inr (.inl ⟨_,x,_,rfl,rfl,h⟩)
 | ins u h=>exact .inr (.inr (.inl ⟨_,u,_,rfl,rfl,h⟩))
 | pair x u hp h=>exact .inr (.inr (.inr ⟨_,x,_,u,_,_,rfl,rfl,hp,rfl,h⟩))
theorem rf{α:Type}{a b:List α}{x y:α}(h:a++[x]=b++[y]):a=b∧x=y:=by
 have:=List.append_inj' h rfl;exact⟨this.1,by simpa using this.2⟩
theorem MA(a b:List It)(t u:It):tv (a++[t]) (b++[u])=l6 t u (tv a b) (tv (a++[t]) b) (tv a (b++[u])):=by
 refine Int.le_antisymm ?_ ?_
 ·have h1:=sr ((pW a (b++[u])).S7 t);have h2:=sr ((pW (a++[t]) b).S0 u);unfold l6 mn;split
  ·rename_i c hc;have h3:=sr ((pW a b).Pe t u hc)
   (repeat' split)<;>omega
  ·split<;>omega
 ·have hR:=(pW (a++[t]) (b++[u])).toR;generalize tv (a++[t]) (b++[u])=c at hR;rcases hR.last with⟨h,_⟩ | ⟨a',x,d,h1,h2,h3⟩ | ⟨b',v,d,h1,h2,h3⟩ | ⟨a',x,b',v,p,d,h1,h2,h3,h4,h5⟩
  ·simp at h
  ·obtain⟨rfl,rfl⟩:=rf h1;have:=sr h3.DD;unfold l6 mn
   (repeat' split)<;>omega
  ·obtain⟨rfl,rfl⟩:=rf h1;have:=sr h3.DD;unfold l6 mn
   (repeat' split)<;>omega
  ·obtain⟨rfl,rfl⟩:=rf h1;obtain⟨rfl,rfl⟩:=rf h2;have:=sr h5.DD;unfold l6 mn;rw[h3];simp only
   (repeat' split)<;>omega
theorem yy:∀ (a:List It) (t:It),tv (a++[t]) []=tv a []+single t
 | [],t=>by simp[tv]
 | x::a,t=>by
  have:=yy a t;simp only[bq,tv]at this ⊢;omega
theorem yx:∀ (b:List It) (u:It),tv [] (b++[u])=tv [] b+single u
 | [],u=>by simp[tv]
 | v::b,u=>by
  have:=yx b u;simp only[bq,tv]at this ⊢;omega
def rowP(a:List It):List It→List It→List Int
 | _,[]=>[]
 | pre,u::r=>tv a (pre++[u])::rowP a (pre++[u]) r
theorem vG(a:List It)(t:It):∀ (r pre:List It),gv t (tv a pre) (tv (a++[t]) pre) r (rowP a pre r)=rowP (a++[t]) pre r
 | [],pre=>by simp[rowP,gv]
 | u::r,pre=>by
  simp only[rowP,gv];rw[← MA,vG a t r (pre++[u])]
theorem Ej(a b:List It)(t:It):fy t b (tv a []::rowP a [] b)=tv (a++[t]) []::rowP (a++[t]) [] b:=by
 simp only[fy,← yy,vG]
theorem vU:∀ (r pre:List It),jf (tv [] pre) r=rowP [] pre r
 | [],_=>rfl
 | u::r,pre=>by simp only[jf,rowP,← yx,vU r (pre++[u])]
theorem wV(b:List It):∀ (rest pre:List It),rest.foldl (fun row t=>fy t b row) (tv pre []::rowP pre [] b)=tv (pre++rest) []::rowP (pre++rest) [] b
 | [],pre=>by simp
 | t::r,pre=>by
  rw[eS,Ej,wV b r (pre++[t])];simp
theorem yO(a:List It):∀ (r pre:List It),(tv a pre::rowP a pre r).getD r.length 0=tv a (pre++r)
 | [],pre=>by simp
 | u::r,pre=>by
  have:=yO a r (pre++[u]);simpa[rowP]using this
theorem Dc(a b:List It):ib a b=tv a b+2*sA a b:=by
 unfold ib vQ rq
 have e:(0:Int)::jf 0 b=tv [] []::rowP [] [] b:=by
  rw[← vU];simp[tv]
 rw[e,wV,bh,qp];have:=yO a b [];rw[bh]at this;rw[this]
theorem Dz{C:List (TK×Int)}(k:TK)(d:Int)(hd : -1≤d∧d≤1):gQ (bump C k d)≤gQ C+1:=by
 unfold bump
 induction C with
 | nil=>simp[ee,bo,db,gQ];omega
 | cons p C ih =>
  by_cases h:k=p.1
  ·simp only[ee,bo,db,aQ h,gQ,az,bB,bL,eW];omega
  ·have e:bo k (p::C)=bo k C:=by
    unfold bo;rw[db,aC h];exact iA k C 1
   rw[e];simp only[ee,aC h,gQ,az,bB]at ih ⊢;omega
theorem nY(d:Int)(hd : -1≤d∧d≤1):∀ (l:List It) (C:List (TK×Int)),gQ (dZ d C l)≤gQ C+l.length
 | [],C=>by simp[dZ]
 | t::r,C=>by
  have h:=nY d hd r (if b5 t then bump C (cY t) d else C);have h2:=Dz (C:=C) (cY t) d hd;simp only[dZ,ai];split at h<;>simp only[*,aR,aO,aG]at*<;> omega
theorem FC(a b:List It):0≤sA a b∧sA a b≤(a.length:Int)+b.length:=by
 have h1:=nY 1 (by omega) a [];have h2:=nY (-1) (by omega) b (dZ 1 [] a);have h3:gM a b=2*sA a b:=qp a b;have h4:=FE a b a [];have h5:=FD a b b [];have e0:gQ ([]:List (TK×Int))=0:=rfl;rw[e0]at h1;unfold gM nE at h3;unfold sA at *;omega
theorem Lx(a b:List It):0≤ib a b∧ib a b≤6*a.length+6*b.length:=by
 rw[Dc];have:=yz a b;have:=FC a b;omega
section
variable {α β:Type} [DecidableEq α]
end
end Go.Bt
namespace Go.Bt
open Go.Pm
structure O3 where
 number:Int
 aes:Int
 aeo:List xE
 log:List UInt8
 synced:Int
 down:Bool
def O3.aen(o:O3):List V:=[.i .i64 o.number,.i .i64 o.aes,.sl 13 (o.aeo.map xE.aen),.sl 1 (cN o.log),.i .i64 o.synced,.b o.down]
def O3.zero:O3:=⟨0,0,[],[],0,false⟩
structure O3.aew (o:O3):Prop where
 aeo:∀ x∈o.aeo,x.aew
 len:o.aeo.length<2^30
 log:o.log.length<2^30
def yW(a b:xE):Int:=tR [jY a.fL.jn b.fL.jn,jY a.fL.number b.fL.number]
end Go.Bt
namespace Go.Bt
open Go Go.Pm
def place(x n:Int):Int:=if x.tmod n<0 then x.tmod n+n else x.tmod n
theorem my{x n:Int}(h:0<n):0≤place x n∧place x n<n:=by
 have h1:=Int.tmod_lt_of_pos x h
 have h2 : - n<x.tmod n:=Int.neg_lt_of_neg_lt (by
  have:=Int.tmod_lt_of_pos (-x) h;rw[Int.neg_tmod]at this;omega)
 simp only[place];split<;>omega
def wid(x:It):Nat:=if x.aep=1 then x.aer.length else 1
def total(f:List It):Nat:=(f.map wid).sum
def closed(f:List It)(t:List UInt8):List It:=if t=[]then f else f++[⟨1,t,0⟩]
theorem FI{α:Type}{p:List α→Prop}(h0:p [])(h1:∀ l x,p l→p (l++[x]))(l:List α):p l:=by
 have:∀ l:List α,p l.reverse:=by
  intro l
  induction l with
  | nil=>exact h0
  | cons x l ih=>rw[List.reverse_cons];exact h1 _ _ ih
 have:=this l.reverse
 rwa [List.reverse_reverse]at this
def Fw(f:List It)(t:List UInt8)(x:It):Prop:=512<f.length+(if 0<t.length then 1 else 0)+(if x.aep≠1∨t.length=0 then 1 else 0)∨1024<total f+t.length+1
instance (f:List It) (t:List UInt8) (x:It):Decidable (Fw f t x):=by unfold Fw;infer_instance
theorem rG{x:It}{p:Option It}(h:x.aep≠1):cH p x=cH none x:=by simp only[cH,h,aO]
theorem ig:∀ (f pre:List It) (x:It),cB pre (f++[x])=0↔cB pre f=0∧cH (pre++f).getLast? x=true∧(b5 x&&!fits (pre++f) x)=false:=by
 intro f
 induction f with
 | nil =>
  intro pre x;simp only[bh,bF,cB]
  by_cases h1:cH pre.getLast? x=false
  ·simp[h1]
  ·rw[aC h1];have h1:cH pre.getLast? x=true:=by simpa using h1
   by_cases h2:(b5 x&&!fits pre x)=true
   ·simp[h2]
   ·rw[aC h2];have h2:(b5 x&&!fits pre x)=false:=by simpa using h2
    simp[h1,h2]
 | cons y f ih =>
  intro pre x;simp only[bq,cB]
  by_cases h1:cH pre.getLast? y=false
  ·simp[h1]
  ·rw[aC h1,aC h1]
   by_cases h2:(b5 y&&!fits pre y)=true
   ·simp[h2]
   ·rw[aC h2,aC h2,ih];simp
theorem yd:∀ (f pre:List It),cB pre f=0→∀ y∈f,cH none y=true:=by
 intro f
 induction f with
 | nil=>simp
 | cons x f ih =>
  intro pre h y hy;simp only[cB]at h;split at h
  ·simp at h
  ·rename_i h1;split at h
   ·simp at h
   ·rcases bn.1 hy with rfl | hy
    ·have h1:cH pre.getLast? y=true:=by simpa using h1
     by_cases k1:y.aep=1
     ·simp only[cH,k1,aR,aP]at h1 ⊢;exact⟨h1.1,trivial⟩
     ·rw[← rG (p:=pre.getLast?) k1];exact h1
    ·exact ih _ h y hy
theorem qE(f:List It):closed f []=f:=by simp[closed]
structure Wg (o:xE):Prop where
 time:1≤o.fL.time∧o.fL.time≤1073741824
 jn:0≤o.fL.jn∧o.fL.jn<8
 number:1≤o.fL.number∧o.fL.number≤128
 aep:o.aep=1∨o.aep=2
 Wc:o.aez.length≤8
 aez:∀ n∈o.aez,0≤n∧n≤128
 bare:o.aep=2→o.aev=⟨o.aev.aeq,[],o.aev.bV,o.aev.next,[],[],0,0⟩
 looked:cG (looked o)=0
structure OK (e:En):Prop where
 aeq:b6 e.aeq=0
 aex:b6 e.aex=0
 nonempty:e.aeq≠[]
 cC:aeC e.cC=true∨e.cC=[]
 bU:aeC e.bU=true∨e.bU=[]
 aey:0≤e.aey∧e.aey≤1073741824
 aeA:1≤e.aeA∧e.aeA≤3
theorem C8{e:En}(h:cG e=0):OK e:=by
 simp only[cG]at h;split at h
 ·rename_i h1;exact absurd h h1
 ·rename_i h1;split at h
  ·rename_i h2;exact absurd h h2
  ·rename_i h2;split at h
   ·simp at h
   ·rename_i h3;split at h
    ·rename_i h4;exact absurd h h4
    ·split at h
     ·rename_i h5;exact absurd h h5
     ·split at h
      ·simp at h
      ·rename_i h6;split at h
       ·simp at h
       ·rename_i h7;simp only[vh,IW,aP,eH,dv,gC,uP]at h3;simp only[named,IW,aP,da,bN]at h6;exact⟨by simpa using h1,by simpa using h2,h3.1.1,h6.1.symm,h6.2.symm,⟨by omega,by omega⟩,⟨by omega,by omega⟩⟩
def dF(out:List It)(x:It):List It :=
 if x.aep≠1 then out++[x]else if x.aer=[]then out else
 match out.getLast? with
 | some y=>if y.aep=1 then out.dropLast++[⟨1,y.aer++x.aer,0⟩]else out++[⟨1,x.aer,0⟩]
 | none=>out++[⟨1,x.aer,0⟩]
def oR(f:List It):List It:=f.foldl dF []
def rR(out:List It):Bool:=match out.getLast? with
 | some y=>y.aep==1
 | none=>false
theorem Ee:∀ (n m:Nat) (f:List It),f.length≤n→f.length≤m→fD n f=fD m f:=by
 intro n
 induction n with
 | zero =>
  intro m f h _;have:f=[]:=aD (by omega);subst this;cases m<;>rfl
 | succ n ih =>
  intro m f h1 h2;cases f with
  | nil=>cases m<;>rfl
  | cons x r =>
   cases m with
   | zero=>simp at h2
   | succ m =>
    simp only[ai]at h1 h2
    by_cases hk:x.aep=1
    ·have hs:=kJ (x:=x) (r:=r) hk;have hi:=ih m (aeu (x::r)).2 (by omega) (by omega);simp only[fD,hk,gC,kz,aO];split
     ·exact hi
     ·rw[hi]
    ·simp only[fD,aQ hk];rw[ih m r (by omega) (by omega)]
theorem wi{x:It}{r:List It}(hk:x.aep≠1):aeB (x::r)=x::aeB r:=by
 simp only[aeB,ai,fD,aQ hk]
theorem lU{x:It}{r:List It}(hk:x.aep=1):aeB (x::r)=if(aeu (x::r)).1.length=0 then aeB (aeu (x::r)).2 else⟨1,(aeu (x::r)).1,0⟩::aeB (aeu (x::r)).2:=by
 have hs:=kJ (x:=x) (r:=r) hk;have e:fD r.length (aeu (x::r)).2=fD (aeu (x::r)).2.length (aeu (x::r)).2:=Ee _ _ _ hs (aq _);simp only[aeB,ai,fD,hk,gC,kz,aO,e]
def mP(t:List UInt8)(f:List It):List It:=if t=[]then aeB f else
 ⟨1,t++(aeu f).1,0⟩::aeB (aeu f).2
theorem Iy:∀ (f out:List It) (t:List UInt8),(rR out=false)→f.foldl dF (closed out t)=out++mP t f:=by
 intro f
 induction f with
 | nil =>
  intro out t ho;simp only[Bi,mP,closed];split
  ·simp[aeB,fD]
  ·simp[aeu,aeB,fD]
 | cons x f ih =>
  intro out t ho;simp only[eS]
  by_cases hk:x.aep=1
  ·by_cases hx:x.aer=[]
   ·have e1:dF (closed out t) x=closed out t:=by simp[dF,hk,hx]
    rw[e1,ih out t ho];congr 1;simp only[mP];have hr:aeu (x::f)=((aeu f).1,(aeu f).2):=by simp[aeu,hk,hx]
    by_cases ht:t=[]
    ·rw[aQ ht,aQ ht,lU hk,hr];cases f with
     | nil=>simp[aeu,aeB,fD]
     | cons y f =>
      by_cases hy:y.aep=1
      ·rw[lU hy]
      ·simp[aeu,hy]
    ·rw[aC ht,aC ht,hr]
   ·have e1:dF (closed out t) x=closed out (t++x.aer):=by
     simp only[dF,hk,gC,kz,aO,aC hx];have gr:t++x.aer≠[]:=by simp[hx]
     by_cases ht:t=[]
     ·subst ht;rw[qE];simp only[closed,bh,aC hx];simp only[rR]at ho;cases hg:out.getLast? with
      | none=>rfl
      | some y =>
       rw[hg]at ho;have hy:¬ y.aep=1:=by simpa using ho
       simp only[aC hy]
     ·simp[closed,ht]
    rw[e1,ih out _ ho];congr 1;have gr:t++x.aer≠[]:=by simp[hx]
    simp only[mP,aC gr];have hr:aeu (x::f)=(x.aer++(aeu f).1,(aeu f).2):=by simp[aeu,hk]
    by_cases ht:t=[]
    ·subst ht;rw[aQ rfl,lU hk,hr]
     have:(x.aer++(aeu f).1).length≠0:=by
      have:=pO.2 hx;rw[al];omega
     rw[aC this];simp
    ·rw[aC ht,hr];simp
  ·have e1:dF (closed out t) x=closed (closed out t++[x]) []:=by
    rw[qE];simp[dF,hk]
   have he:rR (closed out t++[x])=false:=by simp[rR,hk]
   rw[e1,ih _ [] he];have hr:aeu (x::f)=([],x::f):=by simp[aeu,hk]
   simp only[mP,aR,hr,bF,wi hk]
   by_cases ht:t=[]
   ·simp[closed,ht]
   ·simp[closed,ht]
theorem tU(f:List It):oR f=aeB f:=by
 have:=Iy f [] [] rfl;rw[qE]at this;simpa[mP,oR]using this
theorem ya(f:List It)(x:It):oR (f++[x])=dF (oR f) x:=by simp[oR]
theorem lV{f:List It}{x:It}(h:aeB f=f):aeB (f++[x])=dF f x:=by
 rw[← tU,ya,tU,h]
theorem p6{f:List It}{x:It}(h:x.aep≠1):dF f x=f++[x]:=by simp[dF,h]
def tg(f:List It):List It:=f.filter b5
theorem iG(a b:List It):tg (a++b)=tg a++tg b:=by simp[tg]
theorem zM{x:It}(h:b5 x=true):tg [x]=[x]:=by simp[tg,h]
theorem qZ{x:It}(h:b5 x=false):tg [x]=[]:=by simp[tg,h]
theorem qw(t:List UInt8)(i:Int):b5 ⟨1,t,i⟩=false:=by simp[b5]
theorem ua{x:It}(h:x.aep=1):b5 x=false:=by simp[b5,h]
theorem Fz{x:It}(h1:x.aep=1)(h2:x.id=0):(⟨1,x.aer,0⟩:It)=x:=by
 obtain⟨k,t,i⟩:=x;simp only at h1 h2;subst h1;subst h2;rfl
theorem zq{p:Option It}{x:It}(hk:x.aep=1)(h:cH p x=true):x.aer≠[]∧x.id=0∧∀ y,p=some y→y.aep≠1:=by
 simp only[cH,hk,aR,aP,eH,dv,bN]at h;refine⟨h.1.1,h.1.2,fun y hy=>?_⟩;subst hy;simpa using h.2
theorem nS{p:Option It}{t:List UInt8}(h1:t≠[])(h2:∀ y,p=some y→y.aep≠1):cH p ⟨1,t,0⟩=true:=by
 simp only[cH,aR,aP,eH,dv,bN];refine⟨⟨h1,trivial⟩,?_⟩;cases p with
 | none=>rfl
 | some y=>simpa using h2 y rfl
theorem wj{f:List It}:cB [] f=0→aeB f=f:=by
 refine FI (p:=fun f=>cB [] f=0→aeB f=f) (fun _=>rfl) ?_ f;intro l x ih h;obtain⟨h1,h2,_⟩:=(ig l [] x).1 h;simp only[bh]at h2;rw[lV (ih h1)]
 by_cases hk:x.aep=1
 ·obtain⟨g1,g2,g3⟩:=zq hk h2;simp only[dF,hk,gC,kz,aO,aC g1];cases hg:l.getLast? with
  | none=>simp only[Fz hk g2]
  | some y=>simp only[aC (g3 y hg),Fz hk g2]
 ·exact p6 hk
theorem Gv(f:List It)(x:It):fits f x=fits (tg f) x:=by
 induction f with
 | nil=>rfl
 | cons y f ih =>
  by_cases h:b5 y=true
  ·simp only[fits,tg,dz,h,aR,lI]at ih ⊢;rw[ih]
  ·have h:b5 y=false:=by simpa using h
   have hb:jj x y=false:=by simp[jj,h]
   simp only[fits,tg,dz,h,lI,hb,aG,aO,kH,ed]at ih ⊢;exact ih
theorem sP{f:List It}(t:List UInt8)(h:cB [] f=0):cB [] (aeB (f++[⟨1,t,0⟩]))=0∧tg (aeB (f++[⟨1,t,0⟩]))=tg f:=by
 rw[lV (wj h)]
 by_cases ht:t=[]
 ·have e:dF f ⟨1,t,0⟩=f:=by simp[dF,ht]
  rw[e];exact⟨h,rfl⟩
 ·revert h;refine FI (p:=fun f=>cB [] f=0→cB [] (dF f ⟨1,t,0⟩)=0∧tg (dF f ⟨1,t,0⟩)=tg f) ?_ ?_ f
  ·intro _;have e:dF [] ⟨1,t,0⟩=[]++[⟨1,t,0⟩]:=by simp[dF,ht]
   rw[e,ig,iG,qZ (qw t 0),bF];exact⟨⟨rfl,nS ht (by simp),by simp[b5]⟩,rfl⟩
  ·intro l y _ h;obtain⟨h1,h2,h3⟩:=(ig l [] y).1 h
   by_cases hy:y.aep=1
   ·have e:dF (l++[y]) ⟨1,t,0⟩=l++[⟨1,y.aer++t,0⟩]:=by simp[dF,ht,hy]
    obtain⟨_,_,g3⟩:=zq hy h2;rw[e,ig,iG,iG,qZ (qw _ 0),qZ (ua hy)];exact⟨⟨h1,nS (by simp[ht]) g3,by simp[b5]⟩,rfl⟩
   ·have e:dF (l++[y]) ⟨1,t,0⟩=(l++[y])++[⟨1,t,0⟩]:=by simp[dF,ht,hy]
    rw[e,ig,iG,qZ (qw _ 0),bF];refine⟨⟨h,nS ht fun z hz=>?_,by simp[b5]⟩,rfl⟩;simp only[bh,kF,iV,qM,aa]at hz;subst hz;exact hy
theorem sQ{f:List It}{x:It}(h:cB [] f=0)(hk:x.aep≠1)(hx:cH none x=true)(hf:b5 x=true→fits f x=true):
  aeB (f++[x])=f++[x]∧cB [] (f++[x])=0:=by
 refine⟨by rw[lV (wj h),p6 hk],?_⟩;rw[ig];refine⟨h,by rw[rG hk];exact hx,?_⟩;rw[bh];cases ht:b5 x with
 | false=>rfl
 | true=>rw[hf ht];rfl
def nt(f:List It):List It:=f.filter fun x=>x.aep != 1
theorem yX(a b:List It):nt (a++b)=nt a++nt b:=by simp[nt]
theorem vO:∀ (l:List It),nt (aeu l).2=nt l
 | []=>rfl
 | x::r=>by
  by_cases hk:x.aep=1
  ·have:=vO r;simp only[aeu,hk,aR,nt,dz]at this ⊢;simpa using this
  ·simp[aeu,hk]
theorem wm:∀ (n:Nat) (f:List It),f.length≤n→nt (fD n f)=nt f
 | 0,f,h=>by rw[aD (Nat.le_zero.1 h)];rfl
 | _+1,[],_=>rfl
 | n+1,x::r,h=>by
  simp only[ai]at h
  by_cases hk:x.aep=1
  ·have h1:=kJ (r:=r) hk;have h2:=wm n (aeu (x::r)).2 (by omega);rw[vO]at h2;simp only[fD,hk,gC,kz,aO];split
   ·exact h2
   ·simp only[nt,dz]at h2 ⊢;simpa using h2
  ·have h2:=wm n r (by omega);simp only[fD,hk,gC,dS,aR,nt,dz]at h2 ⊢;rw[h2]
theorem M0(f:List It):nt (aeB f)=nt f:=wm _ f (aq _)
def vI(p:List Int×List Int)(x:It):Option (List Int×List Int) :=
 if x.aep=2 then some (p.1,p.2++[x.id])
 else if x.aep=3 then(if p.2.length=0 then some (p.1++[x.id],p.2)else if p.2.getD (p.2.length - 1) 0=x.id then some (p.1,p.2.take (p.2.length - 1))else none)
 else some p
def jG:List It→List Int×List Int→Option (List Int×List Int)
 | [],p=>some p
 | x::r,p=>(vI p x).bind (jG r)
def shape(f:List It):Option (List Int×List Int):=jG f ([],[])
theorem oJ:∀ (a b:List It) (p:List Int×List Int),jG (a++b) p=(jG a p).bind (jG b)
 | [],_,_=>rfl
 | x::a,b,p=>by
  simp only[bq,jG,Option.bind_assoc];congr 1;funext q;exact oJ a b q
theorem vH{f:List It}{p:List Int×List Int}(h:shape f=some p)(x:It):shape (f++[x])=vI p x:=by
 rw[shape]at h;rw[shape,oJ,h];simp only[jG,ey];cases vI p x<;>rfl
theorem nG:∀ (f:List It) (p:List Int×List Int),jG f p=jG (tg f) p
 | [],_=>rfl
 | x::f,p=>by
  by_cases ht:b5 x=true
  ·simp only[tg,dz,ht,aR,jG];congr 1;funext q;exact nG f q
  ·have ht:b5 x=false:=by simpa using ht
   have h2:x.aep≠2∧x.aep≠3:=by
    simp only[b5,kG,dv]at ht;exact ht.1
   simp only[tg,dz,ht,aG,aO,jG,vI,aC h2.1,aC h2.2,ey];exact nG f p
theorem Jz{f g:List It}(h:tg f=tg g):shape f=shape g:=by rw[shape,shape,nG,h,← nG]
structure zF (f opn:List It) (n:Int):Prop where
 sh:shape f=some ([],opn.map (·.id))
 err:cB [] f=0
 ids:∀ z∈tg f,1≤z.id∧z.id≤n
 nd:(opn.map (·.id)).Nodup
 op:∀ y∈opn,aeC (iH y.aer)=true∧1≤y.id∧y.id≤n∧∀ z∈tg f,z.id=y.id→z.aep=2∧z.aer=y.aer
theorem zF.nil:zF [] [] 0:=⟨rfl,rfl,by simp[tg],by simp,by simp⟩
theorem zF.mono{f opn:List It}{n m:Int}(h:zF f opn n)(hm:n≤m):zF f opn m :=
 ⟨h.sh,h.err,fun z hz=>by have:=h.ids z hz;omega,h.nd,fun y hy=>by
  obtain⟨h1,h2,h3,h4⟩:=h.op y hy;exact⟨h1,h2,by omega,h4⟩⟩
theorem zF.same{f g opn:List It}{n:Int}(h:zF f opn n)(h1:cB [] g=0)(h2:tg g=tg f):zF g opn n :=
 ⟨(Jz h2).trans h.sh,h1,by rw[h2];exact h.ids,h.nd,by rw[h2];exact h.op⟩
theorem zF.aer{f opn:List It}{n:Int}(h:zF f opn n)(t:List UInt8):zF (aeB (f++[⟨1,t,0⟩])) opn n :=
 h.same (sP t h.err).1 (sP t h.err).2
theorem zF.slot{f opn:List It}{n:Int}(h:zF f opn n){t:List UInt8}(ht:aeC t=true):zF (aeB (f++[⟨5,t,0⟩])) opn n:=by
 obtain⟨e,he⟩:=sQ (x:=⟨5,t,0⟩) h.err (by simp) (by simp[cH,ht]) (by simp[b5]);rw[e];exact h.same he (by rw[iG,qZ (by simp[b5]),bF])
theorem Lr{f:List It}{x:It}(h:∀ z∈tg f,z.id≠x.id):fits f x=true:=by
 rw[Gv];simp only[fits,cj];intro z hz;have:=h z hz;simp[jj,this]
theorem zF.empty{f opn:List It}{n:Int}(h:zF f opn n){t:List UInt8}(ht:gy t=true)(h0:0≤n)(h9:n<999):zF (aeB (f++[⟨4,t,n+1⟩])) opn (n+1):=by
 have hT:b5 ⟨4,t,n+1⟩=true:=by simp[b5]
 obtain⟨e,he⟩:=sQ (x:=⟨4,t,n+1⟩) h.err (by simp) (by simp[cH,ht];omega) (fun _=>Lr fun z hz=>by have:=h.ids z hz;simp only;omega);rw[e];refine⟨by rw[vH h.sh];rfl,he,?_,h.nd,?_⟩
 ·intro z hz;rw[iG,zM hT,bQ,cR]at hz;rcases hz with hz | rfl
  ·have:=h.ids z hz;omega
  ·simp only;omega
 ·intro y hy;obtain⟨o1,o2,o3,o4⟩:=h.op y hy;refine⟨o1,o2,by omega,fun z hz UI=>?_⟩;rw[iG,zM hT,bQ,cR]at hz;rcases hz with hz | rfl
  ·exact o4 z hz UI
  ·simp only at UI;omega
theorem zF.close{f opn:List It}{y:It}{n:Int}(h:zF f (opn++[y]) n)(h9:n≤999):
  zF (f++[⟨3,iH y.aer,y.id⟩]) opn n∧aeB (f++[⟨3,iH y.aer,y.id⟩])=f++[⟨3,iH y.aer,y.id⟩]:=by
 have hT:b5 ⟨3,iH y.aer,y.id⟩=true:=by simp[b5]
 obtain⟨o1,o2,o3,o4⟩:=h.op y (by simp)
 obtain⟨e,he⟩:=sQ (x:=⟨3,iH y.aer,y.id⟩) h.err (by simp) (by simp[cH,o1];omega) (fun _=>by
  rw[Gv];simp only[fits,cj];intro z hz
  by_cases hi:z.id=y.id
  ·obtain⟨z1,z2⟩:=o4 z hz hi;simp[jj,z1,z2]
  ·simp[jj,hi])
 have lM:=h.nd;rw[cQ,fu]at lM;refine⟨⟨by rw[vH h.sh];simp[vI],he,?_,lM.1,?_⟩,e⟩
 ·intro z hz;rw[iG,zM hT,bQ,cR]at hz;rcases hz with hz | rfl
  ·exact h.ids z hz
  ·exact⟨o2,o3⟩
 ·intro x hx;obtain⟨p1,p2,p3,p4⟩:=h.op x (by simp[hx]);refine⟨p1,p2,p3,fun z hz UI=>?_⟩;rw[iG,zM hT,bQ,cR]at hz;rcases hz with hz | rfl
  ·exact p4 z hz UI
  ·have:=lM.2.2 x.id (aT.2 ⟨x,hx,rfl⟩) y.id (by simp);exact absurd UI.symm this
structure Sb (pre f:List It):Prop where
 err:cB [] f=0
 WV:nt f=nt pre
theorem Pd(f:List It):tg (nt f)=tg f:=by
 simp only[tg,nt,List.filter_filter];refine List.filter_congr fun x _=>?_;cases h:b5 x with
 | false=>rfl
 | true=>rw[ed];simp only[kC];intro hk;rw[ua hk]at h;simp at h
theorem Sb.tags{pre f:List It}(h:Sb pre f):tg f=tg pre:=by rw[← Pd,h.WV,Pd]
theorem Sb.nil:Sb [] []:=⟨rfl,rfl⟩
theorem Sb.aer{pre f:List It}{x:It}(h:Sb pre f)(hk:x.aep=1)(t:List UInt8):Sb (pre++[x]) (aeB (f++[⟨1,t,0⟩])) :=
 ⟨(sP t h.err).1,by rw[M0,yX,yX,h.WV];simp[nt,hk]⟩
structure L4 (e:En):Prop where
 sh:shape e.aeq=some ([],[])
 WV:nt e.aex=nt e.aeq
 num:(aeD e.aeq).length≤4
 ok:cG e=0
 sD:e.aeq.length≤40
 pw:bP e.aeq≤400
 vr:e.aex.length≤100
 qY:bP e.aex≤900
 prev:e.bV.length≤7
 next:e.next.length≤7
 cC:e.cC.length≤3
 bU:e.bU.length≤3
theorem OE{p:Option It}{x:It}(h:cH p x=true):0≤x.id∧x.id≤999:=by
 simp only[cH]at h;split at h
 ·simp only[aP,bN]at h;omega
 ·split at h
  ·simp only[aP,bN]at h;omega
  ·split at h
   ·simp only[aP,a8]at h;omega
   ·split at h
    ·simp only[aP,a8]at h;omega
    ·simp at h
theorem pq{f:List It}(h:b6 f=0):∀ x∈f,0≤x.id∧x.id≤999:=by
 simp only[b6]at h;split at h
 ·simp at h
 ·intro x hx;exact OE (yd f [] h x hx)
theorem nW{e:En}(h:cG e=0):b6 e.aeq=0∧b6 e.aex=0:=⟨(C8 h).aeq,(C8 h).aex⟩
theorem L4.aew{e:En}(h:L4 e):e.aew:=by
 have:=nW h.ok;have h1:=h.sD;have h2:=h.pw;have h3:=h.vr;have h4:=h.qY;have h5:=h.prev;have h6:=h.next;refine⟨by omega,by omega,by omega,by omega,by omega,by omega,fun x hx=>?_⟩;rcases bQ.1 hx with hx | hx
 ·have:=pq this.1 x hx;omega
 ·have:=pq this.2 x hx;omega
structure V1 (o:xE):Prop where
 ok:Pl o=0
 off:o.fL.jn<3
 src:cB [] o.aev.aeq=0
 sD:o.aev.aeq.length≤40
 pw:bP o.aev.aeq≤400
 aew:o.aew
 vr:o.aev.aex.length≤100
 qY:bP o.aev.aex≤1200
 ctx:o.aev.bV.length≤7∧o.aev.next.length≤7∧o.aev.cC.length≤3∧o.aev.bU.length≤3
theorem Eb{a b:xE}:yW a b=0↔a.fL.jn=b.fL.jn∧a.fL.number=b.fL.number:=by
 simp only[yW,tR,jY]
 (repeat' split)<;>omega
abbrev V0(l:List xE):Prop:=l.Pairwise fun a b=>yW a b<0
theorem yY{α:Type}:∀ {l m:List α},l.Nodup→(∀ x∈l,x∈m)→l.length≤m.length
 | [],_,_,_=>eX _
 | a::l,m,hn,h=>by
  rw[cP]at hn;obtain⟨s,t,rfl⟩:=List.append_of_mem (h a (by simp))
  have:=yY (m:=s++t) hn.2 fun x hx=>by
   have h1:=h x (by simp[hx]);simp only[bQ,bn]at h1 ⊢;rcases h1 with h1 | h1 | h1
   ·exact .inl h1
   ·subst h1;exact absurd hx hn.1
   ·exact .inr h1
  simp only[al,ai]at this ⊢;omega
structure aaj (M:List xE):Prop where
 gen:∀ x∈M,V1 x
 off:∀ x∈M,x.fL.jn≠0
 one:∀ x∈M,∀ y∈M,yW x y=0→x=y
 len:M.length≤10
structure Recv (M:List xE) (o:O3):Prop where
 num:o.number=0
 down:o.down=false
 sub:∀ x∈o.aeo,x∈M
 sort:V0 o.aeo
 top:∀ x∈o.aeo,x.fL.time≤o.aes
 clk:o.aes=0∨∃ x∈o.aeo,o.aes=x.fL.time
 log:o.log.length≤60008*o.aeo.length
theorem Ec(x:xE):yW x x=0:=Eb.2 ⟨rfl,rfl⟩
theorem Recv.len{M:List xE}{o:O3}(h:Recv M o):o.aeo.length≤M.length:=by
 refine yY ?_ h.sub;refine h.sort.imp fun {a b} Mj e=>?_;subst e;rw[Ec]at Mj;omega
theorem Recv.aew{M:List xE}{o:O3}(hM:aaj M)(h:Recv M o):o.aew:=by
 have h1:=h.len;have h2:=hM.len;have h3:=h.log;exact⟨fun x hx=>(hM.gen x (h.sub x hx)).aew,by omega,by omega⟩
structure OpG (x:xE):Prop where
 ok:Pl x=0
 aew:x.aew
 enc:(OJ x).length≤20000
structure Arr (n:Int) (arr:List xE):Prop where
 op:∀ x∈arr,OpG x
 one:arr.Pairwise fun a b=>yW a b≠0
 own:∀ (j:Nat) (y:xE),(arr.filter fun x=>x.fL.jn==n)[j]?=some y→y.fL.number=j+1
theorem Arr.take{n:Int}{arr:List xE}(h:Arr n arr)(k:Nat):Arr n (arr.take k):=by
 refine⟨fun x hx=>h.op x (df hx),h.one.sublist (List.take_sublist _ _),fun j y hj=>h.own j y ?_⟩;have e:arr=arr.take k++arr.drop k:=(jS k arr).symm;rw[e,gT,ag (ab.1 hj).1];exact hj
structure iE {α:Type} (c:α→α→Int):Prop where
 ku:∀ a b,c b a = - c a b
 trans:∀ a b d,0≤c a b→0≤c b d→0≤c a d
theorem iE.self{α:Type}{c:α→α→Int}(h:iE c)(a:α):c a a=0:=by have:=h.ku a a;omega
theorem iE.gt{α:Type}{c:α→α→Int}(h:iE c){a b d:α}(h1:0<c a b)(h2:0<c b d):0<c a d:=by
 have h3:=h.trans a b d (by omega) (by omega);rcases(by omega:0<c a d∨c a d=0)with h4 | h4
 ·exact h4
 ·have h5:=h.ku a d;have h6:=h.trans d a b (by omega) (by omega);have h7:=h.ku d b;omega
theorem iE.on{α β:Type}{c:β→β→Int}(h:iE c)(f:α→β):iE fun a b=>c (f a) (f b) :=
 ⟨fun _ _=>h.ku _ _,fun _ _ _=>h.trans _ _ _⟩
def AH{α:Type}(c d:α→α→Int)(a b:α):Int:=if c a b≠0 then c a b else d a b
theorem iE.lex{α:Type}{c d:α→α→Int}(h:iE c)(k:iE d):iE (AH c d):=by
 refine⟨fun a b=>?_,fun a b e h1 h2=>?_⟩
 ·have h1:=h.ku a b;have h2:=k.ku a b;simp only[AH];split<;>split<;>omega
 ·have g1:=h.ku a b;have g2:=h.ku b e;have g3:=h.trans a b e;have g4:=h.trans e a b;have g5:=h.ku e b;have g6:=h.ku a e;have g7:=h.trans b e a;have g8:=h.ku b a;have k3:=k.trans a b e;simp only[AH]at h1 h2 ⊢;split at h1<;>split at h2<;>split<;>omega
theorem rV:iE jY:=by
 refine⟨fun a b=>?_,fun a b d=>?_⟩<;>simp only[jY]<;>(repeat' split)<;>omega
theorem vp{a b:UInt8}:a<b↔a.toNat<b.toNat:=Bv
theorem jM:iE eB:=by
 have ku:∀ a b,eB b a = - eB a b:=by
  intro a
  induction a with
  | nil=>intro b;cases b<;>simp[eB]
  | cons x a ih =>
   intro b;cases b with
   | nil=>simp[eB]
   | cons y b =>
    simp only[eB,ih]
    by_cases h1:x<y
    ·have h2:¬ y<x:=by rw[vp]at *;omega
     simp[h1,h2]
    ·by_cases h2:y<x<;>simp[h1,h2]
 refine⟨ku,?_⟩;intro a
 induction a with
 | nil =>
  intro b d h1 h2;cases b with
  | nil=>exact h2
  | cons y b=>simp[eB]at h1
 | cons x a ih =>
  intro b d h1 h2;cases d with
  | nil=>simp[eB]
  | cons z d =>
   cases b with
   | nil=>simp[eB]at h2
   | cons y b =>
    simp only[eB]at h1 h2 ⊢
    by_cases hxy:x<y
    ·simp[hxy]at h1
    ·by_cases hyz:y<z
     ·simp[hyz]at h2
     ·rw[aC hxy]at h1;rw[aC hyz]at h2;have hxz:¬ x<z:=by rw[vp]at *;omega
      rw[aC hxz]
      by_cases hzx:z<x
      ·rw[aQ hzx];decide
      ·rw[aC hzx];have h3:¬ y<x:=by rw[vp]at *;omega
       have h4:¬ z<y:=by rw[vp]at *;omega
       rw[aC h3]at h1;rw[aC h4]at h2;exact ih b d h1 h2
theorem lN:∀ {a b:List UInt8},eB a b=0↔a=b:=by
 intro a
 induction a with
 | nil=>intro b;cases b<;>simp[eB]
 | cons x a ih =>
  intro b;cases b with
  | nil=>simp[eB]
  | cons y b =>
   simp only[eB]
   by_cases h1:x<y
   ·have:x≠y:=by rintro rfl;rw[vp]at h1;omega
    simp[h1,this]
   ·by_cases h2:y<x
    ·have:x≠y:=by rintro rfl;rw[vp]at h2;omega
     simp[h1,h2,this]
    ·have:x=y:=by
      rw[vp]at h1 h2;exact O4.1 (by omega)
     simp[h1,h2,this,ih]
theorem l4:∀ (x y:List UInt8),Op.bytesLess x y=decide (eB x y<0)
 | [],[]=>rfl
 | [],_::_=>rfl
 | _::_,[]=>rfl
 | a::x,b::y=>by
  simp only[Op.bytesLess,eB]
  by_cases h1:a<b
  ·simp[h1]
  ·by_cases h2:b<a
   ·have:a≠b:=by rintro rfl;exact h1 h2
    simp[h1,h2,this]
   ·have h3:a=b:=UInt8.le_antisymm (UInt8.not_lt.1 h2) (UInt8.not_lt.1 h1);subst h3;simp[h1,l4 x y]
theorem kQ{x y z:List UInt8}(h1:eB x y<0)(h2:eB y z<0):eB x z<0:=by
 have a1:=jM.ku x y;have a2:=jM.ku y z;have a3:=jM.ku x z;have:=jM.gt (a:=z) (b:=y) (d:=x) (by omega) (by omega);omega
theorem GB:∀ (x y:List UInt8),eB x y = -1∨eB x y=0∨eB x y=1
 | [],[]=>by simp[eB]
 | [],_::_=>by simp[eB]
 | _::_,[]=>by simp[eB]
 | a::x,b::y=>by
  have:=GB x y;simp only[eB]
  (repeat' split)<;>omega
def xU(s:List UInt8):List V:=[.s s]
def aI(l:List It):List (List UInt8):=(l.filter fun t=>t.aep==6).map dE
abbrev GK:=List UInt8×List UInt8
def mj(k:GK):V:=.agg [.s k.1,.s k.2]
theorem tf(a b:GK):bI 4 (mj a) (mj b)=some (decide (a=b)):=by
 obtain⟨k,t⟩:=a;obtain⟨l,s⟩:=b;simp only[bI,mj,vF,aa];rw[ir];simp
def dn(C:List (GK×Int))(last:List UInt8):List (List UInt8)→List (GK×Int)
 | []=>bump C (last,[]) 1
 | w::r=>dn (bump C (last,w) 1) w r
abbrev Gr:=GK×Int
def ni(g:Gr):List V:=[.s g.1.1,.s g.1.2,.i .i64 g.2]
def wT(a b:GK):Int:=tR [eB a.1 b.1,eB a.2 b.2]
def ue(a b:Gr):Int:=wT a.1 b.1
def bK(ws:List (List UInt8)):List Gr:=(dn [] [] ws).mergeSort fun a b=>decide (ue a b≤0)
def bM(t:It):It×Bool:=if t.aep=6∨t.aep=7∨t.aep=8∨t.aep=9∨t.aep=5 then(⟨t.aep,dE t,0⟩,true)else(⟨t.aep,t.aer,0⟩,b5 t)
def CN{α:Type}[DecidableEq α](n:Nat)(C:List (α×Int)):Prop:=C.length≤n∧gH C∧∀ k v,bo k C=some v→0<v∧v≤n
theorem CN.nil{α:Type}[DecidableEq α]:CN 0 ([]:List (α×Int)):=⟨aq _,by simp[gH],fun k v h=>by simp[bo,db]at h⟩
theorem CN.getD{α:Type}[DecidableEq α]{n:Nat}{C:List (α×Int)}(h:CN n C)(k:α):0≤(bo k C).getD 0∧(bo k C).getD 0≤n:=by
 cases hg:bo k C with
 | none=>simp
 | some v=>have:=h.2.2 k v hg;simp;omega
theorem CN.bump{α:Type}[DecidableEq α]{n:Nat}{C:List (α×Int)}(h:CN n C)(a:α):CN (n+1) (Bt.bump C a 1):=by
 refine⟨bl (BB _ _ _) (by have:=h.1;omega),h.2.1.oh _ _,fun k v hv=>?_⟩;unfold Bt.bump at hv;rw[eD]at hv;have h1:=h.getD a;split at hv
 ·simp only[aa]at hv;omega
 ·have:=h.2.2 k v hv;omega
theorem fS:∀ (ws:List (List UInt8)) (C:List (GK×Int)) (last:List UInt8) (n:Nat),CN n C→CN (n+ws.length+1) (dn C last ws)
 | [],C,last,n,h=>h.bump _
 | w::r,C,last,n,h=>by
  have:=fS r (bump C (last,w) 1) w (n+1) (h.bump _);simp only[dn,ai];have e:n+(r.length+1)+1=n+1+r.length+1:=by omega
  rw[e];exact this
theorem kX{ps:List Nat}(lM:ps.Nodup){q:Nat}(hq:q∈ps):ps.Perm (q::ps.filter fun i=>i != q):=by
 refine(qQ lM (cP.2 ⟨by simp,lM.filter _⟩)).2 fun x=>?_;simp only[bn,cc,kC,gC]
 by_cases h:x=q
 ·subst h;simp[hq]
 ·simp[h]
theorem kn{α:Type}(C:List α)(d:α):((List.range C.length).map fun i=>C.getD i d)=C:=by
 apply gd;intro i;rw[aW]
 by_cases h:i<C.length
 ·simp[iP h,ar,an h]
 ·rw[a7 (by simpa using L6 h),a7 (by omega)];rfl
theorem Iq:iE wT:=by
 have h:=(jM.on (fun k:GK=>k.1)).lex (jM.on (fun k:GK=>k.2))
 have e:wT=AH (fun a b:GK=>eB a.1 b.1) (fun a b=>eB a.2 b.2):=by
  funext a b;simp only[wT,tR,AH];split
  ·rfl
  ·split<;>omega
 rw[e];exact h
theorem EO{a b:GK}(h:wT a b=0):a=b:=by
 simp only[wT,tR]at h;have h1:eB a.1 b.1=0:=by split at h<;>omega
 have h2:eB a.2 b.2=0:=by rw[aC (by omega)]at h;split at h<;>omega
 exact Prod.ext (lN.1 h1) (lN.1 h2)
theorem jx:iE ue:=Iq.on (fun g:Gr=>g.1)
theorem Ip(ws:List (List UInt8)):(bK ws).Pairwise fun x y=>¬ ue y x<0:=by
 have:=WR (le:=fun a b=>decide (ue a b≤0)) (fun a b c h1 h2=>by
  simp only[a8]at *;have k1:=jx.ku a b;have k2:=jx.ku b c;have k3:=jx.ku a c;have k4:=jx.trans c b a (by omega) (by omega);omega) (fun a b=>by
  have k1:=jx.ku a b;simp only[da,a8];omega) (dn [] [] ws)
 refine this.imp fun {a b} h=>?_;have k1:=jx.ku a b;simp only[a8]at h;omega
theorem fc(ws:List (List UInt8)):(bK ws).Perm (dn [] [] ws):=DB ..
theorem Cy{C:List Gr}(h:gH C){a b:Gr}(ha:a∈C)(hb:b∈C)(e:a.1=b.1):a=b:=by
 have h1:=jy h ha;have h2:=jy h hb;rw[e,h2]at h1;exact Prod.ext e (gm h1).symm
theorem yh{ws:List (List UInt8)}{l:List Gr}(hp:l.Perm (dn [] [] ws))(hs:l.Pairwise fun x y=>¬ ue y x<0):l=bK ws:=by
 have hK:gH (dn [] [] ws):=(fS ws [] [] 0 CN.nil).2.1;refine V6 (fun a b ha hb x y=>?_) hs (Ip ws) (hp.trans (fc ws).symm);have k1:=jx.ku a b;exact Cy hK (hp.mem_iff.1 ha) ((fc ws).mem_iff.1 hb) (EO (show wT a.1 b.1=0 from(by unfold ue at *;omega)))
def gV(C:List (TK×Int)):List It→List (TK×Int)
 | []=>C
 | t::r=>gV (if(bM t).2 then bump C (cY (bM t).1) 1 else C) r
def zY(n:Int)(gs:List Gr):Int:=gs.foldl (fun a g=>a+g.2) n
def yv(n:Int):List It→Int
 | []=>n
 | t::r=>yv (if(bM t).2&&!b5 (bM t).1 then n+weight (bM t).1 else n) r
def yB(n:Int):List It→Int
 | []=>n
 | t::r=>yB (if(bM t).2&&b5 (bM t).1 then n+1 else n) r
structure Sm where
 dH:Int
 weight:Int
 tags:Int
def gp(l:List It):Sm:=⟨zY 0 (bK (aI l)),yv 0 l,yB 0 l⟩
theorem qF:∀ (l:List It) (C:List (TK×Int)) (n:Nat),CN n C→CN (n+l.length) (gV C l)
 | [],C,n,h=>h
 | t::r,C,n,h=>by
  simp only[gV,ai];have e:n+(r.length+1)=n+1+r.length:=by omega
  rw[e];refine qF r _ (n+1) ?_;split
  ·exact h.bump _
  ·exact⟨by have:=h.1;omega,h.2.1,fun k v hv=>by have:=h.2.2 k v hv;omega⟩
theorem kh(l:List It):(aI l).length≤l.length:=by
 unfold aI;rw[aj];exact dQ _ _
theorem nQ(ws:List (List UInt8)):(bK ws).length≤ws.length+1:=by
 rw[(fc ws).length_eq];have:=(fS ws [] [] 0 CN.nil).1;omega
theorem wQ(ws:List (List UInt8)):∀ g∈bK ws,0≤g.2∧g.2≤(ws.length:Int)+1:=fun g hg=>by
 have hC:=fS ws [] [] 0 CN.nil;have h1:=jy hC.2.1 ((fc ws).mem_iff.1 hg);have:=hC.2.2 _ _ h1;omega
end Go.Bt
