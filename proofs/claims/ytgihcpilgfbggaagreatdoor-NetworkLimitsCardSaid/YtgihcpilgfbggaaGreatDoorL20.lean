/- A part of the proof that for every input the law NetworkLimits returns true and leaves its argument as it was. -/
import Derived.Test.YtgihcpilgfbggaaGreatDoorL15
import Derived.Test.YtgihcpilgfbggaaGreatDoorL19
set_option linter.all false

namespace Go.Bt
open Go Go.Pm
theorem W9(c:UInt8):0≤(c.toNat:Int).fdiv (2^min 4 IntKind.u8.bits)∧(c.toNat:Int).fdiv (2^min 4 IntKind.u8.bits)<16 ∧
  ([48,49,50,51,52,53,54,55,56,57,97,98,99,100,101,102]:List UInt8).getD ((c.toNat:Int).fdiv (2^min 4 IntKind.u8.bits)).toNat 0=ia (c.toNat / 16):=by
 revert c;exact fO (by decide +kernel)
theorem W8(c:UInt8):0≤IntKind.u8.wrap (((BitVec.ofInt IntKind.u8.bits (c.toNat:Int) &&& BitVec.ofInt IntKind.u8.bits 15).toNat:Nat):Int)∧IntKind.u8.wrap (((BitVec.ofInt IntKind.u8.bits (c.toNat:Int) &&& BitVec.ofInt IntKind.u8.bits 15).toNat:Nat):Int)<16 ∧
  ([48,49,50,51,52,53,54,55,56,57,97,98,99,100,101,102]:List UInt8).getD (IntKind.u8.wrap (((BitVec.ofInt IntKind.u8.bits (c.toNat:Int) &&& BitVec.ofInt IntKind.u8.bits 15).toNat:Nat):Int)).toNat 0=ia (c.toNat % 16):=by
 revert c;exact fO (by decide +kernel)
def bT(x:It):List UInt8 :=
 if x.kind=1 then x.text.flatMap dC else if x.kind=2 then 60::(Lib.itoa x.id++58::(x.text++[62]))else if x.kind=3 then 60::47::(Lib.itoa x.id++58::(x.text++[62]))
 else if x.kind=4 then 60::(Lib.itoa x.id++58::(x.text++[47,62]))else if x.kind=5 then 123::(x.text++[125])else[]
def format(f:List It):List UInt8×Int:=if bC f≠0 then([],bC f)else(f.flatMap bT,0)
theorem zQ(c:UInt8):(dC c).length≤4:=by
 simp only[dC]
 (repeat' split)<;>simp
theorem AF(s:List UInt8):(s.flatMap dC).length≤4*s.length:=by
 induction s with
 | nil=>simp
 | cons c s ih =>
  have:=zQ c;simp only[eV,List.length_append,ag];omega
theorem ze:∀ (rest pre:List It),bD pre rest=0→∀ x∈rest,1≤x.kind∧x.kind≤5:=by
 intro rest
 induction rest with
 | nil=>intro pre h x hx;simp at hx
 | cons y rest ih =>
  intro pre h x hx;simp only[bD]at h;split at h
  ·simp at h
  ·rename_i h1;split at h
   ·simp at h
   ·rcases aY.1 hx with rfl | hx
    ·simp only[bh]at h1
     by_cases k1:x.kind=1
     ·omega
     ·by_cases k5:x.kind=5
      ·omega
      ·by_cases k2:x.kind=2∨x.kind=4
       ·omega
       ·by_cases k3:x.kind=3
        ·omega
        ·simp[k1,k5,k2,k3]at h1
    ·exact ih _ h x hx
theorem pg{f:List It}(h:bC f=0):∀ x∈f,1≤x.kind∧x.kind≤5:=by
 simp only[bC]at h;split at h
 ·simp at h
 ·exact ze f [] h
theorem l8(x:It)(h : -9223372036854775808≤x.id∧x.id≤9223372036854775807):(bT x).length≤4*x.text.length+30:=by
 have h1:=Lib.itoa_length_le x.id h.1 h.2;have h2:=AF x.text;simp only[bT];split
 ·omega
 ·split
  ·simp;omega
  ·split
   ·simp;omega
   ·split
    ·simp;omega
    ·split
     ·simp;omega
     ·simp
theorem kf(f:List It)(hl:f.length<2^30)(ht:bp f<2^30)(hid:∀ x∈f,-9223372036854775808≤x.id∧x.id≤9223372036854775807):(format f).1.length<2^36:=by
 have key:∀ f:List It,(∀ x∈f,-9223372036854775808≤x.id∧x.id≤9223372036854775807)→(f.flatMap bT).length≤4*bp f+30*f.length:=by
  intro f
  induction f with
  | nil=>intro _;simp
  | cons x f ih =>
   intro h;have h1:=ih fun y hy=>h y (by simp[hy]);have h2:=l8 x (h x (by simp));simp only[eV,List.length_append,bp,ag];omega
 have:=key f hid;simp only[format];split
 ·simp
 ·simp only;omega
theorem nM(c:UInt8):∀ l:List UInt8,-1≤Lib.indexByte l c:=by
 intro l
 induction l with
 | nil=>simp[Lib.indexByte]
 | cons a l ih =>
  simp only[Lib.indexByte];split
  ·omega
  ·split<;>omega
theorem qk{c:UInt8}:∀ {l:List UInt8},c ∉ l→Lib.indexByte l c = -1:=by
 intro l
 induction l with
 | nil=>intro _;simp[Lib.indexByte]
 | cons a l ih =>
  intro h
  have h1:(a==c)=false:=by
   simp only[aY,not_or]at h;simpa using fun e=>h.1 e.symm
  have h2:=ih (fun hm=>h (bz _ hm));simp[Lib.indexByte,h1,h2]
theorem mc{c:UInt8}{rest:List UInt8}:∀ {pre:List UInt8},c ∉ pre→Lib.indexByte (pre++c::rest) c=pre.length:=by
 intro pre
 induction pre with
 | nil=>intro _;simp[Lib.indexByte]
 | cons a l ih =>
  intro h
  have h1:(a==c)=false:=by
   simp only[aY,not_or]at h;simpa using fun e=>h.1 e.symm
  have h2:=ih (fun hm=>h (bz _ hm));simp only[aJ,Lib.indexByte,h1,h2,aF,if_false,ag];have:((l.length:Int) == -1)=false:=by rw[beq_eq_false_iff_ne];omega
  rw[this];simp
theorem mQ{c:UInt8}{l:List UInt8}(h:c∈l):0≤Lib.indexByte l c:=by
 induction l with
 | nil=>simp at h
 | cons a l ih =>
  have hl:=nM c l;simp only[Lib.indexByte]
  by_cases h1:a=c
  ·simp[h1]
  ·have h2:(a==c)=false:=by simpa using h1
   have h3:c∈l:=by
    rcases aY.1 h with h | h
    ·exact absurd h.symm h1
    ·exact h
   have h4:=ih h3;have h5:(Lib.indexByte l c == -1)=false:=by simp;omega
   simp[h2,h5];omega
structure En where
 source:List It
 target:List It
 bN:List UInt8
 next:List UInt8
 cw:List UInt8
 bV:List UInt8
 created:Int
 origin:Int
def En.cells(e:En):List V:=[.sl 3 (e.source.map It.cells),.sl 3 (e.target.map It.cells),.s e.bN,.s e.next,.s e.cw,.s e.bV,.i .i64 e.created,.i .i64 e.origin]
def named(s:List UInt8):Bool:=s==[]||isName s
def lD(e:En):Bool:=!(e.source.length==0)&&eM (lj e.source e.target) e.source&&eM (nO e.source e.target) e.target
def cM(e:En):Int :=
 if bC e.source≠0 then bC e.source else if bC e.target≠0 then bC e.target else
 if lD e=false then 1 else
 if(parse e.bN).2.2≠0 then(parse e.bN).2.2 else if(parse e.next).2.2≠0 then(parse e.next).2.2 else
 if(named e.cw&&named e.bV)=false then 4 else
 if e.created<0∨1073741824<e.created∨e.origin<1∨3<e.origin then 1 else 0
structure En.small (e:En):Prop where
 source:e.source.length<2^30
 iG:bp e.source<2^30
 target:e.target.length<2^30
 nh:bp e.target<2^30
 bN:e.bN.length<2^30
 next:e.next.length<2^30
 ids:∀ x∈e.source++e.target,-9223372036854775808≤x.id∧x.id≤9223372036854775807
def sZ(e:En):List UInt8:=(format e.source).1++10::(e.bN++10::e.next)
def kG(e:En):List UInt8:=if cM e≠0 then[]else sZ e
structure bc where
 aT:bY
 kind:Int
 entry:En
 seen:List Int
def bc.cells(o:bc):List V:=o.aT.cells++[.i .i64 o.kind]++o.entry.cells++[.sl 1 (o.seen.map bW)]
structure bc.small (o:bc):Prop where
 entry:o.entry.small
 cw:o.entry.cw.length<2^30
 bV:o.entry.bV.length<2^30
 seen:o.seen.length<2^30
def asked(e:En):En:=⟨e.source,e.source,e.bN,e.next,[],[],0,1⟩
def looked(o:bc):En:=if o.kind≠2 then o.entry else asked o.entry
def kL(e:En):Bool:=e.target.length==0&&(e.cw==[]&&(e.bV==[]&&(e.created==0&&e.origin==0)))
theorem oQ{o:bc}(h:o.small):(looked o).small:=by
 simp only[looked];split
 ·exact h.entry
 ·exact⟨h.entry.source,h.entry.iG,h.entry.source,h.entry.iG,h.entry.bN,h.entry.next,fun x hx=>h.entry.ids x (by
   simp only[asked,List.mem_append]at hx ⊢;rcases hx with hx | hx<;>exact .inl hx)⟩
def iV(v:List Int):List Int:=ph v []
def dQ(o:bc):Int :=
 if gH o.aT=false then 1 else
 if(o.kind≠1∧o.kind≠2)∨iV o.seen≠o.seen then 1 else
 if o.seen.any (fun n=>decide (128<n))then 1 else
 if lL o.seen o.aT.bP≠o.aT.number - 1 then 11 else
 if o.kind=2∧kL o.entry=false then 1 else cM (looked o)
def bE(o:bc):List UInt8:=if dQ o≠0 then[]else kG (looked o)
def iA(n:Int):UInt8:=UInt8.ofNat (n % 256).toNat
def pt(n:Int):List UInt8:=[iA (n / 256),iA n]
def zK(n:Int):List UInt8:=pt (n / 65536)++pt n
theorem dA(n:Int):(zK n).length=4:=rfl
theorem eR(n:Int):(pt n).length=2:=rfl
def cY(s:List UInt8):List UInt8:=zK s.length++s
def dV(o:bc):List UInt8 :=
 [1,iA o.kind]++zK o.aT.time++[iA o.aT.bP]++pt o.aT.number++[iA o.seen.length]++o.seen.flatMap pt ++
 cY (format o.entry.source).1++cY o.entry.bN++cY o.entry.next ++
 (if o.kind=1 then cY (format o.entry.target).1++cY o.entry.cw++cY o.entry.bV++zK o.entry.created++[iA o.entry.origin]else[])
def encode(o:bc):List UInt8×Int:=if dQ o≠0 then([],dQ o)else(dV o,0)
def fa:List UInt8→List UInt8→Int
 | [],[]=>0
 | [],_::_ => -1
 | _::_,[]=>1
 | a::x,b::y=>if a<b then -1 else if b<a then 1 else fa x y
def jo(a b:bc):Int :=
 let n:=qN [eT a.aT.bP b.aT.bP,eT a.aT.number b.aT.number,eT a.aT.time b.aT.time,eT a.kind b.kind]
 if n≠0 then n else fa (encode a).1 (encode b).1
def Dk(a b:bc):Bool:=decide (0<jh a.aT b.aT)||(decide (jh a.aT b.aT=0)&&decide (0<jo a b))
structure Rb where
 b:List UInt8
 bad:Bool
def Rb.take(r:Rb)(n:Nat):List UInt8×Rb :=
 if r.b.length<n then(List.replicate (min n 4) 0,⟨[],true⟩)else(r.b.take n,⟨r.b.drop n,r.bad⟩)
def tv(l:List UInt8):Int:=l.foldl (fun a x=>a*256+x.toNat) 0
def Rb.number(r:Rb)(n:Nat):Int×Rb:=(tv (r.take n).1,(r.take n).2)
def Rb.text(r:Rb):List UInt8×Rb :=
 let p:=r.number 4
 if(p.2.b.length:Int)<p.1 then([],⟨p.2.b,true⟩)else p.2.take p.1.toNat
def Rb.fragment(r:Rb):List It×Rb :=
 let p:=r.text;let q:=parse p.1
 (q.1,⟨p.2.b,p.2.bad||q.2.2 != 0⟩)
def Rb.numbers:Nat→Rb→List Int×Rb
 | 0,r=>([],r)
 | n+1,r=>let p:=r.number 2;let q:=Rb.numbers n p.2;(p.1::q.1,q.2)
def Ys:En:=⟨[],[],[],[],[],[],0,0⟩
def Wg:bc:=⟨⟨0,0,0⟩,0,Ys,[]⟩
def FZ(b:List UInt8):bc×Int×Rb :=
 let v:=(Rb.mk b false).number 1;let k:=v.2.number 1;let t:=k.2.number 4;let f:=t.2.number 1;let m:=f.2.number 2;let c:=m.2.number 1;let s:=Rb.numbers c.1.toNat c.2;let src:=s.2.fragment;let pv:=src.2.text;let nx:=pv.2.text
 if k.1=1 then
  let tg:=nx.2.fragment;let au:=tg.2.text;let pr:=au.2.text;let cr:=pr.2.number 4;let og:=cr.2.number 1
  (⟨⟨t.1,f.1,m.1⟩,k.1,⟨src.1,tg.1,pv.1,nx.1,au.1,pr.1,cr.1,og.1⟩,s.1⟩,v.1,og.2)
 else(⟨⟨t.1,f.1,m.1⟩,k.1,⟨src.1,[],pv.1,nx.1,[],[],0,0⟩,s.1⟩,v.1,nx.2)
def decode(b:List UInt8):bc×Int :=
 let p:=FZ b
 if p.2.2.bad=true∨0<p.2.2.b.length∨p.2.1≠1 then(Wg,12)else
 if(encode p.1).2≠0∨(encode p.1).1≠b then(Wg,12)else(p.1,0)
def fI(m:List (List UInt8×bc))(o:bc):List (List UInt8×bc) :=
 if bE o=[]then m else match fP (bE o) m with
  | none=>je m (bE o) o
  | some was=>if Dk o was then je m (bE o) o else m
def fj(l:List bc):List (List UInt8×bc):=if 1024<l.length then[]else l.foldl fI []
def leB(x y:List UInt8):Bool:=decide (x≤y)
def current(l:List bc):List bc:=(((fj l).map (·.1)).mergeSort leB).filterMap fun k=>fP k (fj l)
def eK(l:List bc):List En:=((current l).filter fun o=>o.kind==1).map (·.entry)
section
variable {α β:Type} [DecidableEq α]
theorem Iy(l:List (α×β))(a:α)(b:β):(je l a b).map (·.1)=if(fP a l).isSome=true then l.map (·.1)else l.map (·.1)++[a]:=by
 induction l with
 | nil=>simp[je,kE]
 | cons p l ih =>
  simp only[je,kk]
  by_cases h:a=p.1
  ·simp[h]
  ·rw[if_neg h,aW,ih,if_neg h];split<;>rename_i h2
   ·simp
   ·simp
theorem AD{a:α}:∀ {l:List (α×β)},fP a l=none↔a ∉ l.map (·.1):=by
 intro l
 induction l with
 | nil=>simp[kE]
 | cons p l ih =>
  rw[kk]
  by_cases h:a=p.1
  ·simp[h]
  ·simp only[if_neg h,ih,aW,aY,not_or];exact⟨fun h2=>⟨h,h2⟩,fun h2=>h2.2⟩
theorem AB{a:α}{l:List (α×β)}(h:a∈l.map (·.1)):∃ b,fP a l=some b:=by
 cases hg:fP a l with
 | none=>exact absurd h (AD.1 hg)
 | some b=>exact⟨b,rfl⟩
theorem wD{l:List (α×β)}{a:α}{b:β}(h:(l.map (·.1)).Nodup):((je l a b).map (·.1)).Nodup:=by
 rw[Iy];split
 ·exact h
 ·rename_i h2;have h3:a ∉ l.map (·.1):=fun hm=>h2 (by obtain⟨b,hb⟩:=AB hm;simp[hb]);rw[List.nodup_append];refine⟨h,by simp,?_⟩;intro x hx y hy;simp only[aY,bK,or_false]at hy;subst hy;exact fun e=>h3 (e▸hx)
theorem JW{a:α}{b:β}:∀ {l:List (α×β)},fP a l=some b→(a,b)∈l:=by
 intro l
 induction l with
 | nil=>intro h;simp[kE]at h
 | cons p l ih =>
  intro h;rw[kk]at h;split at h
  ·rename_i e;simp only[aa]at h;subst e;subst h;exact dn ..
  ·exact bz _ (ih h)
end
theorem yO{m:List (List UInt8×bc)}{o:bc}(h:(m.map (·.1)).Nodup):((fI m o).map (·.1)).Nodup:=by
 simp only[fI];split
 ·exact h
 ·split
  ·exact wD h
  ·split
   ·exact wD h
   ·exact h
theorem Dn(m:List (List UInt8×bc))(o:bc):(fI m o).length≤m.length+1:=by
 simp only[fI];split
 ·omega
 ·split
  ·exact Dw _ _ _
  ·split
   ·exact Dw _ _ _
   ·omega
theorem GB(l:List bc):∀ (m:List (List UInt8×bc)),(m.map (·.1)).Nodup→((l.foldl fI m).map (·.1)).Nodup:=by
 induction l with
 | nil=>intro m h;exact h
 | cons o l ih=>intro m h;exact ih _ (yO h)
theorem MW(l:List bc):∀ (m:List (List UInt8×bc)),(l.foldl fI m).length≤m.length+l.length:=by
 induction l with
 | nil=>intro m;simp
 | cons o l ih =>
  intro m;have h1:=ih (fI m o);have h2:=Dn m o;simp only[cj,ag];omega
theorem rz(l:List bc):((fj l).map (·.1)).Nodup:=by
 simp only[fj];split
 ·simp
 ·exact GB l [] (by simp)
theorem u0(l:List bc):(fj l).length≤1024:=by
 simp only[fj];split
 ·simp
 ·have:=MW l [];simp at this;omega
theorem A1{m:List (List UInt8×bc)}{o:bc}{p:List UInt8×bc}(h:p∈fI m o):p=(bE o,o)∨p∈m:=by
 have qH:∀ {m:List (List UInt8×bc)},p∈je m (bE o) o→p=(bE o,o)∨p∈m:=by
  intro m
  induction m with
  | nil=>intro h;simp[je]at h;exact .inl h
  | cons q l ih =>
   intro h;simp only[je]at h;split at h
   ·rcases aY.1 h with h | h
    ·exact .inl h
    ·exact .inr (bz _ h)
   ·rcases aY.1 h with h | h
    ·exact .inr (h▸dn ..)
    ·rcases ih h with h | h
     ·exact .inl h
     ·exact .inr (bz _ h)
 simp only[fI]at h;split at h
 ·exact .inr h
 ·split at h
  ·exact qH h
  ·split at h
   ·exact qH h
   ·exact .inr h
theorem MV(l:List bc):∀ (m:List (List UInt8×bc)) (p:List UInt8×bc),p∈l.foldl fI m→(p.1=bE p.2∧p.2∈l)∨p∈m:=by
 induction l with
 | nil=>intro m p h;exact .inr h
 | cons o l ih =>
  intro m p h;rcases ih _ p h with h | h
  ·exact .inl ⟨h.1,bz _ h.2⟩
  ·rcases A1 h with rfl | h
   ·exact .inl ⟨rfl,dn ..⟩
   ·exact .inr h
theorem uZ{l:List bc}{p:List UInt8×bc}(h:p∈fj l):p.1=bE p.2∧p.2∈l:=by
 simp only[fj]at h;split at h
 ·simp at h
 ·rcases MV l [] p h with h | h
  ·exact h
  ·simp at h
def gp(l:List bc):List (List UInt8):=((fj l).map (·.1)).mergeSort leB
theorem jV(l:List bc):(gp l).Perm ((fj l).map (·.1)):=lQ _ _
theorem pj{l:List bc}{k:List UInt8}(h:k∈gp l):∃ o,fP k (fj l)=some o:=AB ((jV l).mem_iff.1 h)
theorem pK(l:List bc):(gp l).length≤1024:=by
 have:=u0 l;rw[(jV l).length_eq];simpa using this
theorem qx(l:List bc):(current l).length≤1024:=bF (XM _ _) (pK l)
theorem Cc(l:List bc):(eK l).length≤1024:=by
 have:=qx l;simp only[eK,ae];exact bF (kM _ _) this
end Go.Bt
namespace Go.Bt
open Go.Pm
structure cp where
 number:Int
 clock:Int
 ops:List bc
 log:List UInt8
 synced:Int
 down:Bool
def cp.cells(o:cp):List V:=[.i .i64 o.number,.i .i64 o.clock,.sl 13 (o.ops.map bc.cells),.sl 1 (aQ o.log),.i .i64 o.synced,.b o.down]
def cp.zero:cp:=⟨0,0,[],[],0,false⟩
structure cp.small (o:cp):Prop where
 ops:∀ x∈o.ops,x.small
 len:o.ops.length<2^30
 log:o.log.length<2^30
def uc(n:Int):cp×Int:=if n<0∨8≤n then(.zero,1)else(⟨n,0,[],[],0,false⟩,0)
def eJ(a b:bc):Int:=qN [eT a.aT.bP b.aT.bP,eT a.aT.number b.aT.number]
end Go.Bt
namespace Go.Bt
open Go Go.Pm
def AU(n:Int):UInt8:=UInt8.ofNat (IntKind.u8.wrap n).toNat
theorem E1(n:Int):((AU n).toNat:Int)=IntKind.u8.wrap n:=by
 have h:IntKind.u8.wrap n=n % 256:=by
  simp only[IntKind.wrap,IntKind.bits,IntKind.signed];rfl
 rw[AU,h];have h1:(n % 256).toNat<256:=by omega
 simp only[mZ];omega
def y7(n:Int):List UInt8:=[AU (n.fdiv (2^24)),AU (n.fdiv (2^16)),AU (n.fdiv (2^8)),AU n]
def A9(h:Int)(x:UInt8):Int :=
 IntKind.u32.wrap (IntKind.u32.wrap ((BitVec.ofInt IntKind.u32.bits h ^^^ BitVec.ofInt IntKind.u32.bits (IntKind.u32.wrap (x.toNat:Int))).toNat:Int)*16777619)
def Rv(h:Int)(b:List UInt8):Int:=b.foldl A9 h
def yu(p:List UInt8):List UInt8:=y7 (Rv (Rv 2166136261 (y7 (IntKind.u32.wrap (p.length:Int)))) p)
def lE(log p:List UInt8):List UInt8×Int :=
 if 65536<p.length∨4194304<log.length+8+p.length then([],3)else(log++y7 (IntKind.u32.wrap (p.length:Int))++yu p++p,0)
theorem np(n:Int):(y7 n).length=4:=rfl
def yg(a b:En):Bool:=eM a.source b.source&&(eM a.target b.target&&(a.bN==b.bN&&(a.next==b.next&&(a.cw==b.cw&&(a.bV==b.bV&&(a.created==b.created&&a.origin==b.origin))))))
theorem EN{a b:En}:yg a b=true↔a=b:=by
 obtain⟨a1,a2,a3,a4,a5,a6,a7,a8⟩:=a;obtain⟨b1,b2,b3,b4,b5,b6,b7,b8⟩:=b;simp[yg,uH]
def gm:List En→List En→Bool
 | [],[]=>true
 | a::x,b::y=>yg a b&&gm x y
 | _,_=>false
theorem AI:∀ {a b:List En},gm a b=true↔a=b
 | [],[]=>by simp[gm]
 | a::x,b::y=>by simp[gm,EN,AI (a:=x) (b:=y)]
 | [],b::y=>by simp[gm]
 | a::x,[]=>by simp[gm]
theorem AH:∀ {a b:List En},gm a b=true→a.length=b.length:=fun h=>by rw[AI.1 h]
def place(x n:Int):Int:=if x.tmod n<0 then x.tmod n+n else x.tmod n
theorem vj{x n:Int}(h:0<n):0≤place x n∧place x n<n:=by
 have h1:=Int.tmod_lt_of_pos x h
 have h2 : - n<x.tmod n:=Int.neg_lt_of_neg_lt (by
  have:=Int.tmod_lt_of_pos (-x) h;rw[Int.neg_tmod]at this;omega)
 simp only[place];split<;>omega
def rm(a b:List UInt8):En:=⟨[⟨1,a,0⟩],[⟨1,b,0⟩],[],[],[],[],0,1⟩
def Lb(p:List UInt8):List UInt8:=y7 (IntKind.u32.wrap (p.length:Int))++yu p++p
theorem sH(p:List UInt8):(Lb p).length=8+p.length:=by simp only[Lb,yu,List.length_append,np]
theorem GZ{log p:List UInt8}(h1:p.length≤60000)(h2:log.length≤4000000):lE log p=(log++Lb p,0):=by
 rw[lE,if_neg (by omega),Lb];simp
theorem GJ{x:bc}(h:dQ x=0):encode x=(dV x,0):=by simp[encode,h]
def gJ(o:cp)(x:bc)(m:Nat):cp :=
 ⟨o.number,if o.clock<x.aT.time then x.aT.time else o.clock,o.ops.take m++x::o.ops.drop m,o.log++Lb (dV x),o.synced,o.down⟩
structure Let where
 src:Int
 dst:Int
 op:bc
def Let.cells(x:Let):List V:=.i .i64 x.src::.i .i64 x.dst::x.op.cells
def dZ(p:Int×Int):List V:=[.i .i64 p.1,.i .i64 p.2]
structure Net where
 aV:List cp
 bw:List Let
 dP:List (Int×Int)
def Net.cells(n:Net):List V:=[.sl 6 (n.aV.map cp.cells),.sl 15 (n.bw.map Let.cells),.sl 2 (n.dP.map dZ)]
def Net.zero:Net:=⟨[],[],[]⟩
structure Net.small (n:Net):Prop where
 bf:∀ o∈n.aV,o.small
 Wc:n.aV.length<2^30
 ops:∀ x∈n.bw,x.op.small
 Ws:n.bw.length<2^30
 TN:n.dP.length<2^30
structure Ev where
 kind:Int
 a:Int
 b:Int
 n:Int
 entry:En
def Ev.cells(e:Ev):List V:=.i .i64 e.kind::.i .i64 e.a::.i .i64 e.b::.i .i64 e.n::e.entry.cells
def pU(a b:Int):Int×Int:=(if b<a then b else a,if a<b then b else a)
def H4(i:Int)(n:Nat):Bool:=decide (0≤i)&&decide (i<n)
def yA(n:Net)(a b:Int):Bool:=n.dP.any fun c=>c==pU a b
def nC(n:Net)(e:Ev):Bool :=
 if e.kind=1∨e.kind=2∨e.kind=9∨e.kind=10∨e.kind=11 then H4 e.a n.aV.length
 else if e.kind=3∨e.kind=7∨e.kind=8 then H4 e.a n.aV.length&&H4 e.b n.aV.length
 else if e.kind=4∨e.kind=5∨e.kind=6 then H4 e.n n.bw.length
 else false
def nu(o:bc):Int×Int:=(o.aT.bP,o.aT.number)
def we(ks:List (Int×Int))(k:Int×Int):List (Int×Int):=if k∈ks then ks else ks++[k]
def kV(k:Int×Int):V:=.agg [.i .i64 k.1,.i .i64 k.2]
def lO(ks:List (Int×Int)):List (V×V):=ks.map fun k=>(kV k,.agg [])
theorem Nw{ks:List (Int×Int)}{k q:Int×Int}:q∈we ks k↔q=k∨q∈ks:=by
 unfold we;split
 ·rename_i h;exact⟨.inr,fun h2=>h2.elim (fun e=>e▸h) id⟩
 ·simp[or_comm]
theorem L5(l:List bc):∀ (ks:List (Int×Int)) (q:Int×Int),q∈l.foldl (fun ks o=>we ks (nu o)) ks↔q∈ks∨∃ o∈l,nu o=q:=by
 induction l with
 | nil=>simp
 | cons o l ih =>
  intro ks q;rw[cj,ih,Nw];constructor
  ·rintro((rfl | h) | ⟨p,h1,h2⟩)
   ·exact .inr ⟨o,by simp,rfl⟩
   ·exact .inl h
   ·exact .inr ⟨p,by simp[h1],h2⟩
  ·rintro(h | ⟨p,h1,h2⟩)
   ·exact .inl (.inr h)
   ·rcases aY.1 h1 with rfl | h1
    ·exact .inl (.inl h2.symm)
    ·exact .inr ⟨p,h1,h2⟩
theorem Zw(k q:Int×Int):cu 3 (kV k) (kV q)=some (k.1==q.1&&k.2==q.2):=by
 simp[cu,kV,Br]
theorem yc{k:Int×Int}:∀ {ks:List (Int×Int)} {n:Nat},k ∉ ks→fx 3 (kV k) (lO ks) n=some none:=by
 intro ks
 induction ks with
 | nil=>intro n _;rfl
 | cons q ks ih =>
  intro n h;simp only[aY,not_or]at h
  have e:(k.1==q.1&&k.2==q.2)=false:=by
   rcases k with⟨a,b⟩;rcases q with⟨c,d⟩;simp only[aA]at h;cases h1:(a==c)<;>cases h2:(b==d)<;>simp_all
  simp only[lO,aW,fx,Zw,e];exact ih h.2
theorem yb{k:Int×Int}:∀ {ks:List (Int×Int)} {n:Nat},k∈ks→∃ i,fx 3 (kV k) (lO ks) n=some (some (n+i,.agg []))∧(lO ks)[i]?=some (kV k,.agg []):=by
 intro ks
 induction ks with
 | nil=>intro n h;simp at h
 | cons q ks ih =>
  intro n h
  by_cases e:k=q
  ·subst e;exact⟨0,by simp[lO,fx,Zw],by simp[lO]⟩
  ·have e2:(k.1==q.1&&k.2==q.2)=false:=by
    rcases k with⟨a,b⟩;rcases q with⟨c,d⟩;simp only[aA]at e;cases h1:(a==c)<;>cases h2:(b==d)<;>simp_all
   have h:k∈ks:=by
    rcases aY.1 h with h | h
    ·exact absurd h e
    ·exact h
   obtain⟨i,h1,h2⟩:=ih (n:=n+1) h;refine⟨i+1,?_,by simpa[lO]using h2⟩;simp only[lO,aW,fx,Zw,e2];rw[show n+(i+1)=n+1+i by omega];exact h1
theorem MZ(ks:List (Int×Int))(k:Int×Int):
  (k ∉ ks∧fx 3 (kV k) (lO ks) 0=some none∧lO ks++[(kV k,.agg [])]=lO (we ks k)) ∨
  (k∈ks∧∃ i,fx 3 (kV k) (lO ks) 0=some (some (i,.agg []))∧(lO ks).set i (kV k,.agg [])=lO (we ks k)):=by
 by_cases h:k∈ks
 ·obtain⟨i,h1,h2⟩:=yb (n:=0) h;rw[aI]at h1;refine .inr ⟨h,i,h1,?_⟩;rw[we,if_pos h];obtain⟨hi,h3⟩:=ab.1 h2;rw[← h3,List.set_getElem_self]
 ·exact .inl ⟨h,yc h,by simp[we,if_neg h,lO]⟩
structure nG {α:Type} (c:α→α→Int):Prop where
 jL:∀ a b,c b a = - c a b
 trans:∀ a b d,0≤c a b→0≤c b d→0≤c a d
theorem nG.self{α:Type}{c:α→α→Int}(h:nG c)(a:α):c a a=0:=by have:=h.jL a a;omega
theorem nG.gt{α:Type}{c:α→α→Int}(h:nG c){a b d:α}(h1:0<c a b)(h2:0<c b d):0<c a d:=by
 have h3:=h.trans a b d (by omega) (by omega);rcases(by omega:0<c a d∨c a d=0)with h4 | h4
 ·exact h4
 ·have h5:=h.jL a d;have h6:=h.trans d a b (by omega) (by omega);have h7:=h.jL d b;omega
theorem nG.on{α β:Type}{c:β→β→Int}(h:nG c)(f:α→β):nG fun a b=>c (f a) (f b) :=
 ⟨fun _ _=>h.jL _ _,fun _ _ _=>h.trans _ _ _⟩
def Cf{α:Type}(c d:α→α→Int)(a b:α):Int:=if c a b≠0 then c a b else d a b
theorem nG.lex{α:Type}{c d:α→α→Int}(h:nG c)(k:nG d):nG (Cf c d):=by
 refine⟨fun a b=>?_,fun a b e h1 h2=>?_⟩
 ·have h1:=h.jL a b;have h2:=k.jL a b;simp only[Cf];split<;>split<;>omega
 ·have g1:=h.jL a b;have g2:=h.jL b e;have g3:=h.trans a b e;have g4:=h.trans e a b;have g5:=h.jL e b;have g6:=h.jL a e;have g7:=h.trans b e a;have g8:=h.jL b a;have k3:=k.trans a b e;simp only[Cf]at h1 h2 ⊢;split at h1<;>split at h2<;>split<;>omega
theorem tn:nG eT:=by
 refine⟨fun a b=>?_,fun a b d=>?_⟩<;>simp only[eT]<;>(repeat' split)<;>omega
theorem wE{a b:UInt8}:a<b↔a.toNat<b.toNat:=Df
theorem eZ:nG fa:=by
 have jL:∀ a b,fa b a = - fa a b:=by
  intro a
  induction a with
  | nil=>intro b;cases b<;>simp[fa]
  | cons x a ih =>
   intro b;cases b with
   | nil=>simp[fa]
   | cons y b =>
    simp only[fa,ih]
    by_cases h1:x<y
    ·have h2:¬ y<x:=by rw[wE]at *;omega
     simp[h1,h2]
    ·by_cases h2:y<x<;>simp[h1,h2]
 refine⟨jL,?_⟩;intro a
 induction a with
 | nil =>
  intro b d h1 h2;cases b with
  | nil=>exact h2
  | cons y b=>simp[fa]at h1
 | cons x a ih =>
  intro b d h1 h2;cases d with
  | nil=>simp[fa]
  | cons z d =>
   cases b with
   | nil=>simp[fa]at h2
   | cons y b =>
    simp only[fa]at h1 h2 ⊢
    by_cases XW:x<y
    ·simp[XW]at h1
    ·by_cases hyz:y<z
     ·simp[hyz]at h2
     ·rw[if_neg XW]at h1;rw[if_neg hyz]at h2;have hxz:¬ x<z:=by rw[wE]at *;omega
      rw[if_neg hxz]
      by_cases hzx:z<x
      ·rw[if_pos hzx];decide
      ·rw[if_neg hzx];have h3:¬ y<x:=by rw[wE]at *;omega
       have h4:¬ z<y:=by rw[wE]at *;omega
       rw[if_neg h3]at h1;rw[if_neg h4]at h2;exact ih b d h1 h2
theorem kn:∀ {a b:List UInt8},fa a b=0↔a=b:=by
 intro a
 induction a with
 | nil=>intro b;cases b<;>simp[fa]
 | cons x a ih =>
  intro b;cases b with
  | nil=>simp[fa]
  | cons y b =>
   simp only[fa]
   by_cases h1:x<y
   ·have:x≠y:=by rintro rfl;rw[wE]at h1;omega
    simp[h1,this]
   ·by_cases h2:y<x
    ·have:x≠y:=by rintro rfl;rw[wE]at h2;omega
     simp[h1,h2,this]
    ·have:x=y:=by
      rw[wE]at h1 h2;exact Qx.1 (by omega)
     simp[h1,h2,this,ih]
theorem Ai:jo=Cf (fun a b=>eT a.aT.bP b.aT.bP) (Cf (fun a b=>eT a.aT.number b.aT.number) (Cf (fun a b=>eT a.aT.time b.aT.time)
  (Cf (fun a b=>eT a.kind b.kind) fun a b=>fa (encode a).1 (encode b).1))):=by
 funext a b;simp only[jo,qN,Cf]
 (repeat' split)<;>omega
theorem gT:nG jo:=by
 rw[Ai];exact(tn.on (fun s:bc=>s.aT.bP)).lex ((tn.on (fun s:bc=>s.aT.number)).lex ((tn.on (fun s:bc=>s.aT.time)).lex ((tn.on (fun s:bc=>s.kind)).lex (eZ.on (fun o:bc=>(encode o).1)))))
theorem I8:∀ c:UInt8,oM c=true→c≠92∧c≠60∧c≠123:=fO (by decide +kernel)
theorem Qd:∀ c:UInt8,ir (ia (c.toNat / 16)) (ia (c.toNat % 16))=c∧(gD (ia (c.toNat / 16))).2=true∧(gD (ia (c.toNat % 16))).2=true:=fO (by decide +kernel)
theorem Qe:∀ c:UInt8,oM c=false→c≠10→c≠9→¬ (c=92∨c=60∨c=123)→(c==13||jG c==1)=true:=fO (by decide +kernel)
theorem me(a d:UInt8)(r:List UInt8):cz (a::d::r)=if d=92∨d=60∨d=123 then(d,2,true)else if d=110 then(10,2,true)else if d=116 then(9,2,true)else if d=120 then
  (if r.length<2 then(0,0,false)else(ir (r.getD 0 0) (r.getD 1 0),4,(gD (r.getD 0 0)).2&&(gD (r.getD 1 0)).2&&(ir (r.getD 0 0) (r.getD 1 0)==13||jG (ir (r.getD 0 0) (r.getD 1 0))==1)))else(0,0,false):=by
 simp only[cz,ag,ar,aC];rw[if_neg (by omega)];have e:(r.length+1+1<4)=(r.length<2):=by rw[eq_iff_iff];omega
 simp only[e]
theorem tj(d:UInt8)(r:List UInt8):aR (92::d::r)=(⟨1,[(cz (92::d::r)).1],0⟩,(cz (92::d::r)).2.1,(cz (92::d::r)).2.2):=by
 simp only[aR,ar,if_true]
theorem AL(c:UInt8)(rest:List UInt8):aR (dC c++rest)=(⟨1,[c],0⟩,((dC c).length:Int),true):=by
 unfold dC;split
 ·rename_i h;have hn:=I8 c h;simp[aR,hn,h]
 ·rename_i h;have h:oM c=false:=by simpa using h
  split
  ·rename_i h1;subst h1;simp only[aJ,aG,tj,me];rfl
  ·split
   ·rename_i h1 h2;subst h2;simp only[aJ,aG,tj,me];rfl
   ·split
    ·rename_i h1 h2 h3;simp only[aJ,aG,tj,me,if_pos h3];rfl
    ·rename_i h1 h2 h3;have he:=Qd c;have hc:=Qe c h h1 h2 h3;simp only[aJ,aG,tj,me];rw[if_neg (by decide),if_neg (by decide),if_neg (by decide),if_pos (by decide),if_neg (by simp)];simp only[ar,aC,he.1,he.2.1,he.2.2,hc,bI];rfl
theorem vp:∀ c:UInt8,gv c=true→c≠62∧c≠125∧c≠58∧c≠47∧c≠32∧fy c=false:=fO (by decide +kernel)
theorem Jk:∀ c:UInt8,(97≤c.toNat∧c.toNat≤122)→gv c=true:=fO (by decide +kernel)
theorem yk:∀ c:UInt8,fy c=false→c≠62∧c≠125∧c≠60∧c≠123:=fO (by decide +kernel)
theorem oA:∀ c:UInt8,di c=true→c≠62∧c≠58∧c≠47∧fy c=false:=fO (by decide +kernel)
theorem xN{s:List UInt8}(h:isName s=true):∀ c∈s,gv c=true:=by
 cases s with
 | nil=>simp[isName]at h
 | cons c r =>
  simp only[isName,aB,decide_eq_true_eq,bR]at h;intro x hx;rcases aY.1 hx with rfl | hx
  ·exact Jk _ h.1.2
  ·exact h.2 x hx
theorem AJ(t rest:List UInt8)(h:isName t=true):aR (123::(t++125::rest))=(⟨5,t,0⟩,(t.length:Int)+2,true):=by
 have hi:Lib.indexByte (123::(t++125::rest)) 125=((123::t:List UInt8).length:Int):=by
  have:=mc (c:=125) (rest:=rest) (pre:=123::t) (by
   intro hm;rcases aY.1 hm with hm | hm
   ·exact absurd hm (by decide)
   ·exact(vp _ (xN h _ hm)).2.1 rfl)
  simpa using this
 have e:((123::(t++125::rest)).take (Lib.indexByte (123::(t++125::rest)) 125).toNat).drop 1=t:=by
  rw[hi];simp
 simp only[aR,ar,e,h];rw[if_neg (by decide),if_neg (by decide),if_pos (by decide),if_neg (by rw[hi];simp;omega),hi];simp;omega
theorem qw{c:UInt8}{a b:List UInt8}(h:c ∉ a):cutAt (a++c::b) c=(a,b,true):=by
 simp only[cutAt,mc h];rw[if_pos (by omega)];simp
def d3(n:Nat):List UInt8:=if n<10 then[UInt8.ofNat (48+n)]else if n<100 then[UInt8.ofNat (48+n / 10),UInt8.ofNat (48+n % 10)]else[UInt8.ofNat (48+n / 100),UInt8.ofNat (48+n / 10 % 10),UInt8.ofNat (48+n % 10)]
theorem wm(n:Nat)(h:n<1000):Lib.itoa (n:Int)=d3 n:=by
 unfold Lib.itoa;rw[if_neg (by omega)];simp only[aH,d3]
 by_cases h1:n<10
 ·rw[if_pos h1,Lib.decDigits_one h1]
 ·rw[if_neg h1]
  by_cases h2:n<100
  ·rw[if_pos h2,Lib.decDigits_two h1 h2]
  ·rw[if_neg h2,Lib.decDigits,dif_neg h1,Lib.decDigits_two (by omega) (by omega)];simp only[aJ,aG];have e:n / 10 / 10=n / 100:=by omega
   rw[e]
theorem TL:∀ n:Fin 1000,1≤n.val→numberOf (d3 n.val)=((n.val:Int),true)∧(d3 n.val).all di=true∧(d3 n.val)≠[]:=by decide +kernel
theorem qg(n:Int)(h:1≤n∧n≤999):numberOf (Lib.itoa n)=(n,true)∧(∀ c∈Lib.itoa n,di c=true)∧Lib.itoa n≠[]:=by
 obtain⟨m,rfl⟩:∃ m:Nat,n=m:=⟨n.toNat,by omega⟩;have:=TL ⟨m,by omega⟩ (by show 1≤m;omega);rw[wm m (by omega)];exact⟨this.1,fun c hc=>bR.1 this.2.1 c hc,this.2.2⟩
theorem vE{s:List UInt8}(h:cA s=true):(∀ c∈s,fy c=false)∧s≠[]∧(s.getD (s.length - 1) 0).toNat≠47:=by
 simp only[cA,gO,aB,decide_eq_true_eq,bR,bU]at h;exact⟨h.1.2,by intro e;simp[e]at h,h.1.1.2⟩
theorem r4(t rest:List UInt8)(h:∀ c∈t,c≠62):aR (60::(t++62::rest))=((gd t).1,(t.length:Int)+2,(gd t).2):=by
 have hi:Lib.indexByte (60::(t++62::rest)) 62=((60::t:List UInt8).length:Int):=by
  have:=mc (c:=62) (rest:=rest) (pre:=60::t) (by
   intro hm;rcases aY.1 hm with hm | hm
   ·exact absurd hm (by decide)
   ·exact h _ hm rfl)
  simpa using this
 have e:((60::(t++62::rest)).take (Lib.indexByte (60::(t++62::rest)) 62).toNat).drop 1=t:=by
  rw[hi];simp
 simp only[aR,ar,e];rw[if_neg (by decide),if_pos (by decide),if_neg (by rw[hi];simp;omega),hi];simp;omega
theorem s8{s:List UInt8}{c:UInt8}(h:s.getD 0 0≠c):hasPrefix s [c]=false:=by
 cases s with
 | nil=>simp[hasPrefix]
 | cons a s=>simp only[ar]at h;simp[hasPrefix,h]
theorem CE{s:List UInt8}{c:UInt8}(h:s.getD (s.length - 1) 0≠c):hasSuffix s [c]=false:=by
 simp only[hasSuffix,ag,ai,aI]
 by_cases hl:1≤s.length
 ·have hd:s.drop (s.length - 1)=[s.getD (s.length - 1) 0]:=by
   rw[dM (by omega)];have e:s.length - 1+1=s.length:=by omega
   rw[e];simp[List.getD_eq_getElem?_getD,show s.length - 1<s.length by omega]
  rw[hd];simpa using fun _=>h
 ·simp;omega
theorem zw(s:List UInt8)(c:UInt8):hasSuffix (s++[c]) [c]=true:=by
 simp[hasSuffix]
theorem xM(n:Int)(h:1≤n∧n≤999)(t:List UInt8)(c:UInt8)(hc:di c=false):(Lib.itoa n++t).getD 0 0≠c:=by
 obtain⟨_,h2,h3⟩:=qg n h;cases hd:Lib.itoa n with
 | nil=>exact absurd hd h3
 | cons a s =>
  simp only[aJ,ar];intro e;have:=h2 a (by rw[hd];simp);rw[e,hc]at this;simp at this
theorem J3(id:Int)(t rest:List UInt8)(hid:1≤id∧id≤999)(h:cA t=true):aR (60::(Lib.itoa id++58::(t++62::rest)))=(⟨2,t,id⟩,((Lib.itoa id).length:Int)+t.length+3,true):=by
 obtain⟨h1,h2,h3⟩:=qg id hid;obtain⟨c1,c2,c3⟩:=vE h
 have:=r4 (Lib.itoa id++58::t) rest (by
  intro c hc;rcases List.mem_append.1 hc with hc | hc
  ·exact(oA c (h2 c hc)).1
  ·rcases aY.1 hc with rfl | hc
   ·decide
   ·exact(yk c (c1 c hc)).1)
 simp only[List.append_assoc,aJ]at this;rw[this];have hp:hasPrefix (Lib.itoa id++58::t) [47]=false:=s8 (xM id hid _ 47 (by decide));have hc:cutAt (Lib.itoa id++58::t) 58=(Lib.itoa id,t,true):=qw fun hm=>(oA _ (h2 _ hm)).2.1 rfl;have hs:hasSuffix t [47]=false:=CE fun e=>c3 (by rw[e];rfl);simp[gd,hp,hc,hs,h1,h];omega
theorem GL(id:Int)(t rest:List UInt8)(hid:1≤id∧id≤999)(h:cA t=true):aR (60::(Lib.itoa id++58::(t++47::62::rest)))=(⟨4,t,id⟩,((Lib.itoa id).length:Int)+t.length+4,true):=by
 obtain⟨h1,h2,h3⟩:=qg id hid;obtain⟨c1,c2,c3⟩:=vE h
 have:=r4 (Lib.itoa id++58::(t++[47])) rest (by
  intro c hc;rcases List.mem_append.1 hc with hc | hc
  ·exact(oA c (h2 c hc)).1
  ·rcases aY.1 hc with rfl | hc
   ·decide
   ·rcases List.mem_append.1 hc with hc | hc
    ·exact(yk c (c1 c hc)).1
    ·simp only[aY,bK,or_false]at hc;subst hc;decide)
 simp only[List.append_assoc,aJ,aG]at this;rw[this];have hp:hasPrefix (Lib.itoa id++58::(t++[47])) [47]=false:=s8 (xM id hid _ 47 (by decide));have hc:cutAt (Lib.itoa id++58::(t++[47])) 58=(Lib.itoa id,t++[47],true):=qw fun hm=>(oA _ (h2 _ hm)).2.1 rfl;have hs:hasSuffix (t++[47]) [47]=true:=zw t 47;simp[gd,hp,hc,hs,h1,h];omega
theorem GM(id:Int)(t rest:List UInt8)(hid:1≤id∧id≤999)(h:isName t=true):aR (60::47::(Lib.itoa id++58::(t++62::rest)))=(⟨3,t,id⟩,((Lib.itoa id).length:Int)+t.length+4,true):=by
 obtain⟨h1,h2,h3⟩:=qg id hid
 have:=r4 (47::(Lib.itoa id++58::t)) rest (by
  intro c hc;rcases aY.1 hc with rfl | hc
  ·decide
  rcases List.mem_append.1 hc with hc | hc
  ·exact(oA c (h2 c hc)).1
  ·rcases aY.1 hc with rfl | hc
   ·decide
   ·exact(vp c (xN h c hc)).1)
 simp only[List.append_assoc,aJ]at this;rw[this];have hp:hasPrefix (47::(Lib.itoa id++58::t)) [47]=true:=by simp[hasPrefix]
 have hc:cutAt (Lib.itoa id++58::t) 58=(Lib.itoa id,t,true):=qw fun hm=>(oA _ (h2 _ hm)).2.1 rfl;simp[gd,hp,hc,h1,h];omega
def wid(x:It):Nat:=if x.kind=1 then x.text.length else 1
def total(f:List It):Nat:=(f.map wid).sum
def tM(m:List (Int×It))(x:It):List (Int×It):=if tagged x then je m x.id x else m
def my(f:List It):List (Int×It):=f.foldl tM []
def lX(f:List It)(t:List UInt8):Rd:=⟨f,t,total f+t.length,my f⟩
def closed(f:List It)(t:List UInt8):List It:=if t=[]then f else f++[⟨1,t,0⟩]
theorem ij(a b:List It):total (a++b)=total a+total b:=by simp[total]
theorem nW(x:It):total [x]=wid x:=by simp[total]
theorem pJ(f:List It)(x:It):my (f++[x])=tM (my f) x:=by simp[my]
theorem DC{m:List (Int×It)}{t:List UInt8}{i:Int}:tM m ⟨1,t,i⟩=m:=by simp[tM,tagged]
theorem yU(f:List It)(t:List UInt8):my (closed f t)=my f:=by
 simp only[closed];split
 ·rfl
 ·rw[pJ,DC]
theorem oI(f:List It)(t:List UInt8):total (closed f t)=total f+t.length:=by
 simp only[closed];split
 ·rename_i h;simp[h]
 ·rw[ij,nW];simp[wid]
theorem r7(f:List It)(t:List UInt8):(closed f t).length=f.length+(if 0<t.length then 1 else 0):=by
 simp only[closed];split
 ·rename_i h;simp[h]
 ·rename_i h;have:0<t.length:=cZ.2 h;simp[this]
theorem wZ(f:List It)(t:List UInt8):(fk (lX f t)).f=closed f t:=by
 by_cases h:t=[]
 ·subst h;rfl
 ·have h1:0<t.length:=cZ.2 h;have e:fk (lX f t)=⟨f++[⟨1,t,0⟩],[],total f+t.length,my f⟩:=if_pos h1;rw[e,closed,if_neg h]
theorem Bh{α:Type}{p:List α→Prop}(h0:p [])(h1:∀ l x,p l→p (l++[x]))(l:List α):p l:=by
 have:∀ l:List α,p l.reverse:=by
  intro l
  induction l with
  | nil=>exact h0
  | cons x l ih=>rw[List.reverse_cons];exact h1 _ _ ih
 have:=this l.reverse
 rwa [List.reverse_reverse]at this
def jm(f:List It)(t:List UInt8)(x:It):Prop:=512<f.length+(if 0<t.length then 1 else 0)+(if x.kind≠1∨t.length=0 then 1 else 0)∨1024<total f+t.length+1
instance (f:List It) (t:List UInt8) (x:It):Decidable (jm f t x):=by unfold jm;infer_instance
theorem w4(f:List It)(t:List UInt8)(c:UInt8):iC (lX f t) ⟨1,[c],0⟩=if jm f t ⟨1,[c],0⟩then(3,lX f t)else(0,lX f (t++[c])):=by
 simp only[iC,tagged,jS,jm,lX];simp only[bne_self_eq_false,bA,aF,if_false,List.length_append,ag,ai,if_true];rfl
theorem w3(f:List It)(t:List UInt8)(x:It)(hx:x.kind≠1):iC (lX f t) x =
  if tagged x&&tq (lX f t) x then(7,lX f t)else if jm f t x then(3,lX f t)else(0,lX (closed f t++[x]) []):=by
 simp only[iC,jS,jm,hx,if_false]
 have e:sI (fk (lT (lX f t) x)) x=lX (closed f t++[x]) []:=by
  have hw:wid x=1:=by simp[wid,hx]
  simp only[lX,ij,nW,oI,pJ,yU,hw,ai,cn]
  by_cases h:t=[]
  ·subst h;rfl
  ·have h1:0<t.length:=cZ.2 h;have e:fk (lT ⟨f,t,total f+t.length,my f⟩ x)=⟨f++[⟨1,t,0⟩],[],total f+t.length+1,tM (my f) x⟩:=if_pos h1;rw[e,closed,if_neg h];rfl
 rw[e];rfl
theorem jE{x:It}{p:Option It}(h:x.kind≠1):bh p x=bh none x:=by simp only[bh,h,if_false]
theorem l9{x:It}(h:bh none x=true):cX x=tagged x:=by
 simp only[bh]at h
 by_cases k1:x.kind=1
 ·simp[cX,tagged,k1]
 ·by_cases k5:x.kind=5
  ·simp[cX,tagged,k5]
  ·by_cases k2:x.kind=2∨x.kind=4
   ·rcases k2 with k2 | k2<;>simp[cX,tagged,k2]
   ·by_cases k3:x.kind=3
    ·simp[cX,tagged,k3]
    ·simp[k1,k5,k2,k3]at h
theorem eX:∀ (f pre:List It) (x:It),bD pre (f++[x])=0↔bD pre f=0∧bh (pre++f).getLast? x=true∧(cX x&&!fits (pre++f) x)=false:=by
 intro f
 induction f with
 | nil =>
  intro pre x;simp only[aG,bt,bD]
  by_cases h1:bh pre.getLast? x=false
  ·simp[h1]
  ·rw[if_neg h1];have h1:bh pre.getLast? x=true:=by simpa using h1
   by_cases h2:(cX x&&!fits pre x)=true
   ·simp[h2]
   ·rw[if_neg h2];have h2:(cX x&&!fits pre x)=false:=by simpa using h2
    simp[h1,h2]
 | cons y f ih =>
  intro pre x;simp only[aJ,bD]
  by_cases h1:bh pre.getLast? y=false
  ·simp[h1]
  ·rw[if_neg h1,if_neg h1]
   by_cases h2:(cX y&&!fits pre y)=true
   ·simp[h2]
   ·rw[if_neg h2,if_neg h2,ih];simp
theorem lz:∀ (f pre:List It),bD pre f=0→∀ y∈f,bh none y=true:=by
 intro f
 induction f with
 | nil=>simp
 | cons x f ih =>
  intro pre h y hy;simp only[bD]at h;split at h
  ·simp at h
  ·rename_i h1;split at h
   ·simp at h
   ·rcases aY.1 hy with rfl | hy
    ·have h1:bh pre.getLast? y=true:=by simpa using h1
     by_cases k1:y.kind=1
     ·simp only[bh,k1,if_true,aB]at h1 ⊢;exact⟨h1.1,trivial⟩
     ·rw[← jE (p:=pre.getLast?) k1];exact h1
    ·exact ih _ h y hy
theorem yr{f:List It}{t:List UInt8}{x:It}(hf:bD [] f=0)(hx:bh none x=true):(tagged x&&tq (lX f t) x)=(cX x&&!fits (closed f t) x):=by
 rw[l9 hx]
 by_cases NM:tagged x=true
 ·rw[NM,bu,bu];have Kn:cX x=true:=by rw[l9 hx];exact NM
  have hfc:fits (closed f t) x=fits f x:=by
   simp only[closed];split
   ·rfl
   ·simp[fits,ek,cX]
  rw[hfc];simp only[tq,lX]
  have key:∀ f:List It,bD [] f=0→(match fP x.id (my f)with | some b=>x.kind != 3||b.kind != 2||dz b.text != x.text | none=>false)=!fits f x:=by
   intro f
   induction f using Bh with
   | h0=>intro _;simp[my,kE,fits]
   | h1 f y ih =>
    intro h;rw[eX]at h;obtain⟨h1,h2,h3⟩:=h;have ih:=ih h1;simp only[aG]at h2 h3
    have hy:bh none y=true:=by
     by_cases k1:y.kind=1
     ·simp only[bh,k1,if_true,aB]at h2 ⊢;exact⟨h2.1,trivial⟩
     ·rw[← jE (p:=f.getLast?) k1];exact h2
    have e:fits (f++[y]) x=(fits f x&&!ek x y):=by simp[fits]
    rw[pJ,e];simp only[tM]
    by_cases XU:tagged y=true
    ·rw[if_pos XU,oy];have XV:cX y=true:=by rw[l9 hy];exact XU
     by_cases hi:x.id=y.id
     ·rw[if_pos hi];rw[XV,bu,cL]at h3;have eb:ek x y=(x.kind != 3||y.kind != 2||!(dz y.text==x.text)):=by simp[ek,XV,hi]
      rw[eb]
      by_cases hb:(x.kind != 3||y.kind != 2||!(dz y.text==x.text))=true
      ·simp only[bne]at hb ⊢;rw[hb];simp
      ·have hb:(x.kind != 3||y.kind != 2||!(dz y.text==x.text))=false:=by simpa using hb
       have iE:fits f x=true:=by
        simp only[fits,bR,bU]at h3 ⊢;intro z hz;have XT:=h3 z hz;simp only[Bool.or_eq_false_iff,bne_eq_false_iff_eq]at hb;simp only[ek]at XT ⊢;have:(y.kind != 3)=true:=by rw[hb.1.2];decide
        rw[this,Bool.true_or,Bool.true_or,bI]at XT;rw[hi,XT,bA]
       rw[iE];simp only[bne]at hb ⊢;rw[hb];simp
     ·rw[if_neg hi,ih]
      have eb:ek x y=false:=by
       have:(y.id != x.id)=true:=by simpa using fun e=>hi e.symm
       simp[ek,this]
      rw[eb];simp
    ·rw[if_neg XU,ih];have XV:cX y=false:=by rw[l9 hy];simpa using XU
     have eb:ek x y=false:=by simp[ek,XV]
     rw[eb];simp
  exact key f hf
 ·have h0:tagged x=false:=by simpa using NM
  simp[h0]
theorem ug:∀ (l:List It) (a:Nat),a+total l<2^63→dS (a:Int) l=((a+total l:Nat):Int):=by
 intro l
 induction l with
 | nil=>intro a _;simp[dS,total]
 | cons x l ih =>
  intro a h;have ht:total (x::l)=wid x+total l:=by simp[total]
  rw[ht]at h ⊢;have hw:width x=(wid x:Int):=by simp only[width,wid];split<;>rfl
  have:dS (a:Int) (x::l)=dS ((a+wid x:Nat):Int) l:=by
   simp only[dS,cj,hw];rw[IntWalk.i64_in _ (by omega)];rfl
  rw[this,ih (a+wid x) (by omega)];congr 1;omega
theorem Ro(x:It):wid x≤x.text.length+1:=by simp only[wid];split<;>omega
theorem KG(f:List It):total f≤bp f+f.length:=by
 induction f with
 | nil=>simp[total,bp]
 | cons x f ih =>
  have ht:total (x::f)=wid x+total f:=by simp[total]
  have:=Ro x;simp only[bp,ag,ht];omega
theorem pF{f:List It}(h:total f<2^63):bC f=0↔f.length≤512∧total f≤1024∧bD [] f=0:=by
 have e:=ug f 0 (by omega);simp only[aI,fZ]at e;simp only[bC];rw[show dS 0 f=(total f:Int)from e];split
 ·constructor
  ·intro h;simp at h
  ·rintro⟨h1,h2,_⟩;omega
 ·constructor
  ·intro h;exact⟨by omega,by omega,h⟩
  ·intro h;exact h.2.2
theorem vV:∀ (a pre b:List It),bD pre (a++b)=0↔bD pre a=0∧bD (pre++a) b=0:=by
 intro a
 induction a with
 | nil=>intro pre b;simp[bD]
 | cons x a ih =>
  intro pre b;simp only[aJ,bD]
  by_cases h1:bh pre.getLast? x=false
  ·simp[h1]
  ·rw[if_neg h1,if_neg h1]
   by_cases h2:(cX x&&!fits pre x)=true
   ·simp[h2]
   ·rw[if_neg h2,if_neg h2,ih];simp
theorem zg{pre:List It}{x:It}{b:List It}:bD pre (x::b)=0↔bh pre.getLast? x=true∧(cX x&&!fits pre x)=false∧bD (pre++[x]) b=0:=by
 simp only[bD]
 by_cases h1:bh pre.getLast? x=false
 ·simp[h1]
 ·rw[if_neg h1];have h1:bh pre.getLast? x=true:=by simpa using h1
  by_cases h2:(cX x&&!fits pre x)=true
  ·simp[h2]
  ·rw[if_neg h2];have h2:(cX x&&!fits pre x)=false:=by simpa using h2
   simp[h1,h2]
theorem xb{w tail:List UInt8}(hw:w≠[]){x:It}{s s':Rd}(he:aR (w++tail)=(x,(w.length:Int),true))(ha:iC s x=(0,s'))(n:Nat)(at':Int):
  iI (n+1) s (w++tail) at'=iI n s' tail (at'+w.length):=by
 cases w with
 | nil=>exact absurd rfl hw
 | cons a w =>
  simp only[aJ]at he;simp only[aJ,iI,he,ha];simp
theorem Di(c:UInt8):dC c≠[]:=by
 simp only[dC]
 (repeat' split)<;>simp
theorem DX:∀ (t:List UInt8) (f:List It) (u rest:List UInt8) (n:Nat) (at':Int),f.length+1≤512→total f+u.length+t.length≤1024→(t.flatMap dC++rest).length<n →
  ∃ m ft,rest.length<m∧iI n (lX f u) (t.flatMap dC++rest) at'=iI m (lX f (u++t)) rest ft:=by
 intro t
 induction t with
 | nil=>intro f u rest n at' _ _ h;exact⟨n,at',by simpa using h,by simp⟩
 | cons c t ih =>
  intro f u rest n at' h1 h2 h3;obtain⟨n,rfl⟩:∃ k,n=k+1:=⟨n - 1,by omega⟩;simp only[eV,List.append_assoc,List.length_append,ag]at h2 h3 ⊢;have hl:0<(dC c).length:=cZ.2 (Di c)
  have Ta:iC (lX f u) ⟨1,[c],0⟩=(0,lX f (u++[c])):=by
   rw[w4,if_neg];simp only[jm,ne_eq,not_true,false_or]
   by_cases h0:u.length=0
   ·rw[if_neg (by omega),if_pos h0];omega
   ·rw[if_pos (by omega),if_neg h0];omega
  rw[xb (Di c) (AL c _) Ta];obtain⟨m,ft,h4,h5⟩:=ih f (u++[c]) rest n (at'+(dC c).length) h1 (by simp;omega) (by rw[List.length_append];omega);exact⟨m,ft,h4,by rw[h5];simp⟩
theorem AK{x:It}(hk:x.kind≠1)(h:bh none x=true)(rest:List UInt8):aR (bT x++rest)=(x,((bT x).length:Int),true):=by
 obtain⟨k,t,i⟩:=x;simp only at hk;simp only[bh,hk,if_false]at h
 by_cases k5:k=5
 ·subst k5;simp only[if_true,aB,beq_iff_eq]at h;obtain⟨h,rfl⟩:=h;simp only[bT];rw[if_neg (by decide),if_neg (by decide),if_neg (by decide),if_neg (by decide),if_pos (by decide)];simp only[aJ,List.append_assoc,aG];rw[AJ t rest h];simp;omega
 ·rw[if_neg k5]at h
  by_cases k2:k=2∨k=4
  ·rw[if_pos k2]at h;simp only[aB,decide_eq_true_eq]at h;rcases k2 with rfl | rfl
   ·simp only[bT];rw[if_neg (by decide),if_pos (by decide)];simp only[aJ,List.append_assoc,aG];rw[J3 i t rest ⟨h.1.2,h.2⟩ h.1.1];simp;omega
   ·simp only[bT];rw[if_neg (by decide),if_neg (by decide),if_neg (by decide),if_pos (by decide)];simp only[aJ,List.append_assoc,aG];rw[GL i t rest ⟨h.1.2,h.2⟩ h.1.1];simp;omega
  ·rw[if_neg k2]at h
   by_cases k3:k=3
   ·subst k3;simp only[if_true,aB,decide_eq_true_eq]at h;simp only[bT];rw[if_neg (by decide),if_neg (by decide),if_pos (by decide)];simp only[aJ,List.append_assoc,aG];rw[GM i t rest ⟨h.1.2,h.2⟩ h.1.1];simp;omega
   ·simp[k3]at h
theorem eE(f:List It):closed f []=f:=by simp[closed]
theorem Jc:∀ (rest f:List It) (t:List UInt8) (n:Nat) (at':Int),bD [] (closed f t++rest)=0→(closed f t++rest).length≤512→total (closed f t++rest)≤1024 →
  (rest.flatMap bT).length<n→iI n (lX f t) (rest.flatMap bT) at'=(closed f t++rest,0,0):=by
 intro rest
 induction rest with
 | nil =>
  intro f t n at' _ _ _ h;obtain⟨n,rfl⟩:∃ k,n=k+1:=⟨n - 1,by omega⟩;simp only[iU,iI,wZ,bt]
 | cons x rest ih =>
  intro f t n at' h1 h2 h3 h4;have h1':=h1;rw[vV,zg]at h1;obtain⟨e1,e2,e3,e4⟩:=h1;simp only[aG]at e2 e3 e4;simp only[eV,List.length_append,ag,ij]at h2 h3 h4 ⊢;have htx:total (x::rest)=wid x+total rest:=by simp[total]
  by_cases hk:x.kind=1
  ·
   have hx:x=⟨1,x.text,0⟩∧x.text≠[]∧t=[]:=by
    obtain⟨k,u,i⟩:=x;simp only at hk;subst hk;simp only[bh,if_true,aB,beq_iff_eq,bU,beq_eq_false_iff_ne]at e2;obtain⟨⟨e5,e6⟩,e7⟩:=e2;refine⟨by rw[e6],e5,?_⟩
    by_cases ht:t=[]
    ·exact ht
    ·simp[closed,ht]at e7
   obtain⟨sj,Au,rfl⟩:=hx;have hw:wid x=x.text.length:=by simp[wid,hk]
   have Mx:bT x=x.text.flatMap dC:=by simp[bT,hk]
   rw[eE]at h2 h3 h1' ⊢;rw[Mx]at h4 ⊢;obtain⟨m,ft,h5,h6⟩:=DX x.text f [] (rest.flatMap bT) n at' (by omega) (by simp only[ai];omega) (by rw[List.length_append];omega);have aU:closed f x.text=f++[x]:=by simp only[closed,if_neg Au];rw[← sj]
   rw[h6,aG,ih f x.text m ft (by rw[aU];simpa using h1') (by rw[aU];simp;omega) (by rw[aU,ij,ij,nW];omega) h5,aU];simp
  ·have hw:wid x=1:=by simp[wid,hk]
   have nA:bh none x=true:=by rw[← jE (p:=(closed f t).getLast?) hk];exact e2
   obtain⟨n,rfl⟩:∃ k,n=k+1:=⟨n - 1,by omega⟩
   have js:bT x≠[]:=by
    intro e;have:=AK hk nA [];rw[e]at this;have h0:(aR ([]++[])).2.1=1:=by decide
    rw[this]at h0;simp at h0
   have Ta:iC (lX f t) x=(0,lX (closed f t++[x]) []):=by
    rw[w3 _ _ _ hk,yr (by
     have:=e1;simp only[closed]at this;split at this
     ·exact this
     ·rw[eX]at this;exact this.1) nA,e3,if_neg (by simp),if_neg]
    simp only[jm];rw[r7]at h2;rw[oI]at h3;simp only[hk,ne_eq,not_false_eq_true,true_or,if_true];omega
   rw[xb js (AK hk nA _) Ta];have hl:0<(bT x).length:=cZ.2 js;have:=ih (closed f t++[x]) [] n (at'+(bT x).length) (by rw[eE];simpa using h1') (by rw[eE];simp;omega) (by rw[eE,ij,ij,nW];omega) (by omega);rw[this,eE];simp
theorem sQ{f:List It}(hs:total f<2^63)(h:bC f=0):parse (format f).1=(f,0,0):=by
 have h':=(pF hs).1 h;have e:(format f).1=f.flatMap bT:=by simp[format,h]
 have:=Jc f [] [] ((format f).1.length+1) 0 (by rw[eE];exact h'.2.2) (by rw[eE];exact h'.1) (by rw[eE];exact h'.2.1) (by rw[e];omega);rw[eE]at this;simp only[parse];rw[e]at this ⊢;exact this
theorem Aw:∀ p:UInt8,(gD p).2=true→ia (gD p).1.toNat=p:=fO (by decide +kernel)
theorem M8:∀ b:UInt8,(b==13||jG b==1)=true→dC b=[92,120,ia (b.toNat / 16),ia (b.toNat % 16)]:=fO (by decide +kernel)
theorem zp(p q:UInt8):(ir p q).toNat / 16=(gD p).1.toNat∧(ir p q).toNat % 16=(gD q).1.toNat:=by
 have h1:=s7 p;have h2:=s7 q
 have:(ir p q).toNat=16*(gD p).1.toNat+(gD q).1.toNat:=by
  simp only[ir,mZ];omega
 omega
theorem mu:∀ c:UInt8,di c=true→∃ i:Fin 10,c=UInt8.ofNat (48+i.val)∧((c.toNat:Int) - 48)=i.val:=by
 intro c h;refine⟨⟨c.toNat - 48,by simp[di]at h;omega⟩,?_,?_⟩
 ·simp only[di,aB,decide_eq_true_eq]at h;have:48+(c.toNat - 48)=c.toNat:=by omega
  simp[this]
 ·simp only[di,aB,decide_eq_true_eq]at h;simp only;omega
theorem Qo:∀ i:Fin 10,i.val≠0→d3 i.val=[UInt8.ofNat (48+i.val)]:=by decide +kernel
theorem Qn:∀ i j:Fin 10,i.val≠0→d3 (10*i.val+j.val)=[UInt8.ofNat (48+i.val),UInt8.ofNat (48+j.val)]:=by decide +kernel
theorem Qm:∀ i j k:Fin 10,i.val≠0→d3 (100*i.val+10*j.val+k.val)=[UInt8.ofNat (48+i.val),UInt8.ofNat (48+j.val),UInt8.ofNat (48+k.val)]:=by decide +kernel
theorem l5{a:List UInt8}(h:(numberOf a).2=true):a=Lib.itoa (numberOf a).1∧1≤(numberOf a).1∧(numberOf a).1≤999:=by
 simp only[numberOf]at h ⊢
 by_cases h1:a.length<1∨3<a.length∨a.getD 0 0=48
 ·rw[if_pos h1]at h;simp at h
 ·rw[if_neg h1]at h ⊢
  by_cases h2:a.all di=true
  ·rw[if_pos h2]
   match a,h1,h2 with
   | [x],h1,h2 =>
    simp only[ey,Kj,bI]at h2;obtain⟨i,hi,hv⟩:=mu x h2
    have hz:i.val≠0:=by
     intro e;apply h1;right;right;rw[ar,hi,e];rfl
    have e:dq 0 [x]=(i.val:Int):=by simp[dq];omega
    simp only[e];rw[wm _ (by omega),Qo i hz,← hi];exact⟨rfl,by omega,by omega⟩
   | [x,y],h1,h2 =>
    simp only[ey,Kj,bI,aB]at h2;obtain⟨i,hi,hv⟩:=mu x h2.1;obtain⟨j,hj,hw⟩:=mu y h2.2
    have hz:i.val≠0:=by
     intro e;apply h1;right;right;rw[ar,hi,e];rfl
    have e:dq 0 [x,y]=((10*i.val+j.val:Nat):Int):=by simp[dq];omega
    simp only[e];rw[wm _ (by omega),Qn i j hz,← hi,← hj];exact⟨rfl,by omega,by omega⟩
   | [x,y,z],h1,h2 =>
    simp only[ey,Kj,bI,aB]at h2;obtain⟨i,hi,hv⟩:=mu x h2.1;obtain⟨j,hj,hw⟩:=mu y h2.2.1;obtain⟨k,hk,hu⟩:=mu z h2.2.2
    have hz:i.val≠0:=by
     intro e;apply h1;right;right;rw[ar,hi,e];rfl
    have e:dq 0 [x,y,z]=((100*i.val+10*j.val+k.val:Nat):Int):=by simp[dq];omega
    simp only[e];rw[wm _ (by omega),Qm i j k hz,← hi,← hj,← hk];exact⟨rfl,by omega,by omega⟩
   | [],h1,_=>simp at h1
   | _::_::_::_::_,h1,_=>simp at h1
  ·rw[if_neg h2]at h;simp at h
theorem lh{s:List UInt8}{c:UInt8}(h:(cutAt s c).2.2=true):s=(cutAt s c).1++c::(cutAt s c).2.1:=by
 simp only[cutAt]at h ⊢
 by_cases h0:0≤Lib.indexByte s c
 ·rw[if_pos h0]
  have key:∀ s:List UInt8,0≤Lib.indexByte s c→s=s.take (Lib.indexByte s c).toNat++c::s.drop ((Lib.indexByte s c).toNat+1):=by
   intro s
   induction s with
   | nil=>intro h;simp[Lib.indexByte]at h
   | cons a s ih =>
    intro h;have hl:=nM c s
    by_cases ha:a=c
    ·subst ha;simp[Lib.indexByte]
    ·have Tb:(a==c)=false:=by simpa using ha
     simp only[Lib.indexByte,Tb,aF,if_false]at h ⊢
     by_cases h1:(Lib.indexByte s c == -1)=true
     ·rw[if_pos h1]at h;omega
     ·rw[if_neg h1]at h ⊢;have h2:Lib.indexByte s c ≠ -1:=by simpa using h1
      have h3:(Lib.indexByte s c+1).toNat=(Lib.indexByte s c).toNat+1:=by omega
      rw[h3];simp only[gu,qW,aJ];rw[← ih (by omega)]
  exact key s h0
 ·rw[if_neg h0]at h;simp at h
theorem zx{s:List UInt8}{c:UInt8}(h:hasSuffix s [c]=true):s=s.take (s.length - 1)++[c]:=by
 simp only[hasSuffix,aB,decide_eq_true_eq,beq_iff_eq,ag,ai,aI]at h;rw[← h.2,List.take_append_drop]
theorem zz{s:List UInt8}{c:UInt8}(h:hasPrefix s [c]=true):s=c::s.drop 1:=by
 simp only[hasPrefix,aB,decide_eq_true_eq,beq_iff_eq,ag,ai,aI]at h;cases s with
 | nil=>simp at h
 | cons a s=>simp at h;simp[h]
theorem ID{t:List UInt8}(h:(gd t).2=true):(gd t).1.kind≠1∧bh none (gd t).1=true∧bT (gd t).1=60::(t++[62]):=by
 unfold gd at h ⊢;dsimp only at h ⊢;cases hp:hasPrefix t [47]with
 | true =>
  simp only[hp,if_true,fH,bA,aF,if_false]at h ⊢
  by_cases hc:((cutAt (t.drop 1) 58).2.2&&(numberOf (cutAt (t.drop 1) 58).1).2)=true
  ·rw[if_pos hc]at h ⊢;dsimp only at h ⊢;simp only[aB]at hc;obtain⟨n1,n2,n3⟩:=l5 hc.2;have e1:=lh hc.1;have e2:=zz hp;refine⟨by decide,?_,?_⟩
   ·simp only[bh];rw[if_neg (by decide),if_neg (by decide),if_neg (by decide),if_pos (by decide)];simp only[h,n2,n3,decide_true,bI]
   ·simp only[bT];rw[if_neg (by decide),if_neg (by decide),if_pos (by decide),← n1]
    conv=>rhs;rw[e2,e1]
    simp
  ·rw[if_neg hc]at h;simp at h
 | false =>
  simp only[hp,aF,if_false,jd,bu]at h ⊢;cases hs:hasSuffix (cutAt t 58).2.1 [47]with
  | true =>
   simp only[hs,if_true]at h ⊢
   by_cases hc:((cutAt t 58).2.2&&(numberOf (cutAt t 58).1).2)=true
   ·rw[if_pos hc]at h ⊢;dsimp only at h ⊢;simp only[aB]at hc;obtain⟨n1,n2,n3⟩:=l5 hc.2;have e1:=lh hc.1;have e2:=zx hs;have h:cA ((cutAt t 58).2.1.take ((cutAt t 58).2.1.length - 1))=true:=by simpa using h
    refine⟨by decide,?_,?_⟩
    ·simp only[bh];rw[if_neg (by decide),if_neg (by decide),if_pos (.inr (by decide))];simp only[h,n2,n3,decide_true,bI]
    ·simp only[bT];rw[if_neg (by decide),if_neg (by decide),if_neg (by decide),if_pos (by decide),← n1]
     conv=>rhs;rw[e1]
     conv=>rhs;rw[e2]
     simp
   ·rw[if_neg hc]at h;simp at h
  | false =>
   simp only[hs,aF,if_false]at h ⊢
   by_cases hc:((cutAt t 58).2.2&&(numberOf (cutAt t 58).1).2)=true
   ·rw[if_pos hc]at h ⊢;dsimp only at h ⊢;simp only[aB]at hc;obtain⟨n1,n2,n3⟩:=l5 hc.2;have e1:=lh hc.1;have h:cA (cutAt t 58).2.1=true:=by simpa using h
    refine⟨by decide,?_,?_⟩
    ·simp only[bh];rw[if_neg (by decide),if_neg (by decide),if_pos (.inl (by decide))];simp only[h,n2,n3,decide_true,bI]
    ·simp only[bT];rw[if_neg (by decide),if_pos (by decide),← n1]
     conv=>rhs;rw[e1]
     simp
   ·rw[if_neg hc]at h;simp at h
theorem th{s:List UInt8}(hs:s≠[])(h:(aR s).2.2=true):
  ((∃ c,(aR s).1=⟨1,[c],0⟩∧s=dC c++s.drop (aR s).2.1.toNat) ∨
   ((aR s).1.kind≠1∧bh none (aR s).1=true∧s=bT (aR s).1++s.drop (aR s).2.1.toNat)):=by
 simp only[aR]at h ⊢
 by_cases c92:s.getD 0 0=92
 ·left;rw[if_pos c92]at h ⊢;simp only at h ⊢;refine⟨_,rfl,?_⟩
  match s,hs,c92,h with
  | [a],_,c92,h=>simp[cz]at h
  | a::d::r,_,c92,h =>
   simp only[ar]at c92;subst c92
   by_cases d1:d=92∨d=60∨d=123
   ·have e:cz (92::d::r)=(d,2,true):=by simp only[me,if_pos d1]
    rw[e];rcases d1 with rfl | rfl | rfl<;>simp[show dC 92=[92,92]by decide,show dC 60=[92,60]by decide,show dC 123=[92,123]by decide]
   ·by_cases d2:d=110
    ·subst d2;have e:cz (92::110::r)=(10,2,true):=by simp only[me];rfl
     rw[e];simp[show dC 10=[92,110]by decide]
    ·by_cases d3:d=116
     ·subst d3;have e:cz (92::116::r)=(9,2,true):=by simp only[me];rfl
      rw[e];simp[show dC 9=[92,116]by decide]
     ·by_cases d4:d=120
      ·subst d4
       match r,h with
       | [],h=>simp[cz]at h
       | [_],h=>simp[cz]at h
       | p::q::r,h =>
        have e:cz (92::120::p::q::r)=(ir p q,4,(gD p).2&&(gD q).2&&(ir p q==13||jG (ir p q)==1)):=by
         simp only[me];rw[if_neg (by decide),if_neg (by decide),if_neg (by decide),if_pos (by decide),if_neg (by simp)];simp only[ar,aC]
        rw[e]at h ⊢;simp only[aB]at h;have hp:=zp p q;rw[M8 _ h.2,hp.1,hp.2,Aw p h.1.1,Aw q h.1.2];simp
      ·have e:cz (92::d::r)=(0,0,false):=by simp only[me,d1,d2,d3,d4,if_false]
       rw[e]at h;simp at h
  | [],hs,_,_=>exact absurd rfl hs
 ·rw[if_neg c92]at h ⊢
  by_cases c60:s.getD 0 0=60
  ·right;rw[if_pos c60]at h ⊢
   by_cases hi:Lib.indexByte s 62<0
   ·rw[if_pos hi]at h;simp at h
   ·rw[if_neg hi]at h ⊢;simp only at h ⊢;have hc:(cutAt s 62).2.2=true:=by simp only[cutAt];rw[if_pos (by omega)]
    have e1:=lh hc;have ec1:(cutAt s 62).1=s.take (Lib.indexByte s 62).toNat:=by simp only[cutAt];rw[if_pos (by omega)]
    have ec2:(cutAt s 62).2.1=s.drop ((Lib.indexByte s 62).toNat+1):=by simp only[cutAt];rw[if_pos (by omega)]
    obtain⟨t1,t2,t3⟩:=ID h;refine⟨t1,t2,?_⟩;have hp:=lB s 62 (by rw[c60];decide) hi
    have e2:s.take (Lib.indexByte s 62).toNat=60::(s.take (Lib.indexByte s 62).toNat).drop 1:=by
     cases s with
     | nil=>exact absurd rfl hs
     | cons a s =>
      simp only[ar]at c60;subst c60;obtain⟨m,hm⟩:∃ m,(Lib.indexByte (60::s) 62).toNat=m+1:=⟨(Lib.indexByte (60::s) 62).toNat - 1,by omega⟩;rw[hm];simp
    rw[t3];have e3:(Lib.indexByte s 62+1).toNat=(Lib.indexByte s 62).toNat+1:=by omega
    rw[e3]
    conv=>lhs;rw[e1,ec1,ec2,e2]
    simp
  ·rw[if_neg c60]at h ⊢
   by_cases kR:s.getD 0 0=123
   ·right;rw[if_pos kR]at h ⊢
    by_cases hi:Lib.indexByte s 125<0∨isName ((s.take (Lib.indexByte s 125).toNat).drop 1)=false
    ·rw[if_pos hi]at h;simp at h
    ·rw[if_neg hi]at h ⊢;simp only[not_or]at hi;simp only;have hn:isName ((s.take (Lib.indexByte s 125).toNat).drop 1)=true:=by simpa using hi.2
     have hc:(cutAt s 125).2.2=true:=by simp only[cutAt];rw[if_pos (by omega)]
     have e1:=lh hc;have ec1:(cutAt s 125).1=s.take (Lib.indexByte s 125).toNat:=by simp only[cutAt];rw[if_pos (by omega)]
     have ec2:(cutAt s 125).2.1=s.drop ((Lib.indexByte s 125).toNat+1):=by simp only[cutAt];rw[if_pos (by omega)]
     have hp:=lB s 125 (by rw[kR];decide) hi.1;refine⟨by decide,?_,?_⟩
     ·simp only[bh];rw[if_neg (by decide),if_pos (by decide),hn];rfl
     ·have e2:s.take (Lib.indexByte s 125).toNat=123::(s.take (Lib.indexByte s 125).toNat).drop 1:=by
       cases s with
       | nil=>exact absurd rfl hs
       | cons a s =>
        simp only[ar]at kR;subst kR;obtain⟨m,hm⟩:∃ m,(Lib.indexByte (123::s) 125).toNat=m+1:=⟨(Lib.indexByte (123::s) 125).toNat - 1,by omega⟩;rw[hm];simp
      simp only[bT];rw[if_neg (by decide),if_neg (by decide),if_neg (by decide),if_neg (by decide),if_pos (by decide)];have e3:(Lib.indexByte s 125+1).toNat=(Lib.indexByte s 125).toNat+1:=by omega
      rw[e3]
      conv=>lhs;rw[e1,ec1,ec2,e2]
      simp
   ·left;rw[if_neg kR]at h ⊢;simp only at h ⊢;cases s with
    | nil=>exact absurd rfl hs
    | cons a s =>
     simp only[ar]at h;refine⟨a,by simp,?_⟩;simp[dC,h]
theorem mJ(n:Int):((iA n).toNat:Int)=n % 256:=by
 have h1:0≤n % 256:=QA _ (by decide);have h2:n % 256<256:=G5 _ (by decide);simp only[iA,mZ];omega
theorem AV{n:Int}(h:0≤n∧n<65536):tv (pt n)=n:=by
 have h1:=mJ (n / 256);have h2:=mJ n;simp only[tv,pt,cj,nR,h1,h2];omega
theorem uV{n:Int}(h:0≤n∧n<4294967296):tv (zK n)=n:=by
 have h1:=mJ (n / 65536 / 256);have h2:=mJ (n / 65536);have h3:=mJ (n / 256);have h4:=mJ n;simp only[tv,zK,pt,aJ,aG,cj,nR,h1,h2,h3,h4];omega
theorem qV{n:Int}(h:0≤n∧n<256):tv [iA n]=n:=by
 have h2:=mJ n;simp only[tv,cj,nR,h2];omega
theorem DB{w rest:List UInt8}{bad:Bool}:(Rb.mk (w++rest) bad).take w.length=(w,⟨rest,bad⟩):=by
 simp only[Rb.take];rw[if_neg (by simp)];simp
theorem iz{w rest:List UInt8}{bad:Bool}{n:Nat}(h:w.length=n):(Rb.mk (w++rest) bad).number n=(tv w,⟨rest,bad⟩):=by
 subst h;simp only[Rb.number,DB]
theorem pH{s rest:List UInt8}{bad:Bool}(h:s.length<4294967296):(Rb.mk (cY s++rest) bad).text=(s,⟨rest,bad⟩):=by
 have h1:(Rb.mk (cY s++rest) bad).number 4=((s.length:Int),⟨s++rest,bad⟩):=by
  simp only[cY,List.append_assoc];rw[iz (dA _),uV (by omega)]
 simp only[Rb.text,h1];rw[if_neg (by simp;omega)];simp only[aH,DB]
theorem tc{s rest:List UInt8}{bad:Bool}{f:List It}(h:s.length<4294967296)(hp:parse s=(f,0,0)):(Rb.mk (cY s++rest) bad).fragment=(f,⟨rest,bad⟩):=by
 simp only[Rb.fragment,pH h,hp];simp
theorem D6:∀ (l:List Int) (rest:List UInt8) (bad:Bool),(∀ n∈l,0≤n∧n<65536)→Rb.numbers l.length (Rb.mk (l.flatMap pt++rest) bad)=(l,⟨rest,bad⟩):=by
 intro l
 induction l with
 | nil=>intro rest bad _;rfl
 | cons n l ih =>
  intro rest bad h;simp only[ag,Rb.numbers,eV,List.append_assoc];rw[iz (eR n),AV (h n (by simp))];simp only[ih rest bad fun m hm=>h m (by simp[hm])]
theorem zT(v:List Int)(o:Int):0≤lL v o:=by
 simp only[lL]
 (repeat' split)<;>omega
theorem Dt{v:List Int}(h:iV v=v):v.length≤8∧∀ n∈v,0≤n:=by
 have h0:iV v=(im v [] 8).take (gw v [] 8):=rfl;constructor
 ·rw[← h,h0];simp[jX];omega
 ·intro n hn;rw[← h,h0]at hn;have hn:=dd hn;simp only[im,dI]at hn;obtain⟨i,_,rfl⟩:=hn;have h1:=zT v i;have h2:=zT [] i;split<;>omega
structure Oq (o:bc):Prop where
 time:1≤o.aT.time∧o.aT.time≤1073741824
 bP:0≤o.aT.bP∧o.aT.bP<8
 number:1≤o.aT.number∧o.aT.number≤128
 kind:o.kind=1∨o.kind=2
 Hg:o.seen.length≤8
 seen:∀ n∈o.seen,0≤n∧n≤128
 bare:o.kind=2→o.entry=⟨o.entry.source,[],o.entry.bN,o.entry.next,[],[],0,0⟩
 looked:cM (looked o)=0
theorem D2{o:bc}(h:dQ o=0):Oq o:=by
 simp only[dQ]at h;split at h
 ·simp at h
 ·rename_i h1;split at h
  ·simp at h
  ·rename_i h2;split at h
   ·simp at h
   ·rename_i h3;split at h
    ·simp at h
    ·split at h
     ·simp at h
     ·rename_i h5;simp only[tJ,gH,decide_eq_true_eq]at h1
      have hs:iV o.seen=o.seen:=by
       by_cases hs:iV o.seen=o.seen
       ·exact hs
       ·exact absurd (.inr hs) h2
      obtain⟨s1,s2⟩:=Dt hs;simp only[Bool.not_eq_true,List.any_eq_false,decide_eq_true_eq]at h3;refine⟨⟨by omega,by omega⟩,⟨by omega,by omega⟩,⟨by omega,by omega⟩,by omega,s1,fun n hn=>⟨s2 n hn,by have:=h3 n hn;omega⟩,fun hk=>?_,h⟩
      have hb:kL o.entry=true:=by
       cases hb:kL o.entry with
       | true=>rfl
       | false=>exact absurd ⟨hk,hb⟩ h5
      simp only[kL,aB,beq_iff_eq,jM]at hb;obtain⟨b1,b2,b3,b4,b5⟩:=hb;clear h;generalize o.entry=e at b1 b2 b3 b4 b5 ⊢;obtain⟨a1,a2,a3,a4,a5,a6,a7,a8⟩:=e;simp only at b1 b2 b3 b4 b5;subst b1;subst b2;subst b3;subst b4;subst b5;rfl
structure Qf (e:En):Prop where
 source:bC e.source=0
 target:bC e.target=0
 nonempty:e.source≠[]
 cw:isName e.cw=true∨e.cw=[]
 bV:isName e.bV=true∨e.bV=[]
 created:0≤e.created∧e.created≤1073741824
 origin:1≤e.origin∧e.origin≤3
theorem qu{e:En}(h:cM e=0):Qf e:=by
 simp only[cM]at h;split at h
 ·rename_i h1;exact absurd h h1
 ·rename_i h1;split at h
  ·rename_i h2;exact absurd h h2
  ·rename_i h2;split at h
   ·simp at h
   ·rename_i h3;split at h
    ·rename_i h4;exact absurd h h4
    ·split at h
     ·rename_i h5;exact absurd h h5
     ·split at h
      ·simp at h
      ·rename_i h6;split at h
       ·simp at h
       ·rename_i h7;simp only[lD,tJ,aB,bU,beq_eq_false_iff_ne,ne_eq,jM]at h3;simp only[named,tJ,aB,fN,beq_iff_eq]at h6;exact⟨by simpa using h1,by simpa using h2,h3.1.1,h6.1.symm,h6.2.symm,⟨by omega,by omega⟩,⟨by omega,by omega⟩⟩
theorem oS{s:List UInt8}(h:isName s=true∨s=[]):s.length≤24:=by
 rcases h with h | rfl
 ·cases s with
  | nil=>simp
  | cons c r=>simp only[isName,aB,decide_eq_true_eq]at h;exact h.1.1
 ·simp
theorem pL{f:List It}(h1:f.length<2^30)(h2:bp f<2^30):total f<2^63:=by
 have:=KG f;omega
theorem A8:∀ f:List It,(∀ x∈f,bh none x=true)→bp f≤total f+64*f.length:=by
 intro f
 induction f with
 | nil=>intro _;simp[bp]
 | cons x f ih =>
  intro h;have e1:=ih fun y hy=>h y (by simp[hy]);have hx:=h x (by simp);have ht:total (x::f)=wid x+total f:=by simp[total]
  have hw:x.text.length≤wid x+64:=by
   simp only[bh]at hx
   by_cases k1:x.kind=1
   ·simp[wid,k1]
   ·rw[if_neg k1]at hx
    by_cases k5:x.kind=5
    ·rw[if_pos k5]at hx;simp only[aB]at hx;have:=oS (.inl hx.1);omega
    ·rw[if_neg k5]at hx
     by_cases k2:x.kind=2∨x.kind=4
     ·rw[if_pos k2]at hx;simp only[aB,cA,gO,decide_eq_true_eq]at hx;omega
     ·rw[if_neg k2]at hx
      by_cases k3:x.kind=3
      ·rw[if_pos k3]at hx;simp only[aB]at hx;have:=oS (.inl hx.1.1);omega
      ·rw[if_neg k3]at hx;simp at hx
  simp only[bp,ag,ht];omega
theorem kT{f:List It}(h1:f.length<2^30)(h2:bp f<2^30)(h:bC f=0):(format f).1.length<4294967296:=by
 have hv:=(pF (pL h1 h2)).1 h;have hk:=lz f [] hv.2.2
 have key:∀ f:List It,(∀ x∈f,bh none x=true)→(f.flatMap bT).length≤4*bp f+30*f.length:=by
  intro f
  induction f with
  | nil=>intro _;simp
  | cons x f ih =>
   intro h;have e1:=ih fun y hy=>h y (by simp[hy]);have hx:=h x (by simp)
   have hid : -9223372036854775808≤x.id∧x.id≤9223372036854775807:=by
    simp only[bh]at hx
    by_cases k1:x.kind=1
    ·rw[if_pos k1]at hx;simp only[aB,beq_iff_eq]at hx;omega
    ·rw[if_neg k1]at hx
     by_cases k5:x.kind=5
     ·rw[if_pos k5]at hx;simp only[aB,beq_iff_eq]at hx;omega
     ·rw[if_neg k5]at hx
      by_cases k2:x.kind=2∨x.kind=4
      ·rw[if_pos k2]at hx;simp only[aB,decide_eq_true_eq]at hx;omega
      ·rw[if_neg k2]at hx
       by_cases k3:x.kind=3
       ·rw[if_pos k3]at hx;simp only[aB,decide_eq_true_eq]at hx;omega
       ·rw[if_neg k3]at hx;simp at hx
   have e2:=l8 x hid;simp only[eV,List.length_append,bp,ag];omega
 have:=key f hk;have h3:=A8 f hk;simp only[format,h,ne_eq,not_true,if_false];omega
theorem Lc{o:bc}(hs:o.small)(h:dQ o=0):FZ (dV o)=(o,1,⟨[],false⟩):=by
 have F:=D2 h
 have hsv:bC o.entry.source=0:=by
  have:=(qu F.looked).source;rcases F.kind with k | k
  ·simpa[looked,k]using this
  ·simpa[looked,k,asked]using this
 have zj:parse (format o.entry.source).1=(o.entry.source,0,0):=sQ (pL hs.entry.source hs.entry.iG) hsv;have Pv:=kT hs.entry.source hs.entry.iG hsv;have Fq:=hs.entry.bN;have pz:=hs.entry.next;have WG:=F.Hg;have ht:=F.time;have hf:=F.bP;have hn:=F.number;have uJ:=F.kind
 have h1:∀ (rest:List UInt8),(Rb.mk ([1,iA o.kind]++rest) false).number 1=(1,⟨[iA o.kind]++rest,false⟩):=fun rest=>by
  have:=iz (w:=[1]) (rest:=[iA o.kind]++rest) (bad:=false) (n:=1) rfl;simpa[tv]using this
 have h2:∀ (rest:List UInt8),(Rb.mk ([iA o.kind]++rest) false).number 1=(o.kind,⟨rest,false⟩):=fun rest=>by
  rw[iz (w:=[iA o.kind]) (n:=1) rfl,qV (by omega)]
 have h3:∀ (rest:List UInt8),(Rb.mk (zK o.aT.time++rest) false).number 4=(o.aT.time,⟨rest,false⟩):=fun rest=>by
  rw[iz (dA _),uV (by omega)]
 have h4:∀ (rest:List UInt8),(Rb.mk ([iA o.aT.bP]++rest) false).number 1=(o.aT.bP,⟨rest,false⟩):=fun rest=>by
  rw[iz (w:=[iA o.aT.bP]) (n:=1) rfl,qV (by omega)]
 have h5:∀ (rest:List UInt8),(Rb.mk (pt o.aT.number++rest) false).number 2=(o.aT.number,⟨rest,false⟩):=fun rest=>by
  rw[iz (eR _),AV (by omega)]
 have h6:∀ (rest:List UInt8),(Rb.mk ([iA o.seen.length]++rest) false).number 1=((o.seen.length:Int),⟨rest,false⟩):=fun rest=>by
  rw[iz (w:=[iA o.seen.length]) (n:=1) rfl,qV (by omega)]
 have h7:∀ (rest:List UInt8),Rb.numbers o.seen.length (Rb.mk (o.seen.flatMap pt++rest) false)=(o.seen,⟨rest,false⟩):=fun rest=>D6 _ _ _ fun n hn=>by
  have:=F.seen n hn;omega
 have PK:dV o=[1,iA o.kind]++(zK o.aT.time++([iA o.aT.bP]++(pt o.aT.number++([iA o.seen.length]++(o.seen.flatMap pt ++
   (cY (format o.entry.source).1++(cY o.entry.bN++(cY o.entry.next ++
   (if o.kind=1 then cY (format o.entry.target).1++cY o.entry.cw++cY o.entry.bV++zK o.entry.created++[iA o.entry.origin]else[]))))))))):=by
  simp only[dV,List.append_assoc]
 rw[PK];generalize hR:(if o.kind=1 then cY (format o.entry.target).1++cY o.entry.cw++cY o.entry.bV++zK o.entry.created++[iA o.entry.origin]else[])=R;simp only[FZ,h1,h2,h3,h4,h5,h6,aH,h7,tc Pv zj,pH (show o.entry.bN.length<4294967296 by omega),pH (show o.entry.next.length<4294967296 by omega)];obtain⟨⟨t,f,n⟩,k,⟨es,et,ep,en,ea,epr,ec,eo⟩,sn⟩:=o;simp only at *;rcases uJ with rfl | rfl
 ·rw[if_pos rfl]at hR ⊢;have hl:cM ⟨es,et,ep,en,ea,epr,ec,eo⟩=0:=by simpa[looked]using F.looked
  have E:=qu hl;have htg:parse (format et).1=(et,0,0):=sQ (pL hs.entry.target hs.entry.nh) E.target;have vW:=kT hs.entry.target hs.entry.nh E.target;have Ax:=oS E.cw;have EC:=oS E.bV;have hc:=E.created;have ho:=E.origin;simp only at htg vW Ax EC hc ho
  have h8:∀ (rest:List UInt8),(Rb.mk (zK ec++rest) false).number 4=(ec,⟨rest,false⟩):=fun rest=>by
   rw[iz (dA _),uV (by omega)]
  have h9:(Rb.mk [iA eo] false).number 1=(eo,⟨[],false⟩):=by
   have:=iz (w:=[iA eo]) (rest:=[]) (bad:=false) (n:=1) rfl;rw[qV (by omega)]at this;simpa using this
  have Ay:R=cY (format et).1++(cY ea++(cY epr++(zK ec++[iA eo]))):=by rw[← hR];simp only[List.append_assoc]
  rw[Ay];simp only[tc vW htg,pH (show ea.length<4294967296 by omega),pH (show epr.length<4294967296 by omega),h8,h9]
 ·rw[if_neg (by decide)]at hR ⊢;subst hR;have hb:=F.bare rfl;simp only[En.mk.injEq,true_and]at hb;obtain⟨rfl,rfl,rfl,rfl,rfl⟩:=hb;rfl
theorem yh{o:bc}(hs:o.small)(h:dQ o=0):decode (dV o)=(o,0):=by
 have he:encode o=(dV o,0):=by simp[encode,h]
 simp only[decode,Lc hs h,he];simp
theorem kK:∀ (x y:List UInt8),Op.bytesLess x y=decide (fa x y<0)
 | [],[]=>rfl
 | [],_::_=>rfl
 | _::_,[]=>rfl
 | a::x,b::y=>by
  simp only[Op.bytesLess,fa]
  by_cases h1:a<b
  ·simp[h1]
  ·by_cases h2:b<a
   ·have:a≠b:=by rintro rfl;exact h1 h2
    simp[h1,h2,this]
   ·have h3:a=b:=UInt8.le_antisymm (Kg.1 h2) (Kg.1 h1);subst h3;simp[h1,kK x y]
theorem HT:∀ {x y:List UInt8},x<y↔fa x y<0
 | [],[]=>by simp[fa]
 | [],_::_=>by simp[fa]
 | _::_,[]=>by simp[fa]
 | a::x,b::y=>by
  rw[List.cons_lt_cons_iff,HT (x:=x) (y:=y)];simp only[fa]
  by_cases h1:a<b
  ·simp[h1]
  ·by_cases h2:b<a
   ·have:a≠b:=by rintro rfl;exact h1 h2
    simp[h1,h2,this]
   ·have h3:a=b:=UInt8.le_antisymm (Kg.1 h2) (Kg.1 h1);subst h3;simp[h1]
theorem sY(x y:List UInt8):leB x y=decide (fa x y≤0):=by
 have h:(x≤y)↔¬ (y<x):=Df;have ha:=eZ.jL x y;simp only[leB,decide_eq_decide,h,HT];omega
theorem jR{x y z:List UInt8}(h1:fa x y<0)(h2:fa y z<0):fa x z<0:=by
 have a1:=eZ.jL x y;have a2:=eZ.jL y z;have a3:=eZ.jL x z;have:=eZ.gt (a:=z) (b:=y) (d:=x) (by omega) (by omega);omega
def jU(l:List bc):Prop:=l.Pairwise fun a b=>fa (bE a) (bE b)<0
def jq(k:List UInt8):List bc→Option bc
 | []=>none
 | x::r=>if bE x=k then some x else jq k r
theorem mr{k:List UInt8}:∀ {l:List bc},(∀ x∈l,bE x≠k)→jq k l=none
 | [],_=>rfl
 | x::r,h=>by
  simp only[jq];rw[if_neg (h x (by simp))];exact mr fun y hy=>h y (by simp[hy])
theorem AY:∀ {a b:List bc},jU a→jU b→(∀ k,jq k a=jq k b)→a=b
 | [],[],_,_,_=>rfl
 | [],y::b,_,_,h=>by have:=h (bE y);simp[jq]at this
 | x::a,[],_,_,h=>by have:=h (bE x);simp[jq]at this
 | x::a,y::b,ha,hb,h=>by
  have ha':=ha;have hb':=hb;simp only[jU,dE]at ha hb
  have hk:bE x=bE y:=by
   rw[← kn];have a1:=eZ.jL (bE x) (bE y)
   by_cases h1:fa (bE x) (bE y)<0
   ·have e1:=h (bE x)
    have e2:jq (bE x) (y::b)=none:=mr fun z hz e=>by
     rcases aY.1 hz with rfl | hz
     ·rw[e,eZ.self]at h1;omega
     ·have:=jR h1 (hb.1 z hz);rw[e,eZ.self]at this;omega
    rw[e2]at e1;simp[jq]at e1
   ·by_cases h2:fa (bE y) (bE x)<0
    ·have e1:=h (bE y)
     have e2:jq (bE y) (x::a)=none:=mr fun z hz e=>by
      rcases aY.1 hz with rfl | hz
      ·rw[e,eZ.self]at h2;omega
      ·have:=jR h2 (ha.1 z hz);rw[e,eZ.self]at this;omega
     rw[e2]at e1;simp[jq]at e1
    ·omega
  have XW:x=y:=by
   have e1:=h (bE x);simp only[jq,if_true,hk]at e1;exact ky e1
  subst XW;congr 1;refine AY ha.2 hb.2 fun k=>?_
  by_cases hkx:bE x=k
  ·subst hkx;rw[mr fun z hz e=>?_,mr fun z hz e=>?_]
   ·have:=hb.1 z hz;rw[e,eZ.self]at this;omega
   ·have:=ha.1 z hz;rw[e,eZ.self]at this;omega
  ·have:=h k;simpa only[jq,if_neg hkx]using this
theorem qo{m:List (List UInt8×bc)}(k:List UInt8):∀ (ks:List (List UInt8)),(∀ k∈ks,∃ o,fP k m=some o∧bE o=k)→jq k (ks.filterMap fun k=>fP k m)=if k∈ks then fP k m else none
 | [],_=>by simp[jq]
 | x::ks,h=>by
  obtain⟨o,h1,h2⟩:=h x (by simp);have ih:=qo k ks fun y hy=>h y (by simp[hy]);simp only[jH,h1,jq,h2]
  by_cases hx:x=k
  ·subst hx;simp[h1]
  ·rw[if_neg hx,ih];have:¬ k=x:=fun e=>hx e.symm;simp[this]
theorem Dl{l:List bc}{k:List UInt8}{o:bc}(h:fP k (fj l)=some o):bE o=k:=(uZ (JW h)).1.symm
theorem u2{l:List bc}:∀ k∈gp l,∃ o,fP k (fj l)=some o∧bE o=k:=by
 intro k hk;obtain⟨o,ho⟩:=pj hk;exact⟨o,ho,Dl ho⟩
theorem CH(k:List UInt8)(l:List bc):jq k (current l)=fP k (fj l):=by
 have e:current l=(gp l).filterMap fun k=>fP k (fj l):=rfl;rw[e,qo k _ u2]
 by_cases h:k∈gp l
 ·rw[if_pos h]
 ·rw[if_neg h];have:k ∉ (fj l).map (·.1):=fun hm=>h ((jV l).mem_iff.2 hm);exact(AD.2 this).symm
theorem yV(l:List bc):(gp l).Pairwise fun a b=>fa a b<0:=by
 have h1:(gp l).Pairwise fun a b=>leB a b=true:=Yh (le:=leB) (fun a b c h1 h2=>by
  rw[sY,decide_eq_true_eq]at h1 h2 ⊢;have a1:=eZ.jL a b;have a2:=eZ.jL b c;have a3:=eZ.jL a c
  by_cases e1:fa a b=0
  ·rw[kn]at e1;subst e1;exact h2
  ·by_cases e2:fa b c=0
   ·rw[kn]at e2;subst e2;exact h1
   ·have:=jR (x:=a) (y:=b) (z:=c) (by omega) (by omega);omega) (fun a b=>by
  rw[sY,sY,fN,decide_eq_true_eq,decide_eq_true_eq];have:=eZ.jL a b;omega) _
 have h2:(gp l).Nodup:=(jV l).nodup_iff.2 (rz l);refine(h1.and h2).imp fun {a b} h=>?_;obtain⟨h3,h4⟩:=h;rw[sY,decide_eq_true_eq]at h3;have:fa a b≠0:=fun e=>h4 (kn.1 e);omega
theorem pairwise_filterMap{m:List (List UInt8×bc)}:∀ (ks:List (List UInt8)),(∀ k∈ks,∃ o,fP k m=some o∧bE o=k)→ks.Pairwise (fun a b=>fa a b<0)→jU (ks.filterMap fun k=>fP k m)
 | [],_,_=>by simp[jU]
 | x::ks,h,hp=>by
  obtain⟨o,h1,h2⟩:=h x (by simp);rw[dE]at hp;have h':∀ k∈ks,∃ o,fP k m=some o∧bE o=k:=fun y hy=>h y (by simp[hy]);have ih:=pairwise_filterMap ks h' hp.2;simp only[jH,h1];simp only[jU,dE]at ih ⊢;refine⟨fun z hz=>?_,ih⟩;obtain⟨k,hk,hz⟩:=List.mem_filterMap.1 hz;obtain⟨o',h3,h4⟩:=h' k hk;rw[h3]at hz;simp only[aa]at hz;subst hz;rw[h2,h4];exact hp.1 k hk
theorem GP(l:List bc):jU (current l):=pairwise_filterMap _ u2 (yV l)
def ox(o:bc):List bc→List bc
 | []=>[o]
 | x::r=>if fa (bE x) (bE o)<0 then x::ox o r else if bE x=bE o then(if Dk o x=true then o::r else x::r)else o::x::r
def nj(out:List bc)(o:bc):List bc:=if bE o=[]then out else ox o out
def pO(l:List bc):List bc:=if 1024<l.length then[]else l.foldl nj []
theorem xP{o z:bc}:∀ {l:List bc},z∈ox o l→z=o∨z∈l
 | [],h=>by simp[ox]at h;exact .inl h
 | x::r,h=>by
  simp only[ox]at h;split at h
  ·rcases aY.1 h with rfl | h
   ·exact .inr (by simp)
   ·rcases xP h with h | h
    ·exact .inl h
    ·exact .inr (by simp[h])
  ·split at h
   ·split at h
    ·rcases aY.1 h with h | h
     ·exact .inl h
     ·exact .inr (by simp[h])
    ·exact .inr h
   ·rcases aY.1 h with h | h
    ·exact .inl h
    ·exact .inr h
theorem H0{o:bc}:∀ {l:List bc},jU l→jU (ox o l)
 | [],_=>by simp[ox,jU]
 | x::r,h=>by
  have h0:=h;simp only[jU,dE]at h;have ha:=eZ.jL (bE x) (bE o);simp only[ox];split
  ·rename_i h1;have ih:=H0 (o:=o) (l:=r) h.2;simp only[jU,dE]at ih ⊢;refine⟨fun z hz=>?_,ih⟩;rcases xP hz with rfl | hz
   ·exact h1
   ·exact h.1 z hz
  ·rename_i h1;split
   ·rename_i h2;split
    ·simp only[jU,dE];exact⟨fun z hz=>by rw[← h2];exact h.1 z hz,h.2⟩
    ·exact h0
   ·rename_i h2;simp only[jU,dE]
    have h3:fa (bE o) (bE x)<0:=by
     have:fa (bE x) (bE o)≠0:=fun e=>h2 (kn.1 e);omega
    refine⟨fun z hz=>?_,h.1,h.2⟩;rcases aY.1 hz with rfl | hz
    ·exact h3
    ·exact jR h3 (h.1 z hz)
def better(was:Option bc)(o:bc):Option bc:=match was with
 | none=>some o
 | some w=>if Dk o w=true then some o else some w
theorem Ez{o:bc}(k:List UInt8):∀ {l:List bc},jU l→jq k (ox o l)=if bE o=k then better (jq k l) o else jq k l
 | [],_=>by simp only[ox,jq,better]
 | x::r,h=>by
  have h0:=h;simp only[jU,dE]at h;have ha:=eZ.jL (bE x) (bE o);simp only[ox];split
  ·rename_i h1;have ih:=Ez (o:=o) k h.2;simp only[jq]
   by_cases hx:bE x=k
   ·have:¬ bE o=k:=fun e=>by rw[e,hx,eZ.self]at h1;omega
    rw[if_pos hx,if_neg this,if_pos hx]
   ·rw[if_neg hx,ih,if_neg hx]
  ·rename_i h1;split
   ·rename_i h2
    by_cases hk:bE o=k
    ·have hx:bE x=k:=h2.trans hk;simp only[jq,hx,if_pos hk,better,if_true];split
     ·simp only[jq,if_pos hk]
     ·simp only[jq,if_pos hx]
    ·have hx:¬ bE x=k:=fun e=>hk (h2.symm.trans e);simp only[jq,if_neg hx,if_neg hk];split
     ·simp only[jq,if_neg hk]
     ·simp only[jq,if_neg hx]
   ·rename_i h2
    have h3:fa (bE o) (bE x)<0:=by
     have:fa (bE x) (bE o)≠0:=fun e=>h2 (kn.1 e);omega
    by_cases hk:bE o=k
    ·have hn:jq k (x::r)=none:=mr fun z hz e=>by
      rcases aY.1 hz with rfl | hz
      ·exact h2 (e.trans hk.symm)
      ·have:=jR h3 (h.1 z hz);rw[hk,e,eZ.self]at this;omega
     rw[if_pos hk,hn];simp only[jq,if_pos hk,better]
    ·rw[if_neg hk];simp only[jq,if_neg hk]
theorem Dp(m:List (List UInt8×bc))(o:bc)(k:List UInt8):fP k (fI m o)=if bE o=[]then fP k m else if bE o=k then better (fP k m) o else fP k m:=by
 simp only[fI];split
 ·rfl
 ·by_cases hk:bE o=k
  ·subst hk;rw[if_pos rfl];cases hg:fP (bE o) m with
   | none=>simp[oy,better]
   | some w =>
    simp only[better];split
    ·simp[oy]
    ·exact hg
  ·rw[if_neg hk];have hk':¬ k=bE o:=fun e=>hk e.symm;split
   ·rw[oy,if_neg hk']
   ·split
    ·rw[oy,if_neg hk']
    ·rfl
theorem tU:∀ (l:List bc) (out:List bc) (m:List (List UInt8×bc)),jU out→(∀ k,jq k out=fP k m)→jU (l.foldl nj out)∧∀ k,jq k (l.foldl nj out)=fP k (l.foldl fI m)
 | [],_,_,h1,h2=>⟨h1,h2⟩
 | o::l,out,m,h1,h2=>by
  simp only[cj];refine tU l _ _ ?_ fun k=>?_
  ·simp only[nj];split
   ·exact h1
   ·exact H0 h1
  ·rw[Dp];simp only[nj];split
   ·exact h2 k
   ·rw[Ez k h1,h2 k]
theorem DO(l:List bc):pO l=current l:=by
 refine AY ?_ (GP l) fun k=>?_
 ·simp only[pO];split
  ·simp[jU]
  ·exact(tU l [] [] (by simp[jU]) fun k=>by simp[jq,kE]).1
 ·rw[CH];simp only[pO,fj];split
  ·simp[jq,kE]
  ·exact(tU l [] [] (by simp[jU]) fun k=>by simp[jq,kE]).2 k
def ja(k:List UInt8):List bc→Nat
 | []=>0
 | y::r=>if Op.bytesLess (bE y) k=true then ja k r+1 else 0
theorem Aq(k:List UInt8):∀ l:List bc,ja k l≤l.length
 | []=>by simp[ja]
 | y::r=>by
  have:=Aq k r;simp only[ja,ag];split<;>omega
theorem Ey{o:bc}:∀ {l:List bc},(∀ y,l[ja (bE o) l]?=some y→bE y≠bE o)→ox o l=l.take (ja (bE o) l)++o::l.drop (ja (bE o) l)
 | [],_=>by simp[ox,ja]
 | y::r,h=>by
  simp only[ox,ja,kK,decide_eq_true_eq]at h ⊢
  by_cases h1:fa (bE y) (bE o)<0
  ·simp only[h1,if_true,cc,gu,qW,aJ]at h ⊢;rw[Ey h]
  ·simp only[h1,if_false,ax,aa,forall_eq',sg,C7,aG]at h ⊢;rw[if_neg h]
theorem Ex{o y:bc}:∀ {l:List bc},l[ja (bE o) l]?=some y→bE y=bE o→ox o l=if Dk o y=true then l.set (ja (bE o) l) o else l
 | [],h,_=>by simp at h
 | z::r,h,hk=>by
  simp only[ox,ja,kK,decide_eq_true_eq]at h ⊢
  by_cases h1:fa (bE z) (bE o)<0
  ·simp only[h1,if_true,cc,cW]at h ⊢;rw[Ex h hk];split<;>rfl
  ·simp only[h1,if_false,ax,aa,cU]at h ⊢;subst h;rw[if_pos hk]
theorem I0(out:List bc)(o:bc):(nj out o).length≤out.length+1:=by
 have key:∀ l:List bc,(ox o l).length≤l.length+1:=by
  intro l
  induction l with
  | nil=>simp[ox]
  | cons x l ih =>
   simp only[ox]
   repeat' split
   all_goals simp only[ag]at ih ⊢
   all_goals omega
 simp only[nj];split
 ·omega
 ·exact key out
theorem IZ{out:List bc}{o z:bc}(h:z∈nj out o):z=o∨z∈out:=by
 simp only[nj]at h;split at h
 ·exact .inr h
 ·exact xP h
end Go.Bt
