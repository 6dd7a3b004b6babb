/- A part of the proof of the statement of the last text of this claim; its conditions stand there. -/
import Derived.Test.YtkkjfegefckehaaGreatDoorB14
import Derived.Test.YtkkjfegefckehaaGreatDoorB18
set_option linter.all false

namespace Go.Bt
open Go Go.Pm
theorem ae1(c:UInt8):0≤(c.toNat:Int).fdiv (2^min 4 IntKind.u8.bits)∧(c.toNat:Int).fdiv (2^min 4 IntKind.u8.bits)<16 ∧
  ([48,49,50,51,52,53,54,55,56,57,97,98,99,100,101,102]:List UInt8).getD ((c.toNat:Int).fdiv (2^min 4 IntKind.u8.bits)).toNat 0=jF (c.toNat / 16):=by
 revert c;exact iw (by decide +kernel)
theorem ae0(c:UInt8):0≤IntKind.u8.wrap (((BitVec.ofInt IntKind.u8.bits (c.toNat:Int) &&& BitVec.ofInt IntKind.u8.bits 15).toNat:Nat):Int)∧IntKind.u8.wrap (((BitVec.ofInt IntKind.u8.bits (c.toNat:Int) &&& BitVec.ofInt IntKind.u8.bits 15).toNat:Nat):Int)<16 ∧
  ([48,49,50,51,52,53,54,55,56,57,97,98,99,100,101,102]:List UInt8).getD (IntKind.u8.wrap (((BitVec.ofInt IntKind.u8.bits (c.toNat:Int) &&& BitVec.ofInt IntKind.u8.bits 15).toNat:Nat):Int)).toNat 0=jF (c.toNat % 16):=by
 revert c;exact iw (by decide +kernel)
def cj(x:It):List UInt8 :=
 if x.kind=1 then x.text.flatMap eB else if x.kind=2 then 60::(Lib.itoa x.id++58::(x.text++[62]))else if x.kind=3 then 60::47::(Lib.itoa x.id++58::(x.text++[62]))
 else if x.kind=4 then 60::(Lib.itoa x.id++58::(x.text++[47,62]))else if x.kind=5 then 123::(x.text++[125])else[]
def format(f:List It):List UInt8×Int:=if bO f≠0 then([],bO f)else(f.flatMap cj,0)
theorem Fq(c:UInt8):(eB c).length≤4:=by
 simp only[eB]
 (repeat' split)<;>simp
theorem Gc(s:List UInt8):(s.flatMap eB).length≤4*s.length:=by
 induction s with
 | nil=>simp
 | cons c s ih =>
  have:=Fq c;simp only[cZ,List.length_append,ab];omega
theorem EW:∀ (rest pre:List It),bt pre rest=0→∀ x∈rest,1≤x.kind∧x.kind≤5:=by
 intro rest
 induction rest with
 | nil=>intro pre h x hx;simp at hx
 | cons y rest ih =>
  intro pre h x hx;simp only[bt]at h;split at h
  ·simp at h
  ·rename_i h1;split at h
   ·simp at h
   ·rcases aU.1 hx with rfl | hx
    ·simp only[bB]at h1
     by_cases k1:x.kind=1
     ·omega
     ·by_cases k5:x.kind=5
      ·omega
      ·by_cases k2:x.kind=2∨x.kind=4
       ·omega
       ·by_cases k3:x.kind=3
        ·omega
        ·simp[k1,k5,k2,k3]at h1
    ·exact ih _ h x hx
theorem tp{f:List It}(h:bO f=0):∀ x∈f,1≤x.kind∧x.kind≤5:=by
 simp only[bO]at h;split at h
 ·simp at h
 ·exact EW f [] h
theorem px(x:It)(h : -9223372036854775808≤x.id∧x.id≤9223372036854775807):(cj x).length≤4*x.text.length+30:=by
 have h1:=Lib.itoa_length_le x.id h.1 h.2;have h2:=Gc x.text;simp only[cj];split
 ·omega
 ·split
  ·simp;omega
  ·split
   ·simp;omega
   ·split
    ·simp;omega
    ·split
     ·simp;omega
     ·simp
theorem mG(f:List It)(hl:f.length<2^30)(ht:aM f<2^30)(hid:∀ x∈f,-9223372036854775808≤x.id∧x.id≤9223372036854775807):(format f).1.length<2^36:=by
 have key:∀ f:List It,(∀ x∈f,-9223372036854775808≤x.id∧x.id≤9223372036854775807)→(f.flatMap cj).length≤4*aM f+30*f.length:=by
  intro f
  induction f with
  | nil=>intro _;simp
  | cons x f ih =>
   intro h;have h1:=ih fun y hy=>h y (by simp[hy]);have h2:=px x (h x (by simp));simp only[cZ,List.length_append,aM,ab];omega
 have:=key f hid;simp only[format];split
 ·simp
 ·simp only;omega
theorem rj(c:UInt8):∀ l:List UInt8,-1≤Lib.indexByte l c:=by
 intro l
 induction l with
 | nil=>simp[Lib.indexByte]
 | cons a l ih =>
  simp only[Lib.indexByte];split
  ·omega
  ·split<;>omega
theorem uY{c:UInt8}:∀ {l:List UInt8},c ∉ l→Lib.indexByte l c = -1:=by
 intro l
 induction l with
 | nil=>intro _;simp[Lib.indexByte]
 | cons a l ih =>
  intro h
  have h1:(a==c)=false:=by
   simp only[aU,not_or]at h;simpa using fun e=>h.1 e.symm
  have h2:=ih (fun hm=>h (cY _ hm));simp[Lib.indexByte,h1,h2]
theorem pA{c:UInt8}{rest:List UInt8}:∀ {pre:List UInt8},c ∉ pre→Lib.indexByte (pre++c::rest) c=pre.length:=by
 intro pre
 induction pre with
 | nil=>intro _;simp[Lib.indexByte]
 | cons a l ih =>
  intro h
  have h1:(a==c)=false:=by
   simp only[aU,not_or]at h;simpa using fun e=>h.1 e.symm
  have h2:=ih (fun hm=>h (cY _ hm));simp only[aq,Lib.indexByte,h1,h2,aD,if_false,ab];have:((l.length:Int) == -1)=false:=by rw[beq_eq_false_iff_ne];omega
  rw[this];simp
theorem qo{c:UInt8}{l:List UInt8}(h:c∈l):0≤Lib.indexByte l c:=by
 induction l with
 | nil=>simp at h
 | cons a l ih =>
  have hl:=rj c l;simp only[Lib.indexByte]
  by_cases h1:a=c
  ·simp[h1]
  ·have h2:(a==c)=false:=by simpa using h1
   have h3:c∈l:=by
    rcases aU.1 h with h | h
    ·exact absurd h.symm h1
    ·exact h
   have h4:=ih h3;have h5:(Lib.indexByte l c == -1)=false:=by simp;omega
   simp[h2,h5];omega
structure En where
 source:List It
 target:List It
 bS:List UInt8
 next:List UInt8
 cQ:List UInt8
 cn:List UInt8
 created:Int
 origin:Int
def En.cells(e:En):List V:=[.sl 3 (e.source.map It.cells),.sl 3 (e.target.map It.cells),.s e.bS,.s e.next,.s e.cQ,.s e.cn,.i .i64 e.created,.i .i64 e.origin]
def named(s:List UInt8):Bool:=s==[]||isName s
def mA(e:En):Bool:=!(e.source.length==0)&&gq (fZ e.source e.target) e.source&&gq (gT e.source e.target) e.target
def cy(e:En):Int :=
 if bO e.source≠0 then bO e.source else if bO e.target≠0 then bO e.target else
 if mA e=false then 1 else
 if(parse e.bS).2.2≠0 then(parse e.bS).2.2 else if(parse e.next).2.2≠0 then(parse e.next).2.2 else
 if(named e.cQ&&named e.cn)=false then 4 else
 if e.created<0∨1073741824<e.created∨e.origin<1∨3<e.origin then 1 else 0
structure En.small (e:En):Prop where
 source:e.source.length<2^30
 gY:aM e.source<2^30
 target:e.target.length<2^30
 o8:aM e.target<2^30
 bS:e.bS.length<2^30
 next:e.next.length<2^30
 ids:∀ x∈e.source++e.target,-9223372036854775808≤x.id∧x.id≤9223372036854775807
def cf(e:En):List UInt8:=(format e.source).1++10::(e.bS++10::e.next)
def dL(e:En):List UInt8:=if cy e≠0 then[]else cf e
structure aJ where
 aA:bc
 kind:Int
 entry:En
 seen:List Int
def aJ.cells(o:aJ):List V:=o.aA.cells++[.i .i64 o.kind]++o.entry.cells++[.sl 1 (o.seen.map bj)]
structure aJ.small (o:aJ):Prop where
 entry:o.entry.small
 cQ:o.entry.cQ.length<2^30
 cn:o.entry.cn.length<2^30
 seen:o.seen.length<2^30
def asked(e:En):En:=⟨e.source,e.source,e.bS,e.next,[],[],0,1⟩
def looked(o:aJ):En:=if o.kind≠2 then o.entry else asked o.entry
def lT(e:En):Bool:=e.target.length==0&&(e.cQ==[]&&(e.cn==[]&&(e.created==0&&e.origin==0)))
theorem sB{o:aJ}(h:o.small):(looked o).small:=by
 simp only[looked];split
 ·exact h.entry
 ·exact⟨h.entry.source,h.entry.gY,h.entry.source,h.entry.gY,h.entry.bS,h.entry.next,fun x hx=>h.entry.ids x (by
   simp only[asked,List.mem_append]at hx ⊢;rcases hx with hx | hx<;>exact .inl hx)⟩
def eJ(v:List Int):List Int:=nc v []
def cw(o:aJ):Int :=
 if gf o.aA=false then 1 else
 if(o.kind≠1∧o.kind≠2)∨eJ o.seen≠o.seen then 1 else
 if o.seen.any (fun n=>decide (128<n))then 1 else
 if je o.seen o.aA.aS≠o.aA.number - 1 then 11 else
 if o.kind=2∧lT o.entry=false then 1 else cy (looked o)
def bE(o:aJ):List UInt8:=if cw o≠0 then[]else dL (looked o)
def ij(n:Int):UInt8:=UInt8.ofNat (n % 256).toNat
def qu(n:Int):List UInt8:=[ij (n / 256),ij n]
def BA(n:Int):List UInt8:=qu (n / 65536)++qu n
theorem dF(n:Int):(BA n).length=4:=rfl
theorem eu(n:Int):(qu n).length=2:=rfl
def de(s:List UInt8):List UInt8:=BA s.length++s
def bX(o:aJ):List UInt8 :=
 [1,ij o.kind]++BA o.aA.time++[ij o.aA.aS]++qu o.aA.number++[ij o.seen.length]++o.seen.flatMap qu ++
 de (format o.entry.source).1++de o.entry.bS++de o.entry.next ++
 (if o.kind=1 then de (format o.entry.target).1++de o.entry.cQ++de o.entry.cn++BA o.entry.created++[ij o.entry.origin]else[])
def encode(o:aJ):List UInt8×Int:=if cw o≠0 then([],cw o)else(bX o,0)
def fS:List UInt8→List UInt8→Int
 | [],[]=>0
 | [],_::_ => -1
 | _::_,[]=>1
 | a::x,b::y=>if a<b then -1 else if b<a then 1 else fS x y
def mP(a b:aJ):Int :=
 let n:=rz [eV a.aA.aS b.aA.aS,eV a.aA.number b.aA.number,eV a.aA.time b.aA.time,eV a.kind b.kind]
 if n≠0 then n else fS (encode a).1 (encode b).1
def l8(a b:aJ):Bool:=decide (0<iq a.aA b.aA)||(decide (iq a.aA b.aA=0)&&decide (0<mP a b))
structure Rb where
 b:List UInt8
 bad:Bool
def Rb.take(r:Rb)(n:Nat):List UInt8×Rb :=
 if r.b.length<n then(List.replicate (min n 4) 0,⟨[],true⟩)else(r.b.take n,⟨r.b.drop n,r.bad⟩)
def fc(l:List UInt8):Int:=l.foldl (fun a x=>a*256+x.toNat) 0
def Rb.number(r:Rb)(n:Nat):Int×Rb:=(fc (r.take n).1,(r.take n).2)
def Rb.text(r:Rb):List UInt8×Rb :=
 let p:=r.number 4
 if(p.2.b.length:Int)<p.1 then([],⟨p.2.b,true⟩)else p.2.take p.1.toNat
def Rb.fragment(r:Rb):List It×Rb :=
 let p:=r.text;let q:=parse p.1
 (q.1,⟨p.2.b,p.2.bad||q.2.2 != 0⟩)
def Rb.numbers:Nat→Rb→List Int×Rb
 | 0,r=>([],r)
 | n+1,r=>let p:=r.number 2;let q:=Rb.numbers n p.2;(p.1::q.1,q.2)
def Mp:En:=⟨[],[],[],[],[],[],0,0⟩
def xe:aJ:=⟨⟨0,0,0⟩,0,Mp,[]⟩
def gx(b:List UInt8):aJ×Int×Rb :=
 let v:=(Rb.mk b false).number 1;let k:=v.2.number 1;let t:=k.2.number 4;let f:=t.2.number 1;let m:=f.2.number 2;let c:=m.2.number 1;let s:=Rb.numbers c.1.toNat c.2;let src:=s.2.fragment;let pv:=src.2.text;let nx:=pv.2.text
 if k.1=1 then
  let tg:=nx.2.fragment;let au:=tg.2.text;let pr:=au.2.text;let cr:=pr.2.number 4;let og:=cr.2.number 1
  (⟨⟨t.1,f.1,m.1⟩,k.1,⟨src.1,tg.1,pv.1,nx.1,au.1,pr.1,cr.1,og.1⟩,s.1⟩,v.1,og.2)
 else(⟨⟨t.1,f.1,m.1⟩,k.1,⟨src.1,[],pv.1,nx.1,[],[],0,0⟩,s.1⟩,v.1,nx.2)
def decode(b:List UInt8):aJ×Int :=
 let p:=gx b
 if p.2.2.bad=true∨0<p.2.2.b.length∨p.2.1≠1 then(xe,12)else
 if(encode p.1).2≠0∨(encode p.1).1≠b then(xe,12)else(p.1,0)
def gu(m:List (List UInt8×aJ))(o:aJ):List (List UInt8×aJ) :=
 if bE o=[]then m else match gz (bE o) m with
  | none=>ln m (bE o) o
  | some was=>if l8 o was then ln m (bE o) o else m
def fA(l:List aJ):List (List UInt8×aJ):=if 1024<l.length then[]else l.foldl gu []
def leB(x y:List UInt8):Bool:=decide (x≤y)
def current(l:List aJ):List aJ:=(((fA l).map (·.1)).mergeSort leB).filterMap fun k=>gz k (fA l)
def cq(l:List aJ):List En:=((current l).filter fun o=>o.kind==1).map (·.entry)
section
variable {α β:Type} [DecidableEq α]
theorem OU(l:List (α×β))(a:α)(b:β):(ln l a b).map (·.1)=if(gz a l).isSome=true then l.map (·.1)else l.map (·.1)++[a]:=by
 induction l with
 | nil=>simp[ln,nw]
 | cons p l ih =>
  simp only[ln,mQ]
  by_cases h:a=p.1
  ·simp[h]
  ·rw[if_neg h,ay,ih,if_neg h];split<;>rename_i h2
   ·simp
   ·simp
theorem F6{a:α}:∀ {l:List (α×β)},gz a l=none↔a ∉ l.map (·.1):=by
 intro l
 induction l with
 | nil=>simp[nw]
 | cons p l ih =>
  rw[mQ]
  by_cases h:a=p.1
  ·simp[h]
  ·simp only[if_neg h,ih,ay,aU,not_or];exact⟨fun h2=>⟨h,h2⟩,fun h2=>h2.2⟩
theorem F5{a:α}{l:List (α×β)}(h:a∈l.map (·.1)):∃ b,gz a l=some b:=by
 cases hg:gz a l with
 | none=>exact absurd h (F6.1 hg)
 | some b=>exact⟨b,rfl⟩
theorem Cj{l:List (α×β)}{a:α}{b:β}(h:(l.map (·.1)).Nodup):((ln l a b).map (·.1)).Nodup:=by
 rw[OU];split
 ·exact h
 ·rename_i h2;have h3:a ∉ l.map (·.1):=fun hm=>h2 (by obtain⟨b,hb⟩:=F5 hm;simp[hb]);rw[ru];refine⟨h,by simp,?_⟩;intro x hx y hy;simp only[aU,bD,or_false]at hy;subst hy;exact fun e=>h3 (e▸hx)
theorem F7{a:α}{b:β}:∀ {l:List (α×β)},gz a l=some b→(a,b)∈l:=by
 intro l
 induction l with
 | nil=>intro h;simp[nw]at h
 | cons p l ih =>
  intro h;rw[mQ]at h;split at h
  ·rename_i e;simp only[aa]at h;subst e;subst h;exact lh ..
  ·exact cY _ (ih h)
end
theorem Ep{m:List (List UInt8×aJ)}{o:aJ}(h:(m.map (·.1)).Nodup):((gu m o).map (·.1)).Nodup:=by
 simp only[gu];split
 ·exact h
 ·split
  ·exact Cj h
  ·split
   ·exact Cj h
   ·exact h
theorem I1(m:List (List UInt8×aJ))(o:aJ):(gu m o).length≤m.length+1:=by
 simp only[gu];split
 ·omega
 ·split
  ·exact Jc _ _ _
  ·split
   ·exact Jc _ _ _
   ·omega
theorem MR(l:List aJ):∀ (m:List (List UInt8×aJ)),(m.map (·.1)).Nodup→((l.foldl gu m).map (·.1)).Nodup:=by
 induction l with
 | nil=>intro m h;exact h
 | cons o l ih=>intro m h;exact ih _ (Ep h)
theorem TQ(l:List aJ):∀ (m:List (List UInt8×aJ)),(l.foldl gu m).length≤m.length+l.length:=by
 induction l with
 | nil=>intro m;simp
 | cons o l ih =>
  intro m;have h1:=ih (gu m o);have h2:=I1 m o;simp only[bd,ab];omega
theorem wq(l:List aJ):((fA l).map (·.1)).Nodup:=by
 simp only[fA];split
 ·simp
 ·exact MR l [] (by simp)
theorem AT(l:List aJ):(fA l).length≤1024:=by
 simp only[fA];split
 ·simp
 ·have:=TQ l [];simp at this;omega
theorem Gz{m:List (List UInt8×aJ)}{o:aJ}{p:List UInt8×aJ}(h:p∈gu m o):p=(bE o,o)∨p∈m:=by
 have wu:∀ {m:List (List UInt8×aJ)},p∈ln m (bE o) o→p=(bE o,o)∨p∈m:=by
  intro m
  induction m with
  | nil=>intro h;simp[ln]at h;exact .inl h
  | cons q l ih =>
   intro h;simp only[ln]at h;split at h
   ·rcases aU.1 h with h | h
    ·exact .inl h
    ·exact .inr (cY _ h)
   ·rcases aU.1 h with h | h
    ·exact .inr (h▸lh ..)
    ·rcases ih h with h | h
     ·exact .inl h
     ·exact .inr (cY _ h)
 simp only[gu]at h;split at h
 ·exact .inr h
 ·split at h
  ·exact wu h
  ·split at h
   ·exact wu h
   ·exact .inr h
theorem TP(l:List aJ):∀ (m:List (List UInt8×aJ)) (p:List UInt8×aJ),p∈l.foldl gu m→(p.1=bE p.2∧p.2∈l)∨p∈m:=by
 induction l with
 | nil=>intro m p h;exact .inr h
 | cons o l ih =>
  intro m p h;rcases ih _ p h with h | h
  ·exact .inl ⟨h.1,cY _ h.2⟩
  ·rcases Gz h with rfl | h
   ·exact .inl ⟨rfl,lh ..⟩
   ·exact .inr h
theorem tP{l:List aJ}{p:List UInt8×aJ}(h:p∈fA l):p.1=bE p.2∧p.2∈l:=by
 simp only[fA]at h;split at h
 ·simp at h
 ·rcases TP l [] p h with h | h
  ·exact h
  ·simp at h
def iZ(l:List aJ):List (List UInt8):=((fA l).map (·.1)).mergeSort leB
theorem mw(l:List aJ):(iZ l).Perm ((fA l).map (·.1)):=List.mergeSort_perm _ _
theorem tq{l:List aJ}{k:List UInt8}(h:k∈iZ l):∃ o,gz k (fA l)=some o:=F5 ((mw l).mem_iff.1 h)
theorem tZ(l:List aJ):(iZ l).length≤1024:=by
 have:=AT l;rw[(mw l).length_eq];simpa using this
theorem mU{l:List aJ}{o:aJ}(h:o∈current l):o∈l:=by
 simp only[current,No]at h;obtain⟨k,_,hk⟩:=h;exact(tP (F7 hk)).2
theorem vh(l:List aJ):(current l).length≤1024:=bZ (afw _ _) (tZ l)
theorem HW(l:List aJ):(cq l).length≤1024:=by
 have:=vh l;simp only[cq,List.length_map];exact bZ (gS _ _) this
end Go.Bt
namespace Go.Bt
open Go.Pm
structure cc where
 number:Int
 clock:Int
 ops:List aJ
 log:List UInt8
 synced:Int
 down:Bool
def cc.cells(o:cc):List V:=[.i .i64 o.number,.i .i64 o.clock,.sl 13 (o.ops.map aJ.cells),.sl 1 (al o.log),.i .i64 o.synced,.b o.down]
def cc.zero:cc:=⟨0,0,[],[],0,false⟩
structure cc.small (o:cc):Prop where
 ops:∀ x∈o.ops,x.small
 len:o.ops.length<2^30
 log:o.log.length<2^30
def kE(n:Int):cc×Int:=if n<0∨8≤n then(.zero,1)else(⟨n,0,[],[],0,false⟩,0)
def da(a b:aJ):Int:=rz [eV a.aA.aS b.aA.aS,eV a.aA.number b.aA.number]
end Go.Bt
namespace Go.Bt
open Go Go.Pm
def By(n:Int):UInt8:=UInt8.ofNat (IntKind.u8.wrap n).toNat
theorem Bx(n:Int):((By n).toNat:Int)=IntKind.u8.wrap n:=by
 have h:IntKind.u8.wrap n=n % 256:=by
  simp only[IntKind.wrap,IntKind.bits,IntKind.signed];rfl
 rw[By,h];have h1:(n % 256).toNat<256:=by omega
 simp only[mJ];omega
def lz(n:Int):List UInt8:=[By (n.fdiv (2^24)),By (n.fdiv (2^16)),By (n.fdiv (2^8)),By n]
def mr(h:Int)(x:UInt8):Int :=
 IntKind.u32.wrap (IntKind.u32.wrap ((BitVec.ofInt IntKind.u32.bits h ^^^ BitVec.ofInt IntKind.u32.bits (IntKind.u32.wrap (x.toNat:Int))).toNat:Int)*16777619)
def jN(h:Int)(b:List UInt8):Int:=b.foldl mr h
def AK(p:List UInt8):List UInt8:=lz (jN (jN 2166136261 (lz (IntKind.u32.wrap (p.length:Int)))) p)
def oE(log p:List UInt8):List UInt8×Int :=
 if 65536<p.length∨4194304<log.length+8+p.length then([],3)else(log++lz (IntKind.u32.wrap (p.length:Int))++AK p++p,0)
theorem iM(n:Int):(lz n).length=4:=rfl
def Iz(a b:En):Bool:=gq a.source b.source&&(gq a.target b.target&&(a.bS==b.bS&&(a.next==b.next&&(a.cQ==b.cQ&&(a.cn==b.cn&&(a.created==b.created&&a.origin==b.origin))))))
theorem DV{a b:En}:Iz a b=true↔a=b:=by
 obtain⟨a1,a2,a3,a4,a5,a6,a7,a8⟩:=a;obtain⟨b1,b2,b3,b4,b5,b6,b7,b8⟩:=b;simp[Iz,vV]
def nP:List En→List En→Bool
 | [],[]=>true
 | a::x,b::y=>Iz a b&&nP x y
 | _,_=>false
theorem v7:∀ {a b:List En},nP a b=true↔a=b
 | [],[]=>by simp[nP]
 | a::x,b::y=>by simp[nP,DV,v7 (a:=x) (b:=y)]
 | [],b::y=>by simp[nP]
 | a::x,[]=>by simp[nP]
theorem QG:∀ {a b:List En},nP a b=true→a.length=b.length:=fun h=>by rw[v7.1 h]
def place(x n:Int):Int:=if x.tmod n<0 then x.tmod n+n else x.tmod n
theorem kP{x n:Int}(h:0<n):0≤place x n∧place x n<n:=by
 have h1:=Int.tmod_lt_of_pos x h
 have h2 : - n<x.tmod n:=Int.neg_lt_of_neg_lt (by
  have:=Int.tmod_lt_of_pos (-x) h;rw[Int.neg_tmod]at this;omega)
 simp only[place];split<;>omega
def LJ:List (List UInt8):=[[83,97,118,101],[120],[114,101,100]]
def LF:List (List UInt8):=[[97],[98],[99],[100]]
def AG(a b:List UInt8):En:=⟨[⟨1,a,0⟩],[⟨1,b,0⟩],[],[],[],[],0,1⟩
def cJ(s t:Int):En:=AG (LJ.getD (place s 3).toNat []) (LF.getD (place t 4).toNat [])
theorem Cf:∀ a∈LJ,∀ b∈LF,cy (AG a b)=0∧(format [⟨1,a,0⟩]).1.length≤8∧(format [⟨1,b,0⟩]).1.length≤8∧a.length≤8∧b.length≤8:=by decide +kernel
theorem mT(s t:Int):LJ.getD (place s 3).toNat []∈LJ∧LF.getD (place t 4).toNat []∈LF:=by
 have h1:=kP (x:=s) (n:=3) (by decide);have h2:=kP (x:=t) (n:=4) (by decide);constructor
 ·rw[List.getD_eq_getElem?_getD,aw (show(place s 3).toNat<LJ.length by simp only[LJ,ab,ah];omega)];exact cK _
 ·rw[List.getD_eq_getElem?_getD,aw (show(place t 4).toNat<LF.length by simp only[LF,ab,ah];omega)];exact cK _
theorem mS(s t:Int):cy (cJ s t)=0:=(Cf _ (mT s t).1 _ (mT s t).2).1
theorem jt(s t:Int):(cJ s t).small:=by
 obtain⟨_,_,_,h3,h4⟩:=Cf _ (mT s t).1 _ (mT s t).2;refine⟨by simp[cJ,AG],?_,by simp[cJ,AG],?_,by simp[cJ,AG],by simp[cJ,AG],fun x hx=>?_⟩
 ·simp only[cJ,AG,aM];omega
 ·simp only[cJ,AG,aM];omega
 ·simp only[cJ,AG,aq,ak,aU,bD,or_false]at hx;rcases hx with rfl | rfl<;>exact⟨by simp,by simp⟩
def EM(tm ofc no:Int)(e:En)(sn:List Int):aJ:=⟨⟨tm,ofc,no⟩,1,e,sn⟩
theorem N8{tm ofc no:Int}{s t:Int}{sn:List Int}(h1:gf ⟨tm,ofc,no⟩=true)(h2:eJ sn=sn)(h3:∀ n∈sn,n≤128)(h4:je sn ofc=no - 1):cw (EM tm ofc no (cJ s t) sn)=0:=by
 have e3:sn.any (fun n=>decide (128<n))=false:=by
  rw[Q2];intro n hn;have:=h3 n hn;simp;omega
 simp only[cw,EM,h1,h2,e3,h4,looked];simp[mS]
theorem C9{tm ofc no:Int}{s t:Int}{sn:List Int}(h:sn.length≤8):(EM tm ofc no (cJ s t) sn).small :=
 ⟨jt s t,by simp[EM,cJ,AG],by simp[EM,cJ,AG],by simp only[EM];omega⟩
theorem J5{tm ofc no:Int}{s t:Int}{sn:List Int}(h:sn.length≤8):(bX (EM tm ofc no (cJ s t) sn)).length≤92:=by
 obtain⟨_,h1,h2,_,_⟩:=Cf _ (mT s t).1 _ (mT s t).2
 have h3:(sn.flatMap qu).length=2*sn.length:=by
  clear h
  induction sn with
  | nil=>rfl
  | cons a r ih=>simp only[cZ,List.length_append,eu,ih,ab];omega
 simp only[bX,EM,cJ,AG,de,if_true,List.length_append,dF,eu,ab,ah,h3];omega
theorem Vj{tm ofc no:Int}{s t:Int}{sn:List Int}(h:sn.length≤8):(bX (EM tm ofc no (cJ s t) sn)).length≤60000:=bZ (J5 h) (by decide)
def ni(p:List UInt8):List UInt8:=lz (IntKind.u32.wrap (p.length:Int))++AK p++p
theorem ig(p:List UInt8):(ni p).length=8+p.length:=by simp only[ni,AK,List.length_append,iM]
theorem Nh{log p:List UInt8}(h1:p.length≤60000)(h2:log.length≤4000000):oE log p=(log++ni p,0):=by
 rw[oE,if_neg (by omega),ni];simp
theorem DU{x:aJ}(h:cw x=0):encode x=(bX x,0):=by simp[encode,h]
def fR(o:cc)(x:aJ)(m:Nat):cc :=
 ⟨o.number,if o.clock<x.aA.time then x.aA.time else o.clock,o.ops.take m++x::o.ops.drop m,o.log++ni (bX x),o.synced,o.down⟩
def eY:aJ:=⟨⟨0,0,0⟩,0,⟨[],[],[],[],[],[],0,0⟩,[]⟩
theorem Pv:∀ c:UInt8,sq c=true→c≠92∧c≠60∧c≠123:=iw (by decide +kernel)
theorem Xg:∀ c:UInt8,jZ (jF (c.toNat / 16)) (jF (c.toNat % 16))=c∧(ji (jF (c.toNat / 16))).2=true∧(ji (jF (c.toNat % 16))).2=true:=iw (by decide +kernel)
theorem Xh:∀ c:UInt8,sq c=false→c≠10→c≠9→¬ (c=92∨c=60∨c=123)→(c==13||l0 c==1)=true:=iw (by decide +kernel)
theorem pC(a d:UInt8)(r:List UInt8):dp (a::d::r)=if d=92∨d=60∨d=123 then(d,2,true)else if d=110 then(10,2,true)else if d=116 then(9,2,true)else if d=120 then
  (if r.length<2 then(0,0,false)else(jZ (r.getD 0 0) (r.getD 1 0),4,(ji (r.getD 0 0)).2&&(ji (r.getD 1 0)).2&&(jZ (r.getD 0 0) (r.getD 1 0)==13||l0 (jZ (r.getD 0 0) (r.getD 1 0))==1)))else(0,0,false):=by
 simp only[dp,ab,aE,aT];rw[if_neg (by omega)];have e:(r.length+1+1<4)=(r.length<2):=by rw[eq_iff_iff];omega
 simp only[e]
theorem zz(d:UInt8)(r:List UInt8):aX (92::d::r)=(⟨1,[(dp (92::d::r)).1],0⟩,(dp (92::d::r)).2.1,(dp (92::d::r)).2.2):=by
 simp only[aX,aE,if_true]
theorem Gh(c:UInt8)(rest:List UInt8):aX (eB c++rest)=(⟨1,[c],0⟩,((eB c).length:Int),true):=by
 unfold eB;split
 ·rename_i h;have hn:=Pv c h;simp[aX,hn,h]
 ·rename_i h;have h:sq c=false:=by simpa using h
  split
  ·rename_i h1;subst h1;simp only[aq,ak,zz,pC];rfl
  ·split
   ·rename_i h1 h2;subst h2;simp only[aq,ak,zz,pC];rfl
   ·split
    ·rename_i h1 h2 h3;simp only[aq,ak,zz,pC,if_pos h3];rfl
    ·rename_i h1 h2 h3;have he:=Xg c;have hc:=Xh c h h1 h2 h3;simp only[aq,ak,zz,pC];rw[if_neg (by decide),if_neg (by decide),if_neg (by decide),if_pos (by decide),if_neg (by simp)];simp only[aE,aT,he.1,he.2.1,he.2.2,hc,gW];rfl
theorem Be:∀ c:UInt8,jg c=true→c≠62∧c≠125∧c≠58∧c≠47∧c≠32∧gJ c=false:=iw (by decide +kernel)
theorem PQ:∀ c:UInt8,(97≤c.toNat∧c.toNat≤122)→jg c=true:=iw (by decide +kernel)
theorem DZ:∀ c:UInt8,gJ c=false→c≠62∧c≠125∧c≠60∧c≠123:=iw (by decide +kernel)
theorem r4:∀ c:UInt8,dP c=true→c≠62∧c≠58∧c≠47∧gJ c=false:=iw (by decide +kernel)
theorem Du{s:List UInt8}(h:isName s=true):∀ c∈s,jg c=true:=by
 cases s with
 | nil=>simp[isName]at h
 | cons c r =>
  simp only[isName,aC,decide_eq_true_eq,bI]at h;intro x hx;rcases aU.1 hx with rfl | hx
  ·exact PQ _ h.1.2
  ·exact h.2 x hx
theorem Gf(t rest:List UInt8)(h:isName t=true):aX (123::(t++125::rest))=(⟨5,t,0⟩,(t.length:Int)+2,true):=by
 have hi:Lib.indexByte (123::(t++125::rest)) 125=((123::t:List UInt8).length:Int):=by
  have:=pA (c:=125) (rest:=rest) (pre:=123::t) (by
   intro hm;rcases aU.1 hm with hm | hm
   ·exact absurd hm (by decide)
   ·exact(Be _ (Du h _ hm)).2.1 rfl)
  simpa using this
 have e:((123::(t++125::rest)).take (Lib.indexByte (123::(t++125::rest)) 125).toNat).drop 1=t:=by
  rw[hi];simp
 simp only[aX,aE,e,h];rw[if_neg (by decide),if_neg (by decide),if_pos (by decide),if_neg (by rw[hi];simp;omega),hi];simp;omega
theorem vg{c:UInt8}{a b:List UInt8}(h:c ∉ a):cutAt (a++c::b) c=(a,b,true):=by
 simp only[cutAt,pA h];rw[if_pos (by omega)];simp
def d3(n:Nat):List UInt8:=if n<10 then[UInt8.ofNat (48+n)]else if n<100 then[UInt8.ofNat (48+n / 10),UInt8.ofNat (48+n % 10)]else[UInt8.ofNat (48+n / 100),UInt8.ofNat (48+n / 10 % 10),UInt8.ofNat (48+n % 10)]
theorem B8(n:Nat)(h:n<1000):Lib.itoa (n:Int)=d3 n:=by
 unfold Lib.itoa;rw[if_neg (by omega)];simp only[an,d3]
 by_cases h1:n<10
 ·rw[if_pos h1,Lib.decDigits_one h1]
 ·rw[if_neg h1]
  by_cases h2:n<100
  ·rw[if_pos h2,Lib.decDigits_two h1 h2]
  ·rw[if_neg h2,Lib.decDigits,dif_neg h1,Lib.decDigits_two (by omega) (by omega)];simp only[aq,ak];have e:n / 10 / 10=n / 100:=by omega
   rw[e]
theorem aaI:∀ n:Fin 1000,1≤n.val→numberOf (d3 n.val)=((n.val:Int),true)∧(d3 n.val).all dP=true∧(d3 n.val)≠[]:=by decide +kernel
theorem uU(n:Int)(h:1≤n∧n≤999):numberOf (Lib.itoa n)=(n,true)∧(∀ c∈Lib.itoa n,dP c=true)∧Lib.itoa n≠[]:=by
 obtain⟨m,rfl⟩:∃ m:Nat,n=m:=⟨n.toNat,by omega⟩;have:=aaI ⟨m,by omega⟩ (by show 1≤m;omega);rw[B8 m (by omega)];exact⟨this.1,fun c hc=>bI.1 this.2.1 c hc,this.2.2⟩
theorem Bs{s:List UInt8}(h:db s=true):(∀ c∈s,gJ c=false)∧s≠[]∧(s.getD (s.length - 1) 0).toNat≠47:=by
 simp only[db,jz,aC,decide_eq_true_eq,bI,cm]at h;exact⟨h.1.2,by intro e;simp[e]at h,h.1.1.2⟩
theorem xS(t rest:List UInt8)(h:∀ c∈t,c≠62):aX (60::(t++62::rest))=((iL t).1,(t.length:Int)+2,(iL t).2):=by
 have hi:Lib.indexByte (60::(t++62::rest)) 62=((60::t:List UInt8).length:Int):=by
  have:=pA (c:=62) (rest:=rest) (pre:=60::t) (by
   intro hm;rcases aU.1 hm with hm | hm
   ·exact absurd hm (by decide)
   ·exact h _ hm rfl)
  simpa using this
 have e:((60::(t++62::rest)).take (Lib.indexByte (60::(t++62::rest)) 62).toNat).drop 1=t:=by
  rw[hi];simp
 simp only[aX,aE,e];rw[if_neg (by decide),if_pos (by decide),if_neg (by rw[hi];simp;omega),hi];simp;omega
theorem zn{s:List UInt8}{c:UInt8}(h:s.getD 0 0≠c):hasPrefix s [c]=false:=by
 cases s with
 | nil=>simp[hasPrefix]
 | cons a s=>simp only[aE]at h;simp[hasPrefix,h]
theorem Ip{s:List UInt8}{c:UInt8}(h:s.getD (s.length - 1) 0≠c):hasSuffix s [c]=false:=by
 simp only[hasSuffix,ab,ah,aK]
 by_cases hl:1≤s.length
 ·have hd:s.drop (s.length - 1)=[s.getD (s.length - 1) 0]:=by
   rw[eU (by omega)];have e:s.length - 1+1=s.length:=by omega
   rw[e];simp[List.getD_eq_getElem?_getD,show s.length - 1<s.length by omega]
  rw[hd];simpa using fun _=>h
 ·simp;omega
theorem E5(s:List UInt8)(c:UInt8):hasSuffix (s++[c]) [c]=true:=by
 simp[hasSuffix]
theorem Dt(n:Int)(h:1≤n∧n≤999)(t:List UInt8)(c:UInt8)(hc:dP c=false):(Lib.itoa n++t).getD 0 0≠c:=by
 obtain⟨_,h2,h3⟩:=uU n h;cases hd:Lib.itoa n with
 | nil=>exact absurd hd h3
 | cons a s =>
  simp only[aq,aE];intro e;have:=h2 a (by rw[hd];simp);rw[e,hc]at this;simp at this
theorem QH(id:Int)(t rest:List UInt8)(hid:1≤id∧id≤999)(h:db t=true):aX (60::(Lib.itoa id++58::(t++62::rest)))=(⟨2,t,id⟩,((Lib.itoa id).length:Int)+t.length+3,true):=by
 obtain⟨h1,h2,h3⟩:=uU id hid;obtain⟨c1,c2,c3⟩:=Bs h
 have:=xS (Lib.itoa id++58::t) rest (by
  intro c hc;rcases List.mem_append.1 hc with hc | hc
  ·exact(r4 c (h2 c hc)).1
  ·rcases aU.1 hc with rfl | hc
   ·decide
   ·exact(DZ c (c1 c hc)).1)
 simp only[List.append_assoc,aq]at this;rw[this];have hp:hasPrefix (Lib.itoa id++58::t) [47]=false:=zn (Dt id hid _ 47 (by decide));have hc:cutAt (Lib.itoa id++58::t) 58=(Lib.itoa id,t,true):=vg fun hm=>(r4 _ (h2 _ hm)).2.1 rfl;have hs:hasSuffix t [47]=false:=Ip fun e=>c3 (by rw[e];rfl);simp[iL,hp,hc,hs,h1,h];omega
theorem MZ(id:Int)(t rest:List UInt8)(hid:1≤id∧id≤999)(h:db t=true):aX (60::(Lib.itoa id++58::(t++47::62::rest)))=(⟨4,t,id⟩,((Lib.itoa id).length:Int)+t.length+4,true):=by
 obtain⟨h1,h2,h3⟩:=uU id hid;obtain⟨c1,c2,c3⟩:=Bs h
 have:=xS (Lib.itoa id++58::(t++[47])) rest (by
  intro c hc;rcases List.mem_append.1 hc with hc | hc
  ·exact(r4 c (h2 c hc)).1
  ·rcases aU.1 hc with rfl | hc
   ·decide
   ·rcases List.mem_append.1 hc with hc | hc
    ·exact(DZ c (c1 c hc)).1
    ·simp only[aU,bD,or_false]at hc;subst hc;decide)
 simp only[List.append_assoc,aq,ak]at this;rw[this];have hp:hasPrefix (Lib.itoa id++58::(t++[47])) [47]=false:=zn (Dt id hid _ 47 (by decide));have hc:cutAt (Lib.itoa id++58::(t++[47])) 58=(Lib.itoa id,t++[47],true):=vg fun hm=>(r4 _ (h2 _ hm)).2.1 rfl;have hs:hasSuffix (t++[47]) [47]=true:=E5 t 47;simp[iL,hp,hc,hs,h1,h];omega
theorem M0(id:Int)(t rest:List UInt8)(hid:1≤id∧id≤999)(h:isName t=true):aX (60::47::(Lib.itoa id++58::(t++62::rest)))=(⟨3,t,id⟩,((Lib.itoa id).length:Int)+t.length+4,true):=by
 obtain⟨h1,h2,h3⟩:=uU id hid
 have:=xS (47::(Lib.itoa id++58::t)) rest (by
  intro c hc;rcases aU.1 hc with rfl | hc
  ·decide
  rcases List.mem_append.1 hc with hc | hc
  ·exact(r4 c (h2 c hc)).1
  ·rcases aU.1 hc with rfl | hc
   ·decide
   ·exact(Be c (Du h c hc)).1)
 simp only[List.append_assoc,aq]at this;rw[this];have hp:hasPrefix (47::(Lib.itoa id++58::t)) [47]=true:=by simp[hasPrefix]
 have hc:cutAt (Lib.itoa id++58::t) 58=(Lib.itoa id,t,true):=vg fun hm=>(r4 _ (h2 _ hm)).2.1 rfl;simp[iL,hp,hc,h1,h];omega
def wid(x:It):Nat:=if x.kind=1 then x.text.length else 1
def total(f:List It):Nat:=(f.map wid).sum
def zW(m:List (Int×It))(x:It):List (Int×It):=if tagged x then ln m x.id x else m
def pV(f:List It):List (Int×It):=f.foldl zW []
def oI(f:List It)(t:List UInt8):Rd:=⟨f,t,total f+t.length,pV f⟩
def closed(f:List It)(t:List UInt8):List It:=if t=[]then f else f++[⟨1,t,0⟩]
theorem jj(a b:List It):total (a++b)=total a+total b:=by simp[total]
theorem pJ(x:It):total [x]=wid x:=by simp[total]
theorem tY(f:List It)(x:It):pV (f++[x])=zW (pV f) x:=by simp[pV]
theorem Jl{m:List (Int×It)}{t:List UInt8}{i:Int}:zW m ⟨1,t,i⟩=m:=by simp[zW,tagged]
theorem Ew(f:List It)(t:List UInt8):pV (closed f t)=pV f:=by
 simp only[closed];split
 ·rfl
 ·rw[tY,Jl]
theorem nf(f:List It)(t:List UInt8):total (closed f t)=total f+t.length:=by
 simp only[closed];split
 ·rename_i h;simp[h]
 ·rw[jj,pJ];simp[wid]
theorem s7(f:List It)(t:List UInt8):(closed f t).length=f.length+(if 0<t.length then 1 else 0):=by
 simp only[closed];split
 ·rename_i h;simp[h]
 ·rename_i h;have:0<t.length:=dK.2 h;simp[this]
theorem wX(f:List It)(t:List UInt8):(gv (oI f t)).f=closed f t:=by
 by_cases h:t=[]
 ·subst h;rfl
 ·have h1:0<t.length:=dK.2 h;have e:gv (oI f t)=⟨f++[⟨1,t,0⟩],[],total f+t.length,pV f⟩:=if_pos h1;rw[e,closed,if_neg h]
theorem B1{α:Type}{p:List α→Prop}(h0:p [])(h1:∀ l x,p l→p (l++[x]))(l:List α):p l:=by
 have:∀ l:List α,p l.reverse:=by
  intro l
  induction l with
  | nil=>exact h0
  | cons x l ih=>rw[List.reverse_cons];exact h1 _ _ ih
 have:=this l.reverse
 rwa [List.reverse_reverse]at this
def jJ(f:List It)(t:List UInt8)(x:It):Prop:=512<f.length+(if 0<t.length then 1 else 0)+(if x.kind≠1∨t.length=0 then 1 else 0)∨1024<total f+t.length+1
instance (f:List It) (t:List UInt8) (x:It):Decidable (jJ f t x):=by unfold jJ;infer_instance
theorem wZ(f:List It)(t:List UInt8)(c:UInt8):kr (oI f t) ⟨1,[c],0⟩=if jJ f t ⟨1,[c],0⟩then(3,oI f t)else(0,oI f (t++[c])):=by
 simp only[kr,tagged,mo,jJ,oI];simp only[bne_self_eq_false,gV,aD,if_false,List.length_append,ab,ah,if_true];rfl
theorem wY(f:List It)(t:List UInt8)(x:It)(hx:x.kind≠1):kr (oI f t) x =
  if tagged x&&wN (oI f t) x then(7,oI f t)else if jJ f t x then(3,oI f t)else(0,oI (closed f t++[x]) []):=by
 simp only[kr,mo,jJ,hx,if_false]
 have e:yH (gv (o0 (oI f t) x)) x=oI (closed f t++[x]) []:=by
  have hw:wid x=1:=by simp[wid,hx]
  simp only[oI,jj,pJ,nf,tY,Ew,hw,ah,bC]
  by_cases h:t=[]
  ·subst h;rfl
  ·have h1:0<t.length:=dK.2 h;have e:gv (o0 ⟨f,t,total f+t.length,pV f⟩ x)=⟨f++[⟨1,t,0⟩],[],total f+t.length+1,zW (pV f) x⟩:=if_pos h1;rw[e,closed,if_neg h];rfl
 rw[e];rfl
theorem jq{x:It}{p:Option It}(h:x.kind≠1):bB p x=bB none x:=by simp only[bB,h,if_false]
theorem py{x:It}(h:bB none x=true):cI x=tagged x:=by
 simp only[bB]at h
 by_cases k1:x.kind=1
 ·simp[cI,tagged,k1]
 ·by_cases k5:x.kind=5
  ·simp[cI,tagged,k5]
  ·by_cases k2:x.kind=2∨x.kind=4
   ·rcases k2 with k2 | k2<;>simp[cI,tagged,k2]
   ·by_cases k3:x.kind=3
    ·simp[cI,tagged,k3]
    ·simp[k1,k5,k2,k3]at h
theorem dN:∀ (f pre:List It) (x:It),bt pre (f++[x])=0↔bt pre f=0∧bB (pre++f).getLast? x=true∧(cI x&&!fits (pre++f) x)=false:=by
 intro f
 induction f with
 | nil =>
  intro pre x;simp only[ak,bf,bt]
  by_cases h1:bB pre.getLast? x=false
  ·simp[h1]
  ·rw[if_neg h1];have h1:bB pre.getLast? x=true:=by simpa using h1
   by_cases h2:(cI x&&!fits pre x)=true
   ·simp[h2]
   ·rw[if_neg h2];have h2:(cI x&&!fits pre x)=false:=by simpa using h2
    simp[h1,h2]
 | cons y f ih =>
  intro pre x;simp only[aq,bt]
  by_cases h1:bB pre.getLast? y=false
  ·simp[h1]
  ·rw[if_neg h1,if_neg h1]
   by_cases h2:(cI y&&!fits pre y)=true
   ·simp[h2]
   ·rw[if_neg h2,if_neg h2,ih];simp
theorem ly:∀ (f pre:List It),bt pre f=0→∀ y∈f,bB none y=true:=by
 intro f
 induction f with
 | nil=>simp
 | cons x f ih =>
  intro pre h y hy;simp only[bt]at h;split at h
  ·simp at h
  ·rename_i h1;split at h
   ·simp at h
   ·rcases aU.1 hy with rfl | hy
    ·have h1:bB pre.getLast? y=true:=by simpa using h1
     by_cases k1:y.kind=1
     ·simp only[bB,k1,if_true,aC]at h1 ⊢;exact⟨h1.1,trivial⟩
     ·rw[← jq (p:=pre.getLast?) k1];exact h1
    ·exact ih _ h y hy
theorem xY{f:List It}{t:List UInt8}{x:It}(hf:bt [] f=0)(hx:bB none x=true):(tagged x&&wN (oI f t) x)=(cI x&&!fits (closed f t) x):=by
 rw[py hx]
 by_cases S1:tagged x=true
 ·rw[S1,dM,dM];have Q6:cI x=true:=by rw[py hx];exact S1
  have hfc:fits (closed f t) x=fits f x:=by
   simp only[closed];split
   ·rfl
   ·simp[fits,fa,cI]
  rw[hfc];simp only[wN,oI]
  have key:∀ f:List It,bt [] f=0→(match gz x.id (pV f)with | some b=>x.kind != 3||b.kind != 2||dm b.text != x.text | none=>false)=!fits f x:=by
   intro f
   induction f using B1 with
   | h0=>intro _;simp[pV,nw,fits]
   | h1 f y ih =>
    intro h;rw[dN]at h;obtain⟨h1,h2,h3⟩:=h;have ih:=ih h1;simp only[ak]at h2 h3
    have hy:bB none y=true:=by
     by_cases k1:y.kind=1
     ·simp only[bB,k1,if_true,aC]at h2 ⊢;exact⟨h2.1,trivial⟩
     ·rw[← jq (p:=f.getLast?) k1];exact h2
    have e:fits (f++[y]) x=(fits f x&&!fa x y):=by simp[fits]
    rw[tY,e];simp only[zW]
    by_cases ZC:tagged y=true
    ·rw[if_pos ZC,rW];have hyi:cI y=true:=by rw[py hy];exact ZC
     by_cases hi:x.id=y.id
     ·rw[if_pos hi];rw[hyi,dM,dC]at h3;have eb:fa x y=(x.kind != 3||y.kind != 2||!(dm y.text==x.text)):=by simp[fa,hyi,hi]
      rw[eb]
      by_cases hb:(x.kind != 3||y.kind != 2||!(dm y.text==x.text))=true
      ·simp only[bne]at hb ⊢;rw[hb];simp
      ·have hb:(x.kind != 3||y.kind != 2||!(dm y.text==x.text))=false:=by simpa using hb
       have js:fits f x=true:=by
        simp only[fits,bI,cm]at h3 ⊢;intro z hz;have hz3:=h3 z hz;simp only[oq,bne_eq_false_iff_eq]at hb;simp only[fa]at hz3 ⊢;have:(y.kind != 3)=true:=by rw[hb.1.2];decide
        rw[this,Bool.true_or,Bool.true_or,gW]at hz3;rw[hi,hz3,gV]
       rw[js];simp only[bne]at hb ⊢;rw[hb];simp
     ·rw[if_neg hi,ih]
      have eb:fa x y=false:=by
       have:(y.id != x.id)=true:=by simpa using fun e=>hi e.symm
       simp[fa,this]
      rw[eb];simp
    ·rw[if_neg ZC,ih];have hyi:cI y=false:=by rw[py hy];simpa using ZC
     have eb:fa x y=false:=by simp[fa,hyi]
     rw[eb];simp
  exact key f hf
 ·have h0:tagged x=false:=by simpa using S1
  simp[h0]
theorem Aq:∀ (l:List It) (a:Nat),a+total l<2^63→eZ (a:Int) l=((a+total l:Nat):Int):=by
 intro l
 induction l with
 | nil=>intro a _;simp[eZ,total]
 | cons x l ih =>
  intro a h;have ht:total (x::l)=wid x+total l:=by simp[total]
  rw[ht]at h ⊢;have hw:width x=(wid x:Int):=by simp only[width,wid];split<;>rfl
  have:eZ (a:Int) (x::l)=eZ ((a+wid x:Nat):Int) l:=by
   simp only[eZ,bd,hw];rw[IntWalk.i64_in _ (by omega)];rfl
  rw[this,ih (a+wid x) (by omega)];congr 1;omega
theorem Yu(x:It):wid x≤x.text.length+1:=by simp only[wid];split<;>omega
theorem Je(f:List It):total f≤aM f+f.length:=by
 induction f with
 | nil=>simp[total,aM]
 | cons x f ih =>
  have ht:total (x::f)=wid x+total f:=by simp[total]
  have:=Yu x;simp only[aM,ab,ht];omega
theorem na{f:List It}(h:total f<2^63):bO f=0↔f.length≤512∧total f≤1024∧bt [] f=0:=by
 have e:=Aq f 0 (by omega);simp only[aK,iI]at e;simp only[bO];rw[show eZ 0 f=(total f:Int)from e];split
 ·constructor
  ·intro h;simp at h
  ·rintro⟨h1,h2,_⟩;omega
 ·constructor
  ·intro h;exact⟨by omega,by omega,h⟩
  ·intro h;exact h.2.2
theorem oW:∀ (a pre b:List It),bt pre (a++b)=0↔bt pre a=0∧bt (pre++a) b=0:=by
 intro a
 induction a with
 | nil=>intro pre b;simp[bt]
 | cons x a ih =>
  intro pre b;simp only[aq,bt]
  by_cases h1:bB pre.getLast? x=false
  ·simp[h1]
  ·rw[if_neg h1,if_neg h1]
   by_cases h2:(cI x&&!fits pre x)=true
   ·simp[h2]
   ·rw[if_neg h2,if_neg h2,ih];simp
theorem ri{pre:List It}{x:It}{b:List It}:bt pre (x::b)=0↔bB pre.getLast? x=true∧(cI x&&!fits pre x)=false∧bt (pre++[x]) b=0:=by
 simp only[bt]
 by_cases h1:bB pre.getLast? x=false
 ·simp[h1]
 ·rw[if_neg h1];have h1:bB pre.getLast? x=true:=by simpa using h1
  by_cases h2:(cI x&&!fits pre x)=true
  ·simp[h2]
  ·rw[if_neg h2];have h2:(cI x&&!fits pre x)=false:=by simpa using h2
   simp[h1,h2]
theorem CP{w tail:List UInt8}(hw:w≠[]){x:It}{s s':Rd}(he:aX (w++tail)=(x,(w.length:Int),true))(ha:kr s x=(0,s'))(n:Nat)(at':Int):
  jl (n+1) s (w++tail) at'=jl n s' tail (at'+w.length):=by
 cases w with
 | nil=>exact absurd rfl hw
 | cons a w =>
  simp only[aq]at he;simp only[aq,jl,he,ha];simp
theorem IW(c:UInt8):eB c≠[]:=by
 simp only[eB]
 (repeat' split)<;>simp
theorem JU:∀ (t:List UInt8) (f:List It) (u rest:List UInt8) (n:Nat) (at':Int),f.length+1≤512→total f+u.length+t.length≤1024→(t.flatMap eB++rest).length<n →
  ∃ m fe,rest.length<m∧jl n (oI f u) (t.flatMap eB++rest) at'=jl m (oI f (u++t)) rest fe:=by
 intro t
 induction t with
 | nil=>intro f u rest n at' _ _ h;exact⟨n,at',by simpa using h,by simp⟩
 | cons c t ih =>
  intro f u rest n at' h1 h2 h3;obtain⟨n,rfl⟩:∃ k,n=k+1:=⟨n - 1,by omega⟩;simp only[cZ,List.append_assoc,List.length_append,ab]at h2 h3 ⊢;have hl:0<(eB c).length:=dK.2 (IW c)
  have Z9:kr (oI f u) ⟨1,[c],0⟩=(0,oI f (u++[c])):=by
   rw[wZ,if_neg];simp only[jJ,ne_eq,not_true,false_or]
   by_cases h0:u.length=0
   ·rw[if_neg (by omega),if_pos h0];omega
   ·rw[if_pos (by omega),if_neg h0];omega
  rw[CP (IW c) (Gh c _) Z9];obtain⟨m,fe,h4,h5⟩:=ih f (u++[c]) rest n (at'+(eB c).length) h1 (by simp;omega) (by rw[List.length_append];omega);exact⟨m,fe,h4,by rw[h5];simp⟩
theorem Gg{x:It}(hk:x.kind≠1)(h:bB none x=true)(rest:List UInt8):aX (cj x++rest)=(x,((cj x).length:Int),true):=by
 obtain⟨k,t,i⟩:=x;simp only at hk;simp only[bB,hk,if_false]at h
 by_cases k5:k=5
 ·subst k5;simp only[if_true,aC,beq_iff_eq]at h;obtain⟨h,rfl⟩:=h;simp only[cj];rw[if_neg (by decide),if_neg (by decide),if_neg (by decide),if_neg (by decide),if_pos (by decide)];simp only[aq,List.append_assoc,ak];rw[Gf t rest h];simp;omega
 ·rw[if_neg k5]at h
  by_cases k2:k=2∨k=4
  ·rw[if_pos k2]at h;simp only[aC,decide_eq_true_eq]at h;rcases k2 with rfl | rfl
   ·simp only[cj];rw[if_neg (by decide),if_pos (by decide)];simp only[aq,List.append_assoc,ak];rw[QH i t rest ⟨h.1.2,h.2⟩ h.1.1];simp;omega
   ·simp only[cj];rw[if_neg (by decide),if_neg (by decide),if_neg (by decide),if_pos (by decide)];simp only[aq,List.append_assoc,ak];rw[MZ i t rest ⟨h.1.2,h.2⟩ h.1.1];simp;omega
  ·rw[if_neg k2]at h
   by_cases k3:k=3
   ·subst k3;simp only[if_true,aC,decide_eq_true_eq]at h;simp only[cj];rw[if_neg (by decide),if_neg (by decide),if_pos (by decide)];simp only[aq,List.append_assoc,ak];rw[M0 i t rest ⟨h.1.2,h.2⟩ h.1.1];simp;omega
   ·simp[k3]at h
theorem eE(f:List It):closed f []=f:=by simp[closed]
theorem PA:∀ (rest f:List It) (t:List UInt8) (n:Nat) (at':Int),bt [] (closed f t++rest)=0→(closed f t++rest).length≤512→total (closed f t++rest)≤1024 →
  (rest.flatMap cj).length<n→jl n (oI f t) (rest.flatMap cj) at'=(closed f t++rest,0,0):=by
 intro rest
 induction rest with
 | nil =>
  intro f t n at' _ _ _ h;obtain⟨n,rfl⟩:∃ k,n=k+1:=⟨n - 1,by omega⟩;simp only[jH,jl,wX,bf]
 | cons x rest ih =>
  intro f t n at' h1 h2 h3 h4;have h1':=h1;rw[oW,ri]at h1;obtain⟨e1,e2,e3,e4⟩:=h1;simp only[ak]at e2 e3 e4;simp only[cZ,List.length_append,ab,jj]at h2 h3 h4 ⊢;have ZJ:total (x::rest)=wid x+total rest:=by simp[total]
  by_cases hk:x.kind=1
  ·
   have hx:x=⟨1,x.text,0⟩∧x.text≠[]∧t=[]:=by
    obtain⟨k,u,i⟩:=x;simp only at hk;subst hk;simp only[bB,if_true,aC,beq_iff_eq,cm,beq_eq_false_iff_ne]at e2;obtain⟨⟨e5,e6⟩,e7⟩:=e2;refine⟨by rw[e6],e5,?_⟩
    by_cases ht:t=[]
    ·exact ht
    ·simp[closed,ht]at e7
   obtain⟨tC,BR,rfl⟩:=hx;have hw:wid x=x.text.length:=by simp[wid,hk]
   have Tm:cj x=x.text.flatMap eB:=by simp[cj,hk]
   rw[eE]at h2 h3 h1' ⊢;rw[Tm]at h4 ⊢;obtain⟨m,fe,h5,h6⟩:=JU x.text f [] (rest.flatMap cj) n at' (by omega) (by simp only[ah];omega) (by rw[List.length_append];omega);have aQ:closed f x.text=f++[x]:=by simp only[closed,if_neg BR];rw[← tC]
   rw[h6,ak,ih f x.text m fe (by rw[aQ];simpa using h1') (by rw[aQ];simp;omega) (by rw[aQ,jj,jj,pJ];omega) h5,aQ];simp
  ·have hw:wid x=1:=by simp[wid,hk]
   have qU:bB none x=true:=by rw[← jq (p:=(closed f t).getLast?) hk];exact e2
   obtain⟨n,rfl⟩:∃ k,n=k+1:=⟨n - 1,by omega⟩
   have iQ:cj x≠[]:=by
    intro e;have:=Gg hk qU [];rw[e]at this;have h0:(aX ([]++[])).2.1=1:=by decide
    rw[this]at h0;simp at h0
   have Z9:kr (oI f t) x=(0,oI (closed f t++[x]) []):=by
    rw[wY _ _ _ hk,xY (by
     have:=e1;simp only[closed]at this;split at this
     ·exact this
     ·rw[dN]at this;exact this.1) qU,e3,if_neg (by simp),if_neg]
    simp only[jJ];rw[s7]at h2;rw[nf]at h3;simp only[hk,ne_eq,not_false_eq_true,true_or,if_true];omega
   rw[CP iQ (Gg hk qU _) Z9];have hl:0<(cj x).length:=dK.2 iQ;have:=ih (closed f t++[x]) [] n (at'+(cj x).length) (by rw[eE];simpa using h1') (by rw[eE];simp;omega) (by rw[eE,jj,jj,pJ];omega) (by omega);rw[this,eE];simp
theorem yP{f:List It}(hs:total f<2^63)(h:bO f=0):parse (format f).1=(f,0,0):=by
 have h':=(na hs).1 h;have e:(format f).1=f.flatMap cj:=by simp[format,h]
 have:=PA f [] [] ((format f).1.length+1) 0 (by rw[eE];exact h'.2.2) (by rw[eE];exact h'.1) (by rw[eE];exact h'.2.1) (by rw[e];omega);rw[eE]at this;simp only[parse];rw[e]at this ⊢;exact this
theorem F2:∀ p:UInt8,(ji p).2=true→jF (ji p).1.toNat=p:=iw (by decide +kernel)
theorem T3:∀ b:UInt8,(b==13||l0 b==1)=true→eB b=[92,120,jF (b.toNat / 16),jF (b.toNat % 16)]:=iw (by decide +kernel)
theorem E4(p q:UInt8):(jZ p q).toNat / 16=(ji p).1.toNat∧(jZ p q).toNat % 16=(ji q).1.toNat:=by
 have h1:=zj p;have h2:=zj q
 have:(jZ p q).toNat=16*(ji p).1.toNat+(ji q).1.toNat:=by
  simp only[jZ,mJ];omega
 omega
theorem pR:∀ c:UInt8,dP c=true→∃ i:Fin 10,c=UInt8.ofNat (48+i.val)∧((c.toNat:Int) - 48)=i.val:=by
 intro c h;refine⟨⟨c.toNat - 48,by simp[dP]at h;omega⟩,?_,?_⟩
 ·simp only[dP,aC,decide_eq_true_eq]at h;have:48+(c.toNat - 48)=c.toNat:=by omega
  simp[this]
 ·simp only[dP,aC,decide_eq_true_eq]at h;simp only;omega
theorem Xt:∀ i:Fin 10,i.val≠0→d3 i.val=[UInt8.ofNat (48+i.val)]:=by decide +kernel
theorem Xr:∀ i j:Fin 10,i.val≠0→d3 (10*i.val+j.val)=[UInt8.ofNat (48+i.val),UInt8.ofNat (48+j.val)]:=by decide +kernel
theorem Xq:∀ i j k:Fin 10,i.val≠0→d3 (100*i.val+10*j.val+k.val)=[UInt8.ofNat (48+i.val),UInt8.ofNat (48+j.val),UInt8.ofNat (48+k.val)]:=by decide +kernel
theorem ph{a:List UInt8}(h:(numberOf a).2=true):a=Lib.itoa (numberOf a).1∧1≤(numberOf a).1∧(numberOf a).1≤999:=by
 simp only[numberOf]at h ⊢
 by_cases h1:a.length<1∨3<a.length∨a.getD 0 0=48
 ·rw[if_pos h1]at h;simp at h
 ·rw[if_neg h1]at h ⊢
  by_cases h2:a.all dP=true
  ·rw[if_pos h2]
   match a,h1,h2 with
   | [x],h1,h2 =>
    simp only[kM,Ef,gW]at h2;obtain⟨i,hi,hv⟩:=pR x h2
    have hz:i.val≠0:=by
     intro e;apply h1;right;right;rw[aE,hi,e];rfl
    have e:dZ 0 [x]=(i.val:Int):=by simp[dZ];omega
    simp only[e];rw[B8 _ (by omega),Xt i hz,← hi];exact⟨rfl,by omega,by omega⟩
   | [x,y],h1,h2 =>
    simp only[kM,Ef,gW,aC]at h2;obtain⟨i,hi,hv⟩:=pR x h2.1;obtain⟨j,hj,hw⟩:=pR y h2.2
    have hz:i.val≠0:=by
     intro e;apply h1;right;right;rw[aE,hi,e];rfl
    have e:dZ 0 [x,y]=((10*i.val+j.val:Nat):Int):=by simp[dZ];omega
    simp only[e];rw[B8 _ (by omega),Xr i j hz,← hi,← hj];exact⟨rfl,by omega,by omega⟩
   | [x,y,z],h1,h2 =>
    simp only[kM,Ef,gW,aC]at h2;obtain⟨i,hi,hv⟩:=pR x h2.1;obtain⟨j,hj,hw⟩:=pR y h2.2.1;obtain⟨k,hk,hu⟩:=pR z h2.2.2
    have hz:i.val≠0:=by
     intro e;apply h1;right;right;rw[aE,hi,e];rfl
    have e:dZ 0 [x,y,z]=((100*i.val+10*j.val+k.val:Nat):Int):=by simp[dZ];omega
    simp only[e];rw[B8 _ (by omega),Xq i j k hz,← hi,← hj,← hk];exact⟨rfl,by omega,by omega⟩
   | [],h1,_=>simp at h1
   | _::_::_::_::_,h1,_=>simp at h1
  ·rw[if_neg h2]at h;simp at h
theorem oc{s:List UInt8}{c:UInt8}(h:(cutAt s c).2.2=true):s=(cutAt s c).1++c::(cutAt s c).2.1:=by
 simp only[cutAt]at h ⊢
 by_cases h0:0≤Lib.indexByte s c
 ·rw[if_pos h0]
  have key:∀ s:List UInt8,0≤Lib.indexByte s c→s=s.take (Lib.indexByte s c).toNat++c::s.drop ((Lib.indexByte s c).toNat+1):=by
   intro s
   induction s with
   | nil=>intro h;simp[Lib.indexByte]at h
   | cons a s ih =>
    intro h;have hl:=rj c s
    by_cases ha:a=c
    ·subst ha;simp[Lib.indexByte]
    ·have WO:(a==c)=false:=by simpa using ha
     simp only[Lib.indexByte,WO,aD,if_false]at h ⊢
     by_cases h1:(Lib.indexByte s c == -1)=true
     ·rw[if_pos h1]at h;omega
     ·rw[if_neg h1]at h ⊢;have h2:Lib.indexByte s c ≠ -1:=by simpa using h1
      have h3:(Lib.indexByte s c+1).toNat=(Lib.indexByte s c).toNat+1:=by omega
      rw[h3];simp only[cC,gN,aq];rw[← ih (by omega)]
  exact key s h0
 ·rw[if_neg h0]at h;simp at h
theorem E6{s:List UInt8}{c:UInt8}(h:hasSuffix s [c]=true):s=s.take (s.length - 1)++[c]:=by
 simp only[hasSuffix,aC,decide_eq_true_eq,beq_iff_eq,ab,ah,aK]at h;rw[← h.2,List.take_append_drop]
theorem E8{s:List UInt8}{c:UInt8}(h:hasPrefix s [c]=true):s=c::s.drop 1:=by
 simp only[hasPrefix,aC,decide_eq_true_eq,beq_iff_eq,ab,ah,aK]at h;cases s with
 | nil=>simp at h
 | cons a s=>simp at h;simp[h]
theorem O0{t:List UInt8}(h:(iL t).2=true):(iL t).1.kind≠1∧bB none (iL t).1=true∧cj (iL t).1=60::(t++[62]):=by
 unfold iL at h ⊢;dsimp only at h ⊢;cases hp:hasPrefix t [47]with
 | true =>
  simp only[hp,if_true,gU,gV,aD,if_false]at h ⊢
  by_cases hc:((cutAt (t.drop 1) 58).2.2&&(numberOf (cutAt (t.drop 1) 58).1).2)=true
  ·rw[if_pos hc]at h ⊢;dsimp only at h ⊢;simp only[aC]at hc;obtain⟨n1,n2,n3⟩:=ph hc.2;have e1:=oc hc.1;have e2:=E8 hp;refine⟨by decide,?_,?_⟩
   ·simp only[bB];rw[if_neg (by decide),if_neg (by decide),if_neg (by decide),if_pos (by decide)];simp only[h,n2,n3,decide_true,gW]
   ·simp only[cj];rw[if_neg (by decide),if_neg (by decide),if_pos (by decide),← n1]
    conv=>rhs;rw[e2,e1]
    simp
  ·rw[if_neg hc]at h;simp at h
 | false =>
  simp only[hp,aD,if_false,jS,dM]at h ⊢;cases hs:hasSuffix (cutAt t 58).2.1 [47]with
  | true =>
   simp only[hs,if_true]at h ⊢
   by_cases hc:((cutAt t 58).2.2&&(numberOf (cutAt t 58).1).2)=true
   ·rw[if_pos hc]at h ⊢;dsimp only at h ⊢;simp only[aC]at hc;obtain⟨n1,n2,n3⟩:=ph hc.2;have e1:=oc hc.1;have e2:=E6 hs;have h:db ((cutAt t 58).2.1.take ((cutAt t 58).2.1.length - 1))=true:=by simpa using h
    refine⟨by decide,?_,?_⟩
    ·simp only[bB];rw[if_neg (by decide),if_neg (by decide),if_pos (.inr (by decide))];simp only[h,n2,n3,decide_true,gW]
    ·simp only[cj];rw[if_neg (by decide),if_neg (by decide),if_neg (by decide),if_pos (by decide),← n1]
     conv=>rhs;rw[e1]
     conv=>rhs;rw[e2]
     simp
   ·rw[if_neg hc]at h;simp at h
  | false =>
   simp only[hs,aD,if_false]at h ⊢
   by_cases hc:((cutAt t 58).2.2&&(numberOf (cutAt t 58).1).2)=true
   ·rw[if_pos hc]at h ⊢;dsimp only at h ⊢;simp only[aC]at hc;obtain⟨n1,n2,n3⟩:=ph hc.2;have e1:=oc hc.1;have h:db (cutAt t 58).2.1=true:=by simpa using h
    refine⟨by decide,?_,?_⟩
    ·simp only[bB];rw[if_neg (by decide),if_neg (by decide),if_pos (.inl (by decide))];simp only[h,n2,n3,decide_true,gW]
    ·simp only[cj];rw[if_neg (by decide),if_pos (by decide),← n1]
     conv=>rhs;rw[e1]
     simp
   ·rw[if_neg hc]at h;simp at h
theorem vf{s:List UInt8}(hs:s≠[])(h:(aX s).2.2=true):
  ((∃ c,(aX s).1=⟨1,[c],0⟩∧s=eB c++s.drop (aX s).2.1.toNat) ∨
   ((aX s).1.kind≠1∧bB none (aX s).1=true∧s=cj (aX s).1++s.drop (aX s).2.1.toNat)):=by
 simp only[aX]at h ⊢
 by_cases c92:s.getD 0 0=92
 ·left;rw[if_pos c92]at h ⊢;simp only at h ⊢;refine⟨_,rfl,?_⟩
  match s,hs,c92,h with
  | [a],_,c92,h=>simp[dp]at h
  | a::d::r,_,c92,h =>
   simp only[aE]at c92;subst c92
   by_cases d1:d=92∨d=60∨d=123
   ·have e:dp (92::d::r)=(d,2,true):=by simp only[pC,if_pos d1]
    rw[e];rcases d1 with rfl | rfl | rfl<;>simp[show eB 92=[92,92]by decide,show eB 60=[92,60]by decide,show eB 123=[92,123]by decide]
   ·by_cases d2:d=110
    ·subst d2;have e:dp (92::110::r)=(10,2,true):=by simp only[pC];rfl
     rw[e];simp[show eB 10=[92,110]by decide]
    ·by_cases d3:d=116
     ·subst d3;have e:dp (92::116::r)=(9,2,true):=by simp only[pC];rfl
      rw[e];simp[show eB 9=[92,116]by decide]
     ·by_cases d4:d=120
      ·subst d4
       match r,h with
       | [],h=>simp[dp]at h
       | [_],h=>simp[dp]at h
       | p::q::r,h =>
        have e:dp (92::120::p::q::r)=(jZ p q,4,(ji p).2&&(ji q).2&&(jZ p q==13||l0 (jZ p q)==1)):=by
         simp only[pC];rw[if_neg (by decide),if_neg (by decide),if_neg (by decide),if_pos (by decide),if_neg (by simp)];simp only[aE,aT]
        rw[e]at h ⊢;simp only[aC]at h;have hp:=E4 p q;rw[T3 _ h.2,hp.1,hp.2,F2 p h.1.1,F2 q h.1.2];simp
      ·have e:dp (92::d::r)=(0,0,false):=by simp only[pC,d1,d2,d3,d4,if_false]
       rw[e]at h;simp at h
  | [],hs,_,_=>exact absurd rfl hs
 ·rw[if_neg c92]at h ⊢
  by_cases wm:s.getD 0 0=60
  ·right;rw[if_pos wm]at h ⊢
   by_cases hi:Lib.indexByte s 62<0
   ·rw[if_pos hi]at h;simp at h
   ·rw[if_neg hi]at h ⊢;simp only at h ⊢;have hc:(cutAt s 62).2.2=true:=by simp only[cutAt];rw[if_pos (by omega)]
    have e1:=oc hc;have ec1:(cutAt s 62).1=s.take (Lib.indexByte s 62).toNat:=by simp only[cutAt];rw[if_pos (by omega)]
    have ec2:(cutAt s 62).2.1=s.drop ((Lib.indexByte s 62).toNat+1):=by simp only[cutAt];rw[if_pos (by omega)]
    obtain⟨t1,t2,t3⟩:=O0 h;refine⟨t1,t2,?_⟩;have hp:=oz s 62 (by rw[wm];decide) hi
    have e2:s.take (Lib.indexByte s 62).toNat=60::(s.take (Lib.indexByte s 62).toNat).drop 1:=by
     cases s with
     | nil=>exact absurd rfl hs
     | cons a s =>
      simp only[aE]at wm;subst wm;obtain⟨m,hm⟩:∃ m,(Lib.indexByte (60::s) 62).toNat=m+1:=⟨(Lib.indexByte (60::s) 62).toNat - 1,by omega⟩;rw[hm];simp
    rw[t3];have e3:(Lib.indexByte s 62+1).toNat=(Lib.indexByte s 62).toNat+1:=by omega
    rw[e3]
    conv=>lhs;rw[e1,ec1,ec2,e2]
    simp
  ·rw[if_neg wm]at h ⊢
   by_cases nJ:s.getD 0 0=123
   ·right;rw[if_pos nJ]at h ⊢
    by_cases hi:Lib.indexByte s 125<0∨isName ((s.take (Lib.indexByte s 125).toNat).drop 1)=false
    ·rw[if_pos hi]at h;simp at h
    ·rw[if_neg hi]at h ⊢;simp only[not_or]at hi;simp only;have hn:isName ((s.take (Lib.indexByte s 125).toNat).drop 1)=true:=by simpa using hi.2
     have hc:(cutAt s 125).2.2=true:=by simp only[cutAt];rw[if_pos (by omega)]
     have e1:=oc hc;have ec1:(cutAt s 125).1=s.take (Lib.indexByte s 125).toNat:=by simp only[cutAt];rw[if_pos (by omega)]
     have ec2:(cutAt s 125).2.1=s.drop ((Lib.indexByte s 125).toNat+1):=by simp only[cutAt];rw[if_pos (by omega)]
     have hp:=oz s 125 (by rw[nJ];decide) hi.1;refine⟨by decide,?_,?_⟩
     ·simp only[bB];rw[if_neg (by decide),if_pos (by decide),hn];rfl
     ·have e2:s.take (Lib.indexByte s 125).toNat=123::(s.take (Lib.indexByte s 125).toNat).drop 1:=by
       cases s with
       | nil=>exact absurd rfl hs
       | cons a s =>
        simp only[aE]at nJ;subst nJ;obtain⟨m,hm⟩:∃ m,(Lib.indexByte (123::s) 125).toNat=m+1:=⟨(Lib.indexByte (123::s) 125).toNat - 1,by omega⟩;rw[hm];simp
      simp only[cj];rw[if_neg (by decide),if_neg (by decide),if_neg (by decide),if_neg (by decide),if_pos (by decide)];have e3:(Lib.indexByte s 125+1).toNat=(Lib.indexByte s 125).toNat+1:=by omega
      rw[e3]
      conv=>lhs;rw[e1,ec1,ec2,e2]
      simp
   ·left;rw[if_neg nJ]at h ⊢;simp only at h ⊢;cases s with
    | nil=>exact absurd rfl hs
    | cons a s =>
     simp only[aE]at h;refine⟨a,by simp,?_⟩;simp[eB,h]
theorem Pz:∀ (n:Nat) (f:List It) (t l:List UInt8) (at':Int) (g:List It) (k:Int),jl n (oI f t) l at'=(g,k,0)→bt [] (closed f t)=0→(∀ x,f.getLast?=some x→x.kind≠1) →
  (closed f t).length≤512→total (closed f t)≤1024→bt [] g=0∧g.length≤512∧total g≤1024∧(closed f t).flatMap cj++l=g.flatMap cj:=by
 intro n
 induction n with
 | zero=>intro f t l at' g k h;simp[jl]at h
 | succ n ih =>
  intro f t l at' g k h h1 h2 h3 h4;cases l with
  | nil =>
   simp only[jl,wX,aI]at h;obtain⟨rfl,_⟩:=h;exact⟨h1,h3,h4,by simp⟩
  | cons c l =>
   simp only[jl]at h
   by_cases he:(aX (c::l)).2.2=false
   ·rw[if_pos he]at h;simp at h
   ·rw[if_neg he]at h;have he:(aX (c::l)).2.2=true:=by simpa using he
    rcases vf (by simp) he with⟨b,e1,e2⟩ | ⟨e0,e1,e2⟩
    ·rw[e1,wZ]at h
     by_cases hm:jJ f t ⟨1,[b],0⟩
     ·rw[if_pos hm]at h;simp at h
     ·rw[if_neg hm]at h;simp only[ne_eq,not_true,if_false]at h;simp only[jJ]at hm;have aQ:closed f (t++[b])=f++[⟨1,t++[b],0⟩]:=by simp[closed]
      have hlen:(closed f (t++[b])).length≤512:=by
       rw[aQ];simp only[List.length_append,ab,ah];simp only[ne_eq,not_true,false_or]at hm
       by_cases h0:t.length=0
       ·rw[if_neg (by omega),if_pos h0]at hm;omega
       ·rw[if_pos (by omega),if_neg h0]at hm;omega
      have hv:bt [] (closed f (t++[b]))=0:=by
       rw[aQ,dN]
       have hf:bt [] f=0:=by
        simp only[closed]at h1;split at h1
        ·exact h1
        ·rw[dN]at h1;exact h1.1
       refine⟨hf,?_,by simp[cI]⟩;simp only[bB,if_true,ak,aC];refine⟨⟨by simp,by simp⟩,?_⟩;cases hg:f.getLast? with
       | none=>rfl
       | some y=>simpa using h2 y hg
      have:=ih f (t++[b]) _ _ g k h hv h2 hlen (by rw[nf];simp;omega);obtain⟨g1,g2,g3,g4⟩:=this;refine⟨g1,g2,g3,?_⟩;rw[← g4]
      conv=>lhs;rw[e2]
      rw[aQ];simp only[closed];split
      ·rename_i ht;subst ht;simp[cj]
      ·simp[cj]
    ·rw[wY _ _ _ e0]at h
     have hf:bt [] f=0:=by
      simp only[closed]at h1;split at h1
      ·exact h1
      ·rw[dN]at h1;exact h1.1
     by_cases aQ:(tagged (aX (c::l)).1&&wN (oI f t) (aX (c::l)).1)=true
     ·rw[if_pos aQ]at h;simp at h
     ·rw[if_neg aQ]at h
      by_cases hm:jJ f t (aX (c::l)).1
      ·rw[if_pos hm]at h;simp at h
      ·rw[if_neg hm]at h;simp only[ne_eq,not_true,if_false]at h;rw[xY hf e1]at aQ;simp only[jJ,e0,ne_eq,not_false_eq_true,true_or,if_true]at hm
       have hlen:(closed (closed f t++[(aX (c::l)).1]) []).length≤512:=by
        rw[eE,List.length_append,s7];simp only[ab,ah];omega
       have hv:bt [] (closed (closed f t++[(aX (c::l)).1]) [])=0:=by
        rw[eE,dN];refine⟨h1,?_,by simpa using aQ⟩;rw[jq e0];exact e1
       have ht:total (closed (closed f t++[(aX (c::l)).1]) [])≤1024:=by
        have hw:wid (aX (c::l)).1=1:=by simp[wid,e0]
        rw[eE,jj,nf,pJ,hw];omega
       obtain⟨g1,g2,g3,g4⟩:=ih _ [] _ _ g k h hv (by
        intro x hx;simp only[iH,gd,ma,aa]at hx;subst hx;exact e0) hlen ht
       refine⟨g1,g2,g3,?_⟩;rw[← g4,eE]
       conv=>lhs;rw[e2]
       simp
theorem zt{s:List UInt8}(h:(parse s).2.2=0):bO (parse s).1=0∧(format (parse s).1).1=s∧total (parse s).1≤1024∧(parse s).1.length≤512:=by
 obtain⟨g,k,e,hp⟩:∃ g k e,parse s=(g,k,e):=⟨_,_,_,rfl⟩;rw[hp]at h ⊢;simp only at h;subst h;have:=Pz (s.length+1) [] [] s 0 g k (by rw[← hp];rfl) (by simp[closed,bt]) (by simp) (by simp[closed]) (by simp[closed,total]);obtain⟨h1,h2,h3,h4⟩:=this;have hv:bO g=0:=(na (by omega)).2 ⟨h2,h3,h1⟩;refine⟨hv,?_,h3,h2⟩;simp only[format,hv,ne_eq,not_true,if_false];rw[← h4];simp[closed]
theorem np(n:Int):((ij n).toNat:Int)=n % 256:=by
 have h1:0≤n % 256:=XE _ (by decide);have h2:n % 256<256:=Nr _ (by decide);simp only[ij,mJ];omega
theorem Vt(x:UInt8):ij (x.toNat:Int)=x:=by
 have:=x.toNat_lt;apply mY.1;have h:=np (x.toNat:Int);omega
theorem Gu{n:Int}(h:0≤n∧n<65536):fc (qu n)=n:=by
 have h1:=np (n / 256);have h2:=np n;simp only[fc,qu,bd,dB,h1,h2];omega
theorem AP{n:Int}(h:0≤n∧n<4294967296):fc (BA n)=n:=by
 have h1:=np (n / 65536 / 256);have h2:=np (n / 65536);have h3:=np (n / 256);have h4:=np n;simp only[fc,BA,qu,aq,ak,bd,dB,h1,h2,h3,h4];omega
theorem wc{n:Int}(h:0≤n∧n<256):fc [ij n]=n:=by
 have h2:=np n;simp only[fc,bd,dB,h2];omega
theorem IK(a:UInt8):[ij (fc [a])]=[a]:=by
 have:fc [a]=(a.toNat:Int):=by simp[fc]
 rw[this,Vt]
theorem vR{n:Int}{x:UInt8}(h:n % 256=x.toNat):ij n=x:=by
 apply mY.1;have:=np n;omega
theorem Um(a b:UInt8):qu (fc [a,b])=[a,b]:=by
 have h1:=a.toNat_lt;have h2:=b.toNat_lt;simp only[qu,fc,bd,dB,ca,and_true];exact⟨vR (by omega),vR (by omega)⟩
theorem Ng(a b c d:UInt8):BA (fc [a,b,c,d])=[a,b,c,d]:=by
 have h1:=a.toNat_lt;have h2:=b.toNat_lt;have h3:=c.toNat_lt;have h4:=d.toNat_lt;simp only[BA,qu,fc,bd,dB,aq,ak,ca,and_true];exact⟨vR (by omega),vR (by omega),vR (by omega),vR (by omega)⟩
theorem Jk{w rest:List UInt8}{bad:Bool}:(Rb.mk (w++rest) bad).take w.length=(w,⟨rest,bad⟩):=by
 simp only[Rb.take];rw[if_neg (by simp)];simp
theorem km{w rest:List UInt8}{bad:Bool}{n:Nat}(h:w.length=n):(Rb.mk (w++rest) bad).number n=(fc w,⟨rest,bad⟩):=by
 subst h;simp only[Rb.number,Jk]
theorem tV{s rest:List UInt8}{bad:Bool}(h:s.length<4294967296):(Rb.mk (de s++rest) bad).text=(s,⟨rest,bad⟩):=by
 have h1:(Rb.mk (de s++rest) bad).number 4=((s.length:Int),⟨s++rest,bad⟩):=by
  simp only[de,List.append_assoc];rw[km (dF _),AP (by omega)]
 simp only[Rb.text,h1];rw[if_neg (by simp;omega)];simp only[an,Jk]
theorem zr{s rest:List UInt8}{bad:Bool}{f:List It}(h:s.length<4294967296)(hp:parse s=(f,0,0)):(Rb.mk (de s++rest) bad).fragment=(f,⟨rest,bad⟩):=by
 simp only[Rb.fragment,tV h,hp];simp
theorem Kd:∀ (l:List Int) (rest:List UInt8) (bad:Bool),(∀ n∈l,0≤n∧n<65536)→Rb.numbers l.length (Rb.mk (l.flatMap qu++rest) bad)=(l,⟨rest,bad⟩):=by
 intro l
 induction l with
 | nil=>intro rest bad _;rfl
 | cons n l ih =>
  intro rest bad h;simp only[ab,Rb.numbers,cZ,List.append_assoc];rw[km (eu n),Gu (h n (by simp))];simp only[ih rest bad fun m hm=>h m (by simp[hm])]
theorem vC(v:List Int)(o:Int):0≤je v o:=by
 simp only[je]
 (repeat' split)<;>omega
theorem I7{v:List Int}(h:eJ v=v):v.length≤8∧∀ n∈v,0≤n:=by
 have h0:eJ v=(jh v [] 8).take (fq v [] 8):=rfl;constructor
 ·rw[← h,h0];simp[lr];omega
 ·intro n hn;rw[← h,h0]at hn;have hn:=ct hn;simp only[jh,bK]at hn;obtain⟨i,_,rfl⟩:=hn;have h1:=vC v i;have h2:=vC [] i;split<;>omega
structure Vk (o:aJ):Prop where
 time:1≤o.aA.time∧o.aA.time≤1073741824
 aS:0≤o.aA.aS∧o.aA.aS<8
 number:1≤o.aA.number∧o.aA.number≤128
 kind:o.kind=1∨o.kind=2
 GK:o.seen.length≤8
 seen:∀ n∈o.seen,0≤n∧n≤128
 bare:o.kind=2→o.entry=⟨o.entry.source,[],o.entry.bS,o.entry.next,[],[],0,0⟩
 looked:cy (looked o)=0
theorem mi{o:aJ}(h:cw o=0):Vk o:=by
 simp only[cw]at h;split at h
 ·simp at h
 ·rename_i h1;split at h
  ·simp at h
  ·rename_i h2;split at h
   ·simp at h
   ·rename_i h3;split at h
    ·simp at h
    ·split at h
     ·simp at h
     ·rename_i h5;simp only[zT,gf,decide_eq_true_eq]at h1
      have hs:eJ o.seen=o.seen:=by
       by_cases hs:eJ o.seen=o.seen
       ·exact hs
       ·exact absurd (.inr hs) h2
      obtain⟨s1,s2⟩:=I7 hs;simp only[Bool.not_eq_true,Q2,decide_eq_true_eq]at h3;refine⟨⟨by omega,by omega⟩,⟨by omega,by omega⟩,⟨by omega,by omega⟩,by omega,s1,fun n hn=>⟨s2 n hn,by have:=h3 n hn;omega⟩,fun hk=>?_,h⟩
      have hb:lT o.entry=true:=by
       cases hb:lT o.entry with
       | true=>rfl
       | false=>exact absurd ⟨hk,hb⟩ h5
      simp only[lT,aC,beq_iff_eq,mc]at hb;obtain⟨b1,b2,b3,b4,b5⟩:=hb;clear h;generalize o.entry=e at b1 b2 b3 b4 b5 ⊢;obtain⟨a1,a2,a3,a4,a5,a6,a7,a8⟩:=e;simp only at b1 b2 b3 b4 b5;subst b1;subst b2;subst b3;subst b4;subst b5;rfl
structure Xj (e:En):Prop where
 source:bO e.source=0
 target:bO e.target=0
 nonempty:e.source≠[]
 cQ:isName e.cQ=true∨e.cQ=[]
 cn:isName e.cn=true∨e.cn=[]
 created:0≤e.created∧e.created≤1073741824
 origin:1≤e.origin∧e.origin≤3
theorem ny{e:En}(h:cy e=0):Xj e:=by
 simp only[cy]at h;split at h
 ·rename_i h1;exact absurd h h1
 ·rename_i h1;split at h
  ·rename_i h2;exact absurd h h2
  ·rename_i h2;split at h
   ·simp at h
   ·rename_i h3;split at h
    ·rename_i h4;exact absurd h h4
    ·split at h
     ·rename_i h5;exact absurd h h5
     ·split at h
      ·simp at h
      ·rename_i h6;split at h
       ·simp at h
       ·rename_i h7;simp only[mA,zT,aC,cm,beq_eq_false_iff_ne,ne_eq,mc]at h3;simp only[named,zT,aC,gm,beq_iff_eq]at h6;exact⟨by simpa using h1,by simpa using h2,h3.1.1,h6.1.symm,h6.2.symm,⟨by omega,by omega⟩,⟨by omega,by omega⟩⟩
theorem sM{s:List UInt8}(h:isName s=true∨s=[]):s.length≤24:=by
 rcases h with h | rfl
 ·cases s with
  | nil=>simp
  | cons c r=>simp only[isName,aC,decide_eq_true_eq]at h;exact h.1.1
 ·simp
theorem ua{f:List It}(h1:f.length<2^30)(h2:aM f<2^30):total f<2^63:=by
 have:=Je f;omega
theorem yj:∀ f:List It,(∀ x∈f,bB none x=true)→aM f≤total f+64*f.length:=by
 intro f
 induction f with
 | nil=>intro _;simp[aM]
 | cons x f ih =>
  intro h;have e1:=ih fun y hy=>h y (by simp[hy]);have hx:=h x (by simp);have ht:total (x::f)=wid x+total f:=by simp[total]
  have hw:x.text.length≤wid x+64:=by
   simp only[bB]at hx
   by_cases k1:x.kind=1
   ·simp[wid,k1]
   ·rw[if_neg k1]at hx
    by_cases k5:x.kind=5
    ·rw[if_pos k5]at hx;simp only[aC]at hx;have:=sM (.inl hx.1);omega
    ·rw[if_neg k5]at hx
     by_cases k2:x.kind=2∨x.kind=4
     ·rw[if_pos k2]at hx;simp only[aC,db,jz,decide_eq_true_eq]at hx;omega
     ·rw[if_neg k2]at hx
      by_cases k3:x.kind=3
      ·rw[if_pos k3]at hx;simp only[aC]at hx;have:=sM (.inl hx.1.1);omega
      ·rw[if_neg k3]at hx;simp at hx
  simp only[aM,ab,ht];omega
theorem nK{f:List It}(h1:f.length<2^30)(h2:aM f<2^30)(h:bO f=0):(format f).1.length<4294967296:=by
 have hv:=(na (ua h1 h2)).1 h;have hk:=ly f [] hv.2.2
 have key:∀ f:List It,(∀ x∈f,bB none x=true)→(f.flatMap cj).length≤4*aM f+30*f.length:=by
  intro f
  induction f with
  | nil=>intro _;simp
  | cons x f ih =>
   intro h;have e1:=ih fun y hy=>h y (by simp[hy]);have hx:=h x (by simp)
   have hid : -9223372036854775808≤x.id∧x.id≤9223372036854775807:=by
    simp only[bB]at hx
    by_cases k1:x.kind=1
    ·rw[if_pos k1]at hx;simp only[aC,beq_iff_eq]at hx;omega
    ·rw[if_neg k1]at hx
     by_cases k5:x.kind=5
     ·rw[if_pos k5]at hx;simp only[aC,beq_iff_eq]at hx;omega
     ·rw[if_neg k5]at hx
      by_cases k2:x.kind=2∨x.kind=4
      ·rw[if_pos k2]at hx;simp only[aC,decide_eq_true_eq]at hx;omega
      ·rw[if_neg k2]at hx
       by_cases k3:x.kind=3
       ·rw[if_pos k3]at hx;simp only[aC,decide_eq_true_eq]at hx;omega
       ·rw[if_neg k3]at hx;simp at hx
   have e2:=px x hid;simp only[cZ,List.length_append,aM,ab];omega
 have:=key f hk;have h3:=yj f hk;simp only[format,h,ne_eq,not_true,if_false];omega
theorem CG{o:aJ}(hs:o.small)(h:cw o=0):gx (bX o)=(o,1,⟨[],false⟩):=by
 have F:=mi h
 have hsv:bO o.entry.source=0:=by
  have:=(ny F.looked).source;rcases F.kind with k | k
  ·simpa[looked,k]using this
  ·simpa[looked,k,asked]using this
 have rk:parse (format o.entry.source).1=(o.entry.source,0,0):=yP (ua hs.entry.source hs.entry.gY) hsv;have IN:=nK hs.entry.source hs.entry.gY hsv;have rV:=hs.entry.bS;have vX:=hs.entry.next;have Ig:=F.GK;have ht:=F.time;have hf:=F.aS;have hn:=F.number;have Az:=F.kind
 have h1:∀ (rest:List UInt8),(Rb.mk ([1,ij o.kind]++rest) false).number 1=(1,⟨[ij o.kind]++rest,false⟩):=fun rest=>by
  have:=km (w:=[1]) (rest:=[ij o.kind]++rest) (bad:=false) (n:=1) rfl;simpa[fc]using this
 have h2:∀ (rest:List UInt8),(Rb.mk ([ij o.kind]++rest) false).number 1=(o.kind,⟨rest,false⟩):=fun rest=>by
  rw[km (w:=[ij o.kind]) (n:=1) rfl,wc (by omega)]
 have h3:∀ (rest:List UInt8),(Rb.mk (BA o.aA.time++rest) false).number 4=(o.aA.time,⟨rest,false⟩):=fun rest=>by
  rw[km (dF _),AP (by omega)]
 have h4:∀ (rest:List UInt8),(Rb.mk ([ij o.aA.aS]++rest) false).number 1=(o.aA.aS,⟨rest,false⟩):=fun rest=>by
  rw[km (w:=[ij o.aA.aS]) (n:=1) rfl,wc (by omega)]
 have h5:∀ (rest:List UInt8),(Rb.mk (qu o.aA.number++rest) false).number 2=(o.aA.number,⟨rest,false⟩):=fun rest=>by
  rw[km (eu _),Gu (by omega)]
 have h6:∀ (rest:List UInt8),(Rb.mk ([ij o.seen.length]++rest) false).number 1=((o.seen.length:Int),⟨rest,false⟩):=fun rest=>by
  rw[km (w:=[ij o.seen.length]) (n:=1) rfl,wc (by omega)]
 have h7:∀ (rest:List UInt8),Rb.numbers o.seen.length (Rb.mk (o.seen.flatMap qu++rest) false)=(o.seen,⟨rest,false⟩):=fun rest=>Kd _ _ _ fun n hn=>by
  have:=F.seen n hn;omega
 have hap:bX o=[1,ij o.kind]++(BA o.aA.time++([ij o.aA.aS]++(qu o.aA.number++([ij o.seen.length]++(o.seen.flatMap qu ++
   (de (format o.entry.source).1++(de o.entry.bS++(de o.entry.next ++
   (if o.kind=1 then de (format o.entry.target).1++de o.entry.cQ++de o.entry.cn++BA o.entry.created++[ij o.entry.origin]else[]))))))))):=by
  simp only[bX,List.append_assoc]
 rw[hap];generalize hR:(if o.kind=1 then de (format o.entry.target).1++de o.entry.cQ++de o.entry.cn++BA o.entry.created++[ij o.entry.origin]else[])=R;simp only[gx,h1,h2,h3,h4,h5,h6,an,h7,zr IN rk,tV (show o.entry.bS.length<4294967296 by omega),tV (show o.entry.next.length<4294967296 by omega)];obtain⟨⟨t,f,n⟩,k,⟨es,et,ep,en,ea,epr,ec,eo⟩,sn⟩:=o;simp only at *;rcases Az with rfl | rfl
 ·rw[if_pos rfl]at hR ⊢;have hl:cy ⟨es,et,ep,en,ea,epr,ec,eo⟩=0:=by simpa[looked]using F.looked
  have E:=ny hl;have htg:parse (format et).1=(et,0,0):=yP (ua hs.entry.target hs.entry.o8) E.target;have wH:=nK hs.entry.target hs.entry.o8 E.target;have F3:=sM E.cQ;have KF:=sM E.cn;have hc:=E.created;have ho:=E.origin;simp only at htg wH F3 KF hc ho
  have h8:∀ (rest:List UInt8),(Rb.mk (BA ec++rest) false).number 4=(ec,⟨rest,false⟩):=fun rest=>by
   rw[km (dF _),AP (by omega)]
  have h9:(Rb.mk [ij eo] false).number 1=(eo,⟨[],false⟩):=by
   have:=km (w:=[ij eo]) (rest:=[]) (bad:=false) (n:=1) rfl;rw[wc (by omega)]at this;simpa using this
  have Ek:R=de (format et).1++(de ea++(de epr++(BA ec++[ij eo]))):=by rw[← hR];simp only[List.append_assoc]
  rw[Ek];simp only[zr wH htg,tV (show ea.length<4294967296 by omega),tV (show epr.length<4294967296 by omega),h8,h9]
 ·rw[if_neg (by decide)]at hR ⊢;subst hR;have hb:=F.bare rfl;simp only[En.mk.injEq,true_and]at hb;obtain⟨rfl,rfl,rfl,rfl,rfl⟩:=hb;rfl
theorem sX{o:aJ}(hs:o.small)(h:cw o=0):decode (bX o)=(o,0):=by
 have he:encode o=(bX o,0):=by simp[encode,h]
 simp only[decode,CG hs h,he];simp
theorem oF(n:Int):IntKind.u32.wrap n=n % 4294967296:=by
 simp only[IntKind.wrap,IntKind.bits,IntKind.signed];rfl
theorem Gr(n:Int):((By n).toNat:Int)=n % 256:=by
 rw[Bx];simp only[IntKind.wrap,IntKind.bits,IntKind.signed];rfl
theorem De{n:Int}(h:0≤n∧n<4294967296):fc (lz n)=n:=by
 simp only[fc,lz,bd,dB,Gr,fm _ (show(0:Int)≤2^24 by decide),fm _ (show(0:Int)≤2^16 by decide),fm _ (show(0:Int)≤2^8 by decide)];omega
theorem vw(l:List UInt8)(h:l.length≤4):0≤fc l∧fc l<4294967296:=by
 match l,h with
 | [],_=>simp[fc]
 | [a],_=>have:=a.toNat_lt;simp only[fc,bd,dB];omega
 | [a,b],_=>have:=a.toNat_lt;have:=b.toNat_lt;simp only[fc,bd,dB];omega
 | [a,b,c],_=>have:=a.toNat_lt;have:=b.toNat_lt;have:=c.toNat_lt;simp only[fc,bd,dB];omega
 | [a,b,c,d],_=>have:=a.toNat_lt;have:=b.toNat_lt;have:=c.toNat_lt;have:=d.toNat_lt;simp only[fc,bd,dB];omega
 | a::b::c::d::e::r,h=>simp at h
theorem wQ:∀ (b:List UInt8) (h:Int),0≤h∧h<4294967296→0≤jN h b∧jN h b<4294967296
 | [],_,hh=>hh
 | x::b,h,_=>by
  refine wQ b (mr h x) ?_;simp only[mr,oF];omega
def qZ:Int:=2166136261
def gA(log:List UInt8):Nat :=
 if log.length<8 then 0
 else if 65536<fc (log.take 4)∨((log.length - 8:Nat):Int)<fc (log.take 4)then 0
 else if jN (jN qZ (log.take 4)) ((log.drop 8).take (fc (log.take 4)).toNat)=fc ((log.drop 4).take 4)then 8+(fc (log.take 4)).toNat
 else 0
theorem yF(p:List UInt8)(hp:p.length<4294967296):ni p=lz (p.length:Int)++(lz (jN (jN qZ (lz (p.length:Int))) p)++p):=by
 have e:IntKind.u32.wrap (p.length:Int)=(p.length:Int):=by rw[oF];omega
 rw[ni,AK,e,List.append_assoc];rfl
theorem Ge(p rest:List UInt8)(hp:p.length≤65536):gA (ni p++rest)=8+p.length:=by
 have hl:(ni p++rest).length=8+p.length+rest.length:=by rw[List.length_append,ig]
 rw[yF p (by omega)]at hl ⊢;have h4:=iM (p.length:Int);have h5:=iM (jN (jN qZ (lz (p.length:Int))) p)
 have e1:(lz (p.length:Int)++(lz (jN (jN qZ (lz (p.length:Int))) p)++p)++rest).take 4=lz (p.length:Int):=by
  rw[List.append_assoc];exact lH h4
 have e2:(lz (p.length:Int)++(lz (jN (jN qZ (lz (p.length:Int))) p)++p)++rest).drop 4=lz (jN (jN qZ (lz (p.length:Int))) p)++(p++rest):=by
  rw[List.append_assoc,List.append_assoc];exact Em h4
 have e3:(lz (p.length:Int)++(lz (jN (jN qZ (lz (p.length:Int))) p)++p)++rest).drop 8=p++rest:=by
  rw[show(8:Nat)=4+4 from rfl,← List.drop_drop,e2];exact Em h5
 have e4:fc (lz (p.length:Int))=(p.length:Int):=De (by omega);have e5:fc (lz (jN (jN qZ (lz (p.length:Int))) p))=jN (jN qZ (lz (p.length:Int))) p:=De (wQ _ _ (wQ _ _ (by decide)));rw[gA,e1,e2,e3,e4,lH h5,e5,an,lH rfl,hl];rw[if_neg (by omega),if_neg (by omega),if_pos rfl]
theorem QD(p:List UInt8)(j:Nat)(hj:j<8+p.length)(hp:p.length≤65536):gA ((ni p).take j)=0:=by
 have hl:((ni p).take j).length=j:=by rw[aR,ig];omega
 rw[gA,hl]
 by_cases h8:j<8
 ·rw[if_pos h8]
 ·rw[if_neg h8]
  have e1:((ni p).take j).take 4=lz (p.length:Int):=by
   rw[ye,iv (by omega),yF p (by omega)];exact lH (iM _)
  rw[e1,De (by omega),if_pos (by omega)]
def bM(ps:List (List UInt8)):List UInt8:=ps.flatMap ni
theorem Gb:∀ (ps:List (List UInt8)) (n:Nat),(∀ p∈ps,p.length≤65536)→∃ k tl,k≤ps.length∧(bM ps).take n=bM (ps.take k)++tl∧gA tl=0∧(∀ m,m≤ps.length→(bM (ps.take m)).length≤n→m≤k)
 | [],n,_=>⟨0,[],aB _,by simp[bM],rfl,fun m hm _=>hm⟩
 | p::ps,n,h=>by
  have hp:=h p (by simp)
  by_cases hn:8+p.length≤n
  ·obtain⟨k,tl,h1,h2,h3,h4⟩:=Gb ps (n - (8+p.length)) fun q hq=>h q (by simp[hq]);refine⟨k+1,tl,by simp;omega,?_,h3,fun m hm hl=>?_⟩
   ·simp only[bM,cZ,cC,List.append_assoc]at h2 ⊢;rw[Uw,bJ (by rw[ig];exact hn),ig,h2]
   ·cases m with
    | zero=>omega
    | succ m =>
     simp only[bM,cC,cZ,List.length_append,ig]at hl h4;have:=h4 m (by simpa using hm) (by omega);omega
  ·refine⟨0,(ni p).take n,by simp,?_,QD p n (by omega) hp,fun m hm hl=>?_⟩
   ·simp only[bM,cZ,fJ,jH,ak];rw[Uw,ig,Nat.sub_eq_zero_of_le (by omega),fJ,bf]
   ·cases m with
    | zero=>omega
    | succ m =>
     simp only[bM,cC,cZ,List.length_append,ig]at hl;omega
def fE(before:List It)(x:It):Int:=if bB before.getLast? x=false then 1 else if(cI x&&!fits before x)=true then 7 else 0
theorem uV:∀ (rest pre:List It) (x:It),bt pre (x::rest)=if fE pre x≠0 then fE pre x else bt (pre++[x]) rest:=by
 intro rest pre x;simp only[bt,fE];split
 ·simp
 ·split<;>simp
def cD(out:List It)(x:It):List It :=
 if x.kind≠1 then out++[x]else if x.text=[]then out else
 match out.getLast? with
 | some y=>if y.kind=1 then out.dropLast++[⟨1,y.text++x.text,0⟩]else out++[⟨1,x.text,0⟩]
 | none=>out++[⟨1,x.text,0⟩]
def rM(f:List It):List It:=f.foldl cD []
def zx(out:List It):Bool:=match out.getLast? with
 | some y=>y.kind==1
 | none=>false
theorem Mo:∀ (n m:Nat) (f:List It),f.length≤n→f.length≤m→jX n f=jX m f:=by
 intro n
 induction n with
 | zero =>
  intro m f h _;have:f=[]:=bL (by omega);subst this;cases m<;>rfl
 | succ n ih =>
  intro m f h1 h2;cases f with
  | nil=>cases m<;>rfl
  | cons x r =>
   cases m with
   | zero=>simp at h2
   | succ m =>
    simp only[ab]at h1 h2
    by_cases hk:x.kind=1
    ·have hs:=q8 (x:=x) (r:=r) hk;have hi:=ih m (runText (x::r)).2 (by omega) (by omega);simp only[jX,hk,ne_eq,not_true,if_false];split
     ·exact hi
     ·rw[hi]
    ·simp only[jX,if_pos hk];rw[ih m r (by omega) (by omega)]
theorem Df{x:It}{r:List It}(hk:x.kind≠1):normalize (x::r)=x::normalize r:=by
 simp only[normalize,ab,jX,if_pos hk]
theorem qf{x:It}{r:List It}(hk:x.kind=1):normalize (x::r)=if(runText (x::r)).1.length=0 then normalize (runText (x::r)).2 else⟨1,(runText (x::r)).1,0⟩::normalize (runText (x::r)).2:=by
 have hs:=q8 (x:=x) (r:=r) hk;have e:jX r.length (runText (x::r)).2=jX (runText (x::r)).2.length (runText (x::r)).2:=Mo _ _ _ hs (aB _);simp only[normalize,ab,jX,hk,ne_eq,not_true,if_false,e]
def rC(t:List UInt8)(f:List It):List It:=if t=[]then normalize f else
 ⟨1,t++(runText f).1,0⟩::normalize (runText f).2
theorem QA:∀ (f out:List It) (t:List UInt8),(zx out=false)→f.foldl cD (closed out t)=out++rC t f:=by
 intro f
 induction f with
 | nil =>
  intro out t ho;simp only[dB,rC,closed];split
  ·simp[normalize,jX]
  ·simp[runText,normalize,jX]
 | cons x f ih =>
  intro out t ho;simp only[bd]
  by_cases hk:x.kind=1
  ·by_cases hx:x.text=[]
   ·have e1:cD (closed out t) x=closed out t:=by simp[cD,hk,hx]
    rw[e1,ih out t ho];congr 1;simp only[rC];have hr:runText (x::f)=((runText f).1,(runText f).2):=by simp[runText,hk,hx]
    by_cases ht:t=[]
    ·rw[if_pos ht,if_pos ht,qf hk,hr];cases f with
     | nil=>simp[runText,normalize,jX]
     | cons y f =>
      by_cases hy:y.kind=1
      ·rw[qf hy]
      ·simp[runText,hy]
    ·rw[if_neg ht,if_neg ht,hr]
   ·have e1:cD (closed out t) x=closed out (t++x.text):=by
     simp only[cD,hk,ne_eq,not_true,if_false,if_neg hx];have iQ:t++x.text≠[]:=by simp[hx]
     by_cases ht:t=[]
     ·subst ht;rw[eE];simp only[closed,ak,if_neg hx];simp only[zx]at ho;cases hg:out.getLast? with
      | none=>rfl
      | some y =>
       rw[hg]at ho;have hy:¬ y.kind=1:=by simpa using ho
       simp only[if_neg hy]
     ·simp[closed,ht]
    rw[e1,ih out _ ho];congr 1;have iQ:t++x.text≠[]:=by simp[hx]
    simp only[rC,if_neg iQ];have hr:runText (x::f)=(x.text++(runText f).1,(runText f).2):=by simp[runText,hk]
    by_cases ht:t=[]
    ·subst ht;rw[if_pos rfl,qf hk,hr]
     have:(x.text++(runText f).1).length≠0:=by
      have:=dK.2 hx;rw[List.length_append];omega
     rw[if_neg this];simp
    ·rw[if_neg ht,hr];simp
  ·have e1:cD (closed out t) x=closed (closed out t++[x]) []:=by
    rw[eE];simp[cD,hk]
   have he:zx (closed out t++[x])=false:=by simp[zx,hk]
   rw[e1,ih _ [] he];have hr:runText (x::f)=([],x::f):=by simp[runText,hk]
   simp only[rC,if_true,hr,bf,Df hk]
   by_cases ht:t=[]
   ·simp[closed,ht]
   ·simp[closed,ht]
theorem oO(f:List It):rM f=normalize f:=by
 have:=QA f [] [] rfl;rw[eE]at this;simpa[rC,rM]using this
theorem eK(a b:List It):aM (a++b)=aM a+aM b:=by
 induction a with
 | nil=>simp[aM]
 | cons x a ih=>simp only[aq,aM,ih];omega
theorem qh(out:List It)(x:It):aM (cD out x)≤aM out+x.text.length∧(cD out x).length≤out.length+1:=by
 simp only[cD];split
 ·simp[eK,aM]
 ·split
  ·omega
  ·split
   ·rename_i y hy;have iQ:out≠[]:=by rintro rfl;simp at hy
    have e:out=out.dropLast++[y]:=by
     have:=List.dropLast_concat_getLast iQ;rw[List.getLast?_eq_some_getLast iQ]at hy;simp only[aa]at hy;rw[hy]at this;exact this.symm
    split
    ·have h1:aM out=aM out.dropLast+y.text.length:=by
      conv=>lhs;rw[e]
      simp[eK,aM]
     simp[eK,aM];omega
    ·simp[eK,aM]
   ·simp[eK,aM]
end Go.Bt
