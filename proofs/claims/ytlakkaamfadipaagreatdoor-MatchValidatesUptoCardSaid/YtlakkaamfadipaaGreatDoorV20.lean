/- A part of a proof; the claim's last text says of what. -/
import Derived.Test.YtlakkaamfadipaaGreatDoorV16
import Derived.Test.YtlakkaamfadipaaGreatDoorV19
set_option linter.all false

namespace Go.Bt
open Go Go.Pm
theorem Yn(c:UInt8):0≤(c.toNat:Int).fdiv (2^min 4 IntKind.u8.bits)∧(c.toNat:Int).fdiv (2^min 4 IntKind.u8.bits)<16 ∧
  ([48,49,50,51,52,53,54,55,56,57,97,98,99,100,101,102]:List UInt8).getD ((c.toNat:Int).fdiv (2^min 4 IntKind.u8.bits)).toNat 0=gq (c.toNat / 16):=by
 revert c;exact fK (by decide +kernel)
theorem Ym(c:UInt8):0≤IntKind.u8.wrap (((BitVec.ofInt IntKind.u8.bits (c.toNat:Int) &&& BitVec.ofInt IntKind.u8.bits 15).toNat:Nat):Int)∧IntKind.u8.wrap (((BitVec.ofInt IntKind.u8.bits (c.toNat:Int) &&& BitVec.ofInt IntKind.u8.bits 15).toNat:Nat):Int)<16 ∧
  ([48,49,50,51,52,53,54,55,56,57,97,98,99,100,101,102]:List UInt8).getD (IntKind.u8.wrap (((BitVec.ofInt IntKind.u8.bits (c.toNat:Int) &&& BitVec.ofInt IntKind.u8.bits 15).toNat:Nat):Int)).toNat 0=gq (c.toNat % 16):=by
 revert c;exact fK (by decide +kernel)
def dG(x:It):List UInt8 :=
 if x.ahr=1 then x.aht.flatMap dO else if x.ahr=2 then 60::(Lib.itoa x.id++58::(x.aht++[62]))else if x.ahr=3 then 60::47::(Lib.itoa x.id++58::(x.aht++[62]))
 else if x.ahr=4 then 60::(Lib.itoa x.id++58::(x.aht++[47,62]))else if x.ahr=5 then 123::(x.aht++[125])else[]
def format(f:List It):List UInt8×Int:=if bW f≠0 then([],bW f)else(f.flatMap dG,0)
theorem IU(c:UInt8):(dO c).length≤4:=by
 simp only[dO]
 (repeat' split)<;>simp
theorem Bb(s:List UInt8):(s.flatMap dO).length≤4*s.length:=by
 induction s with
 | nil=>simp
 | cons c s ih =>
  have:=IU c;simp only[dP,ak,ag];omega
theorem zR:∀ (rest pre:List It),bh pre rest=0→∀ x∈rest,1≤x.ahr∧x.ahr≤5:=by
 intro rest
 induction rest with
 | nil=>intro pre h x hx;simp at hx
 | cons y rest ih =>
  intro pre h x hx;simp only[bh]at h;split at h
  ·simp at h
  ·rename_i h1;split at h
   ·simp at h
   ·rcases bA.1 hx with rfl | hx
    ·simp only[bB]at h1
     by_cases k1:x.ahr=1
     ·omega
     ·by_cases k5:x.ahr=5
      ·omega
      ·by_cases k2:x.ahr=2∨x.ahr=4
       ·omega
       ·by_cases k3:x.ahr=3
        ·omega
        ·simp[k1,k5,k2,k3]at h1
    ·exact ih _ h x hx
theorem vO{f:List It}(h:bW f=0):∀ x∈f,1≤x.ahr∧x.ahr≤5:=by
 simp only[bW]at h;split at h
 ·simp at h
 ·exact zR f [] h
theorem Cs(x:It)(h : -9223372036854775808≤x.id∧x.id≤9223372036854775807):(dG x).length≤4*x.aht.length+30:=by
 have h1:=Lib.itoa_length_le x.id h.1 h.2;have h2:=Bb x.aht;simp only[dG];split
 ·omega
 ·split
  ·simp;omega
  ·split
   ·simp;omega
   ·split
    ·simp;omega
    ·split
     ·simp;omega
     ·simp
theorem GR(f:List It)(hl:f.length<2^30)(ht:aN f<2^30)(hid:∀ x∈f,-9223372036854775808≤x.id∧x.id≤9223372036854775807):(format f).1.length<2^36:=by
 have key:∀ f:List It,(∀ x∈f,-9223372036854775808≤x.id∧x.id≤9223372036854775807)→(f.flatMap dG).length≤4*aN f+30*f.length:=by
  intro f
  induction f with
  | nil=>intro _;simp
  | cons x f ih =>
   intro h;have h1:=ih fun y hy=>h y (by simp[hy]);have h2:=Cs x (h x (by simp));simp only[dP,ak,aN,ag];omega
 have:=key f hid;simp only[format];split
 ·simp
 ·simp only;omega
theorem nF(c:UInt8):∀ l:List UInt8,-1≤Lib.indexByte l c:=by
 intro l
 induction l with
 | nil=>simp[Lib.indexByte]
 | cons a l ih =>
  simp only[Lib.indexByte];split
  ·omega
  ·split<;>omega
theorem qc{c:UInt8}:∀ {l:List UInt8},c ∉ l→Lib.indexByte l c = -1:=by
 intro l
 induction l with
 | nil=>intro _;simp[Lib.indexByte]
 | cons a l ih =>
  intro h
  have h1:(a==c)=false:=by
   simp only[bA,OV]at h;simpa using fun e=>h.1 e.symm
  have h2:=ih (fun hm=>h (de _ hm));simp[Lib.indexByte,h1,h2]
theorem oK{c:UInt8}{rest:List UInt8}:∀ {pre:List UInt8},c ∉ pre→Lib.indexByte (pre++c::rest) c=pre.length:=by
 intro pre
 induction pre with
 | nil=>intro _;simp[Lib.indexByte]
 | cons a l ih =>
  intro h
  have h1:(a==c)=false:=by
   simp only[bA,OV]at h;simpa using fun e=>h.1 e.symm
  have h2:=ih (fun hm=>h (de _ hm));simp only[bg,Lib.indexByte,h1,h2,aA,aJ,ag];have:((l.length:Int) == -1)=false:=by rw[cT];omega
  rw[this];simp
theorem mF{c:UInt8}{l:List UInt8}(h:c∈l):0≤Lib.indexByte l c:=by
 induction l with
 | nil=>simp at h
 | cons a l ih =>
  have hl:=nF c l;simp only[Lib.indexByte]
  by_cases h1:a=c
  ·simp[h1]
  ·have h2:(a==c)=false:=by simpa using h1
   have h3:c∈l:=by
    rcases bA.1 h with h | h
    ·exact absurd h.symm h1
    ·exact h
   have h4:=ih h3;have h5:(Lib.indexByte l c == -1)=false:=by simp;omega
   simp[h2,h5];omega
structure En where
 ahu:List It
 ahB:List It
 bM:List UInt8
 next:List UInt8
 cY:List UInt8
 cE:List UInt8
 ahD:Int
 ahI:Int
def En.ahq(e:En):List V:=[.sl 3 (e.ahu.map It.ahq),.sl 3 (e.ahB.map It.ahq),.s e.bM,.s e.next,.s e.cY,.s e.cE,.i .i64 e.ahD,.i .i64 e.ahI]
def named(s:List UInt8):Bool:=s==[]||ahz s
def qU(e:En):Bool:=!(e.ahu.length==0)&&jy (fO e.ahu e.ahB) e.ahu&&jy (gh e.ahu e.ahB) e.ahB
def fk(e:En):Int :=
 if bW e.ahu≠0 then bW e.ahu else if bW e.ahB≠0 then bW e.ahB else
 if qU e=false then 1 else
 if(parse e.bM).2.2≠0 then(parse e.bM).2.2 else if(parse e.next).2.2≠0 then(parse e.next).2.2 else
 if(named e.cY&&named e.cE)=false then 4 else
 if e.ahD<0∨1073741824<e.ahD∨e.ahI<1∨3<e.ahI then 1 else 0
structure En.ahE (e:En):Prop where
 ahu:e.ahu.length<2^30
 wx:aN e.ahu<2^30
 ahB:e.ahB.length<2^30
 Pv:aN e.ahB<2^30
 bM:e.bM.length<2^30
 next:e.next.length<2^30
 ids:∀ x∈e.ahu++e.ahB,-9223372036854775808≤x.id∧x.id≤9223372036854775807
def Cq(e:En):List UInt8:=(format e.ahu).1++10::(e.bM++10::e.next)
def ez(e:En):List UInt8:=if fk e≠0 then[]else Cq e
structure za where
 gD:IN
 ahr:Int
 ahA:En
 ahG:List Int
def za.ahq(o:za):List V:=o.gD.ahq++[.i .i64 o.ahr]++o.ahA.ahq++[.sl 1 (o.ahG.map b5)]
structure za.ahE (o:za):Prop where
 ahA:o.ahA.ahE
 cY:o.ahA.cY.length<2^30
 cE:o.ahA.cE.length<2^30
 ahG:o.ahG.length<2^30
def asked(e:En):En:=⟨e.ahu,e.ahu,e.bM,e.next,[],[],0,1⟩
def looked(o:za):En:=if o.ahr≠2 then o.ahA else asked o.ahA
def U9(e:En):Bool:=e.ahB.length==0&&(e.cY==[]&&(e.cE==[]&&(e.ahD==0&&e.ahI==0)))
def VQ(v:List Int):List Int:=VS v []
def Se(o:za):Int :=
 if Py o.gD=false then 1 else
 if(o.ahr≠1∧o.ahr≠2)∨VQ o.ahG≠o.ahG then 1 else
 if o.ahG.any (fun n=>decide (128<n))then 1 else
 if VT o.ahG o.gD.jW≠o.gD.number - 1 then 11 else
 if o.ahr=2∧U9 o.ahA=false then 1 else fk (looked o)
def JR(n:Int):UInt8:=UInt8.ofNat (n % 256).toNat
def Zz(n:Int):List UInt8:=[JR (n / 256),JR n]
def be4(n:Int):List UInt8:=Zz (n / 65536)++Zz n
def qR(s:List UInt8):List UInt8:=be4 s.length++s
def Rw(o:za):List UInt8 :=
 [1,JR o.ahr]++be4 o.gD.time++[JR o.gD.jW]++Zz o.gD.number++[JR o.ahG.length]++o.ahG.flatMap Zz ++
 qR (format o.ahA.ahu).1++qR o.ahA.bM++qR o.ahA.next ++
 (if o.ahr=1 then qR (format o.ahA.ahB).1++qR o.ahA.cY++qR o.ahA.cE++be4 o.ahA.ahD++[JR o.ahA.ahI]else[])
def fZ:List UInt8→List UInt8→Int
 | [],[]=>0
 | [],_::_ => -1
 | _::_,[]=>1
 | a::x,b::y=>if a<b then -1 else if b<a then 1 else fZ x y
structure Rb where
 b:List UInt8
 bad:Bool
def Rb.take(r:Rb)(n:Nat):List UInt8×Rb :=
 if r.b.length<n then(List.replicate (min n 4) 0,⟨[],true⟩)else(r.b.take n,⟨r.b.drop n,r.bad⟩)
def YR(l:List UInt8):Int:=l.foldl (fun a x=>a*256+x.toNat) 0
def Rb.number(r:Rb)(n:Nat):Int×Rb:=(YR (r.take n).1,(r.take n).2)
def Rb.aht(r:Rb):List UInt8×Rb :=
 let p:=r.number 4
 if(p.2.b.length:Int)<p.1 then([],⟨p.2.b,true⟩)else p.2.take p.1.toNat
def Rb.ahH:Nat→Rb→List Int×Rb
 | 0,r=>([],r)
 | n+1,r=>let p:=r.number 2;let q:=Rb.ahH n p.2;(p.1::q.1,q.2)
section
variable {α β:Type} [DecidableEq α]
end
def place(x n:Int):Int:=if x.tmod n<0 then x.tmod n+n else x.tmod n
theorem pZ{x n:Int}(h:0<n):0≤place x n∧place x n<n:=by
 have h1:=Int.tmod_lt_of_pos x h
 have h2 : - n<x.tmod n:=Int.neg_lt_of_neg_lt (by
  have:=Int.tmod_lt_of_pos (-x) h;rw[Int.neg_tmod]at this;omega)
 simp only[place];split<;>omega
theorem JG:∀ c:UInt8,oG c=true→c≠92∧c≠60∧c≠123:=fK (by decide +kernel)
theorem Ru:∀ c:UInt8,gK (gq (c.toNat / 16)) (gq (c.toNat % 16))=c∧(fY (gq (c.toNat / 16))).2=true∧(fY (gq (c.toNat % 16))).2=true:=fK (by decide +kernel)
theorem Rv:∀ c:UInt8,oG c=false→c≠10→c≠9→¬ (c=92∨c=60∨c=123)→(c==13||dD c==1)=true:=fK (by decide +kernel)
theorem l3(a d:UInt8)(r:List UInt8):cH (a::d::r)=if d=92∨d=60∨d=123 then(d,2,true)else if d=110 then(10,2,true)else if d=116 then(9,2,true)else if d=120 then
  (if r.length<2 then(0,0,false)else(gK (r.getD 0 0) (r.getD 1 0),4,(fY (r.getD 0 0)).2&&(fY (r.getD 1 0)).2&&(gK (r.getD 0 0) (r.getD 1 0)==13||dD (gK (r.getD 0 0) (r.getD 1 0))==1)))else(0,0,false):=by
 simp only[cH,ag,aF,aP];rw[aw (by omega)];have e:(r.length+1+1<4)=(r.length<2):=by rw[Ve];omega
 simp only[e]
theorem tC(d:UInt8)(r:List UInt8):aZ (92::d::r)=(⟨1,[(cH (92::d::r)).1],0⟩,(cH (92::d::r)).2.1,(cH (92::d::r)).2.2):=by
 simp only[aZ,aF,aO]
theorem KP(c:UInt8)(rest:List UInt8):aZ (dO c++rest)=(⟨1,[c],0⟩,((dO c).length:Int),true):=by
 unfold dO;split
 ·rename_i h;have hn:=JG c h;simp[aZ,hn,h]
 ·rename_i h;have h:oG c=false:=by simpa using h
  split
  ·rename_i h1;subst h1;simp only[bg,aW,tC,l3];rfl
  ·split
   ·rename_i h1 h2;subst h2;simp only[bg,aW,tC,l3];rfl
   ·split
    ·rename_i h1 h2 h3;simp only[bg,aW,tC,l3,aI h3];rfl
    ·rename_i h1 h2 h3;have he:=Ru c;have hc:=Rv c h h1 h2 h3;simp only[bg,aW,tC,l3];rw[aw (by decide),aw (by decide),aw (by decide),aI (by decide),aw (by simp)];simp only[aF,aP,he.1,he.2.1,he.2.2,hc,dQ];rfl
theorem D1:∀ c:UInt8,fX c=true→c≠62∧c≠125∧c≠58∧c≠47∧c≠32∧gu c=false:=fK (by decide +kernel)
theorem JJ:∀ c:UInt8,(97≤c.toNat∧c.toNat≤122)→fX c=true:=fK (by decide +kernel)
theorem Gn{s:List UInt8}(h:ahz s=true):∀ c∈s,fX c=true:=by
 cases s with
 | nil=>simp[ahz]at h
 | cons c r =>
  simp only[ahz,aG,aU,bU]at h;intro x hx;rcases bA.1 hx with rfl | hx
  ·exact JJ _ h.1.2
  ·exact h.2 x hx
theorem KO(t rest:List UInt8)(h:ahz t=true):aZ (123::(t++125::rest))=(⟨5,t,0⟩,(t.length:Int)+2,true):=by
 have hi:Lib.indexByte (123::(t++125::rest)) 125=((123::t:List UInt8).length:Int):=by
  have:=oK (c:=125) (rest:=rest) (pre:=123::t) (by
   intro hm;rcases bA.1 hm with hm | hm
   ·exact absurd hm (by decide)
   ·exact(D1 _ (Gn h _ hm)).2.1 rfl)
  simpa using this
 have e:((123::(t++125::rest)).take (Lib.indexByte (123::(t++125::rest)) 125).toNat).drop 1=t:=by
  rw[hi];simp
 simp only[aZ,aF,e,h];rw[aw (by decide),aw (by decide),aI (by decide),aw (by rw[hi];simp;omega),hi];simp;omega
theorem EP{c:UInt8}{a b:List UInt8}(h:c ∉ a):cutAt (a++c::b) c=(a,b,true):=by
 simp only[cutAt,oK h];rw[aI (by omega)];simp
def d3(n:Nat):List UInt8:=if n<10 then[UInt8.ofNat (48+n)]else if n<100 then[UInt8.ofNat (48+n / 10),UInt8.ofNat (48+n % 10)]else[UInt8.ofNat (48+n / 100),UInt8.ofNat (48+n / 10 % 10),UInt8.ofNat (48+n % 10)]
theorem wD(n:Nat)(h:n<1000):Lib.itoa (n:Int)=d3 n:=by
 unfold Lib.itoa;rw[aw (by omega)];simp only[aM,d3]
 by_cases h1:n<10
 ·rw[aI h1,Lib.decDigits_one h1]
 ·rw[aw h1]
  by_cases h2:n<100
  ·rw[aI h2,Lib.decDigits_two h1 h2]
  ·rw[aw h2,Lib.decDigits,dif_neg h1,Lib.decDigits_two (by omega) (by omega)];simp only[bg,aW];have e:n / 10 / 10=n / 100:=by omega
   rw[e]
theorem U1:∀ n:Fin 1000,1≤n.val→ahC (d3 n.val)=((n.val:Int),true)∧(d3 n.val).all dc=true∧(d3 n.val)≠[]:=by decide +kernel
theorem Nb(n:Int)(h:1≤n∧n≤999):ahC (Lib.itoa n)=(n,true)∧(∀ c∈Lib.itoa n,dc c=true)∧Lib.itoa n≠[]:=by
 obtain⟨m,rfl⟩:∃ m:Nat,n=m:=⟨n.toNat,by omega⟩;have:=U1 ⟨m,by omega⟩ (by show 1≤m;omega);rw[wD m (by omega)];exact⟨this.1,fun c hc=>bU.1 this.2.1 c hc,this.2.2⟩
def wid(x:It):Nat:=if x.ahr=1 then x.aht.length else 1
def ahF(f:List It):Nat:=(f.map wid).sum
def tZ(m:List (Int×It))(x:It):List (Int×It):=if tagged x then eW m x.id x else m
def mo(f:List It):List (Int×It):=f.foldl tZ []
def pR(f:List It)(t:List UInt8):Rd:=⟨f,t,ahF f+t.length,mo f⟩
def closed(f:List It)(t:List UInt8):List It:=if t=[]then f else f++[⟨1,t,0⟩]
theorem oA(a b:List It):ahF (a++b)=ahF a+ahF b:=by simp[ahF]
theorem tX(x:It):ahF [x]=wid x:=by simp[ahF]
theorem pH(f:List It)(x:It):mo (f++[x])=tZ (mo f) x:=by simp[mo]
theorem Dh{m:List (Int×It)}{t:List UInt8}{i:Int}:tZ m ⟨1,t,i⟩=m:=by simp[tZ,tagged]
theorem zD(f:List It)(t:List UInt8):mo (closed f t)=mo f:=by
 simp only[closed];split
 ·rfl
 ·rw[pH,Dh]
theorem sC(f:List It)(t:List UInt8):ahF (closed f t)=ahF f+t.length:=by
 simp only[closed];split
 ·rename_i h;simp[h]
 ·rw[oA,tX];simp[wid]
theorem yH(f:List It)(t:List UInt8):(closed f t).length=f.length+(if 0<t.length then 1 else 0):=by
 simp only[closed];split
 ·rename_i h;simp[h]
 ·rename_i h;have:0<t.length:=dK.2 h;simp[this]
theorem FV(f:List It)(t:List UInt8):(eR (pR f t)).f=closed f t:=by
 by_cases h:t=[]
 ·subst h;rfl
 ·have h1:0<t.length:=dK.2 h;have e:eR (pR f t)=⟨f++[⟨1,t,0⟩],[],ahF f+t.length,mo f⟩:=aI h1;rw[e,closed,aw h]
theorem wz{α:Type}{p:List α→Prop}(h0:p [])(h1:∀ l x,p l→p (l++[x]))(l:List α):p l:=by
 have:∀ l:List α,p l.reverse:=by
  intro l
  induction l with
  | nil=>exact h0
  | cons x l ih=>rw[List.reverse_cons];exact h1 _ _ ih
 have:=this l.reverse
 rwa [List.reverse_reverse]at this
def jN(f:List It)(t:List UInt8)(x:It):Prop:=512<f.length+(if 0<t.length then 1 else 0)+(if x.ahr≠1∨t.length=0 then 1 else 0)∨1024<ahF f+t.length+1
instance (f:List It) (t:List UInt8) (x:It):Decidable (jN f t x):=by unfold jN;infer_instance
theorem FX(f:List It)(t:List UInt8)(c:UInt8):iJ (pR f t) ⟨1,[c],0⟩=if jN f t ⟨1,[c],0⟩then(3,pR f t)else(0,pR f (t++[c])):=by
 simp only[iJ,tagged,jL,jN,pR];simp only[K8,dN,aA,aJ,ak,ag,ay,aO];rfl
theorem FW(f:List It)(t:List UInt8)(x:It)(hx:x.ahr≠1):iJ (pR f t) x =
  if tagged x&&tG (pR f t) x then(7,pR f t)else if jN f t x then(3,pR f t)else(0,pR (closed f t++[x]) []):=by
 simp only[iJ,jL,jN,hx,aJ]
 have e:sQ (eR (lO (pR f t) x)) x=pR (closed f t++[x]) []:=by
  have hw:wid x=1:=by simp[wid,hx]
  simp only[pR,oA,tX,sC,pH,zD,hw,ay,dm]
  by_cases h:t=[]
  ·subst h;rfl
  ·have h1:0<t.length:=dK.2 h;have e:eR (lO ⟨f,t,ahF f+t.length,mo f⟩ x)=⟨f++[⟨1,t,0⟩],[],ahF f+t.length+1,tZ (mo f) x⟩:=aI h1;rw[e,closed,aw h];rfl
 rw[e];rfl
theorem iC{x:It}{p:Option It}(h:x.ahr≠1):bB p x=bB none x:=by simp only[bB,h,aJ]
theorem lX{x:It}(h:bB none x=true):bG x=tagged x:=by
 simp only[bB]at h
 by_cases k1:x.ahr=1
 ·simp[bG,tagged,k1]
 ·by_cases k5:x.ahr=5
  ·simp[bG,tagged,k5]
  ·by_cases k2:x.ahr=2∨x.ahr=4
   ·rcases k2 with k2 | k2<;>simp[bG,tagged,k2]
   ·by_cases k3:x.ahr=3
    ·simp[bG,tagged,k3]
    ·simp[k1,k5,k2,k3]at h
theorem dZ:∀ (f pre:List It) (x:It),bh pre (f++[x])=0↔bh pre f=0∧bB (pre++f).getLast? x=true∧(bG x&&!fits (pre++f) x)=false:=by
 intro f
 induction f with
 | nil =>
  intro pre x;simp only[aW,bV,bh]
  by_cases h1:bB pre.getLast? x=false
  ·simp[h1]
  ·rw[aw h1];have h1:bB pre.getLast? x=true:=by simpa using h1
   by_cases h2:(bG x&&!fits pre x)=true
   ·simp[h2]
   ·rw[aw h2];have h2:(bG x&&!fits pre x)=false:=by simpa using h2
    simp[h1,h2]
 | cons y f ih =>
  intro pre x;simp only[bg,bh]
  by_cases h1:bB pre.getLast? y=false
  ·simp[h1]
  ·rw[aw h1,aw h1]
   by_cases h2:(bG y&&!fits pre y)=true
   ·simp[h2]
   ·rw[aw h2,aw h2,ih];simp
theorem zS:∀ (f pre:List It),bh pre f=0→∀ y∈f,bB none y=true:=by
 intro f
 induction f with
 | nil=>simp
 | cons x f ih =>
  intro pre h y hy;simp only[bh]at h;split at h
  ·simp at h
  ·rename_i h1;split at h
   ·simp at h
   ·rcases bA.1 hy with rfl | hy
    ·have h1:bB pre.getLast? y=true:=by simpa using h1
     by_cases k1:y.ahr=1
     ·simp only[bB,k1,aO,aG]at h1 ⊢;exact⟨h1.1,trivial⟩
     ·rw[← iC (p:=pre.getLast?) k1];exact h1
    ·exact ih _ h y hy
theorem G7{f:List It}{t:List UInt8}{x:It}(hf:bh [] f=0)(hx:bB none x=true):(tagged x&&tG (pR f t) x)=(bG x&&!fits (closed f t) x):=by
 rw[lX hx]
 by_cases Ln:tagged x=true
 ·rw[Ln,cm,cm];have Gu:bG x=true:=by rw[lX hx];exact Ln
  have hfc:fits (closed f t) x=fits f x:=by
   simp only[closed];split
   ·rfl
   ·simp[fits,dB,bG]
  rw[hfc];simp only[tG,pR]
  have key:∀ f:List It,bh [] f=0→(match bS x.id (mo f)with | some b=>x.ahr != 3||b.ahr != 2||cG b.aht != x.aht | none=>false)=!fits f x:=by
   intro f
   induction f using wz with
   | h0=>intro _;simp[mo,Ex,fits]
   | h1 f y ih =>
    intro h;rw[dZ]at h;obtain⟨h1,h2,h3⟩:=h;have ih:=ih h1;simp only[aW]at h2 h3
    have hy:bB none y=true:=by
     by_cases k1:y.ahr=1
     ·simp only[bB,k1,aO,aG]at h2 ⊢;exact⟨h2.1,trivial⟩
     ·rw[← iC (p:=f.getLast?) k1];exact h2
    have e:fits (f++[y]) x=(fits f x&&!dB x y):=by simp[fits]
    rw[pH,e];simp only[tZ]
    by_cases TO:tagged y=true
    ·rw[aI TO,gr];have Y8:bG y=true:=by rw[lX hy];exact TO
     by_cases hi:x.id=y.id
     ·rw[aI hi];rw[Y8,cm,gy]at h3;have eb:dB x y=(x.ahr != 3||y.ahr != 2||!(cG y.aht==x.aht)):=by simp[dB,Y8,hi]
      rw[eb]
      by_cases hb:(x.ahr != 3||y.ahr != 2||!(cG y.aht==x.aht))=true
      ·simp only[bne]at hb ⊢;rw[hb];simp
      ·have hb:(x.ahr != 3||y.ahr != 2||!(cG y.aht==x.aht))=false:=by simpa using hb
       have iZ:fits f x=true:=by
        simp only[fits,bU,cS]at h3 ⊢;intro z hz;have hz3:=h3 z hz;simp only[ja,bne_eq_false_iff_eq]at hb;simp only[dB]at hz3 ⊢;have:(y.ahr != 3)=true:=by rw[hb.1.2];decide
        rw[this,Bool.true_or,Bool.true_or,dQ]at hz3;rw[hi,hz3,dN]
       rw[iZ];simp only[bne]at hb ⊢;rw[hb];simp
     ·rw[aw hi,ih]
      have eb:dB x y=false:=by
       have:(y.id != x.id)=true:=by simpa using fun e=>hi e.symm
       simp[dB,this]
      rw[eb];simp
    ·rw[aw TO,ih];have Y8:bG y=false:=by rw[lX hy];simpa using TO
     have eb:dB x y=false:=by simp[dB,Y8]
     rw[eb];simp
  exact key f hf
 ·have h0:tagged x=false:=by simpa using Ln
  simp[h0]
theorem uz:∀ (l:List It) (a:Nat),a+ahF l<2^63→dA (a:Int) l=((a+ahF l:Nat):Int):=by
 intro l
 induction l with
 | nil=>intro a _;simp[dA,ahF]
 | cons x l ih =>
  intro a h;have ht:ahF (x::l)=wid x+ahF l:=by simp[ahF]
  rw[ht]at h ⊢;have hw:width x=(wid x:Int):=by simp only[width,wid];split<;>rfl
  have:dA (a:Int) (x::l)=dA ((a+wid x:Nat):Int) l:=by
   simp only[dA,cV,hw];rw[IntWalk.i64_in _ (by omega)];rfl
  rw[this,ih (a+wid x) (by omega)];congr 1;omega
theorem S0(x:It):wid x≤x.aht.length+1:=by simp only[wid];split<;>omega
theorem LU(f:List It):ahF f≤aN f+f.length:=by
 induction f with
 | nil=>simp[ahF,aN]
 | cons x f ih =>
  have ht:ahF (x::f)=wid x+ahF f:=by simp[ahF]
  have:=S0 x;simp only[aN,ag,ht];omega
theorem wV{f:List It}(h:ahF f<2^63):bW f=0↔f.length≤512∧ahF f≤1024∧bh [] f=0:=by
 have e:=uz f 0 (by omega);simp only[bo,jE]at e;simp only[bW];rw[show dA 0 f=(ahF f:Int)from e];split
 ·constructor
  ·intro h;simp at h
  ·rintro⟨h1,h2,_⟩;omega
 ·constructor
  ·intro h;exact⟨by omega,by omega,h⟩
  ·intro h;exact h.2.2
theorem pk:∀ (a pre b:List It),bh pre (a++b)=0↔bh pre a=0∧bh (pre++a) b=0:=by
 intro a
 induction a with
 | nil=>intro pre b;simp[bh]
 | cons x a ih =>
  intro pre b;simp only[bg,bh]
  by_cases h1:bB pre.getLast? x=false
  ·simp[h1]
  ·rw[aw h1,aw h1]
   by_cases h2:(bG x&&!fits pre x)=true
   ·simp[h2]
   ·rw[aw h2,aw h2,ih];simp
theorem rv{pre:List It}{x:It}{b:List It}:bh pre (x::b)=0↔bB pre.getLast? x=true∧(bG x&&!fits pre x)=false∧bh (pre++[x]) b=0:=by
 simp only[bh]
 by_cases h1:bB pre.getLast? x=false
 ·simp[h1]
 ·rw[aw h1];have h1:bB pre.getLast? x=true:=by simpa using h1
  by_cases h2:(bG x&&!fits pre x)=true
  ·simp[h2]
  ·rw[aw h2];have h2:(bG x&&!fits pre x)=false:=by simpa using h2
   simp[h1,h2]
theorem jm(f:List It):closed f []=f:=by simp[closed]
def dY(before:List It)(x:It):Int:=if bB before.getLast? x=false then 1 else if(bG x&&!fits before x)=true then 7 else 0
theorem p8:∀ (rest pre:List It) (x:It),bh pre (x::rest)=if dY pre x≠0 then dY pre x else bh (pre++[x]) rest:=by
 intro rest pre x;simp only[bh,dY];split
 ·simp
 ·split<;>simp
def cg(out:List It)(x:It):List It :=
 if x.ahr≠1 then out++[x]else if x.aht=[]then out else
 match out.getLast? with
 | some y=>if y.ahr=1 then out.dropLast++[⟨1,y.aht++x.aht,0⟩]else out++[⟨1,x.aht,0⟩]
 | none=>out++[⟨1,x.aht,0⟩]
def nW(f:List It):List It:=f.foldl cg []
def tx(out:List It):Bool:=match out.getLast? with
 | some y=>y.ahr==1
 | none=>false
theorem F6:∀ (n m:Nat) (f:List It),f.length≤n→f.length≤m→gJ n f=gJ m f:=by
 intro n
 induction n with
 | zero =>
  intro m f h _;have:f=[]:=aL (by omega);subst this;cases m<;>rfl
 | succ n ih =>
  intro m f h1 h2;cases f with
  | nil=>cases m<;>rfl
  | cons x r =>
   cases m with
   | zero=>simp at h2
   | succ m =>
    simp only[ag]at h1 h2
    by_cases hk:x.ahr=1
    ·have hs:=nB (x:=x) (r:=r) hk;have hi:=ih m (ahx (x::r)).2 (by omega) (by omega);simp only[gJ,hk,eX,fg,aJ];split
     ·exact hi
     ·rw[hi]
    ·simp only[gJ,aI hk];rw[ih m r (by omega) (by omega)]
theorem xW{x:It}{r:List It}(hk:x.ahr≠1):ahy (x::r)=x::ahy r:=by
 simp only[ahy,ag,gJ,aI hk]
theorem mB{x:It}{r:List It}(hk:x.ahr=1):ahy (x::r)=if(ahx (x::r)).1.length=0 then ahy (ahx (x::r)).2 else⟨1,(ahx (x::r)).1,0⟩::ahy (ahx (x::r)).2:=by
 have hs:=nB (x:=x) (r:=r) hk;have e:gJ r.length (ahx (x::r)).2=gJ (ahx (x::r)).2.length (ahx (x::r)).2:=F6 _ _ _ hs (au _);simp only[ahy,ag,gJ,hk,eX,fg,aJ,e]
def nN(t:List UInt8)(f:List It):List It:=if t=[]then ahy f else
 ⟨1,t++(ahx f).1,0⟩::ahy (ahx f).2
theorem KI:∀ (f out:List It) (t:List UInt8),(tx out=false)→f.foldl cg (closed out t)=out++nN t f:=by
 intro f
 induction f with
 | nil =>
  intro out t ho;simp only[sr,nN,closed];split
  ·simp[ahy,gJ]
  ·simp[ahx,ahy,gJ]
 | cons x f ih =>
  intro out t ho;simp only[cV]
  by_cases hk:x.ahr=1
  ·by_cases hx:x.aht=[]
   ·have e1:cg (closed out t) x=closed out t:=by simp[cg,hk,hx]
    rw[e1,ih out t ho];congr 1;simp only[nN];have hr:ahx (x::f)=((ahx f).1,(ahx f).2):=by simp[ahx,hk,hx]
    by_cases ht:t=[]
    ·rw[aI ht,aI ht,mB hk,hr];cases f with
     | nil=>simp[ahx,ahy,gJ]
     | cons y f =>
      by_cases hy:y.ahr=1
      ·rw[mB hy]
      ·simp[ahx,hy]
    ·rw[aw ht,aw ht,hr]
   ·have e1:cg (closed out t) x=closed out (t++x.aht):=by
     simp only[cg,hk,eX,fg,aJ,aw hx];have ig:t++x.aht≠[]:=by simp[hx]
     by_cases ht:t=[]
     ·subst ht;rw[jm];simp only[closed,aW,aw hx];simp only[tx]at ho;cases hg:out.getLast? with
      | none=>rfl
      | some y =>
       rw[hg]at ho;have hy:¬ y.ahr=1:=by simpa using ho
       simp only[aw hy]
     ·simp[closed,ht]
    rw[e1,ih out _ ho];congr 1;have ig:t++x.aht≠[]:=by simp[hx]
    simp only[nN,aw ig];have hr:ahx (x::f)=(x.aht++(ahx f).1,(ahx f).2):=by simp[ahx,hk]
    by_cases ht:t=[]
    ·subst ht;rw[aI rfl,mB hk,hr]
     have:(x.aht++(ahx f).1).length≠0:=by
      have:=dK.2 hx;rw[ak];omega
     rw[aw this];simp
    ·rw[aw ht,hr];simp
  ·have e1:cg (closed out t) x=closed (closed out t++[x]) []:=by
    rw[jm];simp[cg,hk]
   have he:tx (closed out t++[x])=false:=by simp[tx,hk]
   rw[e1,ih _ [] he];have hr:ahx (x::f)=([],x::f):=by simp[ahx,hk]
   simp only[nN,aO,hr,bV,xW hk]
   by_cases ht:t=[]
   ·simp[closed,ht]
   ·simp[closed,ht]
theorem lE(f:List It):nW f=ahy f:=by
 have:=KI f [] [] rfl;rw[jm]at this;simpa[nN,nW]using this
theorem dt(a b:List It):aN (a++b)=aN a+aN b:=by
 induction a with
 | nil=>simp[aN]
 | cons x a ih=>simp only[bg,aN,ih];omega
theorem mD(out:List It)(x:It):aN (cg out x)≤aN out+x.aht.length∧(cg out x).length≤out.length+1:=by
 simp only[cg];split
 ·simp[dt,aN]
 ·split
  ·omega
  ·split
   ·rename_i y hy;have ig:out≠[]:=by rintro rfl;simp at hy
    have e:out=out.dropLast++[y]:=by
     have:=List.dropLast_concat_getLast ig;rw[List.getLast?_eq_some_getLast ig]at hy;simp only[aa]at hy;rw[hy]at this;exact this.symm
    split
    ·have h1:aN out=aN out.dropLast+y.aht.length:=by
      conv=>lhs;rw[e]
      simp[dt,aN]
     simp[dt,aN];omega
    ·simp[dt,aN]
   ·simp[dt,aN]
theorem A6:∀ p:UInt8,(fY p).2=true→gq (fY p).1.toNat=p:=fK (by decide +kernel)
theorem On:∀ b:UInt8,(b==13||dD b==1)=true→dO b=[92,120,gq (b.toNat / 16),gq (b.toNat % 16)]:=fK (by decide +kernel)
theorem zW(p q:UInt8):(gK p q).toNat / 16=(fY p).1.toNat∧(gK p q).toNat % 16=(fY q).1.toNat:=by
 have h1:=th p;have h2:=th q
 have:(gK p q).toNat=16*(fY p).1.toNat+(fY q).1.toNat:=by
  simp only[gK,UInt8.toNat_ofNat'];omega
 omega
theorem mi:∀ c:UInt8,dc c=true→∃ i:Fin 10,c=UInt8.ofNat (48+i.val)∧((c.toNat:Int) - 48)=i.val:=by
 intro c h;refine⟨⟨c.toNat - 48,by simp[dc]at h;omega⟩,?_,?_⟩
 ·simp only[dc,aG,aU]at h;have:48+(c.toNat - 48)=c.toNat:=by omega
  simp[this]
 ·simp only[dc,aG,aU]at h;simp only;omega
theorem RG:∀ i:Fin 10,i.val≠0→d3 i.val=[UInt8.ofNat (48+i.val)]:=by decide +kernel
theorem RF:∀ i j:Fin 10,i.val≠0→d3 (10*i.val+j.val)=[UInt8.ofNat (48+i.val),UInt8.ofNat (48+j.val)]:=by decide +kernel
theorem RE:∀ i j k:Fin 10,i.val≠0→d3 (100*i.val+10*j.val+k.val)=[UInt8.ofNat (48+i.val),UInt8.ofNat (48+j.val),UInt8.ofNat (48+k.val)]:=by decide +kernel
theorem lU{a:List UInt8}(h:(ahC a).2=true):a=Lib.itoa (ahC a).1∧1≤(ahC a).1∧(ahC a).1≤999:=by
 simp only[ahC]at h ⊢
 by_cases h1:a.length<1∨3<a.length∨a.getD 0 0=48
 ·rw[aI h1]at h;simp at h
 ·rw[aw h1]at h ⊢
  by_cases h2:a.all dc=true
  ·rw[aI h2]
   match a,h1,h2 with
   | [x],h1,h2 =>
    simp only[ij,Ld,dQ]at h2;obtain⟨i,hi,hv⟩:=mi x h2
    have hz:i.val≠0:=by
     intro e;apply h1;right;right;rw[aF,hi,e];rfl
    have e:da 0 [x]=(i.val:Int):=by simp[da];omega
    simp only[e];rw[wD _ (by omega),RG i hz,← hi];exact⟨rfl,by omega,by omega⟩
   | [x,y],h1,h2 =>
    simp only[ij,Ld,dQ,aG]at h2;obtain⟨i,hi,hv⟩:=mi x h2.1;obtain⟨j,hj,hw⟩:=mi y h2.2
    have hz:i.val≠0:=by
     intro e;apply h1;right;right;rw[aF,hi,e];rfl
    have e:da 0 [x,y]=((10*i.val+j.val:Nat):Int):=by simp[da];omega
    simp only[e];rw[wD _ (by omega),RF i j hz,← hi,← hj];exact⟨rfl,by omega,by omega⟩
   | [x,y,z],h1,h2 =>
    simp only[ij,Ld,dQ,aG]at h2;obtain⟨i,hi,hv⟩:=mi x h2.1;obtain⟨j,hj,hw⟩:=mi y h2.2.1;obtain⟨k,hk,hu⟩:=mi z h2.2.2
    have hz:i.val≠0:=by
     intro e;apply h1;right;right;rw[aF,hi,e];rfl
    have e:da 0 [x,y,z]=((100*i.val+10*j.val+k.val:Nat):Int):=by simp[da];omega
    simp only[e];rw[wD _ (by omega),RE i j k hz,← hi,← hj,← hk];exact⟨rfl,by omega,by omega⟩
   | [],h1,_=>simp at h1
   | _::_::_::_::_,h1,_=>simp at h1
  ·rw[aw h2]at h;simp at h
theorem kU{s:List UInt8}{c:UInt8}(h:(cutAt s c).2.2=true):s=(cutAt s c).1++c::(cutAt s c).2.1:=by
 simp only[cutAt]at h ⊢
 by_cases h0:0≤Lib.indexByte s c
 ·rw[aI h0]
  have key:∀ s:List UInt8,0≤Lib.indexByte s c→s=s.take (Lib.indexByte s c).toNat++c::s.drop ((Lib.indexByte s c).toNat+1):=by
   intro s
   induction s with
   | nil=>intro h;simp[Lib.indexByte]at h
   | cons a s ih =>
    intro h;have hl:=nF c s
    by_cases ha:a=c
    ·subst ha;simp[Lib.indexByte]
    ·have Yz:(a==c)=false:=by simpa using ha
     simp only[Lib.indexByte,Yz,aA,aJ]at h ⊢
     by_cases h1:(Lib.indexByte s c == -1)=true
     ·rw[aI h1]at h;omega
     ·rw[aw h1]at h ⊢;have h2:Lib.indexByte s c ≠ -1:=by simpa using h1
      have h3:(Lib.indexByte s c+1).toNat=(Lib.indexByte s c).toNat+1:=by omega
      rw[h3];simp only[eC,jz,bg];rw[← ih (by omega)]
  exact key s h0
 ·rw[aw h0]at h;simp at h
theorem zX{s:List UInt8}{c:UInt8}(h:hasSuffix s [c]=true):s=s.take (s.length - 1)++[c]:=by
 simp only[hasSuffix,aG,aU,bR,ag,ay,bo]at h;rw[← h.2,gm]
theorem zZ{s:List UInt8}{c:UInt8}(h:ahK s [c]=true):s=c::s.drop 1:=by
 simp only[ahK,aG,aU,bR,ag,ay,bo]at h;cases s with
 | nil=>simp at h
 | cons a s=>simp at h;simp[h]
theorem I5{t:List UInt8}(h:(gC t).2=true):(gC t).1.ahr≠1∧bB none (gC t).1=true∧dG (gC t).1=60::(t++[62]):=by
 unfold gC at h ⊢;dsimp only at h ⊢;cases hp:ahK t [47]with
 | true =>
  simp only[hp,aO,eB,dN,aA,aJ]at h ⊢
  by_cases hc:((cutAt (t.drop 1) 58).2.2&&(ahC (cutAt (t.drop 1) 58).1).2)=true
  ·rw[aI hc]at h ⊢;dsimp only at h ⊢;simp only[aG]at hc;obtain⟨n1,n2,n3⟩:=lU hc.2;have e1:=kU hc.1;have e2:=zZ hp;refine⟨by decide,?_,?_⟩
   ·simp only[bB];rw[aw (by decide),aw (by decide),aw (by decide),aI (by decide)];simp only[h,n2,n3,kX,dQ]
   ·simp only[dG];rw[aw (by decide),aw (by decide),aI (by decide),← n1]
    conv=>rhs;rw[e2,e1]
    simp
  ·rw[aw hc]at h;simp at h
 | false =>
  simp only[hp,aA,aJ,fT,cm]at h ⊢;cases hs:hasSuffix (cutAt t 58).2.1 [47]with
  | true =>
   simp only[hs,aO]at h ⊢
   by_cases hc:((cutAt t 58).2.2&&(ahC (cutAt t 58).1).2)=true
   ·rw[aI hc]at h ⊢;dsimp only at h ⊢;simp only[aG]at hc;obtain⟨n1,n2,n3⟩:=lU hc.2;have e1:=kU hc.1;have e2:=zX hs;have h:cP ((cutAt t 58).2.1.take ((cutAt t 58).2.1.length - 1))=true:=by simpa using h
    refine⟨by decide,?_,?_⟩
    ·simp only[bB];rw[aw (by decide),aw (by decide),aI (.inr (by decide))];simp only[h,n2,n3,kX,dQ]
    ·simp only[dG];rw[aw (by decide),aw (by decide),aw (by decide),aI (by decide),← n1]
     conv=>rhs;rw[e1]
     conv=>rhs;rw[e2]
     simp
   ·rw[aw hc]at h;simp at h
  | false =>
   simp only[hs,aA,aJ]at h ⊢
   by_cases hc:((cutAt t 58).2.2&&(ahC (cutAt t 58).1).2)=true
   ·rw[aI hc]at h ⊢;dsimp only at h ⊢;simp only[aG]at hc;obtain⟨n1,n2,n3⟩:=lU hc.2;have e1:=kU hc.1;have h:cP (cutAt t 58).2.1=true:=by simpa using h
    refine⟨by decide,?_,?_⟩
    ·simp only[bB];rw[aw (by decide),aw (by decide),aI (.inl (by decide))];simp only[h,n2,n3,kX,dQ]
    ·simp only[dG];rw[aw (by decide),aI (by decide),← n1]
     conv=>rhs;rw[e1]
     simp
   ·rw[aw hc]at h;simp at h
theorem tB{s:List UInt8}(hs:s≠[])(h:(aZ s).2.2=true):
  ((∃ c,(aZ s).1=⟨1,[c],0⟩∧s=dO c++s.drop (aZ s).2.1.toNat) ∨
   ((aZ s).1.ahr≠1∧bB none (aZ s).1=true∧s=dG (aZ s).1++s.drop (aZ s).2.1.toNat)):=by
 simp only[aZ]at h ⊢
 by_cases c92:s.getD 0 0=92
 ·left;rw[aI c92]at h ⊢;simp only at h ⊢;refine⟨_,rfl,?_⟩
  match s,hs,c92,h with
  | [a],_,c92,h=>simp[cH]at h
  | a::d::r,_,c92,h =>
   simp only[aF]at c92;subst c92
   by_cases d1:d=92∨d=60∨d=123
   ·have e:cH (92::d::r)=(d,2,true):=by simp only[l3,aI d1]
    rw[e];rcases d1 with rfl | rfl | rfl<;>simp[show dO 92=[92,92]by decide,show dO 60=[92,60]by decide,show dO 123=[92,123]by decide]
   ·by_cases d2:d=110
    ·subst d2;have e:cH (92::110::r)=(10,2,true):=by simp only[l3];rfl
     rw[e];simp[show dO 10=[92,110]by decide]
    ·by_cases d3:d=116
     ·subst d3;have e:cH (92::116::r)=(9,2,true):=by simp only[l3];rfl
      rw[e];simp[show dO 9=[92,116]by decide]
     ·by_cases d4:d=120
      ·subst d4
       match r,h with
       | [],h=>simp[cH]at h
       | [_],h=>simp[cH]at h
       | p::q::r,h =>
        have e:cH (92::120::p::q::r)=(gK p q,4,(fY p).2&&(fY q).2&&(gK p q==13||dD (gK p q)==1)):=by
         simp only[l3];rw[aw (by decide),aw (by decide),aw (by decide),aI (by decide),aw (by simp)];simp only[aF,aP]
        rw[e]at h ⊢;simp only[aG]at h;have hp:=zW p q;rw[On _ h.2,hp.1,hp.2,A6 p h.1.1,A6 q h.1.2];simp
      ·have e:cH (92::d::r)=(0,0,false):=by simp only[l3,d1,d2,d3,d4,aJ]
       rw[e]at h;simp at h
  | [],hs,_,_=>exact absurd rfl hs
 ·rw[aw c92]at h ⊢
  by_cases c60:s.getD 0 0=60
  ·right;rw[aI c60]at h ⊢
   by_cases hi:Lib.indexByte s 62<0
   ·rw[aI hi]at h;simp at h
   ·rw[aw hi]at h ⊢;simp only at h ⊢;have hc:(cutAt s 62).2.2=true:=by simp only[cutAt];rw[aI (by omega)]
    have e1:=kU hc;have ec1:(cutAt s 62).1=s.take (Lib.indexByte s 62).toNat:=by simp only[cutAt];rw[aI (by omega)]
    have ec2:(cutAt s 62).2.1=s.drop ((Lib.indexByte s 62).toNat+1):=by simp only[cutAt];rw[aI (by omega)]
    obtain⟨t1,t2,t3⟩:=I5 h;refine⟨t1,t2,?_⟩;have hp:=lu s 62 (by rw[c60];decide) hi
    have e2:s.take (Lib.indexByte s 62).toNat=60::(s.take (Lib.indexByte s 62).toNat).drop 1:=by
     cases s with
     | nil=>exact absurd rfl hs
     | cons a s =>
      simp only[aF]at c60;subst c60;obtain⟨m,hm⟩:∃ m,(Lib.indexByte (60::s) 62).toNat=m+1:=⟨(Lib.indexByte (60::s) 62).toNat - 1,by omega⟩;rw[hm];simp
    rw[t3];have e3:(Lib.indexByte s 62+1).toNat=(Lib.indexByte s 62).toNat+1:=by omega
    rw[e3]
    conv=>lhs;rw[e1,ec1,ec2,e2]
    simp
  ·rw[aw c60]at h ⊢
   by_cases kC:s.getD 0 0=123
   ·right;rw[aI kC]at h ⊢
    by_cases hi:Lib.indexByte s 125<0∨ahz ((s.take (Lib.indexByte s 125).toNat).drop 1)=false
    ·rw[aI hi]at h;simp at h
    ·rw[aw hi]at h ⊢;simp only[OV]at hi;simp only;have hn:ahz ((s.take (Lib.indexByte s 125).toNat).drop 1)=true:=by simpa using hi.2
     have hc:(cutAt s 125).2.2=true:=by simp only[cutAt];rw[aI (by omega)]
     have e1:=kU hc;have ec1:(cutAt s 125).1=s.take (Lib.indexByte s 125).toNat:=by simp only[cutAt];rw[aI (by omega)]
     have ec2:(cutAt s 125).2.1=s.drop ((Lib.indexByte s 125).toNat+1):=by simp only[cutAt];rw[aI (by omega)]
     have hp:=lu s 125 (by rw[kC];decide) hi.1;refine⟨by decide,?_,?_⟩
     ·simp only[bB];rw[aw (by decide),aI (by decide),hn];rfl
     ·have e2:s.take (Lib.indexByte s 125).toNat=123::(s.take (Lib.indexByte s 125).toNat).drop 1:=by
       cases s with
       | nil=>exact absurd rfl hs
       | cons a s =>
        simp only[aF]at kC;subst kC;obtain⟨m,hm⟩:∃ m,(Lib.indexByte (123::s) 125).toNat=m+1:=⟨(Lib.indexByte (123::s) 125).toNat - 1,by omega⟩;rw[hm];simp
      simp only[dG];rw[aw (by decide),aw (by decide),aw (by decide),aw (by decide),aI (by decide)];have e3:(Lib.indexByte s 125+1).toNat=(Lib.indexByte s 125).toNat+1:=by omega
      rw[e3]
      conv=>lhs;rw[e1,ec1,ec2,e2]
      simp
   ·left;rw[aw kC]at h ⊢;simp only at h ⊢;cases s with
    | nil=>exact absurd rfl hs
    | cons a s =>
     simp only[aF]at h;refine⟨a,by simp,?_⟩;simp[dO,h]
def gV(s:List UInt8):It×Int:=if(aZ s).2.2=true then((aZ s).1,(aZ s).2.1)else(kA,0)
theorem ug{s:List UInt8}(h:(aZ s).2.2=false):gV s=(kA,0):=by simp[gV,h]
def pT(ahr:Int)(t:List UInt8):It×Bool :=
 let k:=min 4 (t.takeWhile dc).length
 if k=0∨t.length≤k∨t.getD 0 0=48∨999<da 0 (t.take k)∨t.getD k 0≠58 then(kA,false)else
 if(ahr=3∧ahz (t.drop (k+1))=false)∨(ahr≠3∧cP (t.drop (k+1))=false)then(kA,false)else(⟨ahr,t.drop (k+1),da 0 (t.take k)⟩,true)
def By(t:List UInt8):It×Bool :=
 if ahK t [47]=true then pT 3 (t.drop 1)else if hasSuffix t [47]=true then pT 4 (t.take (t.length - 1))else pT 2 t
def DN(ahr:Int)(a b:List UInt8)(cut:Bool):It×Bool :=
 if(cut&&(ahC a).2)=true then(if(if ahr=3 then ahz b else cP b)=true then(⟨ahr,b,(ahC a).1⟩,true)else(kA,false))else(kA,false)
theorem zC{a b:List UInt8}(h:∀ c∈a,dc c=true):(a++58::b).takeWhile dc=a:=by
 induction a with
 | nil=>simp[show dc 58=false by decide]
 | cons x a ih =>
  have hx:dc x=true:=h x (by simp);simp[hx,ih fun c hc=>h c (by simp[hc])]
theorem xa{n:Nat}{t:List UInt8}(h:n≤(t.takeWhile dc).length):∀ c∈t.take n,dc c=true:=by
 intro c hc
 have e:t.take n=(t.takeWhile dc).take n:=by
  have:=List.takeWhile_append_dropWhile (p:=dc) (l:=t)
  conv=>lhs;rw[← this]
  rw[List.take_append_of_le_length h]
 rw[e]at hc;have h2:=dT hc;exact bU.1 (List.all_takeWhile (p:=dc) (l:=t)) c h2
theorem Oj{a b c d:UInt8}{r:List UInt8}(ha:dc a=true)(h48:a≠48)(hb:dc b=true)(hc:dc c=true)(hd:dc d=true):999<da 0 [a,b,c,d]:=by
 simp only[dc,aG,aU]at ha hb hc hd;have:a.toNat≠48:=fun e=>h48 (zq.1 e);simp only[da,cV,sr];omega
theorem pS(ahr:Int)(t:List UInt8):pT ahr t=DN ahr (cutAt t 58).1 (cutAt t 58).2.1 (cutAt t 58).2.2:=by
 by_cases hc:((cutAt t 58).2.2&&(ahC (cutAt t 58).1).2)=true
 ·have zo:=hc;simp only[aG]at zo;obtain⟨n1,n2,n3⟩:=lU zo.2;have e1:=kU zo.1;generalize ha:(cutAt t 58).1=a at *;generalize hb:(cutAt t 58).2.1=b at *;have hn:=Nb (ahC a).1 ⟨n2,n3⟩;rw[← n1]at hn;have TX:=zo.2;simp only[ahC]at TX
  by_cases h1:a.length<1∨3<a.length∨a.getD 0 0=48
  ·rw[aI h1]at TX;simp at TX
  ·have iZ:a.all dc=true:=bU.2 hn.2.1;have hv:(ahC a).1=da 0 a:=by simp only[ahC,aw h1,iZ,aO]
   have hk:min 4 (t.takeWhile dc).length=a.length:=by rw[e1,zC hn.2.1];omega
   have ht:t.take a.length=a:=by rw[e1];simp
   have hd:t.drop (a.length+1)=b:=by rw[e1];simp
   have hl:¬ t.length≤a.length:=by rw[e1];simp
   have h0:t.getD 0 0=a.getD 0 0:=by
    rw[e1];cases a with
    | nil=>simp at h1
    | cons x a=>rfl
   have h58:t.getD a.length 0=58:=by rw[e1];simp[ar]
   simp only[pT,DN,hc,aO,hk,ht,hd,h0,h58]
   rw[aw (by
    simp only[OV]at h1 ⊢;exact⟨by omega,hl,h1.2.2,by rw[← hv];omega,by simp⟩)]
   by_cases hk3:ahr=3
   ·simp only[hk3,iH,aO,eX,fg,false_and,sf,hv]
    by_cases hb:ahz b=true<;>simp[hb]
   ·simp only[hk3,false_and,aJ,eX,cL,iH,nL,hv]
    by_cases hb:cP b=true<;>simp[hb]
 ·simp only[DN,aw hc,pT];refine aI ?_;apply a8;intro ig;apply hc;simp only[OV,Int.not_lt,Nat.not_le,Decidable.not_not]at ig;obtain⟨g1,g2,g3,g4,g5⟩:=ig;generalize hk:min 4 (t.takeWhile dc).length=k at *;have iZ:=xa (n:=k) (t:=t) (by omega)
  have e1:t=t.take k++58::t.drop (k+1):=by
   conv=>lhs;rw[← List.take_append_drop k t]
   congr 1;rw[dU g2];congr 1;rw[ar,al g2]at g5;simpa using g5
  have qe:(58:UInt8) ∉ t.take k:=fun hm=>absurd (iZ _ hm) (by decide)
  have abp:cutAt t 58=(t.take k,t.drop (k+1),true):=by
   conv=>lhs;rw[e1]
   exact EP qe
  rw[abp];have hlen:(t.take k).length=k:=by rw[bT];omega
  have Ub:(t.take k).getD 0 0=t.getD 0 0:=by
   cases t with
   | nil=>simp
   | cons x t =>
    obtain⟨m,rfl⟩:∃ m,k=m+1:=⟨k - 1,by omega⟩;rfl
  have hk4:k≤3:=by
   apply a8;intro h;have h4:k=4:=by omega
   subst h4
   match t,g2,iZ,g3,g4 with
   | a::b::c::d::r,_,iZ,g3,g4 =>
    have:=Oj (r:=r) (iZ a (by simp)) (by simpa using g3) (iZ b (by simp)) (iZ c (by simp)) (iZ d (by simp));simp only[eC,jC]at g4;omega
   | [],h,_,_,_=>simp at h
   | [_],h,_,_,_=>simp at h
   | [_,_],h,_,_,_=>simp at h
   | [_,_,_],h,_,_,_=>simp at h
  simp only[cm,ahC];rw[aw (by rw[hlen,Ub];simp only[OV];exact⟨by omega,by omega,g3⟩),aI (bU.2 iZ)]
def My(p:It×Bool):It×Bool:=if p.2=true then p else(kA,false)
theorem uo(ahr:Int)(a b:List UInt8)(cut:Bool):
  My (if(cut&&(ahC a).2)=true then(⟨ahr,b,(ahC a).1⟩,if ahr=3 then ahz b else cP b)else(⟨0,[],0⟩,false))=DN ahr a b cut:=by
 simp only[DN]
 by_cases hc:(cut&&(ahC a).2)=true
 ·rw[aI hc,aI hc];simp only[My];generalize (if ahr=3 then ahz b else cP b)=X;cases X<;>rfl
 ·rw[aw hc,aw hc];rfl
theorem kq{t:List UInt8}{x c:UInt8}:hasSuffix (t++[x]) [c]=(x==c):=by
 simp[hasSuffix]
theorem zY{a b:List UInt8}:hasSuffix (a++58::b) [47]=hasSuffix b [47]:=by
 rcases fb b with hb | ⟨b',x,hb⟩
 ·subst hb;rw[kq];rfl
 ·rw[fc]at hb;subst hb;rw[kq,show a++58::(b'++[x])=(a++58::b')++[x]by simp,kq]
theorem r8{s:List UInt8}{c:UInt8}(h:c ∉ s):cutAt s c=(s,[],false):=by
 simp only[cutAt,qc h];rfl
theorem KR{s:List UInt8}{c:UInt8}(h:c∈s):(cutAt s c).2.2=true:=by
 simp only[cutAt];rw[aI (mF h)]
theorem pn{c:UInt8}:∀ {s:List UInt8},c ∉ s.take (Lib.indexByte s c).toNat
 | []=>by simp
 | a::s=>by
  by_cases ha:a=c
  ·subst ha;simp[Lib.indexByte]
  ·have Yz:(a==c)=false:=by simpa using ha
   have hl:=nF c s;simp only[Lib.indexByte,Yz,aA,aJ]
   by_cases h1:(Lib.indexByte s c == -1)=true
   ·rw[aI h1];simp
   ·rw[aw h1];have h2:Lib.indexByte s c ≠ -1:=by simpa using h1
    have h3:(Lib.indexByte s c+1).toNat=(Lib.indexByte s c).toNat+1:=by omega
    rw[h3,eC];intro hm;rcases bA.1 hm with hm | hm
    ·exact ha hm.symm
    ·exact pn hm
theorem CI{s:List UInt8}{c:UInt8}(h:c∈s):c ∉ (cutAt s c).1:=by
 simp only[cutAt];rw[aI (mF h)];exact pn
theorem PH(t:List UInt8):By t=My (gC t):=by
 unfold By gC;dsimp only;cases hp:ahK t [47]with
 | true =>
  simp only[aO,eB,dN,aA,aJ];rw[pS,← uo];rfl
 | false =>
  simp only[aA,aJ,fT,cm]
  by_cases hm:(58:UInt8)∈t
  ·have hc:=KR hm;have hb:=CI hm;have e1:=kU hc;generalize ha:(cutAt t 58).1=a at *;generalize NO:(cutAt t 58).2.1=b at *;have hs:hasSuffix t [47]=hasSuffix b [47]:=by conv=>lhs;rw[e1,zY]
   rw[hs];cases XW:hasSuffix b [47]with
   | true =>
    simp only[aO];have VA:b≠[]:=by rintro rfl;simp[hasSuffix]at XW
    have et:t.take (t.length - 1)=a++58::b.take (b.length - 1):=by
     have zU:=dK.2 VA;rw[e1];simp only[ak,ag];rw[List.take_append,dz (by omega)];have:a.length+(b.length+1) - 1 - a.length=(b.length - 1)+1:=by omega
     rw[this,eC]
    rw[pS,et,EP hb,← uo,hc]
   | false =>
    simp only[aA,aJ];rw[pS,ha,NO,hc,← uo]
  ·have hm2:(58:UInt8) ∉ t.take (t.length - 1):=fun h=>hm (dT h);have e0:∀ k,pT k t=(kA,false):=fun k=>by rw[pS,r8 hm];rfl
   have e2:pT 4 (t.take (t.length - 1))=(kA,false):=by rw[pS,r8 hm2];rfl
   rw[r8 hm,e0,e2];simp[My]
theorem Jn{s:List UInt8}(h0:s.getD 0 0=60):gV s=if Lib.indexByte s 62<0 then(kA,0)else
  (if(By ((s.take (Lib.indexByte s 62).toNat).drop 1)).2=true then((By ((s.take (Lib.indexByte s 62).toNat).drop 1)).1,Lib.indexByte s 62+1)else(kA,0)):=by
 have e:aZ s=if Lib.indexByte s 62<0 then(kA,0,false)else((gC ((s.take (Lib.indexByte s 62).toNat).drop 1)).1,Lib.indexByte s 62+1,(gC ((s.take (Lib.indexByte s 62).toNat).drop 1)).2):=by
  simp only[aZ,h0];rw[aw (by decide),aI trivial]
 rw[gV,e]
 by_cases hi:Lib.indexByte s 62<0
 ·simp[hi]
 ·rw[aw hi,aw hi,PH,My];generalize gC ((s.take (Lib.indexByte s 62).toNat).drop 1)=p;obtain⟨x,b⟩:=p;cases b<;>rfl
theorem FO{s:List UInt8}{c:UInt8}(h:ahK s (dO c)=true):gV s=(⟨1,[c],0⟩,((dO c).length:Int)):=by
 have e:s=dO c++s.drop (dO c).length:=by
  simp only[ahK,aG,aU,bR]at h
  conv=>lhs;rw[← List.take_append_drop (dO c).length s,h.2]
 rw[gV,e,KP];simp
theorem p9{x:It}(hk:x.ahr≠1)(h:bB none x=true):∃ r,dG x=60::r∨(dG x=123::(x.aht++[125])∧ahz x.aht=true):=by
 simp only[bB,aw hk]at h;simp only[dG,aw hk]
 by_cases k5:x.ahr=5
 ·rw[aI k5,aG]at h;refine⟨[],.inr ⟨?_,h.1⟩⟩;simp[k5]
 ·rw[aw k5]at h
  by_cases k2:x.ahr=2
  ·exact⟨_,.inl (by rw[aI k2])⟩
  ·by_cases k4:x.ahr=4
   ·exact⟨_,.inl (by rw[aw k2,aw (by omega),aI k4])⟩
   ·rw[aw (by omega)]at h
    by_cases k3:x.ahr=3
    ·exact⟨_,.inl (by rw[aw k2,aI k3])⟩
    ·rw[aw k3]at h;simp at h
theorem FN{s:List UInt8}(hs:s≠[])(SC:s.getD 0 0≠60)(px:s.getD 0 0≠123)(h:∀ c,ahK s (dO c)=false):gV s=(kA,0):=by
 refine ug ?_;apply a8;intro ht;rcases tB hs (by simpa using ht)with⟨c,_,he⟩ | ⟨hk,hf,he⟩
 ·have:=h c;rw[he]at this;simp[ahK]at this
 ·obtain⟨r,h1 | ⟨h1,_⟩⟩:=p9 hk hf
  ·rw[h1]at he;rw[he]at SC;simp at SC
  ·rw[h1]at he;rw[he]at px;simp at px
theorem Fs:∀ c:UInt8,(dO c).getD 0 0≠123∧dO c≠[]:=fK (by decide +kernel)
theorem FL{s:List UInt8}{k:Nat}(px:s.getD 0 0=123)(rV:1≤k)(hk:k<s.length)(hb:s.getD k 0=125)(hn:ahz ((s.take k).drop 1)=true):
  gV s=(⟨5,(s.take k).drop 1,0⟩,(k:Int)+1):=by
 have e:s=123::((s.take k).drop 1++125::s.drop (k+1)):=by
  cases s with
  | nil=>simp at hk
  | cons a s =>
   simp only[aF]at px;subst px;obtain⟨m,rfl⟩:∃ m,k=m+1:=⟨k - 1,by omega⟩;simp only[ag]at hk;have hm:m<s.length:=by omega
   simp only[eC,jz,lj];congr 1
   conv=>lhs;rw[← List.take_append_drop m s]
   congr 1;rw[dU hm];congr 1;rw[aP,ar,al hm]at hb;simpa using hb
 have hl:((s.take k).drop 1).length=k - 1:=by rw[cy,bT];omega
 have:=KO ((s.take k).drop 1) (s.drop (k+1)) hn;rw[← e]at this;rw[gV,this];simp only[aO,hl];congr 1;omega
theorem Bz{s:List UInt8}(px:s.getD 0 0=123)(h:∀ k,1≤k→k<s.length→k≤25→¬ (s.getD k 0=125∧ahz ((s.take k).drop 1)=true)):gV s=(kA,0):=by
 have hs:s≠[]:=by rintro rfl;simp at px
 refine ug ?_;apply a8;intro ht;rcases tB hs (by simpa using ht)with⟨c,_,he⟩ | ⟨hk,hf,he⟩
 ·have h1:=Fs c;rw[he]at px;cases hw:dO c with
  | nil=>exact h1.2 hw
  | cons a w =>
   rw[hw]at px h1;exact h1.1 (by simpa using px)
 ·obtain⟨r,h1 | ⟨h1,hn⟩⟩:=p9 hk hf
  ·rw[h1]at he;rw[he]at px;simp at px
  ·rw[h1]at he;generalize (aZ s).1.aht=t at *
   have hl:t.length≤24:=by
    cases t with
    | nil=>simp
    | cons c t =>
     simp only[ahz,aG,aU]at hn;exact hn.1.1
   generalize s.drop (aZ s).2.1.toNat=d at he;have e:s=(123::t)++125::d:=by rw[he];simp
   refine h (t.length+1) (by omega) (by rw[e];simp) (by omega) ⟨?_,?_⟩
   ·rw[e];rw[show t.length+1=(123::t).length by simp,PD]
   ·rw[e];rw[show t.length+1=(123::t).length by simp];simpa using hn
def fG:Nat→List It→Int→List UInt8→Int→List It×Int×Int
 | 0,_,_,_,at'=>([],at',2)
 | _+1,f,_,[],_=>(f,0,0)
 | n+1,f,len,c::l,at' =>
  let p:=gV (c::l)
  if p.2=0 then([],at',2)else if p.1.ahr≠1∧dY f p.1≠0 then([],at',dY f p.1)else
  let g:=ahy (f++[p.1])
  if 512<g.length∨1024<len+1 then([],at',3)else fG n g (len+1) ((c::l).drop p.2.toNat) (at'+p.2)
theorem zO(f:List It)(x:It):nW (f++[x])=cg (nW f) x:=by simp[nW]
theorem fC{f:List It}{x:It}(h:ahy f=f):ahy (f++[x])=cg f x:=by
 rw[← lE,zO,lE,h]
theorem zN{f:List It}{t:List UInt8}{c:UInt8}(h:∀ x,f.getLast?=some x→x.ahr≠1):cg (closed f t) ⟨1,[c],0⟩=closed f (t++[c]):=by
 by_cases ht:t=[]
 ·subst ht;rw[jm];simp only[cg,closed,eX,fg,aJ,aW];rw[aw (by simp),aw (by simp)];cases hg:f.getLast? with
  | none=>rfl
  | some y=>simp only[aw (h y hg)]
 ·simp[cg,closed,ht]
theorem lp{f:List It}{x:It}(h:x.ahr≠1):cg f x=f++[x]:=by simp[cg,h]
theorem DZ{f:List It}{t:List UInt8}(h3:ahy f=f)(h:∀ x,f.getLast?=some x→x.ahr≠1):ahy (closed f t)=closed f t:=by
 by_cases ht:t=[]
 ·subst ht;rw[jm];exact h3
 ·have e:closed f t=f++[⟨1,t,0⟩]:=by simp[closed,ht]
  rw[e,fC h3];simp only[cg,eX,fg,aJ,aw ht];cases hg:f.getLast? with
  | none=>rfl
  | some y=>simp only[aw (h y hg)]
theorem Jo:∀ (n:Nat) (f:List It) (t l:List UInt8) (at':Int),bh [] (closed f t)=0→(∀ x,f.getLast?=some x→x.ahr≠1)→ahy f=f →
  fG n (closed f t) ((ahF f+t.length:Nat):Int) l at'=kO n (pR f t) l at':=by
 intro n
 induction n with
 | zero=>intros;rfl
 | succ n ih =>
  intro f t l at' h1 h2 h3;have h4:=DZ (t:=t) h3 h2;cases l with
  | nil=>simp only[fG,kO,FV]
  | cons c l =>
   have hf:bh [] f=0:=by
    simp only[closed]at h1;split at h1
    ·exact h1
    ·rw[dZ]at h1;exact h1.1
   simp only[fG,kO]
   by_cases he:(aZ (c::l)).2.2=true
   ·have gU:=(oP (s:=c::l) (by simp)).2.2 he;have hr:gV (c::l)=((aZ (c::l)).1,(aZ (c::l)).2.1):=by rw[gV,aI he]
    simp only[hr,he,sy,aJ];rw[aw (by omega)];rcases tB (s:=c::l) (by simp) he with⟨b,e0,_⟩ | ⟨e0,e1,_⟩
    ·rw[e0,FX,aw (by simp),fC h4,zN h2]
     have ht:(512<(closed f (t++[b])).length∨(1024:Int)<((ahF f+t.length:Nat):Int)+1)↔jN f t ⟨1,[b],0⟩:=by
      simp only[jN,yH,ak,ag,ay,eX,fg,nL]
      by_cases h0:t.length=0
      ·rw[aI (by omega),aw (by omega),aI h0];omega
      ·rw[aI (by omega),aI (by omega),aw h0];omega
     by_cases hm:jN f t ⟨1,[b],0⟩
     ·rw[aI (ht.2 hm),aI hm];simp
     ·rw[aw (fun h=>hm (ht.1 h)),aw hm];simp only[eX,fg,aJ];have bz:closed f (t++[b])=f++[⟨1,t++[b],0⟩]:=by simp[closed]
      have hv:bh [] (closed f (t++[b]))=0:=by
       rw[bz,dZ];refine⟨hf,?_,by simp[bG]⟩;simp only[bB,aO,aW,aG];refine⟨⟨by simp,by simp⟩,?_⟩;cases hg:f.getLast? with
       | none=>rfl
       | some y=>simpa using h2 y hg
      have:=ih f (t++[b]) ((c::l).drop (aZ (c::l)).2.1.toNat) (at'+(aZ (c::l)).2.1) hv h2 h3;rw[← this];congr 1;simp;omega
    ·rw[FW _ _ _ e0,G7 hf e1]
     have tj:dY (closed f t) (aZ (c::l)).1=if(bG (aZ (c::l)).1&&!fits (closed f t) (aZ (c::l)).1)=true then 7 else 0:=by
      simp only[dY,iC e0,e1];simp
     rw[tj]
     by_cases bz:(bG (aZ (c::l)).1&&!fits (closed f t) (aZ (c::l)).1)=true
     ·simp[bz,e0]
     ·rw[aw bz,aw bz,aw (by simp),fC h4,lp e0]
      have ht:(512<(closed f t++[(aZ (c::l)).1]).length∨(1024:Int)<((ahF f+t.length:Nat):Int)+1)↔jN f t (aZ (c::l)).1:=by
       simp only[jN,e0,yH,ak,ag,ay,eX,cL,K7,aO];omega
      by_cases hm:jN f t (aZ (c::l)).1
      ·rw[aI (ht.2 hm),aI hm];simp
      ·rw[aw (fun h=>hm (ht.1 h)),aw hm];simp only[eX,fg,aJ]
       have hv:bh [] (closed (closed f t++[(aZ (c::l)).1]) [])=0:=by
        rw[jm,dZ];refine⟨h1,?_,by simpa using bz⟩;rw[iC e0];exact e1
       have hn:ahy (closed f t++[(aZ (c::l)).1])=closed f t++[(aZ (c::l)).1]:=by
        rw[fC h4,lp e0]
       have:=ih (closed f t++[(aZ (c::l)).1]) [] ((c::l).drop (aZ (c::l)).2.1.toNat) (at'+(aZ (c::l)).2.1) hv (by
        intro x hx;simp only[lg,jD,sg,aa]at hx;subst hx;exact e0) hn
       rw[← this,jm];congr 1;have hw:wid (aZ (c::l)).1=1:=by simp[wid,e0]
       simp[oA,sC,tX,hw]
   ·have he:(aZ (c::l)).2.2=false:=by simpa using he
    rw[ug he];simp[he]
theorem xu:∀ (n:Nat) (f:List It) (len:Int) (l:List UInt8) (at':Int),(fG n f len l at').2.2=0→(fG n f len l at').2.1=0
 | 0,_,_,_,_,h=>by simp[fG]at h
 | n+1,f,len,[],at',_=>rfl
 | n+1,f,len,c::l,at',h=>by
  simp only[fG]at h ⊢;split
  ·rename_i h1;rw[aI h1]at h;simp at h
  ·rename_i h1;rw[aw h1]at h;split
   ·rename_i h2;rw[aI h2]at h;exact absurd h h2.2
   ·rename_i h2;rw[aw h2]at h;split
    ·rename_i h3;rw[aI h3]at h;simp at h
    ·rename_i h3;rw[aw h3]at h;exact xu n _ _ _ _ h
theorem u9:∀ (n:Nat) (f:List It) (len:Int) (l:List UInt8) (at':Int),(fG n f len l at').2.2≠0→(fG n f len l at').1=[]
 | 0,_,_,_,_,_=>rfl
 | n+1,f,len,[],at',h=>by simp[fG]at h
 | n+1,f,len,c::l,at',h=>by
  simp only[fG]at h ⊢;split
  ·rfl
  ·rename_i h1;rw[aw h1]at h;split
   ·rfl
   ·rename_i h2;rw[aw h2]at h;split
    ·rfl
    ·rename_i h3;rw[aw h3]at h;exact u9 n _ _ _ _ h
theorem yt:∀ (f out:List It),aN (f.foldl cg out)≤aN out+aN f∧(f.foldl cg out).length≤out.length+f.length
 | [],out=>by simp[aN]
 | x::f,out=>by
  have h1:=mD out x;have h2:=yt f (cg out x);simp only[cV,aN,ag];omega
theorem F5(f:List It):aN (ahy f)≤aN f∧(ahy f).length≤f.length:=by
 have h:=yt f [];rw[← lE];simpa[nW,aN]using h
theorem zT{x:It}(hk:x.ahr≠1)(h:bB none x=true):x.aht.length≤(dG x).length:=by
 simp only[bB,aw hk]at h;simp only[dG,aw hk]
 by_cases k2:x.ahr=2
 ·simp[k2];omega
 ·by_cases k3:x.ahr=3
  ·simp[k3];omega
  ·by_cases k4:x.ahr=4
   ·simp[k4];omega
   ·by_cases k5:x.ahr=5
    ·simp[k5];omega
    ·simp[k2,k3,k4,k5]at h
theorem FK{s:List UInt8}(hs:s≠[]):(gV s).2≠0→1≤(gV s).2∧(gV s).2≤s.length∧((gV s).1.aht.length:Int)≤(gV s).2:=by
 have h:=oP hs;simp only[gV]
 by_cases he:(aZ s).2.2=true
 ·rw[aI he];intro _;have h2:=h.2.2 he;refine⟨h2.1,h2.2,?_⟩;have hl:(s.drop (aZ s).2.1.toNat).length=s.length - (aZ s).2.1.toNat:=cy ..;rcases tB hs he with⟨c,e,_⟩ | ⟨e0,e1,e2⟩
  ·rw[e];simp;omega
  ·have h3:=zT e0 e1;have h4:=congrArg List.length e2;rw[ak,hl]at h4;simp only;omega
 ·rw[aw he];simp
def uh(s:List UInt8):List It×Int×Int:=fG (s.length+1) [] 0 s 0
theorem BA(s:List UInt8):uh s=parse s:=by
 have:=Jo (s.length+1) [] [] s 0 (by simp[closed,bh]) (by simp) rfl;rw[jm]at this;exact this
theorem tD(a:Nat):(b8 a).length=a:=by simp[b8]
theorem EB{α β:Type}{f g:α→Option β}:∀ {l:List α},(∀ x∈l,f x=g x)→l.filterMap f=l.filterMap g
 | [],_=>rfl
 | x::l,h=>by
  simp only[fW,h x (by simp)];rw[EB fun y hy=>h y (by simp[hy])]
def tg(f:List It):List It:=f.filter bG
theorem eF(a b:List It):tg (a++b)=tg a++tg b:=by simp[tg]
theorem pF{x:It}(h:bG x=true):tg [x]=[x]:=by simp[tg,h]
theorem qC{x:It}(h:bG x=false):tg [x]=[]:=by simp[tg,h]
theorem rR(t:List UInt8)(i:Int):bG ⟨1,t,i⟩=false:=by simp[bG]
theorem vu{x:It}(h:x.ahr=1):bG x=false:=by simp[bG,h]
theorem Bq{x:It}(h1:x.ahr=1)(h2:x.id=0):(⟨1,x.aht,0⟩:It)=x:=by
 obtain⟨k,t,i⟩:=x;simp only at h1 h2;subst h1;subst h2;rfl
theorem qP{p:Option It}{x:It}(hk:x.ahr=1)(h:bB p x=true):x.aht≠[]∧x.id=0∧∀ y,p=some y→y.ahr≠1:=by
 simp only[bB,hk,aO,aG,cS,cT,bR]at h;refine⟨h.1.1,h.1.2,fun y hy=>?_⟩;subst hy;simpa using h.2
theorem l0{p:Option It}{t:List UInt8}(h1:t≠[])(h2:∀ y,p=some y→y.ahr≠1):bB p ⟨1,t,0⟩=true:=by
 simp only[bB,aO,aG,cS,cT,bR];refine⟨⟨h1,trivial⟩,?_⟩;cases p with
 | none=>rfl
 | some y=>simpa using h2 y rfl
theorem mC{f:List It}:bh [] f=0→ahy f=f:=by
 refine wz (p:=fun f=>bh [] f=0→ahy f=f) (fun _=>rfl) ?_ f;intro l x ih h;obtain⟨h1,h2,_⟩:=(dZ l [] x).1 h;simp only[aW]at h2;rw[fC (ih h1)]
 by_cases hk:x.ahr=1
 ·obtain⟨g1,g2,g3⟩:=qP hk h2;simp only[cg,hk,eX,fg,aJ,aw g1];cases hg:l.getLast? with
  | none=>simp only[Bq hk g2]
  | some y=>simp only[aw (g3 y hg),Bq hk g2]
 ·exact lp hk
theorem wJ(f:List It)(x:It):fits f x=fits (tg f) x:=by
 induction f with
 | nil=>rfl
 | cons y f ih =>
  by_cases h:bG y=true
  ·simp only[fits,tg,eU,h,aO,ij]at ih ⊢;rw[ih]
  ·have h:bG y=false:=by simpa using h
   have hb:dB x y=false:=by simp[dB,h]
   simp only[fits,tg,eU,h,ij,hb,aA,aJ,fT,cm]at ih ⊢;exact ih
theorem mh{f:List It}(t:List UInt8)(h:bh [] f=0):bh [] (ahy (f++[⟨1,t,0⟩]))=0∧tg (ahy (f++[⟨1,t,0⟩]))=tg f:=by
 rw[fC (mC h)]
 by_cases ht:t=[]
 ·have e:cg f ⟨1,t,0⟩=f:=by simp[cg,ht]
  rw[e];exact⟨h,rfl⟩
 ·revert h;refine wz (p:=fun f=>bh [] f=0→bh [] (cg f ⟨1,t,0⟩)=0∧tg (cg f ⟨1,t,0⟩)=tg f) ?_ ?_ f
  ·intro _;have e:cg [] ⟨1,t,0⟩=[]++[⟨1,t,0⟩]:=by simp[cg,ht]
   rw[e,dZ,eF,qC (rR t 0),bV];exact⟨⟨rfl,l0 ht (by simp),by simp[bG]⟩,rfl⟩
  ·intro l y _ h;obtain⟨h1,h2,h3⟩:=(dZ l [] y).1 h
   by_cases hy:y.ahr=1
   ·have e:cg (l++[y]) ⟨1,t,0⟩=l++[⟨1,y.aht++t,0⟩]:=by simp[cg,ht,hy]
    obtain⟨_,_,g3⟩:=qP hy h2;rw[e,dZ,eF,eF,qC (rR _ 0),qC (vu hy)];exact⟨⟨h1,l0 (by simp[ht]) g3,by simp[bG]⟩,rfl⟩
   ·have e:cg (l++[y]) ⟨1,t,0⟩=(l++[y])++[⟨1,t,0⟩]:=by simp[cg,ht,hy]
    rw[e,dZ,eF,qC (rR _ 0),bV];refine⟨⟨h,l0 ht fun z hz=>?_,by simp[bG]⟩,rfl⟩;simp only[aW,lg,jD,sg,aa]at hz;subst hz;exact hy
theorem nV{f:List It}{x:It}(h:bh [] f=0)(hk:x.ahr≠1)(hx:bB none x=true)(hf:bG x=true→fits f x=true):
  ahy (f++[x])=f++[x]∧bh [] (f++[x])=0:=by
 refine⟨by rw[fC (mC h),lp hk],?_⟩;rw[dZ];refine⟨h,by rw[iC hk];exact hx,?_⟩;rw[aW];cases ht:bG x with
 | false=>rfl
 | true=>rw[hf ht];rfl
structure vM (f opn:List It) (n:Int):Prop where
 err:bh [] f=0
 ids:∀ z∈tg f,1≤z.id∧z.id≤n
 nd:(opn.map (·.id)).Nodup
 op:∀ y∈opn,ahz (cG y.aht)=true∧1≤y.id∧y.id≤n∧∀ z∈tg f,z.id=y.id→z.ahr=2∧z.aht=y.aht
theorem vM.nil:vM [] [] 0:=⟨rfl,by simp[tg],by simp,by simp⟩
theorem vM.same{f g opn:List It}{n:Int}(h:vM f opn n)(h1:bh [] g=0)(h2:tg g=tg f):vM g opn n :=
 ⟨h1,by rw[h2];exact h.ids,h.nd,by rw[h2];exact h.op⟩
theorem vM.aht{f opn:List It}{n:Int}(h:vM f opn n)(t:List UInt8):vM (ahy (f++[⟨1,t,0⟩])) opn n :=
 h.same (mh t h.err).1 (mh t h.err).2
theorem vM.slot{f opn:List It}{n:Int}(h:vM f opn n){t:List UInt8}(ht:ahz t=true):vM (ahy (f++[⟨5,t,0⟩])) opn n:=by
 obtain⟨e,he⟩:=nV (x:=⟨5,t,0⟩) h.err (by simp) (by simp[bB,ht]) (by simp[bG]);rw[e];exact h.same he (by rw[eF,qC (by simp[bG]),bV])
theorem EE{f:List It}{x:It}(h:∀ z∈tg f,z.id≠x.id):fits f x=true:=by
 rw[wJ];simp only[fits,bU];intro z hz;have:=h z hz;simp[dB,this]
theorem vM.empty{f opn:List It}{n:Int}(h:vM f opn n){t:List UInt8}(ht:cP t=true)(h0:0≤n)(h9:n<999):vM (ahy (f++[⟨4,t,n+1⟩])) opn (n+1):=by
 have hT:bG ⟨4,t,n+1⟩=true:=by simp[bG]
 obtain⟨e,he⟩:=nV (x:=⟨4,t,n+1⟩) h.err (by simp) (by simp[bB,ht];omega) (fun _=>EE fun z hz=>by have:=h.ids z hz;simp only;omega);rw[e];refine⟨he,?_,h.nd,?_⟩
 ·intro z hz;rw[eF,pF hT,bP,b6]at hz;rcases hz with hz | rfl
  ·have:=h.ids z hz;omega
  ·simp only;omega
 ·intro y hy;obtain⟨o1,o2,o3,o4⟩:=h.op y hy;refine⟨o1,o2,by omega,fun z hz O2=>?_⟩;rw[eF,pF hT,bP,b6]at hz;rcases hz with hz | rfl
  ·exact o4 z hz O2
  ·simp only at O2;omega
theorem vM.opens{f opn:List It}{n:Int}(h:vM f opn n){t:List UInt8}(ht:cP t=true)(hn:ahz (cG t)=true)(h0:0≤n)(h9:n<999):
  vM (ahy (f++[⟨2,t,n+1⟩])) (opn++[⟨2,t,n+1⟩]) (n+1):=by
 have hT:bG ⟨2,t,n+1⟩=true:=by simp[bG]
 obtain⟨e,he⟩:=nV (x:=⟨2,t,n+1⟩) h.err (by simp) (by simp[bB,ht];omega) (fun _=>EE fun z hz=>by have:=h.ids z hz;simp only;omega);rw[e];refine⟨he,?_,?_,?_⟩
 ·intro z hz;rw[eF,pF hT,bP,b6]at hz;rcases hz with hz | rfl
  ·have:=h.ids z hz;omega
  ·simp only;omega
 ·rw[eN,fR];refine⟨h.nd,by simp,?_⟩;intro a ha b hb;obtain⟨y,hy,rfl⟩:=bI.1 ha;simp only[az,bD,b6]at hb;have:=(h.op y hy).2.2.1;omega
 ·intro y hy;rw[bP,b6]at hy;rcases hy with hy | rfl
  ·obtain⟨o1,o2,o3,o4⟩:=h.op y hy;refine⟨o1,o2,by omega,fun z hz O2=>?_⟩;rw[eF,pF hT,bP,b6]at hz;rcases hz with hz | rfl
   ·exact o4 z hz O2
   ·simp only at O2;omega
  ·refine⟨hn,by simp only;omega,by simp only;omega,fun z hz O2=>?_⟩;rw[eF,pF hT,bP,b6]at hz;rcases hz with hz | rfl
   ·have:=h.ids z hz;simp only at O2;omega
   ·exact⟨rfl,rfl⟩
theorem vM.close{f opn:List It}{y:It}{n:Int}(h:vM f (opn++[y]) n)(h9:n≤999):
  vM (f++[⟨3,cG y.aht,y.id⟩]) opn n∧ahy (f++[⟨3,cG y.aht,y.id⟩])=f++[⟨3,cG y.aht,y.id⟩]:=by
 have hT:bG ⟨3,cG y.aht,y.id⟩=true:=by simp[bG]
 obtain⟨o1,o2,o3,o4⟩:=h.op y (by simp)
 obtain⟨e,he⟩:=nV (x:=⟨3,cG y.aht,y.id⟩) h.err (by simp) (by simp[bB,o1];omega) (fun _=>by
  rw[wJ];simp only[fits,bU];intro z hz
  by_cases hi:z.id=y.id
  ·obtain⟨z1,z2⟩:=o4 z hz hi;simp[dB,z1,z2]
  ·simp[dB,hi])
 have nq:=h.nd;rw[eN,fR]at nq;refine⟨⟨he,?_,nq.1,?_⟩,e⟩
 ·intro z hz;rw[eF,pF hT,bP,b6]at hz;rcases hz with hz | rfl
  ·exact h.ids z hz
  ·exact⟨o2,o3⟩
 ·intro x hx;obtain⟨p1,p2,p3,p4⟩:=h.op x (by simp[hx]);refine⟨p1,p2,p3,fun z hz O2=>?_⟩;rw[eF,pF hT,bP,b6]at hz;rcases hz with hz | rfl
  ·exact p4 z hz O2
  ·have:=nq.2.2 x.id (bI.2 ⟨x,hx,rfl⟩) y.id (by simp);exact absurd O2.symm this
structure Hf (pre f:List It):Prop where
 err:bh [] f=0
 tags:tg f=tg pre
theorem Hf.nil:Hf [] []:=⟨rfl,rfl⟩
theorem Hf.more{pre f:List It}(h:Hf pre f)(t:List UInt8):Hf pre (ahy (f++[⟨1,t,0⟩])) :=
 ⟨(mh t h.err).1,(mh t h.err).2.trans h.tags⟩
theorem Hf.aht{pre f:List It}{x:It}(h:Hf pre f)(hk:x.ahr=1)(t:List UInt8):Hf (pre++[x]) (ahy (f++[⟨1,t,0⟩])) :=
 ⟨(mh t h.err).1,by rw[(mh t h.err).2,h.tags,eF,qC (vu hk),bV]⟩
theorem Hf.item{pre f rest:List It}{x:It}(h:Hf pre f)(hs:bh [] (pre++x::rest)=0)(hk:x.ahr≠1):Hf (pre++[x]) (ahy (f++[x])):=by
 rw[pk,rv]at hs;obtain⟨_,h2,h3,_⟩:=hs;rw[aW]at h2 h3
 obtain⟨e,he⟩:=nV (x:=x) h.err hk (by rw[← iC (p:=pre.getLast?) hk];exact h2) (fun ht=>by
  rw[ht,cm]at h3;rw[wJ,h.tags,← wJ];simpa using h3)
 rw[e];exact⟨he,by rw[eF,eF,h.tags]⟩
theorem De:∀ (l:List Int) (k:Int) (x:Int),zi l ((List.range l.length).map fun(i:Nat)=>(i:Int)+k) x=if x∈l then some ((l.idxOf x:Int)+k)else none
 | [],k,x=>by simp[zi]
 | a::l,k,x=>by
  have e:(List.range (l.length+1)).map (fun(i:Nat)=>(i:Int)+k)=k::(List.range l.length).map fun(i:Nat)=>(i:Int)+(k+1):=by
   rw[zg,az,ic];refine congr (congrArg _ (by omega)) (cN fun i _=>?_);simp only[Function.comp];omega
  rw[ag,e];simp only[zi]
  by_cases h:x=a
  ·subst h;simp
  ·have h2:(a==x)=false:=by simpa using fun e=>h e.symm
   rw[aw h,De l (k+1) x,zu,h2]
   by_cases h3:x∈l
   ·rw[aI h3,aI (de _ h3)];congr 1;simp only[Hi];omega
   ·rw[aw h3,aw (by simp[h,h3])]
theorem I2(l:List Int)(x:Int):zi l (b8 l.length) x=if x∈l then some ((l.idxOf x:Int)+1)else none:=De l 1 x
def pA(l:List Int)(x:It):It:=if bG x=true then⟨x.ahr,x.aht,(l.idxOf x.id:Int)+1⟩else x
theorem D2(l:List Int)(x:It):(pA l x).ahr=x.ahr:=by simp only[pA];split<;>rfl
theorem MG(l:List Int)(x:It):(pA l x).aht=x.aht:=by simp only[pA];split<;>rfl
theorem wB(l:List Int)(x:It):bG (pA l x)=bG x:=by simp only[bG,D2]
theorem vb{l:List Int}{f:List It}(h:∀ x∈tg f,x.id∈l):ahJ f l (b8 l.length)=f.map (pA l):=by
 have key:∀ x∈f,Jt l (b8 l.length) x=some (pA l x):=by
  intro x hx;simp only[Jt,pA]
  by_cases ht:bG x=true
  ·have:=h x (cU.2 ⟨hx,ht⟩);rw[aI ht,aI ht,I2,aI this];rfl
  ·rw[aw ht,aw ht]
 simp only[ahJ];rw[EB key];clear key h
 induction f with
 | nil=>rfl
 | cons x f ih=>simp only[fW,az,ih]
theorem Ik{l:List Int}{x y:Int}(hx:x∈l)(hy:y∈l)(h:l.idxOf x=l.idxOf y):x=y:=by
 induction l with
 | nil=>simp at hx
 | cons a l ih =>
  simp only[zu]at h
  by_cases h1:a=x
  ·by_cases h2:a=y
   ·rw[← h1,h2]
   ·have e1:(a==x)=true:=by simp[h1]
    have e2:(a==y)=false:=by simp[h2]
    rw[e1,e2]at h;simp at h
  ·have e1:(a==x)=false:=by simp[h1]
   by_cases h2:a=y
   ·have e2:(a==y)=true:=by simp[h2]
    rw[e1,e2]at h;simp at h
   ·have e2:(a==y)=false:=by simp[h2]
    rw[e1,e2]at h;simp only[Hi]at h;refine ih ?_ ?_ (by omega)
    ·rcases bA.1 hx with h3 | h3
     ·exact absurd h3.symm h1
     ·exact h3
    ·rcases bA.1 hy with h3 | h3
     ·exact absurd h3.symm h2
     ·exact h3
theorem MI{l:List Int}{x:It}{p:Option It}(hx:bG x=true→x.id∈l)(hl:l.length≤999)(h:bB p x=true):bB (p.map (pA l)) (pA l x)=true:=by
 by_cases ht:bG x=true
 ·have dp:l.idxOf x.id<l.length:=SK (hx ht)
  have hk:x.ahr=2∨x.ahr=3∨x.ahr=4:=by
   simp only[bG,c8,bR]at ht;omega
  have e:pA l x=⟨x.ahr,x.aht,(l.idxOf x.id:Int)+1⟩:=by rw[pA,aI ht]
  rw[e];simp only[bB]at h ⊢;rcases hk with hk | hk | hk
  ·simp[hk]at h ⊢;exact⟨⟨h.1.1,by omega⟩,by omega⟩
  ·simp[hk]at h ⊢;exact⟨⟨h.1.1,by omega⟩,by omega⟩
  ·simp[hk]at h ⊢;exact⟨⟨h.1.1,by omega⟩,by omega⟩
 ·have e:pA l x=x:=by rw[pA,aw ht]
  rw[e]
  by_cases hk:x.ahr=1
  ·obtain⟨g1,g2,g3⟩:=qP hk h;rw[← Bq hk g2];refine l0 g1 fun y hy=>?_;obtain⟨z,hz,rfl⟩:=aj.1 hy;rw[D2];exact g3 z hz
  ·rw[iC hk]at h ⊢;exact h
theorem MH{l:List Int}{x:It}{f:List It}(ht:bG x=true)(hx:x.id∈l)(hf:∀ z∈tg f,z.id∈l)(h:fits f x=true):fits (f.map (pA l)) (pA l x)=true:=by
 simp only[fits,bU,bI]at h ⊢;rintro _ ⟨y,hy,rfl⟩;have hb:=h y hy
 by_cases QJ:bG y=true
 ·have hyl:=hf y (cU.2 ⟨hy,QJ⟩);have e1:pA l x=⟨x.ahr,x.aht,(l.idxOf x.id:Int)+1⟩:=by rw[pA,aI ht]
  have e2:pA l y=⟨y.ahr,y.aht,(l.idxOf y.id:Int)+1⟩:=by rw[pA,aI QJ]
  have e3:((l.idxOf y.id:Int)+1 != (l.idxOf x.id:Int)+1)=(y.id != x.id):=by
   by_cases hi:y.id=x.id
   ·rw[hi];simp
   ·have:l.idxOf y.id≠l.idxOf x.id:=fun e=>hi (Ik hyl hx e);have h1:(y.id != x.id)=true:=by simpa using hi
    rw[h1];simp;omega
  have e4:bG (pA l y)=bG y:=wB l y;simp only[dB,e4]at hb ⊢;rw[e1,e2];simp only;rw[e3];exact hb
 ·have QJ:bG y=false:=by simpa using QJ
  simp[dB,wB,QJ]
theorem qJ{l:List Int}(hl:l.length≤999){f:List It}(hf:∀ x∈tg f,x.id∈l)(h:bh [] f=0):bh [] (f.map (pA l))=0:=by
 revert hf h;refine wz (p:=fun f=>(∀ x∈tg f,x.id∈l)→bh [] f=0→bh [] (f.map (pA l))=0) (fun _ _=>rfl) ?_ f;intro f x ih hf h;obtain⟨h1,h2,h3⟩:=(dZ f [] x).1 h;rw[aW]at h2 h3;have Vw:∀ z∈tg f,z.id∈l:=fun z hz=>hf z (by rw[eF];exact List.mem_append_left _ hz);have vV:bG x=true→x.id∈l:=fun ht=>hf x (by rw[eF,pF ht];simp);rw[eN,az,bD,dZ];refine⟨ih Vw h1,?_,?_⟩
 ·rw[aW,List.getLast?_map];exact MI vV hl h2
 ·rw[aW,wB];cases ht:bG x with
  | false=>rfl
  | true =>
   rw[ht,cm]at h3;rw[MH ht (vV ht) Vw (by simpa using h3)];rfl
theorem u3(l:List Int)(f:List It):aN (f.map (pA l))=aN f:=by
 induction f with
 | nil=>rfl
 | cons x f ih=>simp only[az,aN,MG,ih]
def oB(f:List It):List Int:=(tg f).map (·.id)
theorem xU(f:List It):ahH f=(oB f).foldl iD []:=by
 simp only[ahH,gY];rfl
theorem uP(s t:List It):bE s t=(oB (s++t)).foldl iD []:=by
 rw[← mA,xU]
theorem qT(s t:List It):(∀ x∈tg s,x.id∈bE s t)∧∀ x∈tg t,x.id∈bE s t:=by
 rw[uP];constructor<;>intro x hx<;>refine qO _ ?_<;>simp only[oB,eF,eN,bP,bI]
 ·exact .inl ⟨x,hx,rfl⟩
 ·exact .inr ⟨x,hx,rfl⟩
theorem Gq{l:List Int}{n:Int}(h:l.Nodup):(iD l n).Nodup:=by
 simp only[iD];split
 ·exact h
 ·rename_i h1;rw[fR];refine⟨h,by simp,?_⟩;intro a ha b hb e;simp only[b6]at hb;subst hb;subst e;exact h1 (by simpa using ha)
theorem vC:∀ (m:List Int) {l:List Int},l.Nodup→(m.foldl iD l).Nodup
 | [],_,h=>h
 | _::m,_,h=>vC m (Gq h)
theorem Ba{g:Int→Int}{L:List Int}(hg:∀ x∈L,∀ y∈L,g x=g y→x=y):∀ (m acc:List Int),(∀ x∈m,x∈L)→(∀ x∈acc,x∈L)→(m.map g).foldl iD (acc.map g)=(m.foldl iD acc).map g
 | [],_,_,_=>rfl
 | n::m,acc,hm,ha=>by
  have hn:=hm n (by simp)
  have e:iD (acc.map g) (g n)=(iD acc n).map g:=by
   by_cases h:n∈acc
   ·have h1:acc.contains n=true:=by simpa using h
    have h2:(acc.map g).contains (g n)=true:=by simp;exact⟨n,h,rfl⟩
    simp only[iD,h1,h2,aO]
   ·have h1:acc.contains n=false:=by simpa using h
    have h2:(acc.map g).contains (g n)=false:=by
     cases h3:(acc.map g).contains (g n)with
     | false=>rfl
     | true =>
      simp only[List.contains_iff_mem,bI]at h3;obtain⟨x,hx,TR⟩:=h3;exact absurd (hg x (ha x hx) n hn TR▸hx) h
    simp only[iD,h1,h2,aA,aJ,eN,az,bD]
  simp only[az,cV,e];refine Ba hg m (iD acc n) (fun x hx=>hm x (by simp[hx])) fun x hx=>?_;simp only[iD]at hx;split at hx
  ·exact ha x hx
  ·rw[bP,b6]at hx;rcases hx with hx | rfl
   ·exact ha x hx
   ·exact hn
theorem AW:∀ {L:List Int} (_:L.Nodup),L.map (fun x=>(L.idxOf x:Int)+1)=b8 L.length:=by
 intro L nq
 have key:∀ (l pre:List Int),(pre++l).Nodup→l.map (fun x=>((pre++l).idxOf x:Int)+1)=(List.range l.length).map fun(i:Nat)=>(i:Int)+((pre.length:Int)+1):=by
  intro l
  induction l with
  | nil=>intro pre _;rfl
  | cons a l ih =>
   intro pre h
   have e:(List.range (l.length+1)).map (fun(i:Nat)=>(i:Int)+((pre.length:Int)+1))=((pre.length:Int)+1)::(List.range l.length).map fun(i:Nat)=>(i:Int)+(((pre++[a]).length:Int)+1):=by
    rw[zg,az,ic];refine congr (congrArg _ (by omega)) (cN fun i _=>?_);simp only[Function.comp,ak,ag,ay];omega
   have h2:=ih (pre++[a]) (by rwa [aY,ow]);rw[aY,ow]at h2;rw[ag,e,← h2,az];congr 1
   have X8:a ∉ pre:=by
    rw[fR]at h;exact fun hm=>h.2.2 a hm a (by simp) rfl
   have:(pre++a::l).idxOf a=pre.length:=by
    clear h2 e ih h
    induction pre with
    | nil=>simp
    | cons b pre ih =>
     have hb:(b==a)=false:=by
      simp only[bA,OV]at X8;simpa using fun e=>X8.1 e.symm
     rw[bg,zu,hb,Hi,ih (fun hm=>X8 (de _ hm)),ag]
   rw[this]
 have:=key L [] nq;simpa[b8]using this
theorem FA{l:List Int}{f:List It}:oB (f.map (pA l))=(oB f).map fun x=>(l.idxOf x:Int)+1:=by
 induction f with
 | nil=>rfl
 | cons x f ih =>
  simp only[oB,tg,az,eU,wB]at ih ⊢
  by_cases ht:bG x=true
  ·rw[aI ht,aI ht,az,az,az,ih];congr 1;rw[pA,aI ht]
  ·rw[aw ht,aw ht,ih]
theorem yM{s t:List It}(hs:bh [] s=0)(ht:bh [] t=0)(hl:(bE s t).length≤999):
  fO s t=s.map (pA (bE s t))∧gh s t=t.map (pA (bE s t)):=by
 have ha:=qT s t;constructor
 ·rw[fO,rename,vb ha.1];exact mC (qJ hl ha.1 hs)
 ·rw[gh,rename,vb ha.2];exact mC (qJ hl ha.2 ht)
theorem EX{s t:List It}:bE (s.map (pA (bE s t))) (t.map (pA (bE s t)))=b8 (bE s t).length:=by
 have e:bE s t=(oB (s++t)).foldl iD []:=uP s t;have hL:∀ x∈oB (s++t),x∈bE s t:=fun x hx=>by rw[e];exact qO _ hx
 rw[uP (s.map _) (t.map _),← List.map_append,FA];have h1:=Ba (g:=fun x=>((bE s t).idxOf x:Int)+1) (L:=bE s t) (fun x hx y hy h=>Ik hx hy (by omega)) (oB (s++t)) [] hL (by simp);rw[bD]at h1;rw[h1,← e];exact AW (by rw[e];exact vC _ iI)
theorem KS{n:Nat}{x:Int}(h:x∈b8 n):((b8 n).idxOf x:Int)+1=x:=by
 have nq:(b8 n).Nodup:=by
  simp only[b8];exact(lK).map (f:=fun(i:Nat)=>(i:Int)+1) (fun a b h=>by have h:a≠b:=h;omega)
 have e:=AW nq;rw[tD]at e;have dp:(b8 n).idxOf x<(b8 n).length:=SK h;have h2:((b8 n).map fun x=>((b8 n).idxOf x:Int)+1)[(b8 n).idxOf x]?=(b8 n)[(b8 n).idxOf x]?:=by rw[e]
 rw[bf,al dp]at h2;have hg:(b8 n)[(b8 n).idxOf x]=x:=List.getElem_idxOf dp;rw[hg]at h2;simpa using h2
theorem AP{n:Nat}{f:List It}(h:∀ x∈tg f,x.id∈b8 n):f.map (pA (b8 n))=f:=by
 induction f with
 | nil=>rfl
 | cons x f ih =>
  rw[az];have h2:∀ z∈tg f,z.id∈b8 n:=fun z hz=>h z (by simp only[tg,eU];split<;>simp[tg]at hz ⊢<;>simp[hz]);rw[ih h2];congr 1;rw[pA];split
  ·rename_i ht;have:=h x (by simp only[tg,eU,ht,aO];simp);rw[KS this]
  ·rfl
theorem OD{s t:List It}(hs:bh [] s=0)(ht:bh [] t=0)(hl:(bE s t).length≤999):
  fO (fO s t) (gh s t)=fO s t∧gh (fO s t) (gh s t)=gh s t:=by
 obtain⟨e1,e2⟩:=yM hs ht hl;have ha:=qT s t;have hs':=qJ hl ha.1 hs;have ht':=qJ hl ha.2 ht;rw[e1,e2];have hn:=EX (s:=s) (t:=t);have hl':(bE (s.map (pA (bE s t))) (t.map (pA (bE s t)))).length≤999:=by rw[hn,tD];exact hl
 obtain⟨f1,f2⟩:=yM hs' ht' hl';have hb:=qT (s.map (pA (bE s t))) (t.map (pA (bE s t)));rw[hn]at hb f1 f2;exact⟨by rw[f1,AP hb.1],by rw[f2,AP hb.2]⟩
structure Y6 (o:za):Prop where
 time:1≤o.gD.time∧o.gD.time≤1073741824
 jW:0≤o.gD.jW∧o.gD.jW<8
 number:1≤o.gD.number∧o.gD.number≤128
 ahr:o.ahr=1∨o.ahr=2
 Y4:o.ahG.length≤8
 ahG:∀ n∈o.ahG,0≤n∧n≤128
 bare:o.ahr=2→o.ahA=⟨o.ahA.ahu,[],o.ahA.bM,o.ahA.next,[],[],0,0⟩
 looked:fk (looked o)=0
structure Rx (e:En):Prop where
 ahu:bW e.ahu=0
 ahB:bW e.ahB=0
 nonempty:e.ahu≠[]
 cY:ahz e.cY=true∨e.cY=[]
 cE:ahz e.cE=true∨e.cE=[]
 ahD:0≤e.ahD∧e.ahD≤1073741824
 ahI:1≤e.ahI∧e.ahI≤3
theorem EH{e:En}(h:fk e=0):Rx e:=by
 simp only[fk]at h;split at h
 ·rename_i h1;exact absurd h h1
 ·rename_i h1;split at h
  ·rename_i h2;exact absurd h h2
  ·rename_i h2;split at h
   ·simp at h
   ·rename_i h3;split at h
    ·rename_i h4;exact absurd h h4
    ·split at h
     ·rename_i h5;exact absurd h h5
     ·split at h
      ·simp at h
      ·rename_i h6;split at h
       ·simp at h
       ·rename_i h7;simp only[qU,Lh,aG,cS,cT,eX,wi]at h3;simp only[named,Lh,aG,c8,bR]at h6;exact⟨by simpa using h1,by simpa using h2,h3.1.1,h6.1.symm,h6.2.symm,⟨by omega,by omega⟩,⟨by omega,by omega⟩⟩
theorem KW(s t:List It):(bE s t).length≤s.length+t.length:=by
 have h1:=pj (ahH t) (ahH s);have h2:=lD s;have h3:=lD t;simp only[bE];omega
theorem A9{f:List It}(h:bh [] f=0)(h1:f.length≤100)(h2:aN f≤900):bW f=0:=by
 have:=LU f;exact(wV (by omega)).2 ⟨by omega,by omega,h⟩
def yq:List (List UInt8):=[[],[83,97,118,101],[114,101,100,32,99,97,114],[120]]
def qi:List (List UInt8):=[[],[97,110,110],[98,111,98],[112],[113]]
theorem CJ:∀ s∈yq,(parse s).2.2=0∧s.length≤7:=by decide +kernel
theorem sX:∀ s∈qi,named s=true∧s.length≤3:=by decide +kernel
structure zb (e:En):Prop where
 ok:fk e=0
 L7:e.ahu.length≤40
 HB:aN e.ahu≤400
 LZ:e.ahB.length≤100
 Ht:aN e.ahB≤900
 prev:e.bM.length≤7
 next:e.next.length≤7
 cY:e.cY.length≤3
 cE:e.cE.length≤3
theorem Rq{p:Option It}{x:It}(h:bB p x=true):0≤x.id∧x.id≤999:=by
 simp only[bB]at h;split at h
 ·simp only[aG,bR]at h;omega
 ·split at h
  ·simp only[aG,bR]at h;omega
  ·split at h
   ·simp only[aG,aU]at h;omega
   ·split at h
    ·simp only[aG,aU]at h;omega
    ·simp at h
theorem Am{f:List It}(h:bW f=0):∀ x∈f,0≤x.id∧x.id≤999:=by
 simp only[bW]at h;split at h
 ·simp at h
 ·intro x hx;exact Rq (zS f [] h x hx)
theorem CT{e:En}(h:fk e=0):bW e.ahu=0∧bW e.ahB=0:=⟨(EH h).ahu,(EH h).ahB⟩
theorem KC{f t:List It}{p n a r:List UInt8}{c o:Int}(hf:bh [] f=0)(ht:bh [] t=0)(ig:f≠[])(f1:f.length≤40)(f2:aN f≤400)(t1:t.length≤100)(t2:aN t≤900)
  (hp:p∈yq) (hn:n∈yq) (ha:a∈qi) (hr:r∈qi) (hc:0≤c∧c≤1073741824) (ho:1≤o∧o≤3):zb ⟨fO f t,gh f t,p,n,a,r,c,o⟩:=by
 have hl:(bE f t).length≤999:=by have:=KW f t;omega
 obtain⟨e1,e2⟩:=yM hf ht hl;have iZ:=qT f t;have v1:bh [] (fO f t)=0:=by rw[e1];exact qJ hl iZ.1 hf
 have v2:bh [] (gh f t)=0:=by rw[e2];exact qJ hl iZ.2 ht
 have l1:(fO f t).length=f.length:=by rw[e1,ah]
 have l2:(gh f t).length=t.length:=by rw[e2,ah]
 have x1:aN (fO f t)=aN f:=by rw[e1,u3]
 have x2:aN (gh f t)=aN t:=by rw[e2,u3]
 obtain⟨k1,k2⟩:=OD hf ht hl;have w1:bW (fO f t)=0:=A9 v1 (by omega) (by omega);have w2:bW (gh f t)=0:=A9 v2 (by omega) (by omega);have hne':(fO f t).length≠0:=by rw[l1];exact fun h=>ig (aL h)
 have Vy:qU ⟨fO f t,gh f t,p,n,a,r,c,o⟩=true:=by
  simp only[qU,k1,k2,uC.2 rfl,dQ,cS,cT,eX];exact hne'
 refine⟨?_,by simp only[l1];exact f1,by simp only[x1];exact f2,by simp only[l2];exact t1,by simp only[x2];exact t2,(CJ p hp).2,(CJ n hn).2,(sX a ha).2,(sX r hr).2⟩;simp only[fk,w1,w2,Vy,(CJ p hp).1,(CJ n hn).1,(sX a ha).1,(sX r hr).1,eX,fg,aJ,uZ,sy];rw[aw (by omega)]
theorem zb.ahE{e:En}(h:zb e):e.ahE:=by
 have:=CT h.ok;have h1:=h.L7;have h2:=h.HB;have h3:=h.LZ;have h4:=h.Ht;have h5:=h.prev;have h6:=h.next;refine⟨by omega,by omega,by omega,by omega,by omega,by omega,fun x hx=>?_⟩;rcases bP.1 hx with hx | hx
 ·have:=Am this.1 x hx;omega
 ·have:=Am this.2 x hx;omega
structure YW (o:za):Prop where
 ok:Se o=0
 off:o.gD.jW<3
 src:bh [] o.ahA.ahu=0
 L7:o.ahA.ahu.length≤40
 HB:aN o.ahA.ahu≤400
 ahE:o.ahE
 LZ:o.ahA.ahB.length≤100
 Ht:aN o.ahA.ahB≤1200
 ctx:o.ahA.bM.length≤7∧o.ahA.next.length≤7∧o.ahA.cY.length≤3∧o.ahA.cE.length≤3
def nj(b:UInt8):UInt8:=if 65≤b.toNat∧b.toNat≤90 then UInt8.ofNat (b.toNat+32)else b
def lower(l:List UInt8):List UInt8:=l.map nj
theorem D6{b:UInt8}(h1:65≤(b.toNat:Int))(h2:(b.toNat:Int)≤90):((nj b).toNat:Int)=b.toNat+32:=by
 unfold nj;rw[aI (by omega),UInt8.toNat_ofNat'];omega
theorem x6{b:UInt8}(h:¬ (65≤(b.toNat:Int)∧(b.toNat:Int)≤90)):nj b=b:=by
 unfold nj;rw[aw (by omega)]
theorem Cm(l:List UInt8):(lower l).length=l.length:=by simp[lower]
end Go.Bt
