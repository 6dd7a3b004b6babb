/- A part of a proof; the claim's last text says of what. -/
import Derived.Test.YtlakkaamfadipaaGreatDoorS16
import Derived.Test.YtlakkaamfadipaaGreatDoorS19
set_option linter.all false

namespace Go.Bt
open Go Go.Pm
theorem Y5(c:UInt8):0≤(c.toNat:Int).fdiv (2^min 4 IntKind.u8.bits)∧(c.toNat:Int).fdiv (2^min 4 IntKind.u8.bits)<16 ∧
  ([48,49,50,51,52,53,54,55,56,57,97,98,99,100,101,102]:List UInt8).getD ((c.toNat:Int).fdiv (2^min 4 IntKind.u8.bits)).toNat 0=lP (c.toNat / 16):=by
 revert c;exact uD (by decide +kernel)
theorem Y4(c:UInt8):0≤IntKind.u8.wrap (((BitVec.ofInt IntKind.u8.bits (c.toNat:Int) &&& BitVec.ofInt IntKind.u8.bits 15).toNat:Nat):Int)∧IntKind.u8.wrap (((BitVec.ofInt IntKind.u8.bits (c.toNat:Int) &&& BitVec.ofInt IntKind.u8.bits 15).toNat:Nat):Int)<16 ∧
  ([48,49,50,51,52,53,54,55,56,57,97,98,99,100,101,102]:List UInt8).getD (IntKind.u8.wrap (((BitVec.ofInt IntKind.u8.bits (c.toNat:Int) &&& BitVec.ofInt IntKind.u8.bits 15).toNat:Nat):Int)).toNat 0=lP (c.toNat % 16):=by
 revert c;exact uD (by decide +kernel)
def gF(x:It):List UInt8 :=
 if x.ah9=1 then x.aib.flatMap ml else if x.ah9=2 then 60::(Lib.itoa x.id++58::(x.aib++[62]))else if x.ah9=3 then 60::47::(Lib.itoa x.id++58::(x.aib++[62]))
 else if x.ah9=4 then 60::(Lib.itoa x.id++58::(x.aib++[47,62]))else if x.ah9=5 then 123::(x.aib++[125])else[]
def format(f:List It):List UInt8×Int:=if bX f≠0 then([],bX f)else(f.flatMap gF,0)
theorem JP(c:UInt8):(ml c).length≤4:=by
 simp only[ml]
 (repeat' split)<;>simp
theorem BO(s:List UInt8):(s.flatMap ml).length≤4*s.length:=by
 induction s with
 | nil=>simp
 | cons c s ih =>
  have:=JP c;simp only[dD,al,ai];omega
theorem AI:∀ (rest pre:List It),bA pre rest=0→∀ x∈rest,1≤x.ah9∧x.ah9≤5:=by
 intro rest
 induction rest with
 | nil=>intro pre h x hx;simp at hx
 | cons y rest ih =>
  intro pre h x hx;simp only[bA]at h;split at h
  ·simp at h
  ·rename_i h1;split at h
   ·simp at h
   ·rcases bJ.1 hx with rfl | hx
    ·simp only[cH]at h1
     by_cases k1:x.ah9=1
     ·omega
     ·by_cases k5:x.ah9=5
      ·omega
      ·by_cases k2:x.ah9=2∨x.ah9=4
       ·omega
       ·by_cases k3:x.ah9=3
        ·omega
        ·simp[k1,k5,k2,k3]at h1
    ·exact ih _ h x hx
theorem wT{f:List It}(h:bX f=0):∀ x∈f,1≤x.ah9∧x.ah9≤5:=by
 simp only[bX]at h;split at h
 ·simp at h
 ·exact AI f [] h
theorem Da(x:It)(h : -9223372036854775808≤x.id∧x.id≤9223372036854775807):(gF x).length≤4*x.aib.length+30:=by
 have h1:=Lib.itoa_length_le x.id h.1 h.2;have h2:=BO x.aib;simp only[gF];split
 ·omega
 ·split
  ·simp;omega
  ·split
   ·simp;omega
   ·split
    ·simp;omega
    ·split
     ·simp;omega
     ·simp
theorem HK(f:List It)(hl:f.length<2^30)(ht:aH f<2^30)(hid:∀ x∈f,-9223372036854775808≤x.id∧x.id≤9223372036854775807):(format f).1.length<2^36:=by
 have key:∀ f:List It,(∀ x∈f,-9223372036854775808≤x.id∧x.id≤9223372036854775807)→(f.flatMap gF).length≤4*aH f+30*f.length:=by
  intro f
  induction f with
  | nil=>intro _;simp
  | cons x f ih =>
   intro h;have h1:=ih fun y hy=>h y (by simp[hy]);have h2:=Da x (h x (by simp));simp only[dD,al,aH,ai];omega
 have:=key f hid;simp only[format];split
 ·simp
 ·simp only;omega
theorem AK(c:UInt8):∀ l:List UInt8,-1≤Lib.indexByte l c:=by
 intro l
 induction l with
 | nil=>simp[Lib.indexByte]
 | cons a l ih =>
  simp only[Lib.indexByte];split
  ·omega
  ·split<;>omega
theorem yU{c:UInt8}:∀ {l:List UInt8},c ∉ l→Lib.indexByte l c = -1:=by
 intro l
 induction l with
 | nil=>intro _;simp[Lib.indexByte]
 | cons a l ih =>
  intro h
  have h1:(a==c)=false:=by
   simp only[bJ,not_or]at h;simpa using fun e=>h.1 e.symm
  have h2:=ih (fun hm=>h (dh _ hm));simp[Lib.indexByte,h1,h2]
theorem De{c:UInt8}{rest:List UInt8}:∀ {pre:List UInt8},c ∉ pre→Lib.indexByte (pre++c::rest) c=pre.length:=by
 intro pre
 induction pre with
 | nil=>intro _;simp[Lib.indexByte]
 | cons a l ih =>
  intro h
  have h1:(a==c)=false:=by
   simp only[bJ,not_or]at h;simpa using fun e=>h.1 e.symm
  have h2:=ih (fun hm=>h (dh _ hm));simp only[bn,Lib.indexByte,h1,h2,aF,aK,ai];have:((l.length:Int) == -1)=false:=by rw[cI];omega
  rw[this];simp
theorem yS{c:UInt8}{l:List UInt8}(h:c∈l):0≤Lib.indexByte l c:=by
 induction l with
 | nil=>simp at h
 | cons a l ih =>
  have hl:=AK c l;simp only[Lib.indexByte]
  by_cases h1:a=c
  ·simp[h1]
  ·have h2:(a==c)=false:=by simpa using h1
   have h3:c∈l:=by
    rcases bJ.1 h with h | h
    ·exact absurd h.symm h1
    ·exact h
   have h4:=ih h3;have h5:(Lib.indexByte l c == -1)=false:=by simp;omega
   simp[h2,h5];omega
structure En where
 aia:List It
 aii:List It
 bQ:List UInt8
 next:List UInt8
 cJ:List UInt8
 b8:List UInt8
 aif:Int
 ail:Int
def En.ah7(e:En):List V:=[.sl 3 (e.aia.map It.ah7),.sl 3 (e.aii.map It.ah7),.s e.bQ,.s e.next,.s e.cJ,.s e.b8,.i .i64 e.aif,.i .i64 e.ail]
def named(s:List UInt8):Bool:=s==[]||ain s
def l8(e:En):Bool:=!(e.aia.length==0)&&ju (eu e.aia e.aii) e.aia&&ju (eF e.aia e.aii) e.aii
def eB(e:En):Int :=
 if bX e.aia≠0 then bX e.aia else if bX e.aii≠0 then bX e.aii else
 if l8 e=false then 1 else
 if(parse e.bQ).2.2≠0 then(parse e.bQ).2.2 else if(parse e.next).2.2≠0 then(parse e.next).2.2 else
 if(named e.cJ&&named e.b8)=false then 4 else
 if e.aif<0∨1073741824<e.aif∨e.ail<1∨3<e.ail then 1 else 0
structure En.aik (e:En):Prop where
 aia:e.aia.length<2^30
 xy:aH e.aia<2^30
 aii:e.aii.length<2^30
 P4:aH e.aii<2^30
 bQ:e.bQ.length<2^30
 next:e.next.length<2^30
 ids:∀ x∈e.aia++e.aii,-9223372036854775808≤x.id∧x.id≤9223372036854775807
def C8(e:En):List UInt8:=(format e.aia).1++10::(e.bQ++10::e.next)
def ek(e:En):List UInt8:=if eB e≠0 then[]else C8 e
def wid(x:It):Nat:=if x.ah9=1 then x.aib.length else 1
def air(f:List It):Nat:=(f.map wid).sum
def closed(f:List It)(t:List UInt8):List It:=if t=[]then f else f++[⟨1,t,0⟩]
theorem Cf{α:Type}{p:List α→Prop}(h0:p [])(h1:∀ l x,p l→p (l++[x]))(l:List α):p l:=by
 have:∀ l:List α,p l.reverse:=by
  intro l
  induction l with
  | nil=>exact h0
  | cons x l ih=>rw[List.reverse_cons];exact h1 _ _ ih
 have:=this l.reverse
 rwa [List.reverse_reverse]at this
def Il(f:List It)(t:List UInt8)(x:It):Prop:=512<f.length+(if 0<t.length then 1 else 0)+(if x.ah9≠1∨t.length=0 then 1 else 0)∨1024<air f+t.length+1
instance (f:List It) (t:List UInt8) (x:It):Decidable (Il f t x):=by unfold Il;infer_instance
theorem lZ{x:It}{p:Option It}(h:x.ah9≠1):cH p x=cH none x:=by simp only[cH,h,aK]
theorem gh:∀ (f pre:List It) (x:It),bA pre (f++[x])=0↔bA pre f=0∧cH (pre++f).getLast? x=true∧(bW x&&!fits (pre++f) x)=false:=by
 intro f
 induction f with
 | nil =>
  intro pre x;simp only[bk,bV,bA]
  by_cases h1:cH pre.getLast? x=false
  ·simp[h1]
  ·rw[aI h1];have h1:cH pre.getLast? x=true:=by simpa using h1
   by_cases h2:(bW x&&!fits pre x)=true
   ·simp[h2]
   ·rw[aI h2];have h2:(bW x&&!fits pre x)=false:=by simpa using h2
    simp[h1,h2]
 | cons y f ih =>
  intro pre x;simp only[bn,bA]
  by_cases h1:cH pre.getLast? y=false
  ·simp[h1]
  ·rw[aI h1,aI h1]
   by_cases h2:(bW y&&!fits pre y)=true
   ·simp[h2]
   ·rw[aI h2,aI h2,ih];simp
theorem AJ:∀ (f pre:List It),bA pre f=0→∀ y∈f,cH none y=true:=by
 intro f
 induction f with
 | nil=>simp
 | cons x f ih =>
  intro pre h y hy;simp only[bA]at h;split at h
  ·simp at h
  ·rename_i h1;split at h
   ·simp at h
   ·rcases bJ.1 hy with rfl | hy
    ·have h1:cH pre.getLast? y=true:=by simpa using h1
     by_cases k1:y.ah9=1
     ·simp only[cH,k1,aL,aO]at h1 ⊢;exact⟨h1.1,trivial⟩
     ·rw[← lZ (p:=pre.getLast?) k1];exact h1
    ·exact ih _ h y hy
theorem uZ:∀ (l:List It) (a:Nat),a+air l<2^63→ff (a:Int) l=((a+air l:Nat):Int):=by
 intro l
 induction l with
 | nil=>intro a _;simp[ff,air]
 | cons x l ih =>
  intro a h;have ht:air (x::l)=wid x+air l:=by simp[air]
  rw[ht]at h ⊢;have hw:width x=(wid x:Int):=by simp only[width,wid];split<;>rfl
  have:ff (a:Int) (x::l)=ff ((a+wid x:Nat):Int) l:=by
   simp only[ff,c8,hw];rw[IntWalk.i64_in _ (by omega)];rfl
  rw[this,ih (a+wid x) (by omega)];congr 1;omega
theorem TE(x:It):wid x≤x.aib.length+1:=by simp only[wid];split<;>omega
theorem MH(f:List It):air f≤aH f+f.length:=by
 induction f with
 | nil=>simp[air,aH]
 | cons x f ih =>
  have ht:air (x::f)=wid x+air f:=by simp[air]
  have:=TE x;simp only[aH,ai,ht];omega
theorem xR{f:List It}(h:air f<2^63):bX f=0↔f.length≤512∧air f≤1024∧bA [] f=0:=by
 have e:=uZ f 0 (by omega);simp only[bz,Int.natCast_zero]at e;simp only[bX];rw[show ff 0 f=(air f:Int)from e];split
 ·constructor
  ·intro h;simp at h
  ·rintro⟨h1,h2,_⟩;omega
 ·constructor
  ·intro h;exact⟨by omega,by omega,h⟩
  ·intro h;exact h.2.2
theorem pD:∀ (a pre b:List It),bA pre (a++b)=0↔bA pre a=0∧bA (pre++a) b=0:=by
 intro a
 induction a with
 | nil=>intro pre b;simp[bA]
 | cons x a ih =>
  intro pre b;simp only[bn,bA]
  by_cases h1:cH pre.getLast? x=false
  ·simp[h1]
  ·rw[aI h1,aI h1]
   by_cases h2:(bW x&&!fits pre x)=true
   ·simp[h2]
   ·rw[aI h2,aI h2,ih];simp
theorem rX{pre:List It}{x:It}{b:List It}:bA pre (x::b)=0↔cH pre.getLast? x=true∧(bW x&&!fits pre x)=false∧bA (pre++[x]) b=0:=by
 simp only[bA]
 by_cases h1:cH pre.getLast? x=false
 ·simp[h1]
 ·rw[aI h1];have h1:cH pre.getLast? x=true:=by simpa using h1
  by_cases h2:(bW x&&!fits pre x)=true
  ·simp[h2]
  ·rw[aI h2];have h2:(bW x&&!fits pre x)=false:=by simpa using h2
   simp[h1,h2]
theorem sR(f:List It):closed f []=f:=by simp[closed]
structure z6 where
 gw:JJ
 ah9:Int
 aij:En
 aim:List Int
def z6.ah7(o:z6):List V:=o.gw.ah7++[.i .i64 o.ah9]++o.aij.ah7++[.sl 1 (o.aim.map bR)]
structure z6.aik (o:z6):Prop where
 aij:o.aij.aik
 cJ:o.aij.cJ.length<2^30
 b8:o.aij.b8.length<2^30
 aim:o.aim.length<2^30
def asked(e:En):En:=⟨e.aia,e.aia,e.bQ,e.next,[],[],0,1⟩
def looked(o:z6):En:=if o.ah9≠2 then o.aij else asked o.aij
def VL(e:En):Bool:=e.aii.length==0&&(e.cJ==[]&&(e.b8==[]&&(e.aif==0&&e.ail==0)))
def Wr(v:List Int):List Int:=Ws v []
def SK(o:z6):Int :=
 if P8 o.gw=false then 1 else
 if(o.ah9≠1∧o.ah9≠2)∨Wr o.aim≠o.aim then 1 else
 if o.aim.any (fun n=>decide (128<n))then 1 else
 if Wt o.aim o.gw.jT≠o.gw.number - 1 then 11 else
 if o.ah9=2∧VL o.aij=false then 1 else eB (looked o)
def KI(n:Int):UInt8:=UInt8.ofNat (n % 256).toNat
def be2(n:Int):List UInt8:=[KI (n / 256),KI n]
def be4(n:Int):List UInt8:=be2 (n / 65536)++be2 n
def rA(s:List UInt8):List UInt8:=be4 s.length++s
def Sa(o:z6):List UInt8 :=
 [1,KI o.ah9]++be4 o.gw.time++[KI o.gw.jT]++be2 o.gw.number++[KI o.aim.length]++o.aim.flatMap be2 ++
 rA (format o.aij.aia).1++rA o.aij.bQ++rA o.aij.next ++
 (if o.ah9=1 then rA (format o.aij.aii).1++rA o.aij.cJ++rA o.aij.b8++be4 o.aij.aif++[KI o.aij.ail]else[])
def fW:List UInt8→List UInt8→Int
 | [],[]=>0
 | [],_::_ => -1
 | _::_,[]=>1
 | a::x,b::y=>if a<b then -1 else if b<a then 1 else fW x y
structure Rb where
 b:List UInt8
 bad:Bool
def Rb.take(r:Rb)(n:Nat):List UInt8×Rb :=
 if r.b.length<n then(List.replicate (min n 4) 0,⟨[],true⟩)else(r.b.take n,⟨r.b.drop n,r.bad⟩)
def ZB(l:List UInt8):Int:=l.foldl (fun a x=>a*256+x.toNat) 0
def Rb.number(r:Rb)(n:Nat):Int×Rb:=(ZB (r.take n).1,(r.take n).2)
def Rb.aib(r:Rb):List UInt8×Rb :=
 let p:=r.number 4
 if(p.2.b.length:Int)<p.1 then([],⟨p.2.b,true⟩)else p.2.take p.1.toNat
def Rb.aio:Nat→Rb→List Int×Rb
 | 0,r=>([],r)
 | n+1,r=>let p:=r.number 2;let q:=Rb.aio n p.2;(p.1::q.1,q.2)
def cv(out:List It)(x:It):List It :=
 if x.ah9≠1 then out++[x]else if x.aib=[]then out else
 match out.getLast? with
 | some y=>if y.ah9=1 then out.dropLast++[⟨1,y.aib++x.aib,0⟩]else out++[⟨1,x.aib,0⟩]
 | none=>out++[⟨1,x.aib,0⟩]
def ot(f:List It):List It:=f.foldl cv []
def ua(out:List It):Bool:=match out.getLast? with
 | some y=>y.ah9==1
 | none=>false
theorem G9:∀ (n m:Nat) (f:List It),f.length≤n→f.length≤m→gD n f=gD m f:=by
 intro n
 induction n with
 | zero =>
  intro m f h _;have:f=[]:=aG (by omega);subst this;cases m<;>rfl
 | succ n ih =>
  intro m f h1 h2;cases f with
  | nil=>cases m<;>rfl
  | cons x r =>
   cases m with
   | zero=>simp at h2
   | succ m =>
    simp only[ai]at h1 h2
    by_cases hk:x.ah9=1
    ·have hs:=nJ (x:=x) (r:=r) hk;have hi:=ih m (aie (x::r)).2 (by omega) (by omega);simp only[gD,hk,gm,jw,aK];split
     ·exact hi
     ·rw[hi]
    ·simp only[gD,bf hk];rw[ih m r (by omega) (by omega)]
theorem yI{x:It}{r:List It}(hk:x.ah9≠1):aih (x::r)=x::aih r:=by
 simp only[aih,ai,gD,bf hk]
theorem mC{x:It}{r:List It}(hk:x.ah9=1):aih (x::r)=if(aie (x::r)).1.length=0 then aih (aie (x::r)).2 else⟨1,(aie (x::r)).1,0⟩::aih (aie (x::r)).2:=by
 have hs:=nJ (x:=x) (r:=r) hk;have e:gD r.length (aie (x::r)).2=gD (aie (x::r)).2.length (aie (x::r)).2:=G9 _ _ _ hs (aq _);simp only[aih,ai,gD,hk,gm,jw,aK,e]
def nY(t:List UInt8)(f:List It):List It:=if t=[]then aih f else
 ⟨1,t++(aie f).1,0⟩::aih (aie f).2
theorem LG:∀ (f out:List It) (t:List UInt8),(ua out=false)→f.foldl cv (closed out t)=out++nY t f:=by
 intro f
 induction f with
 | nil =>
  intro out t ho;simp only[DF,nY,closed];split
  ·simp[aih,gD]
  ·simp[aie,aih,gD]
 | cons x f ih =>
  intro out t ho;simp only[c8]
  by_cases hk:x.ah9=1
  ·by_cases hx:x.aib=[]
   ·have e1:cv (closed out t) x=closed out t:=by simp[cv,hk,hx]
    rw[e1,ih out t ho];congr 1;simp only[nY];have hr:aie (x::f)=((aie f).1,(aie f).2):=by simp[aie,hk,hx]
    by_cases ht:t=[]
    ·rw[bf ht,bf ht,mC hk,hr];cases f with
     | nil=>simp[aie,aih,gD]
     | cons y f =>
      by_cases hy:y.ah9=1
      ·rw[mC hy]
      ·simp[aie,hy]
    ·rw[aI ht,aI ht,hr]
   ·have e1:cv (closed out t) x=closed out (t++x.aib):=by
     simp only[cv,hk,gm,jw,aK,aI hx];have gv:t++x.aib≠[]:=by simp[hx]
     by_cases ht:t=[]
     ·subst ht;rw[sR];simp only[closed,bk,aI hx];simp only[ua]at ho;cases hg:out.getLast? with
      | none=>rfl
      | some y =>
       rw[hg]at ho;have hy:¬ y.ah9=1:=by simpa using ho
       simp only[aI hy]
     ·simp[closed,ht]
    rw[e1,ih out _ ho];congr 1;have gv:t++x.aib≠[]:=by simp[hx]
    simp only[nY,aI gv];have hr:aie (x::f)=(x.aib++(aie f).1,(aie f).2):=by simp[aie,hk]
    by_cases ht:t=[]
    ·subst ht;rw[bf rfl,mC hk,hr]
     have:(x.aib++(aie f).1).length≠0:=by
      have:=gR.2 hx;rw[al];omega
     rw[aI this];simp
    ·rw[aI ht,hr];simp
  ·have e1:cv (closed out t) x=closed (closed out t++[x]) []:=by
    rw[sR];simp[cv,hk]
   have he:ua (closed out t++[x])=false:=by simp[ua,hk]
   rw[e1,ih _ [] he];have hr:aie (x::f)=([],x::f):=by simp[aie,hk]
   simp only[nY,aL,hr,bV,yI hk]
   by_cases ht:t=[]
   ·simp[closed,ht]
   ·simp[closed,ht]
theorem lB(f:List It):ot f=aih f:=by
 have:=LG f [] [] rfl;rw[sR]at this;simpa[nY,ot]using this
theorem dF(a b:List It):aH (a++b)=aH a+aH b:=by
 induction a with
 | nil=>simp[aH]
 | cons x a ih=>simp only[bn,aH,ih];omega
theorem mD(out:List It)(x:It):aH (cv out x)≤aH out+x.aib.length∧(cv out x).length≤out.length+1:=by
 simp only[cv];split
 ·simp[dF,aH]
 ·split
  ·omega
  ·split
   ·rename_i y hy;have gv:out≠[]:=by rintro rfl;simp at hy
    have e:out=out.dropLast++[y]:=by
     have:=List.dropLast_concat_getLast gv;rw[List.getLast?_eq_some_getLast gv]at hy;simp only[aa]at hy;rw[hy]at this;exact this.symm
    split
    ·have h1:aH out=aH out.dropLast+y.aib.length:=by
      conv=>lhs;rw[e]
      simp[dF,aH]
     simp[dF,aH];omega
    ·simp[dF,aH]
   ·simp[dF,aH]
theorem AG(f:List It)(x:It):ot (f++[x])=cv (ot f) x:=by simp[ot]
theorem iZ{f:List It}{x:It}(h:aih f=f):aih (f++[x])=cv f x:=by
 rw[← lB,AG,lB,h]
theorem rV{f:List It}{x:It}(h:x.ah9≠1):cv f x=f++[x]:=by simp[cv,h]
theorem zq:∀ (f out:List It),aH (f.foldl cv out)≤aH out+aH f∧(f.foldl cv out).length≤out.length+f.length
 | [],out=>by simp[aH]
 | x::f,out=>by
  have h1:=mD out x;have h2:=zq f (cv out x);simp only[c8,aH,ai];omega
theorem G8(f:List It):aH (aih f)≤aH f∧(aih f).length≤f.length:=by
 have h:=zq f [];rw[← lB];simpa[ot,aH]using h
theorem ue(a:Nat):(cc a).length=a:=by simp[cc]
theorem FE{α β:Type}{f g:α→Option β}:∀ {l:List α},(∀ x∈l,f x=g x)→l.filterMap f=l.filterMap g
 | [],_=>rfl
 | x::l,h=>by
  simp only[fR,h x (by simp)];rw[FE fun y hy=>h y (by simp[hy])]
def tg(f:List It):List It:=f.filter bW
theorem ez(a b:List It):tg (a++b)=tg a++tg b:=by simp[tg]
theorem pW{x:It}(h:bW x=true):tg [x]=[x]:=by simp[tg,h]
theorem qX{x:It}(h:bW x=false):tg [x]=[]:=by simp[tg,h]
theorem sG(t:List UInt8)(i:Int):bW ⟨1,t,i⟩=false:=by simp[bW]
theorem wv{x:It}(h:x.ah9=1):bW x=false:=by simp[bW,h]
theorem B8{x:It}(h1:x.ah9=1)(h2:x.id=0):(⟨1,x.aib,0⟩:It)=x:=by
 obtain⟨k,t,i⟩:=x;simp only at h1 h2;subst h1;subst h2;rfl
theorem ry{p:Option It}{x:It}(hk:x.ah9=1)(h:cH p x=true):x.aib≠[]∧x.id=0∧∀ y,p=some y→y.ah9≠1:=by
 simp only[cH,hk,aL,aO,dm,cI,bT]at h;refine⟨h.1.1,h.1.2,fun y hy=>?_⟩;subst hy;simpa using h.2
theorem l4{p:Option It}{t:List UInt8}(h1:t≠[])(h2:∀ y,p=some y→y.ah9≠1):cH p ⟨1,t,0⟩=true:=by
 simp only[cH,aL,aO,dm,cI,bT];refine⟨⟨h1,trivial⟩,?_⟩;cases p with
 | none=>rfl
 | some y=>simpa using h2 y rfl
theorem kS{f:List It}:bA [] f=0→aih f=f:=by
 refine Cf (p:=fun f=>bA [] f=0→aih f=f) (fun _=>rfl) ?_ f;intro l x ih h;obtain⟨h1,h2,_⟩:=(gh l [] x).1 h;simp only[bk]at h2;rw[iZ (ih h1)]
 by_cases hk:x.ah9=1
 ·obtain⟨g1,g2,g3⟩:=ry hk h2;simp only[cv,hk,gm,jw,aK,aI g1];cases hg:l.getLast? with
  | none=>simp only[B8 hk g2]
  | some y=>simp only[aI (g3 y hg),B8 hk g2]
 ·exact rV hk
theorem xG(f:List It)(x:It):fits f x=fits (tg f) x:=by
 induction f with
 | nil=>rfl
 | cons y f ih =>
  by_cases h:bW y=true
  ·simp only[fits,tg,eM,h,aL,me]at ih ⊢;rw[ih]
  ·have h:bW y=false:=by simpa using h
   have hb:iT x y=false:=by simp[iT,h]
   simp only[fits,tg,eM,h,me,hb,aF,aK,iF,dP]at ih ⊢;exact ih
theorem kT{f:List It}(t:List UInt8)(h:bA [] f=0):bA [] (aih (f++[⟨1,t,0⟩]))=0∧tg (aih (f++[⟨1,t,0⟩]))=tg f:=by
 rw[iZ (kS h)]
 by_cases ht:t=[]
 ·have e:cv f ⟨1,t,0⟩=f:=by simp[cv,ht]
  rw[e];exact⟨h,rfl⟩
 ·revert h;refine Cf (p:=fun f=>bA [] f=0→bA [] (cv f ⟨1,t,0⟩)=0∧tg (cv f ⟨1,t,0⟩)=tg f) ?_ ?_ f
  ·intro _;have e:cv [] ⟨1,t,0⟩=[]++[⟨1,t,0⟩]:=by simp[cv,ht]
   rw[e,gh,ez,qX (sG t 0),bV];exact⟨⟨rfl,l4 ht (by simp),by simp[bW]⟩,rfl⟩
  ·intro l y _ h;obtain⟨h1,h2,h3⟩:=(gh l [] y).1 h
   by_cases hy:y.ah9=1
   ·have e:cv (l++[y]) ⟨1,t,0⟩=l++[⟨1,y.aib++t,0⟩]:=by simp[cv,ht,hy]
    obtain⟨_,_,g3⟩:=ry hy h2;rw[e,gh,ez,ez,qX (sG _ 0),qX (wv hy)];exact⟨⟨h1,l4 (by simp[ht]) g3,by simp[bW]⟩,rfl⟩
   ·have e:cv (l++[y]) ⟨1,t,0⟩=(l++[y])++[⟨1,t,0⟩]:=by simp[cv,ht,hy]
    rw[e,gh,ez,qX (sG _ 0),bV];refine⟨⟨h,l4 ht fun z hz=>?_,by simp[bW]⟩,rfl⟩;simp only[bk,pO,mV,DC,aa]at hz;subst hz;exact hy
theorem oq{f:List It}{x:It}(h:bA [] f=0)(hk:x.ah9≠1)(hx:cH none x=true)(hf:bW x=true→fits f x=true):
  aih (f++[x])=f++[x]∧bA [] (f++[x])=0:=by
 refine⟨by rw[iZ (kS h),rV hk],?_⟩;rw[gh];refine⟨h,by rw[lZ hk];exact hx,?_⟩;rw[bk];cases ht:bW x with
 | false=>rfl
 | true=>rw[hf ht];rfl
structure wR (f opn:List It) (n:Int):Prop where
 err:bA [] f=0
 ids:∀ z∈tg f,1≤z.id∧z.id≤n
 nd:(opn.map (·.id)).Nodup
 op:∀ y∈opn,ain (ey y.aib)=true∧1≤y.id∧y.id≤n∧∀ z∈tg f,z.id=y.id→z.ah9=2∧z.aib=y.aib
theorem wR.nil:wR [] [] 0:=⟨rfl,by simp[tg],by simp,by simp⟩
theorem wR.same{f g opn:List It}{n:Int}(h:wR f opn n)(h1:bA [] g=0)(h2:tg g=tg f):wR g opn n :=
 ⟨h1,by rw[h2];exact h.ids,h.nd,by rw[h2];exact h.op⟩
theorem wR.aib{f opn:List It}{n:Int}(h:wR f opn n)(t:List UInt8):wR (aih (f++[⟨1,t,0⟩])) opn n :=
 h.same (kT t h.err).1 (kT t h.err).2
theorem wR.slot{f opn:List It}{n:Int}(h:wR f opn n){t:List UInt8}(ht:ain t=true):wR (aih (f++[⟨5,t,0⟩])) opn n:=by
 obtain⟨e,he⟩:=oq (x:=⟨5,t,0⟩) h.err (by simp) (by simp[cH,ht]) (by simp[bW]);rw[e];exact h.same he (by rw[ez,qX (by simp[bW]),bV])
theorem FI{f:List It}{x:It}(h:∀ z∈tg f,z.id≠x.id):fits f x=true:=by
 rw[xG];simp only[fits,cK];intro z hz;have:=h z hz;simp[iT,this]
theorem wR.empty{f opn:List It}{n:Int}(h:wR f opn n){t:List UInt8}(ht:fB t=true)(h0:0≤n)(h9:n<999):wR (aih (f++[⟨4,t,n+1⟩])) opn (n+1):=by
 have hT:bW ⟨4,t,n+1⟩=true:=by simp[bW]
 obtain⟨e,he⟩:=oq (x:=⟨4,t,n+1⟩) h.err (by simp) (by simp[cH,ht];omega) (fun _=>FI fun z hz=>by have:=h.ids z hz;simp only;omega);rw[e];refine⟨he,?_,h.nd,?_⟩
 ·intro z hz;rw[ez,pW hT,bL,bU]at hz;rcases hz with hz | rfl
  ·have:=h.ids z hz;omega
  ·simp only;omega
 ·intro y hy;obtain⟨o1,o2,o3,o4⟩:=h.op y hy;refine⟨o1,o2,by omega,fun z hz PD=>?_⟩;rw[ez,pW hT,bL,bU]at hz;rcases hz with hz | rfl
  ·exact o4 z hz PD
  ·simp only at PD;omega
theorem wR.opens{f opn:List It}{n:Int}(h:wR f opn n){t:List UInt8}(ht:fB t=true)(hn:ain (ey t)=true)(h0:0≤n)(h9:n<999):
  wR (aih (f++[⟨2,t,n+1⟩])) (opn++[⟨2,t,n+1⟩]) (n+1):=by
 have hT:bW ⟨2,t,n+1⟩=true:=by simp[bW]
 obtain⟨e,he⟩:=oq (x:=⟨2,t,n+1⟩) h.err (by simp) (by simp[cH,ht];omega) (fun _=>FI fun z hz=>by have:=h.ids z hz;simp only;omega);rw[e];refine⟨he,?_,?_,?_⟩
 ·intro z hz;rw[ez,pW hT,bL,bU]at hz;rcases hz with hz | rfl
  ·have:=h.ids z hz;omega
  ·simp only;omega
 ·rw[ee,fP];refine⟨h.nd,by simp,?_⟩;intro a ha b hb;obtain⟨y,hy,rfl⟩:=bH.1 ha;simp only[ay,bo,bU]at hb;have:=(h.op y hy).2.2.1;omega
 ·intro y hy;rw[bL,bU]at hy;rcases hy with hy | rfl
  ·obtain⟨o1,o2,o3,o4⟩:=h.op y hy;refine⟨o1,o2,by omega,fun z hz PD=>?_⟩;rw[ez,pW hT,bL,bU]at hz;rcases hz with hz | rfl
   ·exact o4 z hz PD
   ·simp only at PD;omega
  ·refine⟨hn,by simp only;omega,by simp only;omega,fun z hz PD=>?_⟩;rw[ez,pW hT,bL,bU]at hz;rcases hz with hz | rfl
   ·have:=h.ids z hz;simp only at PD;omega
   ·exact⟨rfl,rfl⟩
theorem wR.close{f opn:List It}{y:It}{n:Int}(h:wR f (opn++[y]) n)(h9:n≤999):
  wR (f++[⟨3,ey y.aib,y.id⟩]) opn n∧aih (f++[⟨3,ey y.aib,y.id⟩])=f++[⟨3,ey y.aib,y.id⟩]:=by
 have hT:bW ⟨3,ey y.aib,y.id⟩=true:=by simp[bW]
 obtain⟨o1,o2,o3,o4⟩:=h.op y (by simp)
 obtain⟨e,he⟩:=oq (x:=⟨3,ey y.aib,y.id⟩) h.err (by simp) (by simp[cH,o1];omega) (fun _=>by
  rw[xG];simp only[fits,cK];intro z hz
  by_cases hi:z.id=y.id
  ·obtain⟨z1,z2⟩:=o4 z hz hi;simp[iT,z1,z2]
  ·simp[iT,hi])
 have nz:=h.nd;rw[ee,fP]at nz;refine⟨⟨he,?_,nz.1,?_⟩,e⟩
 ·intro z hz;rw[ez,pW hT,bL,bU]at hz;rcases hz with hz | rfl
  ·exact h.ids z hz
  ·exact⟨o2,o3⟩
 ·intro x hx;obtain⟨p1,p2,p3,p4⟩:=h.op x (by simp[hx]);refine⟨p1,p2,p3,fun z hz PD=>?_⟩;rw[ez,pW hT,bL,bU]at hz;rcases hz with hz | rfl
  ·exact p4 z hz PD
  ·have:=nz.2.2 x.id (bH.2 ⟨x,hx,rfl⟩) y.id (by simp);exact absurd PD.symm this
structure H6 (pre f:List It):Prop where
 err:bA [] f=0
 tags:tg f=tg pre
theorem H6.nil:H6 [] []:=⟨rfl,rfl⟩
theorem H6.more{pre f:List It}(h:H6 pre f)(t:List UInt8):H6 pre (aih (f++[⟨1,t,0⟩])) :=
 ⟨(kT t h.err).1,(kT t h.err).2.trans h.tags⟩
theorem H6.aib{pre f:List It}{x:It}(h:H6 pre f)(hk:x.ah9=1)(t:List UInt8):H6 (pre++[x]) (aih (f++[⟨1,t,0⟩])) :=
 ⟨(kT t h.err).1,by rw[(kT t h.err).2,h.tags,ez,qX (wv hk),bV]⟩
theorem H6.item{pre f rest:List It}{x:It}(h:H6 pre f)(hs:bA [] (pre++x::rest)=0)(hk:x.ah9≠1):H6 (pre++[x]) (aih (f++[x])):=by
 rw[pD,rX]at hs;obtain⟨_,h2,h3,_⟩:=hs;rw[bk]at h2 h3
 obtain⟨e,he⟩:=oq (x:=x) h.err hk (by rw[← lZ (p:=pre.getLast?) hk];exact h2) (fun ht=>by
  rw[ht,dP]at h3;rw[xG,h.tags,← xG];simpa using h3)
 rw[e];exact⟨he,by rw[ez,ez,h.tags]⟩
theorem DZ:∀ (l:List Int) (k:Int) (x:Int),Ab l ((List.range l.length).map fun(i:Nat)=>(i:Int)+k) x=if x∈l then some ((l.idxOf x:Int)+k)else none
 | [],k,x=>by simp[Ab]
 | a::l,k,x=>by
  have e:(List.range (l.length+1)).map (fun(i:Nat)=>(i:Int)+k)=k::(List.range l.length).map fun(i:Nat)=>(i:Int)+(k+1):=by
   rw[z8,ay,ig];refine congr (congrArg _ (by omega)) (cS fun i _=>?_);simp only[Function.comp];omega
  rw[ai,e];simp only[Ab]
  by_cases h:x=a
  ·subst h;simp
  ·have h2:(a==x)=false:=by simpa using fun e=>h e.symm
   rw[aI h,DZ l (k+1) x,Ak,h2]
   by_cases h3:x∈l
   ·rw[bf h3,bf (dh _ h3)];congr 1;simp only[H8];omega
   ·rw[aI h3,aI (by simp[h,h3])]
theorem JW(l:List Int)(x:Int):Ab l (cc l.length) x=if x∈l then some ((l.idxOf x:Int)+1)else none:=DZ l 1 x
def pQ(l:List Int)(x:It):It:=if bW x=true then⟨x.ah9,x.aib,(l.idxOf x.id:Int)+1⟩else x
theorem EU(l:List Int)(x:It):(pQ l x).ah9=x.ah9:=by simp only[pQ];split<;>rfl
theorem No(l:List Int)(x:It):(pQ l x).aib=x.aib:=by simp only[pQ];split<;>rfl
theorem xB(l:List Int)(x:It):bW (pQ l x)=bW x:=by simp only[bW,EU]
theorem vQ{l:List Int}{f:List It}(h:∀ x∈tg f,x.id∈l):aip f l (cc l.length)=f.map (pQ l):=by
 have key:∀ x∈f,Kk l (cc l.length) x=some (pQ l x):=by
  intro x hx;simp only[Kk,pQ]
  by_cases ht:bW x=true
  ·have:=h x (cW.2 ⟨hx,ht⟩);rw[bf ht,bf ht,JW,bf this];rfl
  ·rw[aI ht,aI ht]
 simp only[aip];rw[FE key];clear key h
 induction f with
 | nil=>rfl
 | cons x f ih=>simp only[fR,ay,ih]
theorem Je{l:List Int}{x y:Int}(hx:x∈l)(hy:y∈l)(h:l.idxOf x=l.idxOf y):x=y:=by
 induction l with
 | nil=>simp at hx
 | cons a l ih =>
  simp only[Ak]at h
  by_cases h1:a=x
  ·by_cases h2:a=y
   ·rw[← h1,h2]
   ·have e1:(a==x)=true:=by simp[h1]
    have e2:(a==y)=false:=by simp[h2]
    rw[e1,e2]at h;simp at h
  ·have e1:(a==x)=false:=by simp[h1]
   by_cases h2:a=y
   ·have e2:(a==y)=true:=by simp[h2]
    rw[e1,e2]at h;simp at h
   ·have e2:(a==y)=false:=by simp[h2]
    rw[e1,e2]at h;simp only[H8]at h;refine ih ?_ ?_ (by omega)
    ·rcases bJ.1 hx with h3 | h3
     ·exact absurd h3.symm h1
     ·exact h3
    ·rcases bJ.1 hy with h3 | h3
     ·exact absurd h3.symm h2
     ·exact h3
theorem Nq{l:List Int}{x:It}{p:Option It}(hx:bW x=true→x.id∈l)(hl:l.length≤999)(h:cH p x=true):cH (p.map (pQ l)) (pQ l x)=true:=by
 by_cases ht:bW x=true
 ·have dc:l.idxOf x.id<l.length:=Tr (hx ht)
  have hk:x.ah9=2∨x.ah9=3∨x.ah9=4:=by
   simp only[bW,da,bT]at ht;omega
  have e:pQ l x=⟨x.ah9,x.aib,(l.idxOf x.id:Int)+1⟩:=by rw[pQ,bf ht]
  rw[e];simp only[cH]at h ⊢;rcases hk with hk | hk | hk
  ·simp[hk]at h ⊢;exact⟨⟨h.1.1,by omega⟩,by omega⟩
  ·simp[hk]at h ⊢;exact⟨⟨h.1.1,by omega⟩,by omega⟩
  ·simp[hk]at h ⊢;exact⟨⟨h.1.1,by omega⟩,by omega⟩
 ·have e:pQ l x=x:=by rw[pQ,aI ht]
  rw[e]
  by_cases hk:x.ah9=1
  ·obtain⟨g1,g2,g3⟩:=ry hk h;rw[← B8 hk g2];refine l4 g1 fun y hy=>?_;obtain⟨z,hz,rfl⟩:=aj.1 hy;rw[EU];exact g3 z hz
  ·rw[lZ hk]at h ⊢;exact h
theorem Np{l:List Int}{x:It}{f:List It}(ht:bW x=true)(hx:x.id∈l)(hf:∀ z∈tg f,z.id∈l)(h:fits f x=true):fits (f.map (pQ l)) (pQ l x)=true:=by
 simp only[fits,cK,bH]at h ⊢;rintro _ ⟨y,hy,rfl⟩;have hb:=h y hy
 by_cases Rg:bW y=true
 ·have hyl:=hf y (cW.2 ⟨hy,Rg⟩);have e1:pQ l x=⟨x.ah9,x.aib,(l.idxOf x.id:Int)+1⟩:=by rw[pQ,bf ht]
  have e2:pQ l y=⟨y.ah9,y.aib,(l.idxOf y.id:Int)+1⟩:=by rw[pQ,bf Rg]
  have e3:((l.idxOf y.id:Int)+1 != (l.idxOf x.id:Int)+1)=(y.id != x.id):=by
   by_cases hi:y.id=x.id
   ·rw[hi];simp
   ·have:l.idxOf y.id≠l.idxOf x.id:=fun e=>hi (Je hyl hx e);have h1:(y.id != x.id)=true:=by simpa using hi
    rw[h1];simp;omega
  have e4:bW (pQ l y)=bW y:=xB l y;simp only[iT,e4]at hb ⊢;rw[e1,e2];simp only;rw[e3];exact hb
 ·have Rg:bW y=false:=by simpa using Rg
  simp[iT,xB,Rg]
theorem nu{l:List Int}(hl:l.length≤999){f:List It}(hf:∀ x∈tg f,x.id∈l)(h:bA [] f=0):bA [] (f.map (pQ l))=0:=by
 revert hf h;refine Cf (p:=fun f=>(∀ x∈tg f,x.id∈l)→bA [] f=0→bA [] (f.map (pQ l))=0) (fun _ _=>rfl) ?_ f;intro f x ih hf h;obtain⟨h1,h2,h3⟩:=(gh f [] x).1 h;rw[bk]at h2 h3;have V6:∀ z∈tg f,z.id∈l:=fun z hz=>hf z (by rw[ez];exact List.mem_append_left _ hz);have xa:bW x=true→x.id∈l:=fun ht=>hf x (by rw[ez,pW ht];simp);rw[ee,ay,bo,gh];refine⟨ih V6 h1,?_,?_⟩
 ·rw[bk,List.getLast?_map];exact Nq xa hl h2
 ·rw[bk,xB];cases ht:bW x with
  | false=>rfl
  | true =>
   rw[ht,dP]at h3;rw[Np ht (xa ht) V6 (by simpa using h3)];rfl
theorem ng(l:List Int)(f:List It):aH (f.map (pQ l))=aH f:=by
 induction f with
 | nil=>rfl
 | cons x f ih=>simp only[ay,aH,No,ih]
def oR(f:List It):List Int:=(tg f).map (·.id)
theorem yH(f:List It):aio f=(oR f).foldl iz []:=by
 simp only[aio,gV];rfl
theorem vt(s t:List It):bE s t=(oR (s++t)).foldl iz []:=by
 rw[← mB,yH]
theorem oJ(s t:List It):(∀ x∈tg s,x.id∈bE s t)∧∀ x∈tg t,x.id∈bE s t:=by
 rw[vt];constructor<;>intro x hx<;>refine rv _ ?_<;>simp only[oR,ez,ee,bL,bH]
 ·exact .inl ⟨x,hx,rfl⟩
 ·exact .inr ⟨x,hx,rfl⟩
theorem Hn{l:List Int}{n:Int}(h:l.Nodup):(iz l n).Nodup:=by
 simp only[iz];split
 ·exact h
 ·rename_i h1;rw[fP];refine⟨h,by simp,?_⟩;intro a ha b hb e;simp only[bU]at hb;subst hb;subst e;exact h1 (by simpa using ha)
theorem wC:∀ (m:List Int) {l:List Int},l.Nodup→(m.foldl iz l).Nodup
 | [],_,h=>h
 | _::m,_,h=>wC m (Hn h)
theorem BN{g:Int→Int}{L:List Int}(hg:∀ x∈L,∀ y∈L,g x=g y→x=y):∀ (m acc:List Int),(∀ x∈m,x∈L)→(∀ x∈acc,x∈L)→(m.map g).foldl iz (acc.map g)=(m.foldl iz acc).map g
 | [],_,_,_=>rfl
 | n::m,acc,hm,ha=>by
  have hn:=hm n (by simp)
  have e:iz (acc.map g) (g n)=(iz acc n).map g:=by
   by_cases h:n∈acc
   ·have h1:acc.contains n=true:=by simpa using h
    have h2:(acc.map g).contains (g n)=true:=by simp;exact⟨n,h,rfl⟩
    simp only[iz,h1,h2,aL]
   ·have h1:acc.contains n=false:=by simpa using h
    have h2:(acc.map g).contains (g n)=false:=by
     cases h3:(acc.map g).contains (g n)with
     | false=>rfl
     | true =>
      simp only[List.contains_iff_mem,bH]at h3;obtain⟨x,hx,NW⟩:=h3;exact absurd (hg x (ha x hx) n hn NW▸hx) h
    simp only[iz,h1,h2,aF,aK,ee,ay,bo]
  simp only[ay,c8,e];refine BN hg m (iz acc n) (fun x hx=>hm x (by simp[hx])) fun x hx=>?_;simp only[iz]at hx;split at hx
  ·exact ha x hx
  ·rw[bL,bU]at hx;rcases hx with hx | rfl
   ·exact ha x hx
   ·exact hn
theorem BC:∀ {L:List Int} (_:L.Nodup),L.map (fun x=>(L.idxOf x:Int)+1)=cc L.length:=by
 intro L nz
 have key:∀ (l pre:List Int),(pre++l).Nodup→l.map (fun x=>((pre++l).idxOf x:Int)+1)=(List.range l.length).map fun(i:Nat)=>(i:Int)+((pre.length:Int)+1):=by
  intro l
  induction l with
  | nil=>intro pre _;rfl
  | cons a l ih =>
   intro pre h
   have e:(List.range (l.length+1)).map (fun(i:Nat)=>(i:Int)+((pre.length:Int)+1))=((pre.length:Int)+1)::(List.range l.length).map fun(i:Nat)=>(i:Int)+(((pre++[a]).length:Int)+1):=by
    rw[z8,ay,ig];refine congr (congrArg _ (by omega)) (cS fun i _=>?_);simp only[Function.comp,al,ai,aC];omega
   have h2:=ih (pre++[a]) (by rwa [aR,iH]);rw[aR,iH]at h2;rw[ai,e,← h2,ay];congr 1
   have YQ:a ∉ pre:=by
    rw[fP]at h;exact fun hm=>h.2.2 a hm a (by simp) rfl
   have:(pre++a::l).idxOf a=pre.length:=by
    clear h2 e ih h
    induction pre with
    | nil=>simp
    | cons b pre ih =>
     have hb:(b==a)=false:=by
      simp only[bJ,not_or]at YQ;simpa using fun e=>YQ.1 e.symm
     rw[bn,Ak,hb,H8,ih (fun hm=>YQ (dh _ hm)),ai]
   rw[this]
 have:=key L [] nz;simpa[cc]using this
theorem GC{l:List Int}{f:List It}:oR (f.map (pQ l))=(oR f).map fun x=>(l.idxOf x:Int)+1:=by
 induction f with
 | nil=>rfl
 | cons x f ih =>
  simp only[oR,tg,ay,eM,xB]at ih ⊢
  by_cases ht:bW x=true
  ·rw[bf ht,bf ht,ay,ay,ay,ih];congr 1;rw[pQ,bf ht]
  ·rw[aI ht,aI ht,ih]
theorem ui{s t:List It}(hs:bA [] s=0)(ht:bA [] t=0)(hl:(bE s t).length≤999):
  eu s t=s.map (pQ (bE s t))∧eF s t=t.map (pQ (bE s t)):=by
 have ha:=oJ s t;constructor
 ·rw[eu,rename,vQ ha.1];exact kS (nu hl ha.1 hs)
 ·rw[eF,rename,vQ ha.2];exact kS (nu hl ha.2 ht)
theorem FY{s t:List It}:bE (s.map (pQ (bE s t))) (t.map (pQ (bE s t)))=cc (bE s t).length:=by
 have e:bE s t=(oR (s++t)).foldl iz []:=vt s t;have hL:∀ x∈oR (s++t),x∈bE s t:=fun x hx=>by rw[e];exact rv _ hx
 rw[vt (s.map _) (t.map _),← List.map_append,GC];have h1:=BN (g:=fun x=>((bE s t).idxOf x:Int)+1) (L:=bE s t) (fun x hx y hy h=>Je hx hy (by omega)) (oR (s++t)) [] hL (by simp);rw[bo]at h1;rw[h1,← e];exact BC (by rw[e];exact wC _ iE)
theorem LP{n:Nat}{x:Int}(h:x∈cc n):((cc n).idxOf x:Int)+1=x:=by
 have nz:(cc n).Nodup:=by
  simp only[cc];exact(lK).map (f:=fun(i:Nat)=>(i:Int)+1) (fun a b h=>by have h:a≠b:=h;omega)
 have e:=BC nz;rw[ue]at e;have dc:(cc n).idxOf x<(cc n).length:=Tr h;have h2:((cc n).map fun x=>((cc n).idxOf x:Int)+1)[(cc n).idxOf x]?=(cc n)[(cc n).idxOf x]?:=by rw[e]
 rw[a8,ak dc]at h2;have hg:(cc n)[(cc n).idxOf x]=x:=List.getElem_idxOf dc;rw[hg]at h2;simpa using h2
theorem Bu{n:Nat}{f:List It}(h:∀ x∈tg f,x.id∈cc n):f.map (pQ (cc n))=f:=by
 induction f with
 | nil=>rfl
 | cons x f ih =>
  rw[ay];have h2:∀ z∈tg f,z.id∈cc n:=fun z hz=>h z (by simp only[tg,eM];split<;>simp[tg]at hz ⊢<;>simp[hz]);rw[ih h2];congr 1;rw[pQ];split
  ·rename_i ht;have:=h x (by simp only[tg,eM,ht,aL];simp);rw[LP this]
  ·rfl
theorem FX{s t:List It}(hs:bA [] s=0)(ht:bA [] t=0)(hl:(bE s t).length≤999):
  eu (eu s t) (eF s t)=eu s t∧eF (eu s t) (eF s t)=eF s t:=by
 obtain⟨e1,e2⟩:=ui hs ht hl;have ha:=oJ s t;have hs':=nu hl ha.1 hs;have ht':=nu hl ha.2 ht;rw[e1,e2];have hn:=FY (s:=s) (t:=t);have hl':(bE (s.map (pQ (bE s t))) (t.map (pQ (bE s t)))).length≤999:=by rw[hn,ue];exact hl
 obtain⟨f1,f2⟩:=ui hs' ht' hl';have hb:=oJ (s.map (pQ (bE s t))) (t.map (pQ (bE s t)));rw[hn]at hb f1 f2;exact⟨by rw[f1,Bu hb.1],by rw[f2,Bu hb.2]⟩
structure ZQ (o:z6):Prop where
 time:1≤o.gw.time∧o.gw.time≤1073741824
 jT:0≤o.gw.jT∧o.gw.jT<8
 number:1≤o.gw.number∧o.gw.number≤128
 ah9:o.ah9=1∨o.ah9=2
 ZO:o.aim.length≤8
 aim:∀ n∈o.aim,0≤n∧n≤128
 bare:o.ah9=2→o.aij=⟨o.aij.aia,[],o.aij.bQ,o.aij.next,[],[],0,0⟩
 looked:eB (looked o)=0
structure Sb (e:En):Prop where
 aia:bX e.aia=0
 aii:bX e.aii=0
 nonempty:e.aia≠[]
 cJ:ain e.cJ=true∨e.cJ=[]
 b8:ain e.b8=true∨e.b8=[]
 aif:0≤e.aif∧e.aif≤1073741824
 ail:1≤e.ail∧e.ail≤3
theorem mI{e:En}(h:eB e=0):Sb e:=by
 simp only[eB]at h;split at h
 ·rename_i h1;exact absurd h h1
 ·rename_i h1;split at h
  ·rename_i h2;exact absurd h h2
  ·rename_i h2;split at h
   ·simp at h
   ·rename_i h3;split at h
    ·rename_i h4;exact absurd h h4
    ·split at h
     ·rename_i h5;exact absurd h h5
     ·split at h
      ·simp at h
      ·rename_i h6;split at h
       ·simp at h
       ·rename_i h7;simp only[l8,L9,aO,dm,cI,gm,xp]at h3;simp only[named,L9,aO,da,bT]at h6;exact⟨by simpa using h1,by simpa using h2,h3.1.1,h6.1.symm,h6.2.symm,⟨by omega,by omega⟩,⟨by omega,by omega⟩⟩
theorem BU(s t:List It):(bE s t).length≤s.length+t.length:=by
 have h1:=pC (aio t) (aio s);have h2:=lA s;have h3:=lA t;simp only[bE];omega
theorem oE{f:List It}(h:bA [] f=0)(h1:f.length≤100)(h2:aH f≤900):bX f=0:=by
 have:=MH f;exact(xR (by omega)).2 ⟨by omega,by omega,h⟩
def zo:List (List UInt8):=[[],[83,97,118,101],[114,101,100,32,99,97,114],[120]]
def qC:List (List UInt8):=[[],[97,110,110],[98,111,98],[112],[113]]
theorem Dr:∀ s∈zo,(parse s).2.2=0∧s.length≤7:=by decide +kernel
theorem tE:∀ s∈qC,named s=true∧s.length≤3:=by decide +kernel
structure uv (e:En):Prop where
 ok:eB e=0
 kp:e.aia.length≤40
 iP:aH e.aia≤400
 pV:e.aii.length≤100
 nf:aH e.aii≤900
 prev:e.bQ.length≤7
 next:e.next.length≤7
 cJ:e.cJ.length≤3
 b8:e.b8.length≤3
theorem R0{p:Option It}{x:It}(h:cH p x=true):0≤x.id∧x.id≤999:=by
 simp only[cH]at h;split at h
 ·simp only[aO,bT]at h;omega
 ·split at h
  ·simp only[aO,bT]at h;omega
  ·split at h
   ·simp only[aO,aY]at h;omega
   ·split at h
    ·simp only[aO,aY]at h;omega
    ·simp at h
theorem qU{f:List It}(h:bX f=0):∀ x∈f,0≤x.id∧x.id≤999:=by
 simp only[bX]at h;split at h
 ·simp at h
 ·intro x hx;exact R0 (AJ f [] h x hx)
theorem ma{e:En}(h:eB e=0):bX e.aia=0∧bX e.aii=0:=⟨(mI h).aia,(mI h).aii⟩
theorem Ly{f t:List It}{p n a r:List UInt8}{c o:Int}(hf:bA [] f=0)(ht:bA [] t=0)(gv:f≠[])(f1:f.length≤40)(f2:aH f≤400)(t1:t.length≤100)(t2:aH t≤900)
  (hp:p∈zo) (hn:n∈zo) (ha:a∈qC) (hr:r∈qC) (hc:0≤c∧c≤1073741824) (ho:1≤o∧o≤3):uv ⟨eu f t,eF f t,p,n,a,r,c,o⟩:=by
 have hl:(bE f t).length≤999:=by have:=BU f t;omega
 obtain⟨e1,e2⟩:=ui hf ht hl;have lF:=oJ f t;have v1:bA [] (eu f t)=0:=by rw[e1];exact nu hl lF.1 hf
 have v2:bA [] (eF f t)=0:=by rw[e2];exact nu hl lF.2 ht
 have l1:(eu f t).length=f.length:=by rw[e1,ag]
 have l2:(eF f t).length=t.length:=by rw[e2,ag]
 have x1:aH (eu f t)=aH f:=by rw[e1,ng]
 have x2:aH (eF f t)=aH t:=by rw[e2,ng]
 obtain⟨k1,k2⟩:=FX hf ht hl;have w1:bX (eu f t)=0:=oE v1 (by omega) (by omega);have w2:bX (eF f t)=0:=oE v2 (by omega) (by omega);have hne':(eu f t).length≠0:=by rw[l1];exact fun h=>gv (aG h)
 have Td:l8 ⟨eu f t,eF f t,p,n,a,r,c,o⟩=true:=by
  simp only[l8,k1,k2,rl.2 rfl,fH,dm,cI,gm];exact hne'
 refine⟨?_,by simp only[l1];exact f1,by simp only[x1];exact f2,by simp only[l2];exact t1,by simp only[x2];exact t2,(Dr p hp).2,(Dr n hn).2,(tE a ha).2,(tE r hr).2⟩;simp only[eB,w1,w2,Td,(Dr p hp).1,(Dr n hn).1,(tE a ha).1,(tE r hr).1,gm,jw,aK,vH,Ia];rw[aI (by omega)]
theorem uv.aik{e:En}(h:uv e):e.aik:=by
 have:=ma h.ok;have h1:=h.kp;have h2:=h.iP;have h3:=h.pV;have h4:=h.nf;have h5:=h.prev;have h6:=h.next;refine⟨by omega,by omega,by omega,by omega,by omega,by omega,fun x hx=>?_⟩;rcases bL.1 hx with hx | hx
 ·have:=qU this.1 x hx;omega
 ·have:=qU this.2 x hx;omega
structure ZF (o:z6):Prop where
 ok:SK o=0
 off:o.gw.jT<3
 src:bA [] o.aij.aia=0
 kp:o.aij.aia.length≤40
 iP:aH o.aij.aia≤400
 aik:o.aik
 pV:o.aij.aii.length≤100
 nf:aH o.aij.aii≤1200
 ctx:o.aij.bQ.length≤7∧o.aij.next.length≤7∧o.aij.cJ.length≤3∧o.aij.b8.length≤3
def nv(b:UInt8):UInt8:=if 65≤b.toNat∧b.toNat≤90 then UInt8.ofNat (b.toNat+32)else b
def lower(l:List UInt8):List UInt8:=l.map nv
theorem wo{b:UInt8}(h1:65≤(b.toNat:Int))(h2:(b.toNat:Int)≤90):((nv b).toNat:Int)=b.toNat+32:=by
 unfold nv;rw[bf (by omega),UInt8.toNat_ofNat'];omega
theorem o8{b:UInt8}(h:¬ (65≤(b.toNat:Int)∧(b.toNat:Int)≤90)):nv b=b:=by
 unfold nv;rw[aI (by omega)]
theorem tJ(l:List UInt8):(lower l).length=l.length:=by simp[lower]
def kL(b:UInt8):Bool:=dd b==4||dd b==3
def AQ(b:UInt8):Bool:=dd b==3
def nH(b:UInt8):Bool:=dd b==2
def fU(inner:UInt8→Bool)(j0 j1:UInt8):List UInt8→Nat
 | []=>0
 | [c]=>if inner c then 1 else 0
 | c::d::r=>if inner c then 1+fU inner j0 j1 (d::r)else if((c==j0)||(c==j1))&&inner d then 2+fU inner j0 j1 r else 0
theorem u4{inner:UInt8→Bool}{j0 j1 c:UInt8}(h:inner c=true)(r:List UInt8):fU inner j0 j1 (c::r)=1+fU inner j0 j1 r:=by
 cases r<;>simp[fU,h]
theorem u6{inner:UInt8→Bool}{j0 j1 c:UInt8}(h:inner c=false):fU inner j0 j1 [c]=0:=by simp[fU,h]
theorem u5{inner:UInt8→Bool}{j0 j1 c d:UInt8}(h:inner c=false)(hj:((c==j0||c==j1)&&inner d)=true)(r:List UInt8):fU inner j0 j1 (c::d::r)=2+fU inner j0 j1 r:=by
 simp only[fU,h,hj,aL,aF,aK]
theorem tK{inner:UInt8→Bool}{j0 j1 c d:UInt8}(h:inner c=false)(hj:((c==j0||c==j1)&&inner d)=false)(r:List UInt8):fU inner j0 j1 (c::d::r)=0:=by
 simp only[fU,h,hj,aF,aK]
theorem tL(inner:UInt8→Bool)(j0 j1:UInt8):∀ (l:List UInt8),fU inner j0 j1 l≤l.length
 | []=>aq _
 | [c]=>by simp only[fU];split<;>simp
 | c::d::r=>by
  have h1:=tL inner j0 j1 (d::r);have h2:=tL inner j0 j1 r;simp only[fU,ai]at *
  (repeat' split)<;>omega
def fv:List UInt8→Nat
 | []=>0
 | c::r=>if nH c then 1+fv r else 0
theorem BX:∀ (l:List UInt8),fv l≤l.length
 | []=>aq _
 | c::r=>by
  have:=BX r;simp only[fv,ai];split<;>omega
def du:List UInt8→Int×Nat
 | []=>(9,1)
 | c::r=>if dd c=4 then(6,1+fU kL 39 45 r)else if dd c=3 then(7,1+fU AQ 46 44 r)else if dd c=2 then(8,1+fv r)else(9,1)
theorem lC(l:List UInt8):1≤(du l).2:=by
 cases l with
 | nil=>simp[du]
 | cons c r=>simp only[du];(repeat' split)<;>simp
theorem yK{l:List UInt8}(h:l≠[]):(du l).2≤l.length:=by
 cases l with
 | nil=>exact absurd rfl h
 | cons c r =>
  have h1:=tL kL 39 45 r;have h2:=tL AQ 46 44 r;have h3:=BX r;simp only[du,ai]
  (repeat' split)<;>simp only<;>omega
def xi:Nat→List UInt8→List It
 | 0,_=>[]
 | _+1,[]=>[]
 | n+1,c::r=>⟨(du (c::r)).1,(c::r).take (du (c::r)).2,0⟩::xi n ((c::r).drop (du (c::r)).2)
def gZ(s:List UInt8):List It:=xi s.length s
theorem BQ:∀ (n m:Nat) (s:List UInt8),s.length≤n→s.length≤m→xi n s=xi m s
 | n,m,[],_,_=>by cases n<;>cases m<;>rfl
 | 0,_,c::r,h,_=>by simp at h
 | _,0,c::r,_,h=>by simp at h
 | n+1,m+1,c::r,h1,h2=>by
  have hp:=lC (c::r);simp only[xi];rw[BQ n m _ (by simp only[cV,ai]at *;omega) (by simp only[cV,ai]at *;omega)]
theorem wG{s:List UInt8}(h:s≠[]):gZ s=⟨(du s).1,s.take (du s).2,0⟩::gZ (s.drop (du s).2):=by
 cases s with
 | nil=>exact absurd rfl h
 | cons c r =>
  have hp:=lC (c::r);simp only[gZ,ai,xi];rw[BQ r.length _ _ (by simp only[cV,ai];omega) (aq _)]
theorem sO:∀ (n:Nat) (s:List UInt8),(xi n s).length≤s.length
 | 0,s=>by simp[xi]
 | n+1,[]=>by simp[xi]
 | n+1,c::r=>by
  have hp:=lC (c::r);have:=sO n ((c::r).drop (du (c::r)).2);simp only[xi,ai,cV]at *;omega
def jy(x:It):List It:=if x.ah9=2∨x.ah9=3∨x.ah9=4∨x.ah9=5 then[x]else if x.ah9=1 then gZ x.aib else[]
def cR(f:List It):List It:=f.flatMap jy
theorem pX(pre rest:List It):aH rest≤aH (pre++rest):=by
 induction pre with
 | nil=>exact aq _
 | cons y pre ih=>simp only[bn,aH];omega
theorem uF(x:It):(jy x).length≤1+x.aib.length:=by
 unfold jy;have:=sO x.aib.length x.aib;simp only[gZ]at *
 (repeat' split)<;>simp<;>omega
def weight(t:It):Int:=if t.ah9=6∨t.ah9=5 then 4 else if t.ah9=7∨t.ah9=2∨t.ah9=3∨t.ah9=4 then 3 else if t.ah9=9 then 2 else if t.ah9=8 then 1 else 0
def fI(l:List It):Int:=(l.map weight).sum
def jK(a b:It):Bool:=a.ah9==b.ah9&&a.aib==b.aib
def dB(t:It):List UInt8:=if t.ah9=6 then lower t.aib else t.aib
theorem kM(t:It):0≤weight t∧weight t≤4:=by
 unfold weight
 (repeat' split)<;>omega
theorem s9(l:List It):0≤fI l∧fI l≤4*l.length:=by
 induction l with
 | nil=>simp[fI]
 | cons x l ih =>
  have:=kM x;simp only[fI,ay,bN,ai]at *;omega
def single(t:It):Int:=if bW t then 1 else weight t
def dj(a b:It):Option Int :=
 if jK a b then some 0 else if a.ah9≠b.ah9 then none
 else if a.ah9=6 then(if dB a==dB b then some 1 else some (weight a))
 else if a.ah9=7∨a.ah9=8∨a.ah9=9∨a.ah9=5 then some (weight a)else none
theorem dE(t:It):0≤single t∧single t≤4:=by
 have:=kM t;unfold single;split<;>omega
theorem oH{a b:It}{c:Int}(h:dj a b=some c):0≤c∧c≤4:=by
 have:=kM a;unfold dj at h
 (repeat' split at h)<;>simp at h<;>omega
def dX(n:Int):V:=.i .i64 n
section
variable {α:Type} [DecidableEq α] {kd:Nat} {ke:α→V}
theorem qG(hk:∀ a b,bY kd (ke a) (ke b)=some (decide (a=b)))(C:List (α×Int))(a:α):
  (bS a C=none∧dM kd (ke a) (emap ke dX C) 0=some none∧(∀ z,dM kd (ke a) (emap ke dX C++[(ke a,z)]) 0=some (some ((emap ke dX C).length,z))) ∧
    (∀ z,(emap ke dX C++[(ke a,z)])[(emap ke dX C).length]?=some (ke a,z))∧∀ z v,(emap ke dX C++[(ke a,z)]).set (emap ke dX C).length (ke a,.i .i64 v)=emap ke dX (eO C a v)) ∨
  (∃ i b,bS a C=some b∧dM kd (ke a) (emap ke dX C) 0=some (some (i,.i .i64 b))∧(emap ke dX C)[i]?=some (ke a,.i .i64 b)∧∀ v,(emap ke dX C).set i (ke a,.i .i64 v)=emap ke dX (eO C a v)):=by
 rcases iB (ve:=dX) hk C a with⟨h1,h2,h3⟩ | ⟨i,b,h1,h2,h3⟩
 ·refine .inl ⟨h1,h2,fun z=>?_,fun z=>by simp,fun z v=>?_⟩
  ·have key:∀ (es:List (V×V)) (n:Nat),dM kd (ke a) es n=some none→dM kd (ke a) (es++[(ke a,z)]) n=some (some (n+es.length,z)):=by
    intro es
    induction es with
    | nil=>intro n _;simp[dM,hk]
    | cons e es ih =>
     intro n h;simp only[dM,bn]at h ⊢;split at h
     ·simp at h
     ·rw[ih _ h];simp;omega
     ·simp at h
   simpa using key _ 0 h2
  ·rw[← h3 v,cd _ _ (aq _)];simp[dX]
 ·refine .inr ⟨i,b,h1,h2,?_,h3⟩
  have key:∀ (es:List (V×V)) (n:Nat) (r:Nat) (y:V),dM kd (ke a) es n=some (some (r,y))→∃ j k,r=n+j∧es[j]?=some (k,y)∧bY kd (ke a) k=some true:=by
   intro es
   induction es with
   | nil=>intro n r y h;simp[dM]at h
   | cons e es ih =>
    intro n r y h;obtain⟨k,x⟩:=e;simp only[dM]at h;split at h
    ·rename_i hs;simp only[aa,ao]at h;exact⟨0,k,by omega,by simp[h.2],hs⟩
    ·obtain⟨j,k2,h4,h5,h6⟩:=ih _ _ _ h;exact⟨j+1,k2,by omega,by simpa using h5,h6⟩
    ·simp at h
  obtain⟨j,k,h4,h5,h6⟩:=key _ 0 i _ h2;have:i=j:=by omega
  subst this;rw[h5,p9 h6];rfl
def bump(C:List (α×Int))(a:α)(d:Int):List (α×Int):=eO C a ((bS a C).getD 0+d)
theorem oD(C:List (α×Int))(a:α)(d:Int)(x:α):(bS x (bump C a d)).getD 0=(bS x C).getD 0+if x=a then d else 0:=by
 unfold bump;rw[gG];split
 ·rename_i h;subst h;rfl
 ·simp
def iC(C:List (α×Int)):Int:=(C.map fun p=>max p.2 (-p.2)).sum
end
abbrev TK:=Int×List UInt8
def ij(k:TK):V:=.agg [.i .i64 k.1,.s k.2,.i .i64 0]
def dv(t:It):TK:=(t.ah9,t.aib)
theorem xU(a b:TK):bY 5 (ij a) (ij b)=some (decide (a=b)):=by
 obtain⟨k,t⟩:=a;obtain⟨l,s⟩:=b;simp only[bY,ij,DY,jx,aL,aa];rw[gP];simp
def eE(d:Int)(C:List (TK×Int)):List It→List (TK×Int)
 | []=>C
 | t::r=>eE d (if bW t then bump C (dv t) d else C) r
def oS(a b:List It):List (TK×Int):=eE (-1) (eE 1 [] a) b
def iw(a b:List It):Int:=2*iC (oS a b)
def CB(n:Nat)(C:List (TK×Int)):Prop:=C.length≤n∧∀ k v,bS k C=some v → -(n:Int)≤v∧v≤n
theorem CB.nil:CB 0 []:=⟨aq _,fun k v h=>by simp[bS,dH]at h⟩
theorem CB.mono{n m:Nat}{C:List (TK×Int)}(h:CB n C)(hm:n≤m):CB m C:=⟨aQ h.1 hm,fun k v hv=>by have:=h.2 k v hv;omega⟩
theorem CB.getD{n:Nat}{C:List (TK×Int)}(h:CB n C)(k:TK): -(n:Int)≤(bS k C).getD 0∧(bS k C).getD 0≤n:=by
 cases hg:bS k C with
 | none=>simp
 | some v=>exact h.2 k v hg
theorem CB.bump{n:Nat}{C:List (TK×Int)}(h:CB n C)(a:TK)(d:Int)(hd : -1≤d∧d≤1):CB (n+1) (Bt.bump C a d):=by
 refine⟨aQ (DS _ _ _) (by have:=h.1;omega),fun k v hv=>?_⟩;unfold Bt.bump at hv;rw[gG]at hv;have h1:=h.getD a;split at hv
 ·simp only[aa]at hv;omega
 ·have:=h.2 k v hv;omega
def iN{α:Type}(C:List (α×Int)):Prop:=(C.map (·.1)).Nodup
theorem E9{α:Type}[DecidableEq α](C:List (α×Int))(a:α)(b:Int):(eO C a b).map (·.1)=if a∈C.map (·.1)then C.map (·.1)else C.map (·.1)++[a]:=by
 induction C with
 | nil=>simp[eO]
 | cons p C ih =>
  simp only[eO];split
  ·rename_i h;subst h;simp
  ·rename_i h;simp only[ay,ih]
   by_cases h2:a∈C.map (·.1)
   ·rw[bf h2,bf (dh _ h2)]
   ·rw[aI h2,aI (by simp only[bJ];rintro(h3 | h3);exact h h3;exact h2 h3)];rfl
theorem iN.pT{α:Type}[DecidableEq α]{C:List (α×Int)}(h:iN C)(a:α)(b:Int):iN (eO C a b):=by
 unfold iN at *;rw[E9];split
 ·exact h
 ·rename_i hn;rw[fP];exact⟨h,by simp,by simp;intro x y hx;rintro rfl;exact hn (bH.2 ⟨_,hx,rfl⟩)⟩
theorem kh{α:Type}[DecidableEq α]{C:List (α×Int)}(h:iN C){p:α×Int}(hp:p∈C):bS p.1 C=some p.2:=by
 induction C with
 | nil=>simp at hp
 | cons q C ih =>
  unfold iN at h;simp only[ay,eG]at h;rw[kX];rcases bJ.1 hp with rfl | hp
  ·simp
  ·have:p.1≠q.1:=fun e=>h.1 (e▸bH.2 ⟨p,hp,rfl⟩);rw[aI this];exact ih h.2 hp
theorem iN.count(d:Int):∀ (l:List It) {C:List (TK×Int)},iN C→iN (eE d C l)
 | [],_,h=>h
 | t::r,C,h=>by
  simp only[eE];split
  ·exact iN.count d r (h.pT _ _)
  ·exact iN.count d r h
theorem CB.count(d:Int)(hd : -1≤d∧d≤1):∀ (l:List It) {n:Nat} {C:List (TK×Int)},CB n C→CB (n+l.length) (eE d C l)
 | [],_,_,h=>h
 | t::r,n,C,h=>by
  simp only[eE,ai];split
  ·have:=CB.count d hd r (h.bump (dv t) d hd);exact this.mono (by omega)
  ·have:=CB.count d hd r h;exact this.mono (by omega)
def pz(f:Nat→Int)(ps:List Nat):Int:=(ps.map f).sum
theorem Ca(f:Nat→Int){ps:List Nat}(nz:ps.Nodup){q:Nat}(hq:q∈ps):pz f ps=f q+pz f (ps.filter fun i=>i != q):=by
 induction ps with
 | nil=>simp at hq
 | cons p ps ih =>
  simp only[eG]at nz
  by_cases h:p=q
  ·subst h
   have:(p::ps).filter (fun i=>i != p)=ps:=by
    simp only[eM,bne_self_eq_false,aF,aK];rw[List.filter_eq_self];intro x hx;simp only[lg,gm];rintro rfl;exact nz.1 hx
   rw[this];simp[pz]
  ·have N4:q∈ps:=by rcases bJ.1 hq with rfl | h2;exact absurd rfl h;exact h2
   have:=ih nz.2 N4
   have e:(p::ps).filter (fun i=>i != q)=p::ps.filter (fun i=>i != q):=by
    rw[List.filter_cons_of_pos (by simpa using h)]
   rw[e];simp only[pz,ay,bN]at this ⊢;omega
theorem D8{β:Type}(g:β→Int)(l:List β)(dflt:β):pz (fun i=>g (l.getD i dflt)) (List.range l.length)=(l.map g).sum:=by
 have:(List.range l.length).map (fun i=>g (l.getD i dflt))=l.map g:=by
  apply List.ext_getElem
  ·simp
  ·intro i h1 h2;simp at h1;simp[an,h1]
 rw[pz,this]
theorem B9(f:Nat→Int)(hf:∀ i,0≤f i)(ps:List Nat):0≤pz f ps:=by
 induction ps with
 | nil=>simp[pz]
 | cons p ps ih =>
  have:=hf p;simp only[pz,ay,bN]at ih ⊢;omega
theorem uc{α β:Type}{ke:α→V}{ve:β→V}(C:List (α×β))(d:α×β){q:Nat}(h:q<C.length):(emap ke ve C)[q]?=some (ke (C.getD q d).1,ve (C.getD q d).2):=by
 simp[emap,an,h]
theorem tW{β:Type}{C:List β}{d:β}{q:Nat}(h:q<C.length):C.getD q d∈C:=by
 rw[an,ak h];exact cA h
theorem BZ{n:Nat}{C:List (TK×Int)}(hC:CB n C)(hK:iN C):0≤iC C∧iC C≤(n:Int)*C.length:=by
 have key:∀ D:List (TK×Int),(∀ p∈D,-(n:Int)≤p.2∧p.2≤n)→0≤iC D∧iC D≤(n:Int)*D.length:=by
  intro D
  induction D with
  | nil=>intro _;simp[iC]
  | cons p D ih =>
   intro h;have h1:=ih fun q hq=>h q (dh _ hq);have h2:=h p (by simp);have e:(n:Int)*((D.length+1:Nat):Int)=(n:Int)*(D.length:Int)+n:=by rw[qQ,il];simp
   simp only[iC,ay,bN,ai]at h1 ⊢;rw[e];omega
 exact key C fun p hp=>hC.2 p.1 p.2 (kh hK hp)
theorem D4{α:Type}(C:List (α×Int)):(C.map fun p=>2*max p.2 (-p.2)).sum=2*iC C:=by
 induction C with
 | nil=>rfl
 | cons p C ih =>
  simp only[iC,ay,bN]at ih ⊢;rw[ih];omega
theorem mH{ps:List Nat}{q:Nat}(hq:q∈ps):(ps.filter fun i=>i != q).length<ps.length :=
 List.length_filter_lt_length_iff_exists.2 ⟨q,hq,by simp⟩
def mn(a b:Int):Int:=if b<a then b else a
def mN(t u:It)(diag left up:Int):Int:=match dj t u with
 | some c=>mn (mn (up+single t) (left+single u)) (diag+c)
 | none=>mn (up+single t) (left+single u)
def gT(t:It):Int→Int→List It→List Int→List Int
 | diag,left,u::b,up::old=>mN t u diag left up::gT t up (mN t u diag left up) b old
 | _,_,_,old=>old
def fZ(t:It)(b:List It):List Int→List Int
 | x::old=>(x+single t)::gT t x (x+single t) b old
 | []=>[]
def jM(a:Int):List It→List Int
 | []=>[]
 | t::r=>(a+single t)::jM (a+single t) r
def tn(b:List It):List Int:=0::jM 0 b
def yl(a b:List It):List Int:=a.foldl (fun row t=>fZ t b row) (tn b)
def gi(a b:List It):Int:=(yl a b).getD b.length 0+iw a b
def BR(M:Int)(xs:List Int):Prop:=∀ x∈xs,0≤x∧x≤M
theorem vM(t:It):∀ (b:List It) (old:List Int) (d l:Int),(gT t d l b old).length=old.length
 | [],old,_,_=>by simp[gT]
 | u::b,[],_,_=>by simp[gT]
 | u::b,up::old,d,l=>by simp[gT,vM t b old]
theorem wc(t:It)(b:List It)(xs:List Int):(fZ t b xs).length=xs.length:=by
 cases xs<;>simp[fZ,vM]
theorem vX:∀ (b:List It) (a:Int),(jM a b).length=b.length
 | [],_=>rfl
 | t::r,a=>by simp[jM,vX r]
theorem Eo(b:List It):(tn b).length=b.length+1:=by simp[tn,vX]
theorem wO{t u:It}{d l up M:Int}(hd:0≤d∧d≤M)(hl:0≤l∧l≤M+4)(hu:0≤up∧up≤M):0≤mN t u d l up∧mN t u d l up≤M+4:=by
 have h1:=dE t;have h2:=dE u;unfold mN mn;split
 ·rename_i c hc;have:=oH hc
  (repeat' split)<;>omega
 ·split<;>omega
theorem BR.step{t:It}{M:Int}:∀ (b:List It) (old:List Int) (d l:Int),BR M old→0≤d∧d≤M→0≤l∧l≤M+4→BR (M+4) (gT t d l b old)
 | [],old,d,l,ho,_,_=>fun x hx=>by have:=ho x (by simpa[gT]using hx);omega
 | u::b,[],d,l,ho,_,_=>fun x hx=>by simp[gT]at hx
 | u::b,up::old,d,l,ho,hd,hl=>fun x hx=>by
  have hu:=ho up (by simp);have hb:=wO (t:=t) (u:=u) hd hl hu;simp only[gT,bJ]at hx;rcases hx with rfl | hx
  ·exact hb
  ·exact BR.step b old up _ (fun y hy=>ho y (by simp[hy])) hu hb x hx
theorem BR.new{t:It}{M:Int}{xs:List Int}(b:List It)(h:BR M xs):BR (M+4) (fZ t b xs):=by
 cases xs with
 | nil=>intro x hx;simp[fZ]at hx
 | cons y old =>
  have hy:=h y (by simp);have ht:=dE t;intro x hx;simp only[fZ,bJ]at hx;rcases hx with rfl | hx
  ·omega
  ·exact BR.step b old y _ (fun z hz=>h z (by simp[hz])) hy (by omega) x hx
theorem BR.pre:∀ (b:List It) (a:Int),0≤a→BR (a+4*b.length) (jM a b)
 | [],a,_=>fun x hx=>by simp[jM]at hx
 | t::r,a,ha=>fun x hx=>by
  have ht:=dE t;simp only[jM,bJ,ai]at hx ⊢;rcases hx with rfl | hx
  ·omega
  ·have:=BR.pre r (a+single t) (by omega) x hx;omega
theorem BR.tn(b:List It):BR (4*b.length) (tn b):=fun x hx=>by
 simp only[Bt.tn,bJ]at hx;rcases hx with rfl | hx
 ·omega
 ·have:=BR.pre b 0 (by omega) x hx;omega
theorem sa(b:List It):∀ (a:List It) (row:List Int) (M:Int),BR M row→BR (M+4*a.length) (a.foldl (fun row t=>fZ t b row) row)∧(a.foldl (fun row t=>fZ t b row) row).length=row.length
 | [],row,M,h=>⟨by simpa using h,rfl⟩
 | t::a,row,M,h=>by
  have:=sa b a (fZ t b row) (M+4) (h.new b);simp only[c8,ai];refine⟨fun x hx=>?_,by rw[this.2,wc]⟩;have:=this.1 x hx;omega
theorem El(a b:List It):BR (4*b.length+4*a.length) (yl a b)∧(yl a b).length=b.length+1:=by
 have:=sa b a (tn b) _ (BR.tn b);exact⟨this.1,by rw[yl,this.2,Eo]⟩
theorem yV(xs ys:List Int)(x v:Int):((xs++x::ys).map bR).set xs.length [.i .i64 v]=(xs++v::ys).map bR:=by
 rw[ee,cd _ _ (by simp)];simp[bR]
theorem xE(xs ys:List Int)(x:Int):eS ((xs++x::ys).map bR) xs.length 0=some (.i .i64 x):=by
 simp[eS,bR]
theorem vc(xs ys:List Int)(x:Int):((xs++x::ys).map bR).getD xs.length []=[.i .i64 x]:=by
 simp[an,bR]
structure Qr where
 aia:List It
 bQ:List UInt8
 next:List UInt8
 now:Int
 threshold:Int
 nO:Int
def Qr.ah7(q:Qr):List V:=[.sl 3 (q.aia.map It.ah7),.s q.bQ,.s q.next,.i .i64 q.now,.i .i64 q.threshold,.i .i64 q.nO]
structure Pn where
 ail:Int
 cJ:List UInt8
 b8:List UInt8
 dR:Int
 points:Int
def Pn.ah7(p:Pn):List V:=[.i .i64 p.ail,.s p.cJ,.s p.b8,.i .i64 p.dR,.i .i64 p.points]
structure Mt where
 aij:Int
 np:Int
 context:Int
 points:Int
 score:Int
def Mt.ah7(m:Mt):List V:=[.i .i64 m.aij,.i .i64 m.np,.i .i64 m.context,.i .i64 m.points,.i .i64 m.score]
def mx(a b:Int):Int:=if a<b then b else a
def fE(a b:List It):Int:=mx (fI a) (fI b)
def cL(a b:List It):Int:=if fE a b=0 then 100 else(100*mx (fE a b - gi a b) 0).tdiv (fE a b)
def BP(a b:List UInt8):Bool:=a != []&&a==b
def fV(e:En)(q:Qr):Int:=(if BP e.bQ q.bQ then 1 else 0)+if BP e.next q.next then 1 else 0
def nL(p:Pn):Int :=
 if p.ail<0∨3<p.ail∨p.dR<0∨1073741824<p.dR∨p.points<0∨100<p.points then 1
 else if(named p.cJ&&named p.b8)=false then 4 else 0
def lO:List Pn→Int
 | []=>0
 | p::r=>if nL p≠0 then nL p else lO r
def qj(l:List Pn):Int:=if(16:Int)<l.length then 3 else lO l
def jI(p:Pn)(e:En)(now:Int):Bool :=
 if p.ail != 0&&p.ail != e.ail then false
 else if(p.cJ != []&&p.cJ != e.cJ)||(p.b8 != []&&p.b8 != e.b8)then false
 else decide (p.dR≤0)||decide (p.dR≤now - e.aif)
def kq(e:En)(now:Int):Int→List Pn→Int
 | s,[]=>s
 | s,p::r=>kq e now (if decide (0<p.points)&&jI p e now then mn (s+mn p.points 100) 100 else s) r
def gC(l:List Pn)(e:En)(now:Int):Int:=kq e now 0 l
def gN(e:En)(a b:List It)(l:List Pn)(q:Qr):Mt :=
 let p:=cL a b;let s:=gC l e q.now;let c:=if p=100 then fV e q else 0
 ⟨0,p,c,s,mx (p+c - s) 0⟩
def sr(e:En)(l:List Pn)(q:Qr):Mt:=gN e (cR e.aia) (cR q.aia) l q
def ef(q:Qr):Int :=
 if bX q.aia≠0 then bX q.aia else
 if q.aia.length=0 then 1 else
 if(parse q.bQ).2.2≠0 then(parse q.bQ).2.2 else if(parse q.next).2.2≠0 then(parse q.next).2.2 else
 if q.now<0∨1073741824<q.now∨q.threshold<1∨102<q.threshold∨q.nO<1∨100<q.nO then 1 else 0
theorem um(a b:List It):0≤fE a b∧fE a b≤4*a.length+4*b.length:=by
 have:=s9 a;have:=s9 b;unfold fE mx;split<;>omega
theorem qk(a b:List It)(hd:0≤gi a b):0≤cL a b∧cL a b≤100:=by
 have hb:=(um a b).1;unfold cL;split
 ·omega
 ·have hm:0≤100*mx (fE a b - gi a b) 0∧100*mx (fE a b - gi a b) 0≤100*fE a b:=by
   unfold mx;split<;>omega
  rw[dN hm.1];exact⟨qR hm.1 hb,Int.ediv_le_of_le_mul (by omega) hm.2⟩
theorem wJ(e:En)(q:Qr):0≤fV e q∧fV e q≤2:=by
 unfold fV
 (repeat' split)<;>omega
theorem oZ(e:En)(now:Int):∀ (l:List Pn) (s:Int),0≤s∧s≤100→0≤kq e now s l∧kq e now s l≤100
 | [],s,h=>h
 | p::r,s,h=>by
  unfold kq;refine oZ e now r _ ?_;split
  ·rename_i hc;simp only[aO,aY]at hc;unfold mn
   (repeat' split)<;>omega
  ·exact h
def cG:List It→It→Int
 | [],_=>0
 | x::l,t=>(if jK x t then 1 else 0)+cG l t
theorem xW(a b:List It)(t:It):cG (a++b) t=cG a t+cG b t:=by
 induction a with
 | nil=>simp[cG]
 | cons x a ih=>simp only[bn,cG,ih];omega
theorem kN(a:List It)(t:It):0≤cG a t∧cG a t≤a.length:=by
 induction a with
 | nil=>simp[cG]
 | cons x a ih=>simp only[cG,ai];split<;>omega
theorem ub{e:En}:eB e=0↔bX e.aia=0∧bX e.aii=0∧l8 e=true∧(parse e.bQ).2.2=0∧(parse e.next).2.2=0∧(named e.cJ&&named e.b8)=true∧¬ (e.aif<0∨1073741824<e.aif∨e.ail<1∨3<e.ail):=by
 unfold eB;constructor
 ·intro h;split at h
  ·omega
  split at h
  ·omega
  split at h
  ·omega
  split at h
  ·omega
  split at h
  ·omega
  split at h
  ·omega
  split at h
  ·omega
  rename_i h1 h2 h3 h4 h5 h6 h7;exact⟨by omega,by omega,by simpa using h3,by omega,by omega,by simpa using h6,h7⟩
 ·rintro⟨h1,h2,h3,h4,h5,h6,h7⟩;rw[aI (by omega),aI (by omega),aI (by rw[h3];decide),aI (by omega),aI (by omega),aI (by rw[h6];decide),aI h7]
structure nc (k:Nat) (e:En):Prop where
 ok:eB e=0
 kp:e.aia.length≤40+k
 iP:aH e.aia≤400+4*k
 pV:e.aii.length≤100
 nf:aH e.aii≤900
 prev:e.bQ.length≤7
 next:e.next.length≤7
 cJ:e.cJ.length≤3
 b8:e.b8.length≤3
theorem uv.toB{e:En}(h:uv e)(k:Nat):nc k e :=
 ⟨h.ok,by have:=h.kp;omega,by have:=h.iP;omega,h.pV,h.nf,h.prev,h.next,h.cJ,h.b8⟩
theorem nc.mono{e:En}{k m:Nat}(h:nc k e)(hm:k≤m):nc m e :=
 ⟨h.ok,by have:=h.kp;omega,by have:=h.iP;omega,h.pV,h.nf,h.prev,h.next,h.cJ,h.b8⟩
theorem vJ{f:List It}(h:bX f=0):bA [] f=0:=by
 simp only[bX]at h;split at h
 ·simp at h
 ·exact h
theorem nc.src{e:En}{k:Nat}(h:nc k e):bA [] e.aia=0:=vJ (ma h.ok).1
theorem nc.tgt{e:En}{k:Nat}(h:nc k e):bA [] e.aii=0:=vJ (ma h.ok).2
theorem nc.aik{e:En}{k:Nat}(hk:k≤20)(h:nc k e):e.aik:=by
 have:=ma h.ok;have h1:=h.kp;have h2:=h.iP;have h3:=h.pV;have h4:=h.nf;have h5:=h.prev;have h6:=h.next;refine⟨by omega,by omega,by omega,by omega,by omega,by omega,fun x hx=>?_⟩;rcases bL.1 hx with hx | hx
 ·have:=qU this.1 x hx;omega
 ·have:=qU this.2 x hx;omega
theorem ET{f:List It}{x:It}(h:f≠[]):cv f x≠[]:=by
 unfold cv;split
 ·simp
 split
 ·exact h
 split
 ·split<;>simp
 ·simp
theorem D3(f g:List It):aH (f++g)=aH f+aH g:=by
 induction f with
 | nil=>simp[aH]
 | cons x f ih=>simp only[bn,aH,ih];omega
theorem ye{f:List It}(h:bA [] f=0)(gv:f≠[])(t:List UInt8):bA [] (aih (f++[⟨1,t,0⟩]))=0∧aih (f++[⟨1,t,0⟩])≠[]∧(aih (f++[⟨1,t,0⟩])).length≤f.length+1∧aH (aih (f++[⟨1,t,0⟩]))≤aH f+t.length:=by
 have hb:=G8 (f++[⟨1,t,0⟩]);refine⟨(kT t h).1,?_,?_,?_⟩
 ·rw[iZ (kS h)];exact ET gv
 ·have:=hb.2;simpa using this
 ·have:=hb.1;rw[D3]at this;simpa[aH]using this
theorem J6{e x:En}{k:Nat}(hk:k≤20)(he:nc 0 e)(hx:nc k x){t:List UInt8}(ht:t.length≤4):
  nc (k+1) ⟨eu (aih (x.aia++[⟨1,t,0⟩])) x.aii,eF (aih (x.aia++[⟨1,t,0⟩])) x.aii,e.bQ,e.next,e.cJ,e.b8,e.aif,e.ail⟩:=by
 obtain⟨h1,h2,h3,h4⟩:=ye hx.src (mI hx.ok).nonempty t;generalize aih (x.aia++[⟨1,t,0⟩])=f at *;have hT:=hx.tgt;have b1:=hx.kp;have b2:=hx.iP;have b3:=hx.pV;have b4:=hx.nf;generalize x.aii=g at *;have hl:(bE f g).length≤999:=by have:=BU f g;omega
 obtain⟨e1,e2⟩:=ui h1 hT hl;have lF:=oJ f g;have v1:bA [] (eu f g)=0:=by rw[e1];exact nu hl lF.1 h1
 have v2:bA [] (eF f g)=0:=by rw[e2];exact nu hl lF.2 hT
 have l1:(eu f g).length=f.length:=by rw[e1,ag]
 have l2:(eF f g).length=g.length:=by rw[e2,ag]
 have x1:aH (eu f g)=aH f:=by rw[e1,ng]
 have x2:aH (eF f g)=aH g:=by rw[e2,ng]
 obtain⟨k1,k2⟩:=FX h1 hT hl;have w1:bX (eu f g)=0:=oE v1 (by omega) (by omega);have w2:bX (eF f g)=0:=oE v2 (by omega) (by omega);have hne':(eu f g).length≠0:=by rw[l1];exact fun h=>h2 (aG h)
 have Td:l8 ⟨eu f g,eF f g,e.bQ,e.next,e.cJ,e.b8,e.aif,e.ail⟩=true:=by
  simp only[l8,k1,k2,rl.2 rfl,fH,dm,cI,gm];exact hne'
 obtain⟨_,_,_,p4,p5,p6,p7⟩:=ub.1 he.ok;exact⟨ub.2 ⟨w1,w2,Td,p4,p5,p6,p7⟩,by simp only[l1];omega,by simp only[x1];omega,by simp only[l2];omega,by simp only[x2];omega,he.prev,he.next,he.cJ,he.b8⟩
theorem DW(f:List It):(cR f).length≤f.length+aH f:=by
 induction f with
 | nil=>simp[cR]
 | cons x f ih =>
  have:=uF x;simp only[cR,dD,al,ai,aH]at ih ⊢;omega
section
variable {α β:Type} [DecidableEq α]
end
def place(x n:Int):Int:=if x.tmod n<0 then x.tmod n+n else x.tmod n
theorem vY{x n:Int}(h:0<n):0≤place x n∧place x n<n:=by
 have h1:=Int.tmod_lt_of_pos x h
 have h2 : - n<x.tmod n:=Int.neg_lt_of_neg_lt (by
  have:=Int.tmod_lt_of_pos (-x) h;rw[Int.neg_tmod]at this;omega)
 simp only[place];split<;>omega
def kj(o:Option Int)(v1 v2:Int):Int :=
 let v:=match o with
  | some v=>if v1<v then v1 else v
  | none=>v1
 if v2<v then v2 else v
def tv:List It→List It→Int
 | [],[]=>0
 | [],u::b=>single u+tv [] b
 | x::a,[]=>single x+tv a []
 | x::a,u::b=>kj ((dj x u).map (·+tv a b)) (single x+tv a (u::b)) (single u+tv (x::a) b)
theorem vK:∀ (a b:List It),0≤tv a b∧tv a b≤4*a.length+4*b.length
 | [],[]=>by simp[tv]
 | [],u::b=>by
  have:=vK [] b;have:=dE u;simp only[tv,ai,aC]at *;omega
 | x::a,[]=>by
  have:=vK a [];have:=dE x;simp only[tv,ai,aC]at *;omega
 | x::a,u::b=>by
  have h1:=vK a b;have h2:=vK a (u::b);have h3:=vK (x::a) b;have:=dE x;have:=dE u;simp only[tv,ai,aC]at *;cases hc:dj x u with
  | none =>
   simp only[fY,kj];split<;>omega
  | some c =>
   have:=oH hc;simp only[bK,kj]
   (repeat' split)<;>omega
def tIJ(a b:List It)(i k:Nat):Int:=tv (a.drop i) (b.drop k)
theorem ML(a b:List It)(i k:Nat):0≤tIJ a b i k∧tIJ a b i k≤4*a.length+4*b.length:=by
 have:=vK (a.drop i) (b.drop k);simp only[tIJ,cV]at *;omega
def Em(a b:List It)(i lo:Nat):List Int:=(List.range' lo (b.length+1 - lo)).map (tIJ a b i)
def fg(a b:List It)(i j:Nat):List Int:=List.replicate j 0++Em a b i j
theorem M4(a b:List It)(i lo:Nat):(Em a b i lo).length=b.length+1 - lo:=by simp[Em]
theorem uQ(a b:List It)(i j:Nat)(hj:j≤b.length+1):(fg a b i j).length=b.length+1:=by
 simp[fg,M4];omega
theorem KA{a b:List It}{i j k:Nat}(h:j≤k)(hk:k≤b.length):(fg a b i j)[k]?=some (tIJ a b i k):=by
 unfold fg Em;rw[aA (by simp;omega)];simp only[oO,a8];rw[List.getElem?_range' (by omega)];simp;congr 1;omega
theorem ql{a b:List It}{i j k:Nat}(h:j≤k)(hk:k≤b.length):eS ((fg a b i j).map bR) k 0=some (.i .i64 (tIJ a b i k)):=by
 simp[eS,KA h hk,bR]
theorem G0{a b:List It}{i j:Nat}(h:j≤b.length):((fg a b i (j+1)).map bR).getD j []=[.i .i64 0]:=by
 unfold fg;simp[an,ah,mW,bR]
theorem Ki{a b:List It}{i j:Nat}(h:j≤b.length):Em a b i j=tIJ a b i j::Em a b i (j+1):=by
 unfold Em;have:b.length+1 - j=(b.length+1 - (j+1))+1:=by omega
 rw[this,List.range'_succ];rfl
theorem Kz{a b:List It}{i j:Nat}(h:j≤b.length):(fg a b i (j+1)).set j (tIJ a b i j)=fg a b i j:=by
 unfold fg;rw[Ki h,List.replicate_succ',aR,cd _ _ (by simp)];simp
theorem EG(a b:List It)(i:Nat):fg a b i (b.length+1)=List.replicate (b.length+1) 0:=by
 simp[fg,Em]
theorem TQ(a b:List It):tIJ a b a.length b.length=0:=by simp[tIJ,tv]
theorem TP{a b:List It}{k:Nat}{u:It}(hk:b[k]?=some u):tIJ a b a.length k=single u+tIJ a b a.length (k+1):=by
 obtain⟨h,rfl⟩:=ab.1 hk;unfold tIJ;rw[db h];simp only[lL,tv]
theorem P7{a b:List It}{i:Nat}{x:It}(hi:a[i]?=some x):tIJ a b i b.length=single x+tIJ a b (i+1) b.length:=by
 obtain⟨h,rfl⟩:=ab.1 hi;unfold tIJ;rw[db h];simp only[lL,tv]
theorem TO{a b:List It}{i k:Nat}{x u:It}(hi:a[i]?=some x)(hk:b[k]?=some u):
  tIJ a b i k=kj ((dj x u).map (·+tIJ a b (i+1) (k+1))) (single x+tIJ a b (i+1) k) (single u+tIJ a b i (k+1)):=by
 obtain⟨h,rfl⟩:=ab.1 hi;obtain⟨h',rfl⟩:=ab.1 hk;unfold tIJ;rw[db h,db h'];simp only[tv]
def kB(d:Int):Int:=if d < -d then -d else d
def nG(a b:List It):List It→List It→Int
 | _,[]=>0
 | pre,t::r=>(if bW t&&cG pre t==0 then kB (cG a t - cG b t)else 0)+nG a b (pre++[t]) r
def oT(a b:List It):List It→List It→Int
 | _,[]=>0
 | pre,t::r=>(if(bW t&&cG pre t==0)&&cG a t==0 then cG b t else 0)+oT a b (pre++[t]) r
def mY(a b:List It):Int:=nG a b [] a+oT a b [] b
theorem JI{d:Int}{n:Int}(h : -n≤d∧d≤n):0≤kB d∧kB d≤n:=by unfold kB;split<;>omega
theorem xx(a b:List It):∀ (rest pre:List It),0≤nG a b pre rest∧nG a b pre rest≤rest.length*((a.length:Int)+b.length)
 | [],_=>by simp[nG]
 | t::r,pre=>by
  have h:=xx a b r (pre++[t]);have h1:=kN a t;have h2:=kN b t;have h3:=JI (d:=cG a t - cG b t) (n:=(a.length:Int)+b.length) (by omega)
  have e:(((t::r).length:Nat):Int)*((a.length:Int)+b.length)=r.length*((a.length:Int)+b.length)+((a.length:Int)+b.length):=by
   simp only[ai,qQ,PT];omega
  rw[e];simp only[nG];split<;>omega
theorem xw(a b:List It):∀ (rest pre:List It),0≤oT a b pre rest∧oT a b pre rest≤rest.length*((a.length:Int)+b.length)
 | [],_=>by simp[oT]
 | t::r,pre=>by
  have h:=xw a b r (pre++[t]);have h2:=kN b t
  have e:(((t::r).length:Nat):Int)*((a.length:Int)+b.length)=r.length*((a.length:Int)+b.length)+((a.length:Int)+b.length):=by
   simp only[ai,qQ,PT];omega
  rw[e];simp only[oT];split<;>omega
def cE{α:Type}(f:α→Int)(l:List α):Int:=(l.map f).sum
theorem uH{α:Type}(f:α→Int){l l':List α}(h:l.Perm l'):cE f l=cE f l':=by
 induction h with
 | nil=>rfl
 | cons x _ ih=>simp only[cE,ay,bN]at ih ⊢;omega
 | swap x y l=>simp only[cE,ay,bN];omega
 | trans _ _ h1 h2=>exact h1.trans h2
theorem MO{α:Type}(f:α→Int)(l l':List α):cE f (l++l')=cE f l+cE f l':=by simp[cE]
theorem dw{α:Type}{f g:α→Int}{l:List α}(h:∀ x∈l,f x=g x):cE f l=cE g l:=by
 induction l with
 | nil=>rfl
 | cons x l ih =>
  have h1:=h x (by simp);have h2:=ih fun y hy=>h y (by simp[hy]);simp only[cE,ay,bN]at h2 ⊢;omega
def ga(k:TK):List It→Int
 | []=>0
 | x::l=>(if dv x=k then 1 else 0)+ga k l
theorem qa(x t:It):jK x t=true↔dv x=dv t:=by
 simp[jK,dv]
theorem mo(l:List It)(t:It):cG l t=ga (dv t) l:=by
 induction l with
 | nil=>rfl
 | cons x l ih =>
  simp only[cG,ga,ih]
  by_cases h:dv x=dv t
  ·rw[bf ((qa x t).2 h),bf h]
  ·rw[aI (fun h2=>h ((qa x t).1 h2)),aI h]
theorem nD(k:TK)(l:List It):0≤ga k l:=by
 induction l with
 | nil=>exact cy _
 | cons x l ih=>simp only[ga];split<;>omega
theorem uf(k:TK)(l m:List It):ga k (l++m)=ga k l+ga k m:=by
 induction l with
 | nil=>simp[ga]
 | cons x l ih=>simp only[bn,ga,ih];omega
def jS(k:TK):Bool:=k.1==2||k.1==3||k.1==4
theorem rm(t:It):bW t=jS (dv t):=rfl
def Gp:List It→List It→List TK
 | _,[]=>[]
 | pre,t::r=>if bW t&&cG pre t==0 then dv t::Gp (pre++[t]) r else Gp (pre++[t]) r
def Gq(a:List It):List It→List It→List TK
 | _,[]=>[]
 | pre,t::r=>if(bW t&&cG pre t==0)&&cG a t==0 then dv t::Gq a (pre++[t]) r else Gq a (pre++[t]) r
theorem Bc(a b:List It):∀ (rest pre:List It),nG a b pre rest=cE (fun k=>kB (ga k a - ga k b)) (Gp pre rest)
 | [],_=>rfl
 | t::r,pre=>by
  have ih:=Bc a b r (pre++[t]);simp only[nG,Gp];split
  ·simp only[cE,ay,bN]at ih ⊢;rw[ih,mo,mo]
  ·rw[ih,dL]
theorem Bb(a b:List It):∀ (rest pre:List It),oT a b pre rest=cE (fun k=>ga k b) (Gq a pre rest)
 | [],_=>rfl
 | t::r,pre=>by
  have ih:=Bb a b r (pre++[t]);simp only[oT,Gq];split
  ·simp only[cE,ay,bN]at ih ⊢;rw[ih,mo]
  ·rw[ih,dL]
theorem nr(k:TK):∀ (rest pre:List It),k∈Gp pre rest↔jS k=true∧ga k pre=0∧ga k rest≠0
 | [],pre=>by simp[Gp,ga]
 | t::r,pre=>by
  have ih:=nr k r (pre++[t]);have h1:=nD k r;have h2:=nD k pre;simp only[Gp,rm,mo];rw[uf]at ih;have e:ga k [t]=if dv t=k then 1 else 0:=by simp[ga]
  rw[e]at ih
  by_cases hk:dv t=k
  ·subst hk;simp only[aL]at ih;have ih':¬ dv t∈Gp (pre++[t]) r:=fun h=>by have:=(ih.1 h).2.1;omega
   simp only[ga,aL];split
   ·rename_i hc;simp only[aO,bT]at hc;simp only[bJ,Tp,true_iff];exact⟨hc.1,hc.2,by omega⟩
   ·rename_i hc;simp only[aO,bT]at hc;simp only[ih',Px];rintro⟨h3,h4,_⟩;exact hc ⟨h3,h4⟩
  ·simp only[hk,aK,rO]at ih;simp only[ga,hk,aK,dL];split
   ·rw[bJ,ih];constructor
    ·rintro(h | h)
     ·exact absurd h.symm hk
     ·exact h
    ·exact .inr
   ·exact ih
theorem uU:∀ (rest pre:List It),(Gp pre rest).Nodup
 | [],_=>iE
 | t::r,pre=>by
  have ih:=uU r (pre++[t]);simp only[Gp];split
  ·refine eG.2 ⟨fun h=>?_,ih⟩;have:=((nr _ _ _).1 h).2.1;rw[uf]at this;have h2:=nD (dv t) pre;simp[ga]at this;omega
  ·exact ih
theorem lX(a:List It)(k:TK):∀ (rest pre:List It),k∈Gq a pre rest↔jS k=true∧ga k pre=0∧ga k a=0∧ga k rest≠0
 | [],pre=>by simp[Gq,ga]
 | t::r,pre=>by
  have ih:=lX a k r (pre++[t]);have h1:=nD k r;have h2:=nD k pre;simp only[Gq,rm,mo];rw[uf]at ih;have e:ga k [t]=if dv t=k then 1 else 0:=by simp[ga]
  rw[e]at ih
  by_cases hk:dv t=k
  ·subst hk;simp only[aL]at ih;have ih':¬ dv t∈Gq a (pre++[t]) r:=fun h=>by have:=(ih.1 h).2.1;omega
   simp only[ga,aL];split
   ·rename_i hc;simp only[aO,bT]at hc;simp only[bJ,Tp,true_iff];exact⟨hc.1.1,hc.1.2,hc.2,by omega⟩
   ·rename_i hc;simp only[aO,bT]at hc;simp only[ih',Px];rintro⟨h3,h4,h5,_⟩;exact hc ⟨⟨h3,h4⟩,h5⟩
  ·simp only[hk,aK,rO]at ih;simp only[ga,hk,aK,dL];split
   ·rw[bJ,ih];constructor
    ·rintro(h | h)
     ·exact absurd h.symm hk
     ·exact h
    ·exact .inr
   ·exact ih
theorem uV(a:List It):∀ (rest pre:List It),(Gq a pre rest).Nodup
 | [],_=>iE
 | t::r,pre=>by
  have ih:=uV a r (pre++[t]);simp only[Gq];split
  ·refine eG.2 ⟨fun h=>?_,ih⟩;have:=((lX _ _ _ _).1 h).2.1;rw[uf]at this;have h2:=nD (dv t) pre;simp[ga]at this;omega
  ·exact ih
theorem Ba(a b:List It):mY a b=cE (fun k=>kB (ga k a - ga k b)) (Gp [] a++Gq a [] b):=by
 rw[MO,mY,Bc,Bb];congr 1;refine dw fun k hk=>?_;have h1:=((lX _ _ _ _).1 hk).2.2.1;have h2:=nD k b;rw[h1];unfold kB;split<;>omega
theorem Gf{C:List (TK×Int)}(h:iN C):iC C=cE (fun k=>kB ((bS k C).getD 0)) (C.map (·.1)):=by
 have e:cE (fun k=>kB ((bS k C).getD 0)) (C.map (·.1))=(C.map fun p=>kB ((bS p.1 C).getD 0)).sum:=by
  simp only[cE,ig];rfl
 rw[e];unfold iC;congr 1;refine cS fun p hp=>?_;rw[kh h hp];unfold kB;simp only[ft];split<;>omega
theorem sQ(d:Int)(k:TK):∀ (l:List It) (C:List (TK×Int)),(bS k (eE d C l)).getD 0=(bS k C).getD 0+d*(if jS k then ga k l else 0)
 | [],C=>by simp[eE,ga]
 | t::r,C=>by
  have ih:=sQ d k r (if bW t then bump C (dv t) d else C);simp only[eE];rw[ih];rw[rm]
  by_cases hk:dv t=k
  ·subst hk
   by_cases ht:jS (dv t)=true
   ·simp only[ht,aL,oD,ga,il];omega
   ·simp only[ht,aF,aK]
  ·split
   ·rw[oD,aI (fun h=>hk h.symm)];simp only[ga,hk,aK,dL,rO]
   ·simp only[ga,hk,aK,dL]
theorem sP(d:Int)(k:TK):∀ (l:List It) (C:List (TK×Int)),k∈(eE d C l).map (·.1)↔k∈C.map (·.1)∨(jS k=true∧ga k l≠0)
 | [],C=>by simp[eE,ga]
 | t::r,C=>by
  have ih:=sP d k r (if bW t then bump C (dv t) d else C);have hn:=nD k r;simp only[eE];rw[ih,rm]
  by_cases ht:jS (dv t)=true
  ·simp only[ht,aL,bump,E9]
   by_cases hk:dv t=k
   ·subst hk;simp only[ga,aL,ht,gk];constructor
    ·intro _;exact .inr (by omega)
    ·intro _;refine .inl ?_;split
     ·assumption
     ·simp
   ·simp only[ga,hk,aK,dL];split
    ·rfl
    ·have nX:¬ k=dv t:=fun h=>hk h.symm;simp only[bL,bU,nX,DB]
  ·simp only[ht,aF,aK]
   by_cases hk:dv t=k
   ·subst hk;simp[ht]
   ·simp only[ga,hk,aK,dL]
theorem so(a b:List It):iw a b=2*mY a b:=by
 have hK:iN (oS a b):=iN.count (-1) b (iN.count 1 a (by simp[iN]));unfold iw;rw[Ba,Gf hK];congr 1
 have tT:∀ k,k∈(oS a b).map (·.1)↔k∈Gp [] a++Gq a [] b:=fun k=>by
  unfold oS;rw[sP,sP,bL,nr,lX];simp only[bo,eL,sV,ga,gk]
  by_cases h1:jS k=true<;>by_cases h2:ga k a=0<;>by_cases h3:ga k b=0<;>simp[h1,h2,h3]
 have nz:(Gp [] a++Gq a [] b).Nodup:=by
  rw[fP];refine⟨uU _ _,uV _ _ _,fun x hx y hy=>?_⟩;rintro rfl;exact((nr _ _ _).1 hx).2.2 ((lX _ _ _ _).1 hy).2.2.1
 rw[uH _ ((sX hK nz).2 tT)];refine dw fun k hk=>?_;congr 1
 have ht:jS k=true:=by
  rcases bL.1 hk with h | h
  ·exact((nr _ _ _).1 h).1
  ·exact((lX _ _ _ _).1 h).1
 unfold oS;rw[sQ,sQ];simp[ht,bS,dH];omega
end Go.Bt
