/- A part of a proof; the claim's last text says of what. -/
import Derived.Test.YtlakkaamfadipaaGreatDoorB12
import Derived.Test.YtlakkaamfadipaaGreatDoorB16
set_option linter.all false

namespace Go.Bt
open Go Go.Pm
def anA(c:UInt8):0<=(c.toNat:Int).fdiv (2^min 4 IntKind.u8.bits)/\(c.toNat:Int).fdiv (2^min 4 IntKind.u8.bits)<16 /\
  ([48,49,50,51,52,53,54,55,56,57,97,98,99,100,101,102]:aG).getD ((c.toNat:Int).fdiv (2^min 4 IntKind.u8.bits)).toNat 0=gn (c.toNat / 16):=by
 revert c;exact eP (by decide +kernel)
def anz(c:UInt8):0<=IntKind.u8.wrap (((BitVec.ofInt IntKind.u8.bits (c.toNat:Int) &&& BitVec.ofInt IntKind.u8.bits 15).toNat:Nat):Int)/\IntKind.u8.wrap (((BitVec.ofInt IntKind.u8.bits (c.toNat:Int) &&& BitVec.ofInt IntKind.u8.bits 15).toNat:Nat):Int)<16 /\
  ([48,49,50,51,52,53,54,55,56,57,97,98,99,100,101,102]:aG).getD (IntKind.u8.wrap (((BitVec.ofInt IntKind.u8.bits (c.toNat:Int) &&& BitVec.ofInt IntKind.u8.bits 15).toNat:Nat):Int)).toNat 0=gn (c.toNat % 16):=by
 revert c;exact eP (by decide +kernel)
def cK(x:It):aG :=
 if x.awb=1 then x.awd.flatMap du else if x.awb=2 then 60::(Lib.itoa x.id++58::(x.awd++[62]))else if x.awb=3 then 60::47::(Lib.itoa x.id++58::(x.awd++[62]))
 else if x.awb=4 then 60::(Lib.itoa x.id++58::(x.awd++[47,62]))else if x.awb=5 then 123::(x.awd++[125])else[]
def aww(f:List It):aG×Int:=if cd f≠0 then([],cd f)else(f.flatMap cK,0)
def Bo(c:UInt8):(du c).length<=4:=by
 simp only[du]
 (repeat' split)<;>simp
def MZ(s:aG):(s.flatMap du).length<=4*s.length:=by
 induction s with
 |nil=>simp
 |cons c s ih =>
  have:=Bo c;simp only[eJ,aj,ai];omega
def LC:∀(rest pre:List It),bQ pre rest=0->∀x∈rest,1<=x.awb/\x.awb<=5:=by
 intro rest
 induction rest with
 |nil=>intro pre h x a;simp at a
 |cons y rest ih =>
  intro pre h x a;simp only[bQ]at h;split at h
  .simp at h
  .rename_i b;split at h
   .simp at h
   .rcases bC.1 a with rfl|a
    .simp only[bG]at b
     by_cases c:x.awb=1
     .omega
     .by_cases f:x.awb=5
      .omega
      .by_cases d:x.awb=2\/x.awb=4
       .omega
       .by_cases e:x.awb=3
        .omega
        .simp[c,f,d,e]at b
    .exact ih _ h x a
def qy{f:List It}(h:cd f=0):∀x∈f,1<=x.awb/\x.awb<=5:=by
 simp only[cd]at h;split at h
 .simp at h
 .exact LC f [] h
def uJ(x:It)(h : -9223372036854775808<=x.id/\x.id<=9223372036854775807):(cK x).length<=4*x.awd.length+30:=by
 have a:=Lib.itoa_length_le x.id h.1 h.2;have b:=MZ x.awd;simp only[cK];split
 .omega
 .split
  .simp;omega
  .split
   .simp;omega
   .split
    .simp;omega
    .split
     .simp;omega
     .simp
def zI(f:List It)(d:f.length<2^30)(g:bd f<2^30)(b:∀x∈f,-9223372036854775808<=x.id/\x.id<=9223372036854775807):(aww f).1.length<2^36:=by
 have a:∀f:List It,(∀x∈f,-9223372036854775808<=x.id/\x.id<=9223372036854775807)->(f.flatMap cK).length<=4*bd f+30*f.length:=by
  intro f
  induction f with
  |nil=>intro _;simp
  |cons x f ih =>
   intro h;have i:=ih λy c=>h y (by simp[c]);have e:=uJ x (h x (by simp));simp only[eJ,aj,bd,ai];omega
 have:=a f b;simp only[aww];split
 .simp
 .simp only;omega
def mZ(c:UInt8):∀l:aG,-1<=Lib.indexByte l c:=by
 intro l
 induction l with
 |nil=>simp[Lib.indexByte]
 |cons a l ih =>
  simp only[Lib.indexByte];split
  .omega
  .split<;>omega
def rX{c:UInt8}:∀{l:aG},c ∉ l->Lib.indexByte l c = -1:=by
 intro l
 induction l with
 |nil=>intro _;simp[Lib.indexByte]
 |cons a l ih =>
  intro h
  have f:(a==c)=false:=by
   simp only[bC,uy]at h;simpa using λe=>h.1 e.symm
  have d:=ih (λb=>h (eV _ b));simp[Lib.indexByte,f,d]
def nX{c:UInt8}{rest:aG}:∀{pre:aG},c ∉ pre->Lib.indexByte (pre++c::rest) c=pre.length:=by
 intro pre
 induction pre with
 |nil=>intro _;simp[Lib.indexByte]
 |cons a l ih =>
  intro h
  have f:(a==c)=false:=by
   simp only[bC,uy]at h;simpa using λe=>h.1 e.symm
  have d:=ih (λb=>h (eV _ b));simp only[bJ,Lib.indexByte,f,d,aI,aS,ai];have:((l.length:Int) == -1)=false:=by rw[di];omega
  rw[this];simp
def mb{c:UInt8}{l:aG}(h:c∈l):0<=Lib.indexByte l c:=by
 induction l with
 |nil=>simp at h
 |cons a l ih =>
  have g:=mZ c l;simp only[Lib.indexByte]
  by_cases b:a=c
  .simp[b]
  .have d:(a==c)=false:=by simpa using b
   have f:c∈l:=by
    rcases bC.1 h with h|h
    .exact absurd h.symm b
    .exact h
   have i:=ih f;have e:(Lib.indexByte l c == -1)=false:=by simp;omega
   simp[d,e];omega
structure En where
 awc:List It
 awf:List It
 bU:aG
 next:aG
 c8:aG
 cA:aG
 awh:Int
 awq:Int
def En.awa(e:En):aB:=[.sl 3 (e.awc.map It.awa),.sl 3 (e.awf.map It.awa),.s e.bU,.s e.next,.s e.c8,.s e.cA,.i .i64 e.awh,.i .i64 e.awq]
def named(s:aG):Bool:=s==[]||awj s
def oe(e:En):Bool:=!(e.awc.length==0)&&gL (gK e.awc e.awf) e.awc&&gL (iq e.awc e.awf) e.awf
def cj(e:En):Int :=
 if cd e.awc≠0 then cd e.awc else if cd e.awf≠0 then cd e.awf else
 if oe e=false then 1 else
 if(parse e.bU).2.2≠0 then(parse e.bU).2.2 else if(parse e.next).2.2≠0 then(parse e.next).2.2 else
 if(named e.c8&&named e.cA)=false then 4 else
 if e.awh<0\/1073741824<e.awh\/e.awq<1\/3<e.awq then 1 else 0
structure En.awk (e:En):Prop where
 awc:e.awc.length<2^30
 nU:bd e.awc<2^30
 awf:e.awf.length<2^30
 HN:bd e.awf<2^30
 bU:e.bU.length<2^30
 next:e.next.length<2^30
 ids:∀x∈e.awc++e.awf,-9223372036854775808<=x.id/\x.id<=9223372036854775807
def cq(e:En):aG:=(aww e.awc).1++10::(e.bU++10::e.next)
def aN(e:En):aG:=if cj e≠0 then[]else cq e
structure KR where
 mm:Wg
 awb:Int
 awg:En
 awu:bH
def KR.awa(o:KR):aB:=o.mm.awa++[.i .i64 o.awb]++o.awg.awa++[.sl 1 (o.awu.map bV)]
structure KR.awk (o:KR):Prop where
 awg:o.awg.awk
 c8:o.awg.c8.length<2^30
 cA:o.awg.cA.length<2^30
 awu:o.awu.length<2^30
def asked(e:En):En:=⟨e.awc,e.awc,e.bU,e.next,[],[],0,1⟩
def looked(o:KR):En:=if o.awb≠2 then o.awg else asked o.awg
def ajh(e:En):Bool:=e.awf.length==0&&(e.c8==[]&&(e.cA==[]&&(e.awh==0&&e.awq==0)))
def ajU(v:bH):bH:=ajV v []
def af9(o:KR):Int :=
 if ac8 o.mm=false then 1 else
 if(o.awb≠1/\o.awb≠2)\/ajU o.awu≠o.awu then 1 else
 if o.awu.any (λn=>decide (128<n))then 1 else
 if vAt o.awu o.mm.qN≠o.mm.number - 1 then 11 else
 if o.awb=2/\ajh o.awg=false then 1 else cj (looked o)
def Xk(n:Int):UInt8:=UInt8.ofNat (n % 256).toNat
def be2(n:Int):aG:=[Xk (n / 256),Xk n]
def be4(n:Int):aG:=be2 (n / 65536)++be2 n
def BN(s:aG):aG:=be4 s.length++s
def afp(o:KR):aG :=
 [1,Xk o.awb]++be4 o.mm.time++[Xk o.mm.qN]++be2 o.mm.number++[Xk o.awu.length]++o.awu.flatMap be2 ++
 BN (aww o.awg.awc).1++BN o.awg.bU++BN o.awg.next ++
 (if o.awb=1 then BN (aww o.awg.awf).1++BN o.awg.c8++BN o.awg.cA++be4 o.awg.awh++[Xk o.awg.awq]else[])
def fS:aG->aG->Int
 |[],[]=>0
 |[],_::_ => -1
 |_::_,[]=>1
 |a::x,b::y=>if a<b then -1 else if b<a then 1 else fS x y
structure Rb where
 b:aG
 bad:Bool
def Rb.take(r:Rb)(n:Nat):aG×Rb :=
 if r.b.length<n then(List.replicate (min n 4) 0,⟨[],true⟩)else(r.b.take n,⟨r.b.drop n,r.bad⟩)
def aoc(l:aG):Int:=l.foldl (λa x=>a*256+x.toNat) 0
def Rb.number(r:Rb)(n:Nat):Int×Rb:=(aoc (r.take n).1,(r.take n).2)
def Rb.awd(r:Rb):aG×Rb :=
 let p:=r.number 4
 if(p.2.b.length:Int)<p.1 then([],⟨p.2.b,true⟩)else p.2.take p.1.toNat
def Rb.awm:Nat->Rb->bH×Rb
 |0,r=>([],r)
 |n+1,r=>let p:=r.number 2;let q:=Rb.awm n p.2;(p.1::q.1,q.2)
def wV(b:UInt8):UInt8:=if 65<=b.toNat/\b.toNat<=90 then UInt8.ofNat (b.toNat+32)else b
def lower(l:aG):aG:=l.map wV
def GU{b:UInt8}(h1:65<=(b.toNat:Int))(a:(b.toNat:Int)<=90):((wV b).toNat:Int)=b.toNat+32:=by
 unfold wV;rw[az (by omega),C8];omega
def zx{b:UInt8}(h:¬(65<=(b.toNat:Int)/\(b.toNat:Int)<=90)):wV b=b:=by
 unfold wV;rw[an (by omega)]
def Eb(l:aG):(lower l).length=l.length:=by simp[lower]
def sG(b:UInt8):Bool:=ei b==4||ei b==3
def LQ(b:UInt8):Bool:=ei b==3
def xq(b:UInt8):Bool:=ei b==2
def lH(inner:UInt8->Bool)(b a:UInt8):aG->Nat
 |[]=>0
 |[c]=>if inner c then 1 else 0
 |c::d::r=>if inner c then 1+lH inner b a (d::r)else if((c==b)||(c==a))&&inner d then 2+lH inner b a r else 0
def FU{inner:UInt8->Bool}{a b c:UInt8}(h:inner c=true)(r:aG):lH inner a b (c::r)=1+lH inner a b r:=by
 cases r<;>simp[lH,h]
def FW{inner:UInt8->Bool}{a b c:UInt8}(h:inner c=false):lH inner a b [c]=0:=by simp[lH,h]
def FV{inner:UInt8->Bool}{a b c d:UInt8}(h:inner c=false)(e:((c==a||c==b)&&inner d)=true)(r:aG):lH inner a b (c::d::r)=2+lH inner a b r:=by
 simp only[lH,h,e,aT,aI,aS]
def Eo{inner:UInt8->Bool}{a b c d:UInt8}(h:inner c=false)(e:((c==a||c==b)&&inner d)=false)(r:aG):lH inner a b (c::d::r)=0:=by
 simp only[lH,h,e,aI,aS]
def Ep(inner:UInt8->Bool)(a b:UInt8):∀(l:aG),lH inner a b l<=l.length
 |[]=>aD _
 |[c]=>by simp only[lH];split<;>simp
 |c::d::r=>by
  have e:=Ep inner a b (d::r);have f:=Ep inner a b r;simp only[lH,ai]at *
  (repeat' split)<;>omega
def lh:aG->Nat
 |[]=>0
 |c::r=>if xq c then 1+lh r else 0
def M8:∀(l:aG),lh l<=l.length
 |[]=>aD _
 |c::r=>by
  have:=M8 r;simp only[lh,ai];split<;>omega
def gP:aG->Int×Nat
 |[]=>(9,1)
 |c::r=>if ei c=4 then(6,1+lH sG 39 45 r)else if ei c=3 then(7,1+lH LQ 46 44 r)else if ei c=2 then(8,1+lh r)else(9,1)
def tO(l:aG):1<=(gP l).2:=by
 cases l with
 |nil=>simp[gP]
 |cons c r=>simp only[gP];(repeat' split)<;>simp
def Ji{l:aG}(h:l≠[]):(gP l).2<=l.length:=by
 cases l with
 |nil=>exact absurd rfl h
 |cons c r =>
  have a:=Ep sG 39 45 r;have d:=Ep LQ 46 44 r;have b:=M8 r;simp only[gP,ai]
  (repeat' split)<;>simp only<;>omega
def nM:Nat->aG->List It
 |0,_=>[]
 |_+1,[]=>[]
 |n+1,c::r=>⟨(gP (c::r)).1,(c::r).take (gP (c::r)).2,0⟩::nM n ((c::r).drop (gP (c::r)).2)
def nJ(s:aG):List It:=nM s.length s
def M0:∀(n m:Nat) (s:aG),s.length<=n->s.length<=m->nM n s=nM m s
 |n,m,[],_,_=>by cases n<;>cases m<;>rfl
 |0,_,c::r,h,_=>by simp at h
 |_,0,c::r,_,h=>by simp at h
 |n+1,m+1,c::r,h1,h2=>by
  have a:=tO (c::r);simp only[nM];rw[M0 n m _ (by simp only[bA,ai]at *;omega) (by simp only[bA,ai]at *;omega)]
def G8{s:aG}(h:s≠[]):nJ s=⟨(gP s).1,s.take (gP s).2,0⟩::nJ (s.drop (gP s).2):=by
 cases s with
 |nil=>exact absurd rfl h
 |cons c r =>
  have a:=tO (c::r);simp only[nJ,ai,nM];rw[M0 r.length _ _ (by simp only[bA,ai];omega) (aD _)]
def C0:∀(n:Nat) (s:aG),(nM n s).length<=s.length
 |0,s=>by simp[nM]
 |n+1,[]=>by simp[nM]
 |n+1,c::r=>by
  have a:=tO (c::r);have:=C0 n ((c::r).drop (gP (c::r)).2);simp only[nM,ai,bA]at *;omega
def pM(x:It):List It:=if x.awb=2\/x.awb=3\/x.awb=4\/x.awb=5 then[x]else if x.awb=1 then nJ x.awd else[]
def dz(f:List It):List It:=f.flatMap pM
def Am(pre rest:List It):bd rest<=bd (pre++rest):=by
 induction pre with
 |nil=>exact aD _
 |cons y pre ih=>simp only[bJ,bd];omega
def Fq(x:It):(pM x).length<=1+x.awd.length:=by
 unfold pM;have:=C0 x.awd.length x.awd;simp only[nJ]at *
 (repeat' split)<;>simp<;>omega
def weight(t:It):Int:=if t.awb=6\/t.awb=5 then 4 else if t.awb=7\/t.awb=2\/t.awb=3\/t.awb=4 then 3 else if t.awb=9 then 2 else if t.awb=8 then 1 else 0
def lq(l:List It):Int:=(l.map weight).sum
def qz(a b:It):Bool:=a.awb==b.awb&&a.awd==b.awd
def im(t:It):aG:=if t.awb=6 then lower t.awd else t.awd
def sH(t:It):0<=weight t/\weight t<=4:=by
 unfold weight
 (repeat' split)<;>omega
def Dl(l:List It):0<=lq l/\lq l<=4*l.length:=by
 induction l with
 |nil=>simp[lq]
 |cons x l ih =>
  have:=sH x;simp only[lq,aH,dw,ai]at *;omega
def single(t:It):Int:=if b9 t then 1 else weight t
def gh(a b:It):Cc :=
 if qz a b then some 0 else if a.awb≠b.awb then none
 else if a.awb=6 then(if im a==im b then some 1 else some (weight a))
 else if a.awb=7\/a.awb=8\/a.awb=9\/a.awb=5 then some (weight a)else none
def iB(t:It):0<=single t/\single t<=4:=by
 have:=sH t;unfold single;split<;>omega
def yH{a b:It}{c:Int}(h:gh a b=some c):0<=c/\c<=4:=by
 have:=sH a;unfold gh at h
 (repeat' split at h)<;>simp at h<;>omega
def fZ(n:Int):V:=.i .i64 n
section
variable {α:Type} [DecidableEq α] {kd:Nat} {ke:α->V}
def r9(p:∀a b,dD kd (ke a) (ke b)=some (decide (a=b)))(C:List (α×Int))(a:α):
  (cX a C=none/\gV kd (ke a) (emap ke fZ C) 0=some none/\(∀z,gV kd (ke a) (emap ke fZ C++[(ke a,z)]) 0=some (some ((emap ke fZ C).length,z))) /\
    (∀z,(emap ke fZ C++[(ke a,z)])[(emap ke fZ C).length]?=some (ke a,z))/\∀z v,(emap ke fZ C++[(ke a,z)]).set (emap ke fZ C).length (ke a,.i .i64 v)=emap ke fZ (iZ C a v)) \/
  (∃i b,cX a C=some b/\gV kd (ke a) (emap ke fZ C) 0=some (some (i,.i .i64 b))/\(emap ke fZ C)[i]?=some (ke a,.i .i64 b)/\∀v,(emap ke fZ C).set i (ke a,.i .i64 v)=emap ke fZ (iZ C a v)):=by
 rcases oc (ve:=fZ) p C a with⟨g,f,m⟩|⟨i,b,g,f,m⟩
 .refine .inl ⟨g,f,λz=>?_,λz=>by simp,λz v=>?_⟩
  .have d:∀(c:List (V×V)) (n:Nat),gV kd (ke a) c n=some none->gV kd (ke a) (c++[(ke a,z)]) n=some (some (n+c.length,z)):=by
    intro c
    induction c with
    |nil=>intro n _;simp[gV,p]
    |cons e c ih =>
     intro n h;simp only[gV,bJ]at h |-;split at h
     .simp at h
     .rw[ih _ h];simp;omega
     .simp at h
   simpa using d _ 0 f
  .rw[<- m v,dA _ _ (aD _)];simp[fZ]
 .refine .inr ⟨i,b,g,f,?_,m⟩
  have d:∀(c:List (V×V)) (n:Nat) (r:Nat) (y:V),gV kd (ke a) c n=some (some (r,y))->∃j k,r=n+j/\c[j]?=some (k,y)/\dD kd (ke a) k=some true:=by
   intro c
   induction c with
   |nil=>intro n r y h;simp[gV]at h
   |cons e c ih =>
    intro n r y h;obtain⟨k,x⟩:=e;simp only[gV]at h;split at h
    .rename_i s;simp only[ae,aQ]at h;exact⟨0,k,by omega,by simp[h.2],s⟩
    .obtain⟨j,t,q,l,o⟩:=ih _ _ _ h;exact⟨j+1,t,by omega,by simpa using l,o⟩
    .simp at h
  obtain⟨j,k,q,l,o⟩:=d _ 0 i _ f;have:i=j:=by omega
  subst this;rw[l,Au o];rfl
def bump(C:List (α×Int))(a:α)(d:Int):List (α×Int):=iZ C a ((cX a C).getD 0+d)
def sZ(C:List (α×Int))(a:α)(d:Int)(x:α):(cX x (bump C a d)).getD 0=(cX x C).getD 0+if x=a then d else 0:=by
 unfold bump;rw[jy];split
 .rename_i h;subst h;rfl
 .simp
def oh(C:List (α×Int)):Int:=(C.map λp=>max p.2 (-p.2)).sum
end
abbrev TK:=Int×aG
def lD(k:TK):V:=.agg [.i .i64 k.1,.s k.2,.i .i64 0]
def gd(t:It):TK:=(t.awb,t.awd)
def CF(a b:TK):dD 5 (lD a) (lD b)=some (decide (a=b)):=by
 obtain⟨k,t⟩:=a;obtain⟨l,s⟩:=b;simp only[dD,lD,Ik,jx,aT,ae];rw[cB];simp
def jS(d:Int)(C:List (TK×Int)):List It->List (TK×Int)
 |[]=>C
 |t::r=>jS d (if b9 t then bump C (gd t) d else C) r
def y8(a b:List It):List (TK×Int):=jS (-1) (jS 1 [] a) b
def nT(a b:List It):Int:=2*oh (y8 a b)
def CB{α:Type}[DecidableEq α](n:Nat)(C:List (α×Int)):Prop:=C.length<=n/\∀k v,cX k C=some v -> -(n:Int)<=v/\v<=n
def CB.nil{α:Type}[DecidableEq α]:CB (α:=α) 0 []:=⟨aD _,λk v h=>by simp[cX,gM]at h⟩
def CB.mono{α:Type}[DecidableEq α]{n m:Nat}{C:List (α×Int)}(h:CB n C)(a:n<=m):CB m C:=⟨cu h.1 a,λk v b=>by have:=h.2 k v b;omega⟩
def CB.getD{α:Type}[DecidableEq α]{n:Nat}{C:List (α×Int)}(h:CB n C)(k:α): -(n:Int)<=(cX k C).getD 0/\(cX k C).getD 0<=n:=by
 cases a:cX k C with
 |none=>simp
 |some v=>exact h.2 k v a
def CB.bump{α:Type}[DecidableEq α]{n:Nat}{C:List (α×Int)}(h:CB n C)(a:α)(d:Int)(c : -1<=d/\d<=1):CB (n+1) (Bt.bump C a d):=by
 refine⟨cu (Pz _ _ _) (by have:=h.1;omega),λk v b=>?_⟩;unfold Bt.bump at b;rw[jy]at b;have e:=h.getD a;split at b
 .simp only[ae]at b;omega
 .have:=h.2 k v b;omega
def kC{α:Type}(C:List (α×Int)):Prop:=(C.map (·.1)).Nodup
def Rc{α:Type}[DecidableEq α](C:List (α×Int))(a:α)(b:Int):(iZ C a b).map (·.1)=if a∈C.map (·.1)then C.map (·.1)else C.map (·.1)++[a]:=by
 induction C with
 |nil=>simp[iZ]
 |cons p C ih =>
  simp only[iZ];split
  .rename_i h;subst h;simp
  .rename_i h;simp only[aH,ih]
   by_cases c:a∈C.map (·.1)
   .rw[az c,az (eV _ c)]
   .rw[an c,an (by simp only[bC];rintro(d|d);exact h d;exact c d)];rfl
def kC.yO{α:Type}[DecidableEq α]{C:List (α×Int)}(h:kC C)(a:α)(b:Int):kC (iZ C a b):=by
 unfold kC at *;rw[Rc];split
 .exact h
 .rename_i d;rw[iX];exact⟨h,by simp,by simp;intro x y c;rintro rfl;exact d (bF.2 ⟨_,c,rfl⟩)⟩
def oA{α:Type}[DecidableEq α]{C:List (α×Int)}(h:kC C){p:α×Int}(a:p∈C):cX p.1 C=some p.2:=by
 induction C with
 |nil=>simp at a
 |cons q C ih =>
  unfold kC at h;simp only[aH,gz]at h;rw[ln];rcases bC.1 a with rfl|a
  .simp
  .have:p.1≠q.1:=λe=>h.1 (e▸bF.2 ⟨p,a,rfl⟩);rw[an this];exact ih h.2 a
def kC.count(d:Int):∀(l:List It) {C:List (TK×Int)},kC C->kC (jS d C l)
 |[],_,h=>h
 |t::r,C,h=>by
  simp only[jS];split
  .exact kC.count d r (h.yO _ _)
  .exact kC.count d r h
def CB.count(d:Int)(a : -1<=d/\d<=1):∀(l:List It) {n:Nat} {C:List (TK×Int)},CB n C->CB (n+l.length) (jS d C l)
 |[],_,_,h=>h
 |t::r,n,C,h=>by
  simp only[jS,ai];split
  .have:=CB.count d a r (h.bump (gd t) d a);exact this.mono (by omega)
  .have:=CB.count d a r h;exact this.mono (by omega)
def zY(f:Nat->Int)(a:dK):Int:=(a.map f).sum
def No(f:Nat->Int){a:dK}(b:a.Nodup){q:Nat}(c:q∈a):zY f a=f q+zY f (a.filter λi=>i != q):=by
 induction a with
 |nil=>simp at c
 |cons p a ih =>
  simp only[gz]at b
  by_cases h:p=q
  .subst h
   have:(p::a).filter (λi=>i != p)=a:=by
    simp only[fx,lA,aI,aS];rw[kg];intro x j;simp only[qT,fc];rintro rfl;exact b.1 j
   rw[this];simp[zY]
  .have g:q∈a:=by rcases bC.1 c with rfl|d;exact absurd rfl h;exact d
   have:=ih b.2 g
   have e:(p::a).filter (λi=>i != q)=p::a.filter (λi=>i != q):=by
    rw[jJ (by simpa using h)]
   rw[e];simp only[zY,aH,dw]at this |-;omega
def PQ{b:Type}(g:b->Int)(l:List b)(a:b):zY (λi=>g (l.getD i a)) (List.range l.length)=(l.map g).sum:=by
 have:(List.range l.length).map (λi=>g (l.getD i a))=l.map g:=by
  apply List.ext_getElem
  .simp
  .intro i c d;simp at c;simp[aq,c]
 rw[zY,this]
def Nn(f:Nat->Int)(b:∀i,0<=f i)(a:dK):0<=zY f a:=by
 induction a with
 |nil=>simp[zY]
 |cons p a ih =>
  have:=b p;simp only[zY,aH,dw]at ih |-;omega
def xg{α a:Type}{ke:α->V}{ve:a->V}(C:List (α×a))(d:α×a){q:Nat}(h:q<C.length):(emap ke ve C)[q]?=some (ke (C.getD q d).1,ve (C.getD q d).2):=by
 simp[emap,aq,h]
def yx{a:Type}{C:List a}{d:a}{q:Nat}(h:q<C.length):C.getD q d∈C:=by
 rw[aq,ax h];exact dC h
def Na{n:Nat}{C:List (TK×Int)}(c:CB n C)(g:kC C):0<=oh C/\oh C<=(n:Int)*C.length:=by
 have a:∀D:List (TK×Int),(∀p∈D,-(n:Int)<=p.2/\p.2<=n)->0<=oh D/\oh D<=(n:Int)*D.length:=by
  intro D
  induction D with
  |nil=>intro _;simp[oh]
  |cons p D ih =>
   intro h;have f:=ih λq d=>h q (eV _ d);have i:=h p (by simp);have e:(n:Int)*((D.length+1:Nat):Int)=(n:Int)*(D.length:Int)+n:=by rw[Bk,lK];simp
   simp only[oh,aH,dw,ai]at f |-;rw[e];omega
 exact a C λp b=>c.2 p.1 p.2 (oA g b)
def PL{α:Type}(C:List (α×Int)):(C.map λp=>2*max p.2 (-p.2)).sum=2*oh C:=by
 induction C with
 |nil=>rfl
 |cons p C ih =>
  simp only[oh,aH,dw]at ih |-;rw[ih];omega
def pv{a:dK}{q:Nat}(b:q∈a):(a.filter λi=>i != q).length<a.length :=
 Ng.2 ⟨q,b,by simp⟩
def mn(a b:Int):Int:=if b<a then b else a
def vV(t u:It)(a left b:Int):Int:=match gh t u with
 |some c=>mn (mn (b+single t) (left+single u)) (a+c)
 |none=>mn (b+single t) (left+single u)
def nq(t:It):Int->Int->List It->bH->bH
 |diag,left,u::b,up::a=>vV t u diag left up::nq t up (vV t u diag left up) b a
 |_,_,_,a=>a
def lN(t:It)(b:List It):bH->bH
 |x::old=>(x+single t)::nq t x (x+single t) b old
 |[]=>[]
def qC(a:Int):List It->bH
 |[]=>[]
 |t::r=>(a+single t)::qC (a+single t) r
def DD(b:List It):bH:=0::qC 0 b
def IL(a b:List It):bH:=a.foldl (λrow t=>lN t b row) (DD b)
def lI(a b:List It):Int:=(IL a b).getD b.length 0+nT a b
def BR(M:Int)(xs:bH):Prop:=∀x∈xs,0<=x/\x<=M
def Gy(t:It):∀(b:List It) (a:bH) (d l:Int),(nq t d l b a).length=a.length
 |[],a,_,_=>by simp[nq]
 |u::b,[],_,_=>by simp[nq]
 |u::b,up::a,d,l=>by simp[nq,Gy t b a]
def GO(t:It)(b:List It)(xs:bH):(lN t b xs).length=xs.length:=by
 cases xs<;>simp[lN,Gy]
def GH:∀(b:List It) (a:Int),(qC a b).length=b.length
 |[],_=>rfl
 |t::r,a=>by simp[qC,GH r]
def P6(b:List It):(DD b).length=b.length+1:=by simp[DD,GH]
def Hd{t u:It}{d l a M:Int}(e:0<=d/\d<=M)(f:0<=l/\l<=M+4)(i:0<=a/\a<=M):0<=vV t u d l a/\vV t u d l a<=M+4:=by
 have h:=iB t;have g:=iB u;unfold vV mn;split
 .rename_i c b;have:=yH b
  (repeat' split)<;>omega
 .split<;>omega
def BR.step{t:It}{M:Int}:∀(b:List It) (a:bH) (d l:Int),BR M a->0<=d/\d<=M->0<=l/\l<=M+4->BR (M+4) (nq t d l b a)
 |[],a,d,l,ho,_,_=>λx c=>by have:=ho x (by simpa[nq]using c);omega
 |u::b,[],d,l,ho,_,_=>λx c=>by simp[nq]at c
 |u::b,up::a,d,l,ho,hd,hl=>λx c=>by
  have e:=ho up (by simp);have f:=Hd (t:=t) (u:=u) hd hl e;simp only[nq,bC]at c;rcases c with rfl|c
  .exact f
  .exact BR.step b a up _ (λy g=>ho y (by simp[g])) e f x c
def BR.new{t:It}{M:Int}{xs:bH}(b:List It)(h:BR M xs):BR (M+4) (lN t b xs):=by
 cases xs with
 |nil=>intro x a;simp[lN]at a
 |cons y c =>
  have d:=h y (by simp);have f:=iB t;intro x a;simp only[lN,bC]at a;rcases a with rfl|a
  .omega
  .exact BR.step b c y _ (λz e=>h z (by simp[e])) d (by omega) x a
def BR.pre:∀(b:List It) (a:Int),0<=a->BR (a+4*b.length) (qC a b)
 |[],a,_=>λx c=>by simp[qC]at c
 |t::r,a,ha=>λx c=>by
  have d:=iB t;simp only[qC,bC,ai]at c |-;rcases c with rfl|c
  .omega
  .have:=BR.pre r (a+single t) (by omega) x c;omega
def BR.DD(b:List It):BR (4*b.length) (DD b):=λx a=>by
 simp only[Bt.DD,bC]at a;rcases a with rfl|a
 .omega
 .have:=BR.pre b 0 (by omega) x a;omega
def Cr(b:List It):∀(a:List It) (row:bH) (M:Int),BR M row->BR (M+4*a.length) (a.foldl (λrow t=>lN t b row) row)/\(a.foldl (λrow t=>lN t b row) row).length=row.length
 |[],row,M,h=>⟨by simpa using h,rfl⟩
 |t::a,row,M,h=>by
  have:=Cr b a (lN t b row) (M+4) (h.new b);simp only[dW,ai];refine⟨λx c=>?_,by rw[this.2,GO]⟩;have:=this.1 x c;omega
def P4(a b:List It):BR (4*b.length+4*a.length) (IL a b)/\(IL a b).length=b.length+1:=by
 have:=Cr b a (DD b) _ (BR.DD b);exact⟨this.1,by rw[IL,this.2,P6]⟩
def JG(xs ys:bH)(x v:Int):((xs++x::ys).map bV).set xs.length [.i .i64 v]=(xs++v::ys).map bV:=by
 rw[cM,dA _ _ (by simp)];simp[bV]
def HT(xs ys:bH)(x:Int):gj ((xs++x::ys).map bV) xs.length 0=some (.i .i64 x):=by
 simp[gj,bV]
def F1(xs ys:bH)(x:Int):((xs++x::ys).map bV).getD xs.length []=[.i .i64 x]:=by
 simp[aq,bV]
structure Qr where
 awc:List It
 bU:aG
 next:aG
 now:Int
 threshold:Int
 gJ:Int
def Qr.awa(q:Qr):aB:=[.sl 3 (q.awc.map It.awa),.s q.bU,.s q.next,.i .i64 q.now,.i .i64 q.threshold,.i .i64 q.gJ]
structure Pn where
 awq:Int
 c8:aG
 cA:aG
 iN:Int
 points:Int
def Pn.awa(p:Pn):aB:=[.i .i64 p.awq,.s p.c8,.s p.cA,.i .i64 p.iN,.i .i64 p.points]
structure Mt where
 awg:Int
 iC:Int
 context:Int
 points:Int
 score:Int
def Mt.awa(m:Mt):aB:=[.i .i64 m.awg,.i .i64 m.iC,.i .i64 m.context,.i .i64 m.points,.i .i64 m.score]
def mx(a b:Int):Int:=if a<b then b else a
def kJ(a b:List It):Int:=mx (lq a) (lq b)
def eX(a b:List It):Int:=if kJ a b=0 then 100 else(100*mx (kJ a b - lI a b) 0).tdiv (kJ a b)
def Kj(a b:aG):Bool:=a != []&&a==b
def kf(e:En)(q:Qr):Int:=(if Kj e.bU q.bU then 1 else 0)+if Kj e.next q.next then 1 else 0
def oX(p:Pn):Int :=
 if p.awq<0\/3<p.awq\/p.iN<0\/1073741824<p.iN\/p.points<0\/100<p.points then 1
 else if(named p.c8&&named p.cA)=false then 4 else 0
def lM:List Pn->Int
 |[]=>0
 |p::r=>if oX p≠0 then oX p else lM r
def rk(l:List Pn):Int:=if(16:Int)<l.length then 3 else lM l
def qx(p:Pn)(e:En)(a:Int):Bool :=
 if p.awq != 0&&p.awq != e.awq then false
 else if(p.c8 != []&&p.c8 != e.c8)||(p.cA != []&&p.cA != e.cA)then false
 else decide (p.iN<=0)||decide (p.iN<=a - e.awh)
def pF(e:En)(a:Int):Int->List Pn->Int
 |s,[]=>s
 |s,p::r=>pF e a (if decide (0<p.points)&&qx p e a then mn (s+mn p.points 100) 100 else s) r
def lL(l:List Pn)(e:En)(a:Int):Int:=pF e a 0 l
def jB(e:En)(a b:List It)(l:List Pn)(q:Qr):Mt :=
 let p:=eX a b;let s:=lL l e q.now;let c:=if p=100 then kf e q else 0
 ⟨0,p,c,s,mx (p+c - s) 0⟩
def qL(e:En)(l:List Pn)(q:Qr):Mt:=jB e (dz e.awc) (dz q.awc) l q
def fi(q:Qr):Int :=
 if cd q.awc≠0 then cd q.awc else
 if q.awc.length=0 then 1 else
 if(parse q.bU).2.2≠0 then(parse q.bU).2.2 else if(parse q.next).2.2≠0 then(parse q.next).2.2 else
 if q.now<0\/1073741824<q.now\/q.threshold<1\/102<q.threshold\/q.gJ<1\/100<q.gJ then 1 else 0
def Bc(a b:List It):0<=kJ a b/\kJ a b<=4*a.length+4*b.length:=by
 have:=Dl a;have:=Dl b;unfold kJ mx;split<;>omega
def wL(a b:List It)(e:0<=lI a b):0<=eX a b/\eX a b<=100:=by
 have d:=(Bc a b).1;unfold eX;split
 .omega
 .have c:0<=100*mx (kJ a b - lI a b) 0/\100*mx (kJ a b - lI a b) 0<=100*kJ a b:=by
   unfold mx;split<;>omega
  rw[eY c.1];exact⟨Bl c.1 d,Int.ediv_le_of_le_mul (by omega) c.2⟩
def xi(e:En)(q:Qr):0<=kf e q/\kf e q<=2:=by
 unfold kf
 (repeat' split)<;>omega
def zk(e:En)(a:Int):∀(l:List Pn) (s:Int),0<=s/\s<=100->0<=pF e a s l/\pF e a s l<=100
 |[],s,h=>h
 |p::r,s,h=>by
  unfold pF;refine zk e a r _ ?_;split
  .rename_i b;simp only[aJ,aV]at b;unfold mn
   (repeat' split)<;>omega
  .exact h
def fe:List It->It->Int
 |[],_=>0
 |x::l,t=>(if qz x t then 1 else 0)+fe l t
def sJ(a:List It)(t:It):0<=fe a t/\fe a t<=a.length:=by
 induction a with
 |nil=>simp[fe]
 |cons x a ih=>simp only[fe,ai];split<;>omega
def rq(o:Cc)(a b:Int):Int :=
 let v:=match o with
  |some v=>if a<v then a else v
  |none=>a
 if b<v then b else v
def tv:List It->List It->Int
 |[],[]=>0
 |[],u::b=>single u+tv [] b
 |x::a,[]=>single x+tv a []
 |x::a,u::b=>rq ((gh x u).map (·+tv a b)) (single x+tv a (u::b)) (single u+tv (x::a) b)
def Dk:∀(a b:List It),0<=tv a b/\tv a b<=4*a.length+4*b.length
 |[],[]=>by simp[tv]
 |[],u::b=>by
  have:=Dk [] b;have:=iB u;simp only[tv,ai,al]at *;omega
 |x::a,[]=>by
  have:=Dk a [];have:=iB x;simp only[tv,ai,al]at *;omega
 |x::a,u::b=>by
  have f:=Dk a b;have e:=Dk a (u::b);have g:=Dk (x::a) b;have:=iB x;have:=iB u;simp only[tv,ai,al]at *;cases d:gh x u with
  |none =>
   simp only[lJ,rq];split<;>omega
  |some c =>
   have:=yH d;simp only[cL,rq]
   (repeat' split)<;>omega
def ru(a b:List It)(i k:Nat):Int:=tv (a.drop i) (b.drop k)
def P5(a b:List It)(i c:Nat):bH:=(List.range' c (b.length+1 - c)).map (ru a b i)
def kH(a b:List It)(i j:Nat):bH:=List.replicate j 0++P5 a b i j
def qS(d:Int):Int:=if d < -d then -d else d
def xp(a b:List It):List It->List It->Int
 |_,[]=>0
 |pre,t::r=>(if b9 t&&fe pre t==0 then qS (fe a t - fe b t)else 0)+xp a b (pre++[t]) r
def y9(a b:List It):List It->List It->Int
 |_,[]=>0
 |pre,t::r=>(if(b9 t&&fe pre t==0)&&fe a t==0 then fe b t else 0)+y9 a b (pre++[t]) r
def u3(a b:List It):Int:=xp a b [] a+y9 a b [] b
def We{d:Int}{n:Int}(h : -n<=d/\d<=n):0<=qS d/\qS d<=n:=by unfold qS;split<;>omega
def HP(a b:List It):∀(rest pre:List It),0<=xp a b pre rest/\xp a b pre rest<=rest.length*((a.length:Int)+b.length)
 |[],_=>by simp[xp]
 |t::r,pre=>by
  have h:=HP a b r (pre++[t]);have f:=sJ a t;have c:=sJ b t;have g:=We (d:=fe a t - fe b t) (n:=(a.length:Int)+b.length) (by omega)
  have e:(((t::r).length:Nat):Int)*((a.length:Int)+b.length)=r.length*((a.length:Int)+b.length)+((a.length:Int)+b.length):=by
   simp only[ai,Bk,acV];omega
  rw[e];simp only[xp];split<;>omega
def HO(a b:List It):∀(rest pre:List It),0<=y9 a b pre rest/\y9 a b pre rest<=rest.length*((a.length:Int)+b.length)
 |[],_=>by simp[y9]
 |t::r,pre=>by
  have h:=HO a b r (pre++[t]);have c:=sJ b t
  have e:(((t::r).length:Nat):Int)*((a.length:Int)+b.length)=r.length*((a.length:Int)+b.length)+((a.length:Int)+b.length):=by
   simp only[ai,Bk,acV];omega
  rw[e];simp only[y9];split<;>omega
def eZ{α:Type}(f:α->Int)(l:List α):Int:=(l.map f).sum
def Fu{α:Type}(f:α->Int){l a:List α}(h:l.Perm a):eZ f l=eZ f a:=by
 induction h with
 |nil=>rfl
 |cons x _ ih=>simp only[eZ,aH,dw]at ih |-;omega
 |swap x y l=>simp only[eZ,aH,dw];omega
 |trans _ _ c b=>exact c.trans b
def Zo{α:Type}(f:α->Int)(l a:List α):eZ f (l++a)=eZ f l+eZ f a:=by simp[eZ]
def gS{α:Type}{f g:α->Int}{l:List α}(h:∀x∈l,f x=g x):eZ f l=eZ g l:=by
 induction l with
 |nil=>rfl
 |cons x l ih =>
  have c:=h x (by simp);have b:=ih λy a=>h y (by simp[a]);simp only[eZ,aH,dw]at b |-;omega
def lg(k:TK):List It->Int
 |[]=>0
 |x::l=>(if gd x=k then 1 else 0)+lg k l
def wF(x t:It):qz x t=true<->gd x=gd t:=by
 simp[qz,gd]
def u0(l:List It)(t:It):fe l t=lg (gd t) l:=by
 induction l with
 |nil=>rfl
 |cons x l ih =>
  simp only[fe,lg,ih]
  by_cases h:gd x=gd t
  .rw[az ((wF x t).2 h),az h]
  .rw[an (λa=>h ((wF x t).1 a)),an h]
def xj(k:TK)(l:List It):0<=lg k l:=by
 induction l with
 |nil=>exact dJ _
 |cons x l ih=>simp only[lg];split<;>omega
def EY(k:TK)(l m:List It):lg k (l++m)=lg k l+lg k m:=by
 induction l with
 |nil=>simp[lg]
 |cons x l ih=>simp only[bJ,lg,ih];omega
def qK(k:TK):Bool:=k.1==2||k.1==3||k.1==4
def BE(t:It):b9 t=qK (gd t):=rfl
def RK:List It->List It->List TK
 |_,[]=>[]
 |pre,t::r=>if b9 t&&fe pre t==0 then gd t::RK (pre++[t]) r else RK (pre++[t]) r
def RM(a:List It):List It->List It->List TK
 |_,[]=>[]
 |pre,t::r=>if(b9 t&&fe pre t==0)&&fe a t==0 then gd t::RM a (pre++[t]) r else RM a (pre++[t]) r
def Mi(a b:List It):∀(rest pre:List It),xp a b pre rest=eZ (λk=>qS (lg k a - lg k b)) (RK pre rest)
 |[],_=>rfl
 |t::r,pre=>by
  have ih:=Mi a b r (pre++[t]);simp only[xp,RK];split
  .simp only[eZ,aH,dw]at ih |-;rw[ih,u0,u0]
  .rw[ih,iK]
def Mh(a b:List It):∀(rest pre:List It),y9 a b pre rest=eZ (λk=>lg k b) (RM a pre rest)
 |[],_=>rfl
 |t::r,pre=>by
  have ih:=Mh a b r (pre++[t]);simp only[y9,RM];split
  .simp only[eZ,aH,dw]at ih |-;rw[ih,u0]
  .rw[ih,iK]
def wT(k:TK):∀(rest pre:List It),k∈RK pre rest<->qK k=true/\lg k pre=0/\lg k rest≠0
 |[],pre=>by simp[RK,lg]
 |t::r,pre=>by
  have ih:=wT k r (pre++[t]);have i:=xj k r;have g:=xj k pre;simp only[RK,BE,u0];rw[EY]at ih;have e:lg k [t]=if gd t=k then 1 else 0:=by simp[lg]
  rw[e]at ih
  by_cases b:gd t=k
  .subst b;simp only[aT]at ih;have c:¬gd t∈RK (pre++[t]) r:=λh=>by have:=(ih.1 h).2.1;omega
   simp only[lg,aT];split
   .rename_i a;simp only[aJ,cE]at a;simp only[bC,Ff,true_iff];exact⟨a.1,a.2,by omega⟩
   .rename_i a;simp only[aJ,cE]at a;simp only[c,acr];rintro⟨f,d,_⟩;exact a ⟨f,d⟩
  .simp only[b,aS,Cb]at ih;simp only[lg,b,aS,iK];split
   .rw[bC,ih];constructor
    .rintro(h|h)
     .exact absurd h.symm b
     .exact h
    .exact .inr
   .exact ih
def FI:∀(rest pre:List It),(RK pre rest).Nodup
 |[],_=>mB
 |t::r,pre=>by
  have ih:=FI r (pre++[t]);simp only[RK];split
  .refine gz.2 ⟨λh=>?_,ih⟩;have:=((wT _ _ _).1 h).2.1;rw[EY]at this;have a:=xj (gd t) pre;simp[lg]at this;omega
  .exact ih
def uH(a:List It)(k:TK):∀(rest pre:List It),k∈RM a pre rest<->qK k=true/\lg k pre=0/\lg k a=0/\lg k rest≠0
 |[],pre=>by simp[RM,lg]
 |t::r,pre=>by
  have ih:=uH a k r (pre++[t]);have l:=xj k r;have j:=xj k pre;simp only[RM,BE,u0];rw[EY]at ih;have e:lg k [t]=if gd t=k then 1 else 0:=by simp[lg]
  rw[e]at ih
  by_cases c:gd t=k
  .subst c;simp only[aT]at ih;have d:¬gd t∈RM a (pre++[t]) r:=λh=>by have:=(ih.1 h).2.1;omega
   simp only[lg,aT];split
   .rename_i b;simp only[aJ,cE]at b;simp only[bC,Ff,true_iff];exact⟨b.1.1,b.1.2,b.2,by omega⟩
   .rename_i b;simp only[aJ,cE]at b;simp only[d,acr];rintro⟨i,f,g,_⟩;exact b ⟨⟨i,f⟩,g⟩
  .simp only[c,aS,Cb]at ih;simp only[lg,c,aS,iK];split
   .rw[bC,ih];constructor
    .rintro(h|h)
     .exact absurd h.symm c
     .exact h
    .exact .inr
   .exact ih
def FJ(a:List It):∀(rest pre:List It),(RM a pre rest).Nodup
 |[],_=>mB
 |t::r,pre=>by
  have ih:=FJ a r (pre++[t]);simp only[RM];split
  .refine gz.2 ⟨λh=>?_,ih⟩;have:=((uH _ _ _ _).1 h).2.1;rw[EY]at this;have b:=xj (gd t) pre;simp[lg]at this;omega
  .exact ih
def Ft(a b:List It):u3 a b=eZ (λk=>qS (lg k a - lg k b)) (RK [] a++RM a [] b):=by
 rw[Zo,u3,Mi,Mh];congr 1;refine gS λk d=>?_;have c:=((uH _ _ _ _).1 d).2.2.1;have e:=xj k b;rw[c];unfold qS;split<;>omega
def Sp{C:List (TK×Int)}(h:kC C):oh C=eZ (λk=>qS ((cX k C).getD 0)) (C.map (·.1)):=by
 have e:eZ (λk=>qS ((cX k C).getD 0)) (C.map (·.1))=(C.map λp=>qS ((cX p.1 C).getD 0)).sum:=by
  simp only[eZ,jn];rfl
 rw[e];unfold oh;congr 1;refine eA λp a=>?_;rw[oA h a];unfold qS;simp only[kQ];split<;>omega
def C2(d:Int)(k:TK):∀(l:List It) (C:List (TK×Int)),(cX k (jS d C l)).getD 0=(cX k C).getD 0+d*(if qK k then lg k l else 0)
 |[],C=>by simp[jS,lg]
 |t::r,C=>by
  have ih:=C2 d k r (if b9 t then bump C (gd t) d else C);simp only[jS];rw[ih];rw[BE]
  by_cases a:gd t=k
  .subst a
   by_cases b:qK (gd t)=true
   .simp only[b,aT,sZ,lg,lK];omega
   .simp only[b,aI,aS]
  .split
   .rw[sZ,an (λh=>a h.symm)];simp only[lg,a,aS,iK,Cb]
   .simp only[lg,a,aS,iK]
def C1(d:Int)(k:TK):∀(l:List It) (C:List (TK×Int)),k∈(jS d C l).map (·.1)<->k∈C.map (·.1)\/(qK k=true/\lg k l≠0)
 |[],C=>by simp[jS,lg]
 |t::r,C=>by
  have ih:=C1 d k r (if b9 t then bump C (gd t) d else C);have e:=xj k r;simp only[jS];rw[ih,BE]
  by_cases b:qK (gd t)=true
  .simp only[b,aT,bump,Rc]
   by_cases a:gd t=k
   .subst a;simp only[lg,aT,b,gA];constructor
    .intro _;exact .inr (by omega)
    .intro _;refine .inl ?_;split
     .assumption
     .simp
   .simp only[lg,a,aS,iK];split
    .rfl
    .have c:¬k=gd t:=λh=>a h.symm;simp only[bP,cv,c,s8]
  .simp only[b,aI,aS]
   by_cases a:gd t=k
   .subst a;simp[b]
   .simp only[lg,a,aS,iK]
def CG(a b:List It):nT a b=2*u3 a b:=by
 have c:kC (y8 a b):=kC.count (-1) b (kC.count 1 a (by simp[kC]));unfold nT;rw[Ft,Sp c];congr 1
 have m:∀k,k∈(y8 a b).map (·.1)<->k∈RK [] a++RM a [] b:=λk=>by
  unfold y8;rw[C1,C1,bP,wT,uH];simp only[bR,gw,nk,lg,gA]
  by_cases n:qK k=true<;>by_cases e:lg k a=0<;>by_cases i:lg k b=0<;>simp[n,e,i]
 have f:(RK [] a++RM a [] b).Nodup:=by
  rw[iX];refine⟨FI _ _,FJ _ _ _,λx j y d=>?_⟩;rintro rfl;exact((wT _ _ _).1 j).2.2 ((uH _ _ _ _).1 d).2.2.1
 rw[Fu _ ((C9 c f).2 m)];refine gS λk l=>?_;congr 1
 have g:qK k=true:=by
  rcases bP.1 l with h|h
  .exact((wT _ _ _).1 h).1
  .exact((uH _ _ _ _).1 h).1
 unfold y8;rw[C2,C2];simp[g,cX,gM];omega
inductive Al:List It->List It->Int->Prop
 |nil:Al [] [] 0
 |del (x:It) {a b:List It} {c:Int} (h:Al a b c):Al (x::a) b (single x+c)
 |ins (u:It) {a b:List It} {c:Int} (h:Al a b c):Al a (u::b) (single u+c)
 |pair (x u:It) {p:Int} (hp:gh x u=some p) {a b:List It} {c:Int} (h:Al a b c):Al (x::a) (u::b) (p+c)
def Al.cast{a b:List It}{c d:Int}(h:Al a b c)(e:c=d):Al a b d:=e▸h
def KG(o:Cc)(b a:Int):rq o b a<=b/\rq o b a<=a/\∀v,o=some v->rq o b a<=v:=by
 cases o with
 |none =>
  unfold rq;simp only;refine⟨by split<;>omega,by split<;>omega,λv h=>by simp at h⟩
 |some w =>
  unfold rq;simp only;refine⟨by(repeat' split)<;>omega,by(repeat' split)<;>omega,λv h=>?_⟩;simp only[ae]at h;subst h
  (repeat' split)<;>omega
def ack(o:Cc)(b a:Int):rq o b a=b\/rq o b a=a\/o=some (rq o b a):=by
 cases o with
 |none =>
  unfold rq;simp only;split<;>simp
 |some w =>
  unfold rq;simp only
  (repeat' split)<;>simp
def Ce:∀(a b:List It),Al a b (tv a b)
 |[],[]=>by simp only[tv];exact .nil
 |[],u::b=>by simp only[tv];exact .ins u (Ce [] b)
 |x::a,[]=>by simp only[tv];exact .del x (Ce a [])
 |x::a,u::b=>by
  have f:=Ce a b;have e:=Ce a (u::b);have g:=Ce (x::a) b;simp only[tv];rcases ack ((gh x u).map (·+tv a b)) (single x+tv a (u::b)) (single u+tv (x::a) b)with h|h|h
  .rw[h];exact .del x e
  .rw[h];exact .ins u g
  .obtain⟨p,c,d⟩:=aF.1 h;rw[<- d];exact .pair x u c f
def CD{a b:List It}{c:Int}(h:Al a b c):tv a b<=c:=by
 induction h with
 |nil=>simp[tv]
 |del x h ih =>
  rename_i a b c;cases b with
  |nil=>simp only[tv];omega
  |cons u b=>have:=(KG ((gh x u).map (·+tv a b)) (single x+tv a (u::b)) (single u+tv (x::a) b)).1;simp only[tv];omega
 |ins u h ih =>
  rename_i a b c;cases a with
  |nil=>simp only[tv];omega
  |cons x a=>have:=(KG ((gh x u).map (·+tv a b)) (single x+tv a (u::b)) (single u+tv (x::a) b)).2.1;simp only[tv];omega
 |pair x u d h ih =>
  rename_i p a b c;have:=(KG ((gh x u).map (·+tv a b)) (single x+tv a (u::b)) (single u+tv (x::a) b)).2.2 (p+tv a b) (by rw[d];rfl);simp only[tv];omega
inductive zS:List It->List It->Int->Prop
 |nil:zS [] [] 0
 |del (x:It) {a b:List It} {c:Int} (h:zS a b c):zS (a++[x]) b (c+single x)
 |ins (u:It) {a b:List It} {c:Int} (h:zS a b c):zS a (b++[u]) (c+single u)
 |pair (x u:It) {p:Int} (hp:gh x u=some p) {a b:List It} {c:Int} (h:zS a b c):zS (a++[x]) (b++[u]) (c+p)
def zS.cast{a b:List It}{c d:Int}(h:zS a b c)(e:c=d):zS a b d:=e▸h
def zS.aro(x:It){a b:List It}{c:Int}(h:zS a b c):zS (x::a) b (single x+c):=by
 induction h with
 |nil=>exact(zS.del x .nil).cast (by omega)
 |del y h ih=>exact(zS.del y ih).cast (by omega)
 |ins u h ih=>exact(zS.ins u ih).cast (by omega)
 |pair y u d h ih=>exact(zS.pair y u d ih).cast (by omega)
def zS.arn(u:It){a b:List It}{c:Int}(h:zS a b c):zS a (u::b) (single u+c):=by
 induction h with
 |nil=>exact(zS.ins u .nil).cast (by omega)
 |del y h ih=>exact(zS.del y ih).cast (by omega)
 |ins v h ih=>exact(zS.ins v ih).cast (by omega)
 |pair y v d h ih=>exact(zS.pair y v d ih).cast (by omega)
def zS.aoa(x u:It){p:Int}(e:gh x u=some p){a b:List It}{c:Int}(h:zS a b c):zS (x::a) (u::b) (p+c):=by
 induction h with
 |nil=>exact(zS.pair x u e .nil).cast (by omega)
 |del y h ih=>exact(zS.del y ih).cast (by omega)
 |ins v h ih=>exact(zS.ins v ih).cast (by omega)
 |pair y v d h ih=>exact(zS.pair y v d ih).cast (by omega)
def Al.toR{a b:List It}{c:Int}(h:Al a b c):zS a b c:=by
 induction h with
 |nil=>exact .nil
 |del x h ih=>exact ih.aro x
 |ins u h ih=>exact ih.arn u
 |pair x u d h ih=>exact ih.aoa x u d
def Al.aj8(x:It){a b:List It}{c:Int}(h:Al a b c):Al (a++[x]) b (c+single x):=by
 induction h with
 |nil=>exact(Al.del x .nil).cast (by omega)
 |del y h ih=>exact(Al.del y ih).cast (by omega)
 |ins u h ih=>exact(Al.ins u ih).cast (by omega)
 |pair y u d h ih=>exact(Al.pair y u d ih).cast (by omega)
def Al.aj5(u:It){a b:List It}{c:Int}(h:Al a b c):Al a (b++[u]) (c+single u):=by
 induction h with
 |nil=>exact(Al.ins u .nil).cast (by omega)
 |del y h ih=>exact(Al.del y ih).cast (by omega)
 |ins v h ih=>exact(Al.ins v ih).cast (by omega)
 |pair y v d h ih=>exact(Al.pair y v d ih).cast (by omega)
def Al.afS(x u:It){p:Int}(e:gh x u=some p){a b:List It}{c:Int}(h:Al a b c):Al (a++[x]) (b++[u]) (c+p):=by
 induction h with
 |nil=>exact(Al.pair x u e .nil).cast (by omega)
 |del y h ih=>exact(Al.del y ih).cast (by omega)
 |ins v h ih=>exact(Al.ins v ih).cast (by omega)
 |pair y v d h ih=>exact(Al.pair y v d ih).cast (by omega)
def zS.Dm{a b:List It}{c:Int}(h:zS a b c):Al a b c:=by
 induction h with
 |nil=>exact .nil
 |del x h ih=>exact ih.aj8 x
 |ins u h ih=>exact ih.aj5 u
 |pair x u d h ih=>exact ih.afS x u d
def zS.last{A B:List It}{c:Int}(h:zS A B c):(A=[]/\B=[]/\c=0)\/(∃a x d,A=a++[x]/\c=d+single x/\zS a B d)\/(∃b u d,B=b++[u]/\c=d+single u/\zS A b d) \/
  ∃a x b u p d,A=a++[x]/\B=b++[u]/\gh x u=some p/\c=d+p/\zS a b d:=by
 cases h with
 |nil=>exact .inl ⟨rfl,rfl,rfl⟩
 |del x h=>exact .inr (.inl ⟨_,x,_,rfl,rfl,h⟩)
 |ins u h=>exact .inr (.inr (.inl ⟨_,u,_,rfl,rfl,h⟩))
 |pair x u e h=>exact .inr (.inr (.inr ⟨_,x,_,u,_,_,rfl,rfl,e,rfl,h⟩))
def Dt{α:Type}{a b:List α}{x y:α}(h:a++[x]=b++[y]):a=b/\x=y:=by
 have:=List.append_inj' h rfl;exact⟨this.1,by simpa using this.2⟩
def ac3(a b:List It)(t u:It):tv (a++[t]) (b++[u])=vV t u (tv a b) (tv (a++[t]) b) (tv a (b++[u])):=by
 refine Int.le_antisymm ?_ ?_
 .have f:=CD ((Ce a (b++[u])).aj8 t);have g:=CD ((Ce (a++[t]) b).aj5 u);unfold vV mn;split
  .rename_i c m;have e:=CD ((Ce a b).afS t u m)
   (repeat' split)<;>omega
  .split<;>omega
 .have i:=(Ce (a++[t]) (b++[u])).toR;generalize tv (a++[t]) (b++[u])=c at i;rcases i.last with⟨h,_⟩|⟨k,x,d,f,g,e⟩|⟨j,v,d,f,g,e⟩|⟨k,x,j,v,p,d,f,g,e,n,l⟩
  .simp at h
  .obtain⟨rfl,rfl⟩:=Dt f;have:=CD e.Dm;unfold vV mn
   (repeat' split)<;>omega
  .obtain⟨rfl,rfl⟩:=Dt f;have:=CD e.Dm;unfold vV mn
   (repeat' split)<;>omega
  .obtain⟨rfl,rfl⟩:=Dt f;obtain⟨rfl,rfl⟩:=Dt g;have:=CD l.Dm;unfold vV mn;rw[e];simp only
   (repeat' split)<;>omega
def Mb:∀(a:List It) (t:It),tv (a++[t]) []=tv a []+single t
 |[],t=>by simp[tv]
 |x::a,t=>by
  have:=Mb a t;simp only[bJ,tv]at this |-;omega
def Ma:∀(b:List It) (u:It),tv [] (b++[u])=tv [] b+single u
 |[],u=>by simp[tv]
 |v::b,u=>by
  have:=Ma b u;simp only[bJ,tv]at this |-;omega
def rowP(a:List It):List It->List It->bH
 |_,[]=>[]
 |pre,u::r=>tv a (pre++[u])::rowP a (pre++[u]) r
def IB(a:List It)(t:It):∀(r pre:List It),nq t (tv a pre) (tv (a++[t]) pre) r (rowP a pre r)=rowP (a++[t]) pre r
 |[],pre=>by simp[rowP,nq]
 |u::r,pre=>by
  simp only[rowP,nq];rw[<- ac3,IB a t r (pre++[u])]
def Tt(a b:List It)(t:It):lN t b (tv a []::rowP a [] b)=tv (a++[t]) []::rowP (a++[t]) [] b:=by
 simp only[lN,<- Mb,IB]
def IX:∀(r pre:List It),qC (tv [] pre) r=rowP [] pre r
 |[],_=>rfl
 |u::r,pre=>by simp only[qC,rowP,<- Ma,IX r (pre++[u])]
def J8(b:List It):∀(rest pre:List It),rest.foldl (λrow t=>lN t b row) (tv pre []::rowP pre [] b)=tv (pre++rest) []::rowP (pre++rest) [] b
 |[],pre=>by simp
 |t::r,pre=>by
  rw[dW,Tt,J8 b r (pre++[t])];simp
def Mp(a:List It):∀(r pre:List It),(tv a pre::rowP a pre r).getD r.length 0=tv a (pre++r)
 |[],pre=>by simp
 |u::r,pre=>by
  have:=Mp a r (pre++[u]);simpa[rowP]using this
def EP(a b:List It):lI a b=tv a b+2*u3 a b:=by
 unfold lI IL DD
 have e:(0:Int)::qC 0 b=tv [] []::rowP [] [] b:=by
  rw[<- IX];simp[tv]
 rw[e,J8,bc,CG];have:=Mp a b [];rw[bc]at this;rw[this]
def Sq{C:List (TK×Int)}(k:TK)(d:Int)(a : -1<=d/\d<=1):oh (bump C k d)<=oh C+1:=by
 unfold bump
 induction C with
 |nil=>simp[iZ,cX,gM,oh];omega
 |cons p C ih =>
  by_cases h:k=p.1
  .simp only[iZ,cX,gM,az h,oh,aH,dw,cL,kQ];omega
  .have e:cX k (p::C)=cX k C:=by
    unfold cX;rw[gM,an h];exact pt k C 1
   rw[e];simp only[iZ,an h,oh,aH,dw]at ih |-;omega
def zQ(d:Int)(a : -1<=d/\d<=1):∀(l:List It) (C:List (TK×Int)),oh (jS d C l)<=oh C+l.length
 |[],C=>by simp[jS]
 |t::r,C=>by
  have h:=zQ d a r (if b9 t then bump C (gd t) d else C);have b:=Sq (C:=C) (gd t) d a;simp only[jS,ai];split at h<;>simp only[*,aT,aS,aI]at*<;> omega
def UT(a b:List It):0<=u3 a b/\u3 a b<=(a.length:Int)+b.length:=by
 have d:=zQ 1 (by omega) a [];have f:=zQ (-1) (by omega) b (jS 1 [] a);have e:nT a b=2*u3 a b:=CG a b;have g:=HP a b a [];have h:=HO a b b [];have c:oh ([]:List (TK×Int))=0:=rfl;rw[c]at d;unfold nT y8 at e;unfold u3 at *;omega
def Km(a b:List It):0<=lI a b/\lI a b<=6*a.length+6*b.length:=by
 rw[EP];have:=Dk a b;have:=UT a b;omega
end Go.Bt
namespace Go.Bt
open Go.Pm
structure Off where
 number:Int
 awi:Int
 awe:List KR
 log:aG
 synced:Int
 down:Bool
def Off.awa(o:Off):aB:=[.i .i64 o.number,.i .i64 o.awi,.sl 13 (o.awe.map KR.awa),.sl 1 (gp o.log),.i .i64 o.synced,.b o.down]
def Off.zero:Off:=⟨0,0,[],[],0,false⟩
structure Off.awk (o:Off):Prop where
 awe:∀x∈o.awe,x.awk
 len:o.awe.length<2^30
 log:o.log.length<2^30
def MB(a b:KR):Int:=AK [ox a.mm.qN b.mm.qN,ox a.mm.number b.mm.number]
open Go
def place(x n:Int):Int:=if x.tmod n<0 then x.tmod n+n else x.tmod n
def tK{x n:Int}(h:0<n):0<=place x n/\place x n<n:=by
 have a:=Int.tmod_lt_of_pos x h
 have b : - n<x.tmod n:=Int.neg_lt_of_neg_lt (by
  have:=Int.tmod_lt_of_pos (-x) h;rw[Int.neg_tmod]at this;omega)
 simp only[place];split<;>omega
def wid(x:It):Nat:=if x.awb=1 then x.awd.length else 1
def awr(f:List It):Nat:=(f.map wid).sum
def closed(f:List It)(t:aG):List It:=if t=[]then f else f++[⟨1,t,0⟩]
def Bw{α:Type}{p:List α->Prop}(h0:p [])(h1:∀l x,p l->p (l++[x]))(l:List α):p l:=by
 have:∀l:List α,p l.reverse:=by
  intro l
  induction l with
  |nil=>exact h0
  |cons x l ih=>rw[List.reverse_cons];exact h1 _ _ ih
 have:=this l.reverse
 rwa [List.reverse_reverse]at this
def ic(f:List It)(t:aG)(x:It):Prop:=512<f.length+(if 0<t.length then 1 else 0)+(if x.awb≠1\/t.length=0 then 1 else 0)\/1024<awr f+t.length+1
instance (f:List It) (t:aG) (x:It):Decidable (ic f t x):=by unfold ic;infer_instance
def jv{x:It}{p:Option It}(h:x.awb≠1):bG p x=bG none x:=by simp only[bG,h,aS]
def fp:∀(f pre:List It) (x:It),bQ pre (f++[x])=0<->bQ pre f=0/\bG (pre++f).getLast? x=true/\(b9 x&&!fits (pre++f) x)=false:=by
 intro f
 induction f with
 |nil =>
  intro pre x;simp only[bc,bL,bQ]
  by_cases b:bG pre.getLast? x=false
  .simp[b]
  .rw[an b];have b:bG pre.getLast? x=true:=by simpa using b
   by_cases a:(b9 x&&!fits pre x)=true
   .simp[a]
   .rw[an a];have a:(b9 x&&!fits pre x)=false:=by simpa using a
    simp[b,a]
 |cons y f ih =>
  intro pre x;simp only[bJ,bQ]
  by_cases b:bG pre.getLast? y=false
  .simp[b]
  .rw[an b,an b]
   by_cases a:(b9 y&&!fits pre y)=true
   .simp[a]
   .rw[an a,an a,ih];simp
def tk:∀(f pre:List It),bQ pre f=0->∀y∈f,bG none y=true:=by
 intro f
 induction f with
 |nil=>simp
 |cons x f ih =>
  intro pre h y b;simp only[bQ]at h;split at h
  .simp at h
  .rename_i a;split at h
   .simp at h
   .rcases bC.1 b with rfl|b
    .have a:bG pre.getLast? y=true:=by simpa using a
     by_cases c:y.awb=1
     .simp only[bG,c,aT,aJ]at a |-;exact⟨a.1,trivial⟩
     .rw[<- jv (p:=pre.getLast?) c];exact a
    .exact ih _ h y b
def FP:∀(l:List It) (a:Nat),a+awr l<2^63->eQ (a:Int) l=((a+awr l:Nat):Int):=by
 intro l
 induction l with
 |nil=>intro a _;simp[eQ,awr]
 |cons x l ih =>
  intro a h;have c:awr (x::l)=wid x+awr l:=by simp[awr]
  rw[c]at h |-;have b:width x=(wid x:Int):=by simp only[width,wid];split<;>rfl
  have:eQ (a:Int) (x::l)=eQ ((a+wid x:Nat):Int) l:=by
   simp only[eQ,dW,b];rw[IntWalk.i64_in _ (by omega)];rfl
  rw[this,ih (a+wid x) (by omega)];congr 1;omega
def agV(x:It):wid x<=x.awd.length+1:=by simp only[wid];split<;>omega
def Zf(f:List It):awr f<=bd f+f.length:=by
 induction f with
 |nil=>simp[awr,bd]
 |cons x f ih =>
  have a:awr (x::f)=wid x+awr f:=by simp[awr]
  have:=agV x;simp only[bd,ai,a];omega
def Ih{f:List It}(h:awr f<2^63):cd f=0<->f.length<=512/\awr f<=1024/\bQ [] f=0:=by
 have e:=FP f 0 (by omega);simp only[aY,ey]at e;simp only[cd];rw[show eQ 0 f=(awr f:Int)from e];split
 .constructor
  .intro h;simp at h
  .rintro⟨b,a,_⟩;omega
 .constructor
  .intro h;exact⟨by omega,by omega,h⟩
  .intro h;exact h.2.2
def z8:∀(a pre b:List It),bQ pre (a++b)=0<->bQ pre a=0/\bQ (pre++a) b=0:=by
 intro a
 induction a with
 |nil=>intro pre b;simp[bQ]
 |cons x a ih =>
  intro pre b;simp only[bJ,bQ]
  by_cases d:bG pre.getLast? x=false
  .simp[d]
  .rw[an d,an d]
   by_cases c:(b9 x&&!fits pre x)=true
   .simp[c]
   .rw[an c,an c,ih];simp
def Cl{pre:List It}{x:It}{b:List It}:bQ pre (x::b)=0<->bG pre.getLast? x=true/\(b9 x&&!fits pre x)=false/\bQ (pre++[x]) b=0:=by
 simp only[bQ]
 by_cases a:bG pre.getLast? x=false
 .simp[a]
 .rw[an a];have a:bG pre.getLast? x=true:=by simpa using a
  by_cases c:(b9 x&&!fits pre x)=true
  .simp[c]
  .rw[an c];have c:(b9 x&&!fits pre x)=false:=by simpa using c
   simp[a,c]
def iP(f:List It):closed f []=f:=by simp[closed]
structure aot (o:KR):Prop where
 time:1<=o.mm.time/\o.mm.time<=1073741824
 qN:0<=o.mm.qN/\o.mm.qN<8
 number:1<=o.mm.number/\o.mm.number<=128
 awb:o.awb=1\/o.awb=2
 aon:o.awu.length<=8
 awu:∀n∈o.awu,0<=n/\n<=128
 bare:o.awb=2->o.awg=⟨o.awg.awc,[],o.awg.bU,o.awg.next,[],[],0,0⟩
 looked:cj (looked o)=0
structure afq (e:En):Prop where
 awc:cd e.awc=0
 awf:cd e.awf=0
 nonempty:e.awc≠[]
 c8:awj e.c8=true\/e.c8=[]
 cA:awj e.cA=true\/e.cA=[]
 awh:0<=e.awh/\e.awh<=1073741824
 awq:1<=e.awq/\e.awq<=3
def ou{e:En}(h:cj e=0):afq e:=by
 simp only[cj]at h;split at h
 .rename_i c;exact absurd h c
 .rename_i c;split at h
  .rename_i b;exact absurd h b
  .rename_i b;split at h
   .simp at h
   .rename_i d;split at h
    .rename_i f;exact absurd h f
    .split at h
     .rename_i g;exact absurd h g
     .split at h
      .simp at h
      .rename_i a;split at h
       .simp at h
       .rename_i i;simp only[oe,YK,aJ,dm,di,fc,fG]at d;simp only[named,YK,aJ,eD,cE]at a;exact⟨by simpa using c,by simpa using b,d.1.1,a.1.symm,a.2.symm,⟨by omega,by omega⟩,⟨by omega,by omega⟩⟩
def dO(out:List It)(x:It):List It :=
 if x.awb≠1 then out++[x]else if x.awd=[]then out else
 match out.getLast? with
 |some y=>if y.awb=1 then out.dropLast++[⟨1,y.awd++x.awd,0⟩]else out++[⟨1,x.awd,0⟩]
 |none=>out++[⟨1,x.awd,0⟩]
def yb(f:List It):List It:=f.foldl dO []
def EN(out:List It):Bool:=match out.getLast? with
 |some y=>y.awb==1
 |none=>false
def Tp:∀(n m:Nat) (f:List It),f.length<=n->f.length<=m->lU n f=lU m f:=by
 intro n
 induction n with
 |zero =>
  intro m f h _;have:f=[]:=aW (by omega);subst this;cases m<;>rfl
 |succ n ih =>
  intro m f d b;cases f with
  |nil=>cases m<;>rfl
  |cons x r =>
   cases m with
   |zero=>simp at b
   |succ m =>
    simp only[ai]at d b
    by_cases a:x.awb=1
    .have e:=th (x:=x) (r:=r) a;have c:=ih m (awp (x::r)).2 (by omega) (by omega);simp only[lU,a,fc,eN,aS];split
     .exact c
     .rw[c]
    .simp only[lU,az a];rw[ih m r (by omega) (by omega)]
def Jf{x:It}{r:List It}(a:x.awb≠1):awl (x::r)=x::awl r:=by
 simp only[awl,ai,lU,az a]
def vw{x:It}{r:List It}(a:x.awb=1):awl (x::r)=if(awp (x::r)).1.length=0 then awl (awp (x::r)).2 else⟨1,(awp (x::r)).1,0⟩::awl (awp (x::r)).2:=by
 have b:=th (x:=x) (r:=r) a;have e:lU r.length (awp (x::r)).2=lU (awp (x::r)).2.length (awp (x::r)).2:=Tp _ _ _ b (aD _);simp only[awl,ai,lU,a,fc,eN,aS,e]
def xM(t:aG)(f:List It):List It:=if t=[]then awl f else
 ⟨1,t++(awp f).1,0⟩::awl (awp f).2
def Ye:∀(f out:List It) (t:aG),(EN out=false)->f.foldl dO (closed out t)=out++xM t f:=by
 intro f
 induction f with
 |nil =>
  intro out t e;simp only[tf,xM,closed];split
  .simp[awl,lU]
  .simp[awp,awl,lU]
 |cons x f ih =>
  intro out t e;simp only[dW]
  by_cases b:x.awb=1
  .by_cases d:x.awd=[]
   .have g:dO (closed out t) x=closed out t:=by simp[dO,b,d]
    rw[g,ih out t e];congr 1;simp only[xM];have c:awp (x::f)=((awp f).1,(awp f).2):=by simp[awp,b,d]
    by_cases a:t=[]
    .rw[az a,az a,vw b,c];cases f with
     |nil=>simp[awp,awl,lU]
     |cons y f =>
      by_cases h:y.awb=1
      .rw[vw h]
      .simp[awp,h]
    .rw[an a,an a,c]
   .have g:dO (closed out t) x=closed out (t++x.awd):=by
     simp only[dO,b,fc,eN,aS,an d];have i:t++x.awd≠[]:=by simp[d]
     by_cases a:t=[]
     .subst a;rw[iP];simp only[closed,bc,an d];simp only[EN]at e;cases j:out.getLast? with
      |none=>rfl
      |some y =>
       rw[j]at e;have h:¬y.awb=1:=by simpa using e
       simp only[an h]
     .simp[closed,a]
    rw[g,ih out _ e];congr 1;have i:t++x.awd≠[]:=by simp[d]
    simp only[xM,an i];have c:awp (x::f)=(x.awd++(awp f).1,(awp f).2):=by simp[awp,b]
    by_cases a:t=[]
    .subst a;rw[az rfl,vw b,c]
     have:(x.awd++(awp f).1).length≠0:=by
      have:=cT.2 d;rw[aj];omega
     rw[an this];simp
    .rw[an a,c];simp
  .have g:dO (closed out t) x=closed (closed out t++[x]) []:=by
    rw[iP];simp[dO,b]
   have k:EN (closed out t++[x])=false:=by simp[EN,b]
   rw[g,ih _ [] k];have c:awp (x::f)=([],x::f):=by simp[awp,b]
   simp only[xM,aT,c,bL,Jf b]
   by_cases a:t=[]
   .simp[closed,a]
   .simp[closed,a]
def tN(f:List It):yb f=awl f:=by
 have:=Ye f [] [] rfl;rw[iP]at this;simpa[xM,yb]using this
def fM(a b:List It):bd (a++b)=bd a+bd b:=by
 induction a with
 |nil=>simp[bd]
 |cons x a ih=>simp only[bJ,bd,ih];omega
def vA(out:List It)(x:It):bd (dO out x)<=bd out+x.awd.length/\(dO out x).length<=out.length+1:=by
 simp only[dO];split
 .simp[fM,bd]
 .split
  .omega
  .split
   .rename_i y a;have b:out≠[]:=by rintro rfl;simp at a
    have e:out=out.dropLast++[y]:=by
     have:=List.dropLast_concat_getLast b;rw[List.getLast?_eq_some_getLast b]at a;simp only[ae]at a;rw[a]at this;exact this.symm
    split
    .have c:bd out=bd out.dropLast+y.awd.length:=by
      conv=>lhs;rw[e]
      simp[fM,bd]
     simp[fM,bd];omega
    .simp[fM,bd]
   .simp[fM,bd]
def Lv(f:List It)(x:It):yb (f++[x])=dO (yb f) x:=by simp[yb]
def fC{f:List It}{x:It}(h:awl f=f):awl (f++[x])=dO f x:=by
 rw[<- tN,Lv,tN,h]
def lT{f:List It}{x:It}(h:x.awb≠1):dO f x=f++[x]:=by simp[dO,h]
def J9:∀(f out:List It),bd (f.foldl dO out)<=bd out+bd f/\(f.foldl dO out).length<=out.length+f.length
 |[],out=>by simp[bd]
 |x::f,out=>by
  have a:=vA out x;have b:=J9 f (dO out x);simp only[dW,bd,ai];omega
def pd(f:List It):bd (awl f)<=bd f/\(awl f).length<=f.length:=by
 have h:=J9 f [];rw[<- tN];simpa[yb,bd]using h
def EX(a:Nat):(eE a).length=a:=by simp[eE]
def RL{α a:Type}{f g:α->Option a}:∀{l:List α},(∀x∈l,f x=g x)->l.filterMap f=l.filterMap g
 |[],_=>rfl
 |x::l,h=>by
  simp only[lE,h x (by simp)];rw[RL λy b=>h y (by simp[b])]
def tg(f:List It):List It:=f.filter b9
def jV(a b:List It):tg (a++b)=tg a++tg b:=by simp[tg]
def yY{x:It}(h:b9 x=true):tg [x]=[x]:=by simp[tg,h]
def Dn{x:It}(h:b9 x=false):tg [x]=[]:=by simp[tg,h]
def CT(t:aG)(i:Int):b9 ⟨1,t,i⟩=false:=by simp[b9]
def GX{x:It}(h:x.awb=1):b9 x=false:=by simp[b9,h]
def Nl{x:It}(h1:x.awb=1)(a:x.id=0):(⟨1,x.awd,0⟩:It)=x:=by
 obtain⟨k,t,i⟩:=x;simp only at h1 a;subst h1;subst a;rfl
def BK{p:Option It}{x:It}(a:x.awb=1)(h:bG p x=true):x.awd≠[]/\x.id=0/\∀y,p=some y->y.awb≠1:=by
 simp only[bG,a,aT,aJ,dm,di,cE]at h;refine⟨h.1.1,h.1.2,λy b=>?_⟩;subst b;simpa using h.2
def uM{p:Option It}{t:aG}(h1:t≠[])(a:∀y,p=some y->y.awb≠1):bG p ⟨1,t,0⟩=true:=by
 simp only[bG,aT,aJ,dm,di,cE];refine⟨⟨h1,trivial⟩,?_⟩;cases p with
 |none=>rfl
 |some y=>simpa using a y rfl
def pc{f:List It}:bQ [] f=0->awl f=f:=by
 refine Bw (p:=λf=>bQ [] f=0->awl f=f) (λ_=>rfl) ?_ f;intro l x ih h;obtain⟨g,b,_⟩:=(fp l [] x).1 h;simp only[bc]at b;rw[fC (ih g)]
 by_cases a:x.awb=1
 .obtain⟨d,c,i⟩:=BK a b;simp only[dO,a,fc,eN,aS,an d];cases e:l.getLast? with
  |none=>simp only[Nl a c]
  |some y=>simp only[an (i y e),Nl a c]
 .exact lT a
def H4(f:List It)(x:It):fits f x=fits (tg f) x:=by
 induction f with
 |nil=>rfl
 |cons y f ih =>
  by_cases h:b9 y=true
  .simp only[fits,tg,fx,h,aT,gO]at ih |-;rw[ih]
  .have h:b9 y=false:=by simpa using h
   have a:dP x y=false:=by simp[dP,h]
   simp only[fits,tg,fx,h,gO,a,aI,aS,iw,cc]at ih |-;exact ih
def x9{f:List It}(t:aG)(h:bQ [] f=0):bQ [] (awl (f++[⟨1,t,0⟩]))=0/\tg (awl (f++[⟨1,t,0⟩]))=tg f:=by
 rw[fC (pc h)]
 by_cases a:t=[]
 .have e:dO f ⟨1,t,0⟩=f:=by simp[dO,a]
  rw[e];exact⟨h,rfl⟩
 .revert h;refine Bw (p:=λf=>bQ [] f=0->bQ [] (dO f ⟨1,t,0⟩)=0/\tg (dO f ⟨1,t,0⟩)=tg f) ?_ ?_ f
  .intro _;have e:dO [] ⟨1,t,0⟩=[]++[⟨1,t,0⟩]:=by simp[dO,a]
   rw[e,fp,jV,Dn (CT t 0),bL];exact⟨⟨rfl,uM a (by simp),by simp[b9]⟩,rfl⟩
  .intro l y _ h;obtain⟨g,d,j⟩:=(fp l [] y).1 h
   by_cases b:y.awb=1
   .have e:dO (l++[y]) ⟨1,t,0⟩=l++[⟨1,y.awd++t,0⟩]:=by simp[dO,a,b]
    obtain⟨_,_,i⟩:=BK b d;rw[e,fp,jV,jV,Dn (CT _ 0),Dn (GX b)];exact⟨⟨g,uM (by simp[a]) i,by simp[b9]⟩,rfl⟩
   .have e:dO (l++[y]) ⟨1,t,0⟩=(l++[y])++[⟨1,t,0⟩]:=by simp[dO,a,b]
    rw[e,fp,jV,Dn (CT _ 0),bL];refine⟨⟨h,uM a λz c=>?_,by simp[b9]⟩,rfl⟩;simp only[bc,jg,gG,mz,ae]at c;subst c;exact b
def ya{f:List It}{x:It}(h:bQ [] f=0)(a:x.awb≠1)(d:bG none x=true)(c:b9 x=true->fits f x=true):
  awl (f++[x])=f++[x]/\bQ [] (f++[x])=0:=by
 refine⟨by rw[fC (pc h),lT a],?_⟩;rw[fp];refine⟨h,by rw[jv a];exact d,?_⟩;rw[bc];cases b:b9 x with
 |false=>rfl
 |true=>rw[c b];rfl
def nt(f:List It):List It:=f.filter λx=>x.awb != 1
def x8(a b:List It):nt (a++b)=nt a++nt b:=by simp[nt]
def IJ:∀(l:List It),nt (awp l).2=nt l
 |[]=>rfl
 |x::r=>by
  by_cases a:x.awb=1
  .have:=IJ r;simp only[awp,a,aT,nt,fx]at this |-;simpa using this
  .simp[awp,a]
def Jg:∀(n:Nat) (f:List It),f.length<=n->nt (lU n f)=nt f
 |0,f,h=>by rw[aW (Nat.le_zero.1 h)];rfl
 |_+1,[],_=>rfl
 |n+1,x::r,h=>by
  simp only[ai]at h
  by_cases b:x.awb=1
  .have c:=th (r:=r) b;have a:=Jg n (awp (x::r)).2 (by omega);rw[IJ]at a;simp only[lU,b,fc,eN,aS];split
   .exact a
   .simp only[nt,fx]at a |-;simpa using a
  .have a:=Jg n r (by omega);simp only[lU,b,fc,cP,aT,nt,fx]at a |-;rw[a]
def Vv(f:List It):nt (awl f)=nt f:=Jg _ f (aD _)
def jQ(p:bH×bH)(x:It):Option (bH×bH) :=
 if x.awb=2 then some (p.1,p.2++[x.id])
 else if x.awb=3 then(if p.2.length=0 then some (p.1++[x.id],p.2)else if p.2.getD (p.2.length - 1) 0=x.id then some (p.1,p.2.take (p.2.length - 1))else none)
 else some p
def eG:List It->bH×bH->Option (bH×bH)
 |[],p=>some p
 |x::r,p=>(jQ p x).bind (eG r)
def shape(f:List It):Option (bH×bH):=eG f ([],[])
def Ar:∀(a b:List It) (p:bH×bH),eG (a++b) p=(eG a p).bind (eG b)
 |[],_,_=>rfl
 |x::a,b,p=>by
  simp only[bJ,eG,Option.bind_assoc];congr 1;funext q;exact Ar a b q
def CJ{f:List It}{p:bH×bH}(h:shape f=some p)(x:It):shape (f++[x])=jQ p x:=by
 rw[shape]at h;rw[shape,Ar,h];simp only[eG,gv];cases jQ p x<;>rfl
def zd:∀(f:List It) (p:bH×bH),eG f p=eG (tg f) p
 |[],_=>rfl
 |x::f,p=>by
  by_cases a:b9 x=true
  .simp only[tg,fx,a,aT,eG];congr 1;funext q;exact zd f q
  .have a:b9 x=false:=by simpa using a
   have b:x.awb≠2/\x.awb≠3:=by
    simp only[b9,iv,di]at a;exact a.1
   simp only[tg,fx,a,aI,aS,eG,jQ,an b.1,an b.2,gv];exact zd f p
def P0{f g:List It}(h:tg f=tg g):shape f=shape g:=by rw[shape,shape,zd,h,<- zd]
structure BS (f opn:List It) (n:Int):Prop where
 sh:shape f=some ([],opn.map (·.id))
 err:bQ [] f=0
 ids:∀z∈tg f,1<=z.id/\z.id<=n
 nd:(opn.map (·.id)).Nodup
 op:∀y∈opn,awj (cW y.awd)=true/\1<=y.id/\y.id<=n/\∀z∈tg f,z.id=y.id->z.awb=2/\z.awd=y.awd
def BS.nil:BS [] [] 0:=⟨rfl,rfl,by simp[tg],by simp,by simp⟩
def BS.mono{f a:List It}{n m:Int}(h:BS f a n)(i:n<=m):BS f a m :=
 ⟨h.sh,h.err,λz g=>by have:=h.ids z g;omega,h.nd,λy b=>by
  obtain⟨e,c,j,d⟩:=h.op y b;exact⟨e,c,by omega,d⟩⟩
def BS.same{f g a:List It}{n:Int}(h:BS f a n)(h1:bQ [] g=0)(b:tg g=tg f):BS g a n :=
 ⟨(P0 b).trans h.sh,h1,by rw[b];exact h.ids,h.nd,by rw[b];exact h.op⟩
def BS.awd{f a:List It}{n:Int}(h:BS f a n)(t:aG):BS (awl (f++[⟨1,t,0⟩])) a n :=
 h.same (x9 t h.err).1 (x9 t h.err).2
def BS.slot{f a:List It}{n:Int}(h:BS f a n){t:aG}(b:awj t=true):BS (awl (f++[⟨5,t,0⟩])) a n:=by
 obtain⟨e,c⟩:=ya (x:=⟨5,t,0⟩) h.err (by simp) (by simp[bG,b]) (by simp[b9]);rw[e];exact h.same c (by rw[jV,Dn (by simp[b9]),bL])
def RP{f:List It}{x:It}(h:∀z∈tg f,z.id≠x.id):fits f x=true:=by
 rw[H4];simp only[fits,bY];intro z a;have:=h z a;simp[dP,this]
def BS.empty{f c:List It}{n:Int}(h:BS f c n){t:aG}(g:cV t=true)(h0:0<=n)(o:n<999):BS (awl (f++[⟨4,t,n+1⟩])) c (n+1):=by
 have hT:b9 ⟨4,t,n+1⟩=true:=by simp[b9]
 obtain⟨e,j⟩:=ya (x:=⟨4,t,n+1⟩) h.err (by simp) (by simp[bG,g];omega) (λ_=>RP λz a=>by have:=h.ids z a;simp only;omega);rw[e];refine⟨by rw[CJ h.sh];rfl,j,?_,h.nd,?_⟩
 .intro z a;rw[jV,yY hT,bP,cv]at a;rcases a with a|rfl
  .have:=h.ids z a;omega
  .simp only;omega
 .intro y d;obtain⟨k,l,m,i⟩:=h.op y d;refine⟨k,l,by omega,λz a b=>?_⟩;rw[jV,yY hT,bP,cv]at a;rcases a with a|rfl
  .exact i z a b
  .simp only at b;omega
def BS.opens{f i:List It}{n:Int}(h:BS f i n){t:aG}(j:cV t=true)(p:awj (cW t)=true)(h0:0<=n)(u:n<999):
  BS (awl (f++[⟨2,t,n+1⟩])) (i++[⟨2,t,n+1⟩]) (n+1):=by
 have hT:b9 ⟨2,t,n+1⟩=true:=by simp[b9]
 obtain⟨e,q⟩:=ya (x:=⟨2,t,n+1⟩) h.err (by simp) (by simp[bG,j];omega) (λ_=>RP λz c=>by have:=h.ids z c;simp only;omega);rw[e];refine⟨by rw[CJ h.sh];simp[jQ],q,?_,?_,?_⟩
 .intro z c;rw[jV,yY hT,bP,cv]at c;rcases c with c|rfl
  .have:=h.ids z c;omega
  .simp only;omega
 .rw[cM,iX];refine⟨h.nd,by simp,?_⟩;intro a r b k;obtain⟨y,g,rfl⟩:=bF.1 r;simp only[aH,bR,cv]at k;have:=(h.op y g).2.2.1;omega
 .intro y g;rw[bP,cv]at g;rcases g with g|rfl
  .obtain⟨m,l,s,o⟩:=h.op y g;refine⟨m,l,by omega,λz c d=>?_⟩;rw[jV,yY hT,bP,cv]at c;rcases c with c|rfl
   .exact o z c d
   .simp only at d;omega
  .refine⟨p,by simp only;omega,by simp only;omega,λz c d=>?_⟩;rw[jV,yY hT,bP,cv]at c;rcases c with c|rfl
   .have:=h.ids z c;simp only at d;omega
   .exact⟨rfl,rfl⟩
def BS.close{f b:List It}{y:It}{n:Int}(h:BS f (b++[y]) n)(u:n<=999):
  BS (f++[⟨3,cW y.awd,y.id⟩]) b n/\awl (f++[⟨3,cW y.awd,y.id⟩])=f++[⟨3,cW y.awd,y.id⟩]:=by
 have hT:b9 ⟨3,cW y.awd,y.id⟩=true:=by simp[b9]
 obtain⟨p,o,r,s⟩:=h.op y (by simp)
 obtain⟨e,t⟩:=ya (x:=⟨3,cW y.awd,y.id⟩) h.err (by simp) (by simp[bG,p];omega) (λ_=>by
  rw[H4];simp only[fits,bY];intro z a
  by_cases g:z.id=y.id
  .obtain⟨m,l⟩:=s z a g;simp[dP,m,l]
  .simp[dP,g])
 have d:=h.nd;rw[cM,iX]at d;refine⟨⟨by rw[CJ h.sh];simp[jQ],t,?_,d.1,?_⟩,e⟩
 .intro z a;rw[jV,yY hT,bP,cv]at a;rcases a with a|rfl
  .exact h.ids z a
  .exact⟨o,r⟩
 .intro x i;obtain⟨q,k,p3,j⟩:=h.op x (by simp[i]);refine⟨q,k,p3,λz a c=>?_⟩;rw[jV,yY hT,bP,cv]at a;rcases a with a|rfl
  .exact j z a c
  .have:=d.2.2 x.id (bF.2 ⟨x,i,rfl⟩) y.id (by simp);exact absurd c.symm this
structure Nc (pre f:List It):Prop where
 err:bQ [] f=0
 nts:nt f=nt pre
def Mc(f:List It):tg (nt f)=tg f:=by
 simp only[tg,nt,UF];refine Fj λx _=>?_;cases h:b9 x with
 |false=>rfl
 |true=>rw[cc];simp only[qT];intro a;rw[GX a]at h;simp at h
def Nc.tags{pre f:List It}(h:Nc pre f):tg f=tg pre:=by rw[<- Mc,h.nts,Mc]
def Nc.nil:Nc [] []:=⟨rfl,rfl⟩
def Nc.more{pre f:List It}(h:Nc pre f)(t:aG):Nc pre (awl (f++[⟨1,t,0⟩])) :=
 ⟨(x9 t h.err).1,by rw[Vv,x8,h.nts];simp[nt]⟩
def Nc.awd{pre f:List It}{x:It}(h:Nc pre f)(a:x.awb=1)(t:aG):Nc (pre++[x]) (awl (f++[⟨1,t,0⟩])) :=
 ⟨(x9 t h.err).1,by rw[Vv,x8,x8,h.nts];simp[nt,a]⟩
def Nc.item{pre f rest:List It}{x:It}(h:Nc pre f)(d:bQ [] (pre++x::rest)=0)(b:x.awb≠1):Nc (pre++[x]) (awl (f++[x])):=by
 rw[z8,Cl]at d;obtain⟨_,c,a,_⟩:=d;rw[bc]at c a
 obtain⟨e,g⟩:=ya (x:=x) h.err b (by rw[<- jv (p:=pre.getLast?) b];exact c) (λi=>by
  rw[i,cc]at a;rw[H4,h.tags,<- H4];simpa using a)
 rw[e];exact⟨g,by rw[x8,x8,h.nts]⟩
def PH:∀(l:bH) (k:Int) (x:Int),Dm l ((List.range l.length).map λ(i:Nat)=>(i:Int)+k) x=if x∈l then some ((l.idxOf x:Int)+k)else none
 |[],k,x=>by simp[Dm]
 |a::l,k,x=>by
  have e:(List.range (l.length+1)).map (λ(i:Nat)=>(i:Int)+k)=k::(List.range l.length).map λ(i:Nat)=>(i:Int)+(k+1):=by
   rw[KU,aH,jn];refine congr (congrArg _ (by omega)) (eA λi _=>?_);simp only[Function.comp];omega
  rw[ai,e];simp only[Dm]
  by_cases h:x=a
  .subst h;simp
  .have c:(a==x)=false:=by simpa using λe=>h e.symm
   rw[an h,PH l (k+1) x,Bj,c]
   by_cases b:x∈l
   .rw[az b,az (eV _ b)];congr 1;simp only[KT];omega
   .rw[an b,an (by simp[h,b])]
def Ws(l:bH)(x:Int):Dm l (eE l.length) x=if x∈l then some ((l.idxOf x:Int)+1)else none:=PH l 1 x
def sn(g:Int->Int)(x:It):It:=if b9 x=true then⟨x.awb,x.awd,g x.id⟩else x
def yd(g:Int->Int)(x:It):(sn g x).awb=x.awb:=by simp only[sn];split<;>rfl
def D9(g:Int->Int)(x:It):(sn g x).awd=x.awd:=by simp only[sn];split<;>rfl
def BB(g:Int->Int)(x:It):b9 (sn g x)=b9 x:=by simp only[b9,yd]
def Ph(l:bH)(x:It):It:=if b9 x=true then⟨x.awb,x.awd,(l.idxOf x.id:Int)+1⟩else x
def Og(l:bH):Ph l=sn λi=>(l.idxOf i:Int)+1:=rfl
def aad(l:bH)(x:It):(Ph l x).awd=x.awd:=D9 (λi=>(l.idxOf i:Int)+1) x
def adz(l:bH)(x:It):b9 (Ph l x)=b9 x:=BB (λi=>(l.idxOf i:Int)+1) x
def zi{fr c:bH}{g:Int->Int}{f:List It}(h:∀x∈tg f,Dm fr c x.id=some (g x.id)):awv f fr c=f.map (sn g):=by
 have a:∀x∈f,WU fr c x=some (sn g x):=by
  intro x d;simp only[WU,sn]
  by_cases b:b9 x=true
  .rw[az b,az b,h x (cZ.2 ⟨d,b⟩)];rfl
  .rw[an b,an b]
 simp only[awv];rw[RL a];clear a h
 induction f with
 |nil=>rfl
 |cons x f ih=>simp only[lE,aH,ih]
def GC{l:bH}{f:List It}(h:∀x∈tg f,x.id∈l):awv f l (eE l.length)=f.map (Ph l) :=
 zi (g:=λi=>(l.idxOf i:Int)+1) λx a=>by rw[Ws,az (h x a)]
def HS{l:bH}{x y:Int}(g:x∈l)(i:y∈l)(h:l.idxOf x=l.idxOf y):x=y:=by
 induction l with
 |nil=>simp at g
 |cons a l ih =>
  simp only[Bj]at h
  by_cases f:a=x
  .by_cases c:a=y
   .rw[<- f,c]
   .have e:(a==x)=true:=by simp[f]
    have d:(a==y)=false:=by simp[c]
    rw[e,d]at h;simp at h
  .have e:(a==x)=false:=by simp[f]
   by_cases c:a=y
   .have d:(a==y)=true:=by simp[c]
    rw[e,d]at h;simp at h
   .have d:(a==y)=false:=by simp[c]
    rw[e,d]at h;simp only[KT]at h;refine ih ?_ ?_ (by omega)
    .rcases bC.1 g with b|b
     .exact absurd b.symm f
     .exact b
    .rcases bC.1 i with b|b
     .exact absurd b.symm c
     .exact b
def aaf{g:Int->Int}{x:It}{p:Option It}(j:b9 x=true->1<=g x.id/\g x.id<=999)(h:bG p x=true):bG (p.map (sn g)) (sn g x)=true:=by
 by_cases b:b9 x=true
 .have l:=j b
  have a:x.awb=2\/x.awb=3\/x.awb=4:=by
   simp only[b9,eD,cE]at b;omega
  have e:sn g x=⟨x.awb,x.awd,g x.id⟩:=by rw[sn,az b]
  rw[e];simp only[bG]at h |-;rcases a with a|a|a
  .simp[a]at h |-;exact⟨⟨h.1.1,by omega⟩,by omega⟩
  .simp[a]at h |-;exact⟨⟨h.1.1,by omega⟩,by omega⟩
  .simp[a]at h |-;exact⟨⟨h.1.1,by omega⟩,by omega⟩
 .have e:sn g x=x:=by rw[sn,an b]
  rw[e]
  by_cases a:x.awb=1
  .obtain⟨d,c,i⟩:=BK a h;rw[<- Nl a c];refine uM d λy f=>?_;obtain⟨z,k,rfl⟩:=aF.1 f;rw[yd];exact i z k
  .rw[jv a]at h |-;exact h
def aae{g:Int->Int}{x:It}{f:List It}(k:b9 x=true)(j:∀z∈tg f,g z.id=g x.id->z.id=x.id)(h:fits f x=true):fits (f.map (sn g)) (sn g x)=true:=by
 simp only[fits,bY,bF]at h |-;rintro _ ⟨y,d,rfl⟩;have i:=h y d
 by_cases a:b9 y=true
 .have c:=j y (cZ.2 ⟨d,a⟩);have l:sn g x=⟨x.awb,x.awd,g x.id⟩:=by rw[sn,az k]
  have p:sn g y=⟨y.awb,y.awd,g y.id⟩:=by rw[sn,az a]
  have m:(g y.id != g x.id)=(y.id != x.id):=by
   by_cases b:y.id=x.id
   .rw[b];simp
   .have:g y.id≠g x.id:=λe=>b (c e);have o:(y.id != x.id)=true:=by simpa using b
    rw[o];simpa using this
  have n:b9 (sn g y)=b9 y:=BB g y;simp only[dP,n]at i |-;rw[l,p];simp only;rw[m];exact i
 .have a:b9 y=false:=by simpa using a
  simp[dP,BB,a]
def Q3{g:Int->Int}{f:List It}(c:∀x∈tg f,1<=g x.id/\g x.id<=999)(hi:∀x∈tg f,∀y∈tg f,g x.id=g y.id->x.id=y.id)(h:bQ [] f=0):bQ [] (f.map (sn g))=0:=by
 revert c hi h;refine Bw (p:=λf=>(∀x∈tg f,1<=g x.id/\g x.id<=999)->(∀x∈tg f,∀y∈tg f,g x.id=g y.id->x.id=y.id)->bQ [] f=0->bQ [] (f.map (sn g))=0) (λ_ _ _=>rfl) ?_ f;intro f x ih c hi h;obtain⟨l,i,e⟩:=(fp f [] x).1 h;rw[bc]at i e;have d:∀z∈tg f,z∈tg (f++[x]):=λz b=>by rw[jV];exact List.mem_append_left _ b
 have j:b9 x=true->x∈tg (f++[x]):=λa=>by rw[jV,yY a];simp
 rw[cM,aH,bR,fp];refine⟨ih (λz b=>c z (d z b)) (λz b y k=>hi z (d z b) y (d y k)) l,?_,?_⟩
 .rw[bc,List.getLast?_map];exact aaf (λa=>c x (j a)) i
 .rw[bc,BB];cases a:b9 x with
  |false=>rfl
  |true =>
   rw[a,cc]at e;rw[aae a (λz b=>hi z (d z b) x (j a)) (by simpa using e)];rfl
def tD{g:Int->Int}{D:Int->Prop}(hi:∀x y,D x->D y->g x=g y->x=y):∀(f:List It) (c o:bH),(∀x∈tg f,D x.id)->(∀i∈o,D i) ->
  eG (f.map (sn g)) (c.map g,o.map g)=(eG f (c,o)).map λp=>(p.1.map g,p.2.map g)
 |[],_,_,_,_=>rfl
 |x::f,c,o,hf,ho=>by
  have a:∀z∈tg f,D z.id:=λz s=>hf z (by rw[show x::f=[x]++f from rfl,jV];exact List.mem_append_right _ s);have q:b9 x=true->D x.id/\sn g x=⟨x.awb,x.awd,g x.id⟩:=λm=>⟨hf x (by rw[show x::f=[x]++f from rfl,jV,yY m];simp),by rw[sn,az m]⟩;simp only[aH,eG,jQ,yd,ag]
  by_cases j:x.awb=2
  .obtain⟨b,e⟩:=q (by simp[b9,j]);simp only[j,aT,gv,e]
   have:=tD hi f c (o++[x.id]) a (λi h=>by
    rcases bP.1 h with h|h
    .exact ho i h
    .rw[cv]at h;rw[h];exact b)
   rw[cM]at this;exact this
  by_cases k:x.awb=3
  .obtain⟨b,e⟩:=q (by simp[b9,k]);simp only[k,an (show ¬(3:Int)=2 by decide),aT,e]
   by_cases n:o.length=0
   .have:=tD hi f (c++[x.id]) o a ho;rw[cM]at this;simp only[n,aT,gv];exact this
   .have d:o.length - 1<o.length:=by omega
    have u:(o.map g).getD (o.length - 1) 0=g o[o.length - 1]:=by simp[aq,d]
    have r:o.getD (o.length - 1) 0=o[o.length - 1]:=by simp[aq,d]
    have t:=ho _ (dC d);simp only[n,aS,u,r]
    by_cases l:o[o.length - 1]=x.id
    .simp only[l,aT,gv,<- List.map_take];exact tD hi f c (o.take (o.length - 1)) a λi h=>ho i (cF h)
    .rw[an l,an λh=>l (hi _ _ t b h)];rfl
  .simp only[j,k,aS,gv];exact tD hi f c o a ho
def Ml{g:Int->Int}{f:List It}(hi:∀x∈tg f,∀y∈tg f,g x.id=g y.id->x.id=y.id)(h:shape f=some ([],[])):shape (f.map (sn g))=some ([],[]):=by
 have:=tD (g:=g) (D:=λi=>∃x∈tg f,x.id=i) (by rintro _ _ ⟨x,a,rfl⟩ ⟨y,b,rfl⟩ e;exact hi x a y b e) f [] [] (λx a=>⟨x,a,rfl⟩) (by simp);rw[<- shape,h]at this;exact this
def To(g:Int->Int)(f:List It):nt (f.map (sn g))=(nt f).map (sn g):=by
 simp only[nt,afL,Fl,yd]
def ag1(g:Int->Int)(f:List It):tg (f.map (sn g))=(tg f).map (sn g):=by
 simp only[tg,afL,Fl,BB]
def GN:∀(n:Nat) (l:bH),l.Nodup->(∀x∈l,1<=x/\x<=n)->l.length<=n
 |0,l,_,h=>by
  cases l with
  |nil=>exact aD _
  |cons a l=>have:=h a (by simp);omega
 |n+1,l,hd,h=>by
  have d:=GN n (l.erase ((n+1:Nat):Int)) (hd.erase _) λx c=>by
   have b:=(hd.mem_erase_iff).1 c;have:=h x b.2;have:=b.1;omega
  have b:l.length<=(l.erase ((n+1:Nat):Int)).length+1:=by rw[List.length_erase];split<;>omega
  omega
def wU{l:bH}(d:l.length<=999){f:List It}(a:∀x∈tg f,x.id∈l)(h:bQ [] f=0):bQ [] (f.map (Ph l))=0:=by
 rw[Og];refine Q3 (λx b=>?_) (λx b y c e=>HS (a x b) (a y c) (by omega)) h;have:l.idxOf x.id<l.length:=Ca (a x b);omega
def wC(l:bH)(f:List It):bd (f.map (Ph l))=bd f:=by
 induction f with
 |nil=>rfl
 |cons x f ih=>simp only[aH,bd,aad,ih]
def oO(f:List It):bH:=(tg f).map (·.id)
def o9(f:List It):awm f=(oO f).foldl nE []:=by
 simp only[awm,nD];rfl
def Gi(s t:List It):cS s t=(oO (s++t)).foldl nE []:=by
 rw[<- vv,o9]
def yJ(s t:List It):(∀x∈tg s,x.id∈cS s t)/\∀x∈tg t,x.id∈cS s t:=by
 rw[Gi];constructor<;>intro x a<;>refine BI _ ?_<;>simp only[oO,jV,cM,bP,bF]
 .exact .inl ⟨x,a,rfl⟩
 .exact .inr ⟨x,a,rfl⟩
def TN{l:bH}{n:Int}(h:l.Nodup):(nE l n).Nodup:=by
 simp only[nE];split
 .exact h
 .rename_i f;rw[iX];refine⟨h,by simp,?_⟩;intro a d b c e;simp only[cv]at c;subst c;subst e;exact f (by simpa using d)
def AZ:∀(m:bH) {l:bH},l.Nodup->(m.foldl nE l).Nodup
 |[],_,h=>h
 |_::m,_,h=>AZ m (TN h)
def F6{g:Int->Int}{L:bH}(d:∀x∈L,∀y∈L,g x=g y->x=y):∀(m acc:bH),(∀x∈m,x∈L)->(∀x∈acc,x∈L)->(m.map g).foldl nE (acc.map g)=(m.foldl nE acc).map g
 |[],_,_,_=>rfl
 |n::m,acc,hm,ha=>by
  have i:=hm n (by simp)
  have e:nE (acc.map g) (g n)=(nE acc n).map g:=by
   by_cases h:n∈acc
   .have c:acc.contains n=true:=by simpa using h
    have b:(acc.map g).contains (g n)=true:=by simp;exact⟨n,h,rfl⟩
    simp only[nE,c,b,aT]
   .have c:acc.contains n=false:=by simpa using h
    have b:(acc.map g).contains (g n)=false:=by
     cases f:(acc.map g).contains (g n)with
     |false=>rfl
     |true =>
      simp only[List.contains_iff_mem,bF]at f;obtain⟨x,a,j⟩:=f;exact absurd (d x (ha x a) n i j▸a) h
    simp only[nE,c,b,aI,aS,cM,aH,bR]
  simp only[aH,dW,e];refine F6 d m (nE acc n) (λx a=>hm x (by simp[a])) λx a=>?_;simp only[nE]at a;split at a
  .exact ha x a
  .rw[bP,cv]at a;rcases a with a|rfl
   .exact ha x a
   .exact i
def PK(g:Int->Int)(f:List It):oO (f.map (sn g))=(oO f).map g:=by
 simp only[oO,ag1,jn];refine eA λx a=>?_;simp only[Function.comp,sn,az (cZ.1 a).2]
def nS{f:List It}{n:Int}:n∈awm f<->∃x∈tg f,x.id=n:=by
 have c:∀(m l:bH),n∈m.foldl nE l<->n∈l\/n∈m:=by
  intro m
  induction m with
  |nil=>intro l;simp
  |cons a m ih =>
   intro l;rw[dW,ih,bC];simp only[nE];split
   .rename_i h;rw[List.contains_iff_mem]at h;constructor
    .rintro(b|b);exact .inl b;exact .inr (.inr b)
    .rintro(b|rfl|b);exact .inl b;exact .inl h;exact .inr b
   .rw[bP,cv,or_assoc]
 rw[o9,c];simp only[gw,nk,oO,bF]
def GM{g:Int->Int}{f:List It}(hi:∀x∈tg f,∀y∈tg f,g x.id=g y.id->x.id=y.id):awm (f.map (sn g))=(awm f).map g:=by
 rw[o9,o9,PK];have h:∀x∈oO f,x∈oO f:=λx c=>c
 have:=F6 (g:=g) (L:=oO f) (λx c y d e=>by
  obtain⟨a,j,rfl⟩:=bF.1 c;obtain⟨b,i,rfl⟩:=bF.1 d;exact hi a j b i e) (oO f) [] h (by simp)
 simpa using this
def Ci(f:List It):(awm f).Nodup:=by rw[o9];exact AZ _ mB
def MN:∀{L:bH} (_:L.Nodup),L.map (λx=>(L.idxOf x:Int)+1)=eE L.length:=by
 intro L j
 have d:∀(l pre:bH),(pre++l).Nodup->l.map (λx=>((pre++l).idxOf x:Int)+1)=(List.range l.length).map λ(i:Nat)=>(i:Int)+((pre.length:Int)+1):=by
  intro l
  induction l with
  |nil=>intro pre _;rfl
  |cons a l ih =>
   intro pre h
   have e:(List.range (l.length+1)).map (λ(i:Nat)=>(i:Int)+((pre.length:Int)+1))=((pre.length:Int)+1)::(List.range l.length).map λ(i:Nat)=>(i:Int)+(((pre++[a]).length:Int)+1):=by
    rw[KU,aH,jn];refine congr (congrArg _ (by omega)) (eA λi _=>?_);simp only[Function.comp,aj,ai,al];omega
   have f:=ih (pre++[a]) (by rwa [bk,fI]);rw[bk,fI]at f;rw[ai,e,<- f,aH];congr 1
   have c:a ∉ pre:=by
    rw[iX]at h;exact λg=>h.2.2 a g a (by simp) rfl
   have:(pre++a::l).idxOf a=pre.length:=by
    clear f e ih h
    induction pre with
    |nil=>simp
    |cons b pre ih =>
     have k:(b==a)=false:=by
      simp only[bC,uy]at c;simpa using λe=>c.1 e.symm
     rw[bJ,Bj,k,KT,ih (λg=>c (eV _ g)),ai]
   rw[this]
 have:=d L [] j;simpa[eE]using this
def SQ{l:bH}{f:List It}:oO (f.map (Ph l))=(oO f).map λx=>(l.idxOf x:Int)+1:=by
 induction f with
 |nil=>rfl
 |cons x f ih =>
  simp only[oO,tg,aH,fx,adz]at ih |-
  by_cases a:b9 x=true
  .rw[az a,az a,aH,aH,aH,ih];congr 1;rw[Ph,az a]
  .rw[an a,an a,ih]
def E5{s t:List It}(d:bQ [] s=0)(c:bQ [] t=0)(b:(cS s t).length<=999):
  gK s t=s.map (Ph (cS s t))/\iq s t=t.map (Ph (cS s t)):=by
 have a:=yJ s t;constructor
 .rw[gK,rename,GC a.1];exact pc (wU b a.1 d)
 .rw[iq,rename,GC a.2];exact pc (wU b a.2 c)
def Sa{s t:List It}:cS (s.map (Ph (cS s t))) (t.map (Ph (cS s t)))=eE (cS s t).length:=by
 have e:cS s t=(oO (s++t)).foldl nE []:=Gi s t;have d:∀x∈oO (s++t),x∈cS s t:=λx a=>by rw[e];exact BI _ a
 rw[Gi (s.map _) (t.map _),<- List.map_append,SQ];have b:=F6 (g:=λx=>((cS s t).idxOf x:Int)+1) (L:=cS s t) (λx a y c h=>HS a c (by omega)) (oO (s++t)) [] d (by simp);rw[bR]at b;rw[b,<- e];exact MN (by rw[e];exact AZ _ mB)
def Yn{n:Nat}{x:Int}(h:x∈eE n):((eE n).idxOf x:Int)+1=x:=by
 have g:(eE n).Nodup:=by
  simp only[eE];exact(pT).map (f:=λ(i:Nat)=>(i:Int)+1) (λa b h=>by have h:a≠b:=h;omega)
 have e:=MN g;rw[EX]at e;have d:(eE n).idxOf x<(eE n).length:=Ca h;have c:((eE n).map λx=>((eE n).idxOf x:Int)+1)[(eE n).idxOf x]?=(eE n)[(eE n).idxOf x]?:=by rw[e]
 rw[ck,ax d]at c;have j:(eE n)[(eE n).idxOf x]=x:=List.getElem_idxOf d;rw[j]at c;simpa using c
def ME{n:Nat}{f:List It}(h:∀x∈tg f,x.id∈eE n):f.map (Ph (eE n))=f:=by
 induction f with
 |nil=>rfl
 |cons x f ih =>
  rw[aH];have b:∀z∈tg f,z.id∈eE n:=λz a=>h z (by simp only[tg,fx];split<;>simp[tg]at a |-<;>simp[a]);rw[ih b];congr 1;rw[Ph];split
  .rename_i c;have:=h x (by simp only[tg,fx,c,aT];simp);rw[Yn this]
  .rfl
def R9{s t:List It}(j:bQ [] s=0)(i:bQ [] t=0)(a:(cS s t).length<=999):
  gK (gK s t) (iq s t)=gK s t/\iq (gK s t) (iq s t)=iq s t:=by
 obtain⟨l,m⟩:=E5 j i a;have h:=yJ s t;have c:=wU a h.1 j;have b:=wU a h.2 i;rw[l,m];have k:=Sa (s:=s) (t:=t);have d:(cS (s.map (Ph (cS s t))) (t.map (Ph (cS s t)))).length<=999:=by rw[k,EX];exact a
 obtain⟨g,f⟩:=E5 c b d;have e:=yJ (s.map (Ph (cS s t))) (t.map (Ph (cS s t)));rw[k]at e g f;exact⟨by rw[g,ME e.1],by rw[f,ME e.2]⟩
def M5(s t:List It):(cS s t).length<=s.length+t.length:=by
 have a:=z7 (awm t) (awm s);have c:=jE s;have b:=jE t;simp only[cS];omega
def s4{f:List It}(h:bQ [] f=0)(h1:f.length<=100)(a:bd f<=900):cd f=0:=by
 have:=Zf f;exact(Ih (by omega)).2 ⟨by omega,by omega,h⟩
def J7:dq:=[[],[83,97,118,101],[114,101,100,32,99,97,114],[120]]
def AY:dq:=[[],[97,110,110],[98,111,98],[112],[113]]
def OY:∀s∈J7,(parse s).2.2=0/\s.length<=7:=by decide +kernel
def D8:∀s∈AY,named s=true/\s.length<=3:=by decide +kernel
structure xo (e:En):Prop where
 sh:shape e.awc=some ([],[])
 nts:nt e.awf=nt e.awc
 num:(awm e.awc).length<=4
 ok:cj e=0
 jr:e.awc.length<=40
 ie:bd e.awc<=400
 uk:e.awf.length<=100
 rv:bd e.awf<=900
 prev:e.bU.length<=7
 next:e.next.length<=7
 c8:e.c8.length<=3
 cA:e.cA.length<=3
def afj{p:Option It}{x:It}(h:bG p x=true):0<=x.id/\x.id<=999:=by
 simp only[bG]at h;split at h
 .simp only[aJ,cE]at h;omega
 .split at h
  .simp only[aJ,cE]at h;omega
  .split at h
   .simp only[aJ,aV]at h;omega
   .split at h
    .simp only[aJ,aV]at h;omega
    .simp at h
def Bp{f:List It}(h:cd f=0):∀x∈f,0<=x.id/\x.id<=999:=by
 simp only[cd]at h;split at h
 .simp at h
 .intro x a;exact afj (tk f [] h x a)
def og{e:En}(h:cj e=0):cd e.awc=0/\cd e.awf=0:=⟨(ou h).awc,(ou h).awf⟩
def X9{f t:List It}{p n a r:aG}{c o:Int}(v:BS f [] 4)(hT:Nc f t)(K:f≠[])(I:f.length<=40)(O:bd f<=400)(L:t.length<=100)(H:bd t<=900)
  (w:p∈J7) (B:n∈J7) (C:a∈AY) (z:r∈AY) (U:0<=c/\c<=1073741824) (T:1<=o/\o<=3):xo ⟨gK f t,iq f t,p,n,a,r,c,o⟩:=by
 have q:=v.err;have m:=hT.err;have k:(cS f t).length<=999:=by have:=M5 f t;omega
 obtain⟨b,j⟩:=E5 q m k;have l:=yJ f t;have J:bQ [] (gK f t)=0:=by rw[b];exact wU k l.1 q
 have M:bQ [] (iq f t)=0:=by rw[j];exact wU k l.2 m
 have D:(gK f t).length=f.length:=by rw[b,ag]
 have Q:(iq f t).length=t.length:=by rw[j,ag]
 have R:bd (gK f t)=bd f:=by rw[b,wC]
 have N:bd (iq f t)=bd t:=by rw[j,wC]
 obtain⟨E,P⟩:=R9 q m k;have F:cd (gK f t)=0:=s4 J (by omega) (by omega);have S:cd (iq f t)=0:=s4 M (by omega) (by omega);have d:(gK f t).length≠0:=by rw[D];exact λh=>K (aW h)
 have G:oe ⟨gK f t,iq f t,p,n,a,r,c,o⟩=true:=by
  simp only[oe,E,P,sW.2 rfl,df,dm,di,fc];exact d
 have A:∀x∈tg f,∀y∈tg f,((cS f t).idxOf x.id:Int)+1=((cS f t).idxOf y.id:Int)+1->x.id=y.id:=λx u y s e=>HS (l.1 x u) (l.1 y s) (by omega);refine⟨?_,?_,?_,?_,by simp only[D];exact I,by simp only[R];exact O,by simp only[Q];exact L,by simp only[N];exact H,(OY p w).2,(OY n B).2,(D8 a C).2,(D8 r z).2⟩
 .simp only[b,Og];exact Ml (g:=λi=>((cS f t).idxOf i:Int)+1) A v.sh
 .simp only[b,j,Og,To,hT.nts]
 .simp only[b,Og,GM (g:=λi=>((cS f t).idxOf i:Int)+1) A,ag]
  exact GN 4 _ (Ci f) λx u=>by
   obtain⟨y,s,rfl⟩:=nS.1 u;exact v.ids y s
 simp only[cj,F,S,G,(OY p w).1,(OY n B).1,(D8 a C).1,(D8 r z).1,fc,eN,aS,uQ,mg];rw[an (by omega)]
def xo.awk{e:En}(h:xo e):e.awk:=by
 have:=og h.ok;have f:=h.jr;have c:=h.ie;have i:=h.uk;have d:=h.rv;have g:=h.prev;have b:=h.next;refine⟨by omega,by omega,by omega,by omega,by omega,by omega,λx a=>?_⟩;rcases bP.1 a with a|a
 .have:=Bp this.1 x a;omega
 .have:=Bp this.2 x a;omega
structure aoh (o:KR):Prop where
 ok:af9 o=0
 off:o.mm.qN<3
 src:bQ [] o.awg.awc=0
 jr:o.awg.awc.length<=40
 ie:bd o.awg.awc<=400
 awk:o.awk
 uk:o.awg.awf.length<=100
 rv:bd o.awg.awf<=1200
 ctx:o.awg.bU.length<=7/\o.awg.next.length<=7/\o.awg.c8.length<=3/\o.awg.cA.length<=3
def Tl{a b:KR}:MB a b=0<->a.mm.qN=b.mm.qN/\a.mm.number=b.mm.number:=by
 simp only[MB,AK,ox]
 (repeat' split)<;>omega
abbrev aog(l:List KR):Prop:=l.Pairwise λa b=>MB a b<0
def MC{α:Type}:∀{l m:List α},l.Nodup->(∀x∈l,x∈m)->l.length<=m.length
 |[],_,_,_=>fA _
 |a::l,m,hn,h=>by
  rw[gz]at hn;obtain⟨s,t,rfl⟩:=List.append_of_mem (h a (by simp))
  have:=MC (m:=s++t) hn.2 λx c=>by
   have b:=h x (by simp[c]);simp only[bP,bC]at b |-;rcases b with b|b|b
   .exact .inl b
   .subst b;exact absurd c hn.1
   .exact .inr b
  simp only[aj,ai]at this |-;omega
structure arz (M:List KR):Prop where
 gen:∀x∈M,aoh x
 off:∀x∈M,x.mm.qN≠0
 one:∀x∈M,∀y∈M,MB x y=0->x=y
 len:M.length<=10
structure Recv (M:List KR) (o:Off):Prop where
 num:o.number=0
 down:o.down=false
 sub:∀x∈o.awe,x∈M
 sort:aog o.awe
 top:∀x∈o.awe,x.mm.time<=o.awi
 clk:o.awi=0\/∃x∈o.awe,o.awi=x.mm.time
 log:o.log.length<=60008*o.awe.length
def Tm(x:KR):MB x x=0:=Tl.2 ⟨rfl,rfl⟩
def Recv.len{M:List KR}{o:Off}(h:Recv M o):o.awe.length<=M.length:=by
 refine MC ?_ h.sub;refine h.sort.imp λ{a b} tV e=>?_;subst e;rw[Tm]at tV;omega
def Recv.awk{M:List KR}{o:Off}(a:arz M)(h:Recv M o):o.awk:=by
 have d:=h.len;have c:=a.len;have e:=h.log;exact⟨λx b=>(a.gen x (h.sub x b)).awk,by omega,by omega⟩
structure OpG (x:KR):Prop where
 ok:af9 x=0
 awk:x.awk
 enc:(afp x).length<=20000
structure Arr (n:Int) (arr:List KR):Prop where
 op:∀x∈arr,OpG x
 one:arr.Pairwise λa b=>MB a b≠0
 own:∀(j:Nat) (y:KR),(arr.filter λx=>x.mm.qN==n)[j]?=some y->y.mm.number=j+1
def Arr.take{n:Int}{a:List KR}(h:Arr n a)(k:Nat):Arr n (a.take k):=by
 refine⟨λx c=>h.op x (cF c),h.one.sublist (Fi _ _),λj y b=>h.own j y ?_⟩;have e:a=a.take k++a.drop k:=(dZ k a).symm;rw[e,kG,ay (ah.1 b).1];exact b
end Go.Bt
