/- A part of a proof; the claim's last text says of what. -/
import Derived.Test.YtlakkaamfadipaaGreatDoorM16
import Derived.Test.YtlakkaamfadipaaGreatDoorM20
set_option linter.all false
open Option renaming some->N,none->Y
open Bool renaming true->A,false->Z
open List renaming length->F

namespace Go.Bt
open Go Go.Pm
variable(U:It)(X:UInt8)(l:List It)(s:aJ)(S:Int)(L:It){T R P:UInt8}{Q:aJ}
def aev:0<=(X.toNat:Int).fdiv (2^min 4 IntKind.u8.bits)/\(X.toNat:Int).fdiv (2^min 4 IntKind.u8.bits)<16 /\([48,49,50,51,52,53,54,55,56,57,97,98,99,100,101,102]:aJ).getD ((X.toNat:Int).fdiv (2^min 4 IntKind.u8.bits)).toNat 0=iT (X.toNat / 16):=by revert X;exact ib (by decide +kernel)
def aeu:0<=IntKind.u8.wrap (((BitVec.ofInt IntKind.u8.bits (X.toNat:Int) &&& BitVec.ofInt IntKind.u8.bits 15).toNat:Nat):Int)/\IntKind.u8.wrap (((BitVec.ofInt IntKind.u8.bits (X.toNat:Int) &&& BitVec.ofInt IntKind.u8.bits 15).toNat:Nat):Int)<16 /\([48,49,50,51,52,53,54,55,56,57,97,98,99,100,101,102]:aJ).getD (IntKind.u8.wrap (((BitVec.ofInt IntKind.u8.bits (X.toNat:Int) &&& BitVec.ofInt IntKind.u8.bits 15).toNat:Nat):Int)).toNat 0=iT (X.toNat % 16):=by revert X;exact ib (by decide +kernel)
def dz:aJ :=if U.ao0=1 then U.ao3.flatMap fa else if U.ao0=2 then 60::(Lib.itoa U.id++58::(U.ao3++[62]))else if U.ao0=3 then 60::47::(Lib.itoa U.id++58::(U.ao3++[62]))
 else if U.ao0=4 then 60::(Lib.itoa U.id++58::(U.ao3++[47,62]))else if U.ao0=5 then 123::(U.ao3++[125])else[]
def format:aJ×Int:=if bV l≠0 then([],bV l)else(l.flatMap dz,0)
def DZ:F (fa X)<=4:=by simp only[fa];(repeat' split)<;>simp
def ES:F (s.flatMap fa)<=4*F s:=by induction s with|nil=>simp|cons c s ih =>have:=DZ c;simp only[dR,ai,ah];omega
def Dy:∀(a pre:List It),bA pre a=0->∀x∈a,1<=x.ao0/\x.ao0<=5:=by
 intro a;induction a with
 |nil=>intro pre h x b;simp at b
 |cons y a ih =>
 intro pre h x b;simp only[bA]at h;split at h;.simp at h
 rename_i c;split at h;.simp at h
 rcases bE.1 b with rfl|b
 .simp only[bQ]at c;by_cases d:x.ao0=1;.omega
  by_cases g:x.ao0=5;.omega
  by_cases e:x.ao0=2\/x.ao0=4;.omega
  by_cases f:x.ao0=3;.omega
  simp[d,g,e,f]at c
 exact ih _ h x b
def rZ{f:List It}(h:bV f=0):∀x∈f,1<=x.ao0/\x.ao0<=5:=by
 simp only[bV]at h;split at h;.simp at h
 exact Dy f [] h
def wE(h : -9223372036854775808<=U.id/\U.id<=9223372036854775807):F (dz U)<=4*U.ao3.length+30:=by
 have a:=Lib.itoa_length_le U.id h.1 h.2;have b:=ES U.ao3;simp only[dz];split;.omega
 split;.simp;omega
 split;.simp;omega
 split;.simp;omega
 split;.simp;omega
 simp
def Cf(d:F l<2^30)(f:aR l<2^30)(b:∀x∈l,-9223372036854775808<=x.id/\x.id<=9223372036854775807):F (format l).1<2^36:=by
 have a:∀l:List It,(∀x∈l,-9223372036854775808<=x.id/\x.id<=9223372036854775807)->F (l.flatMap dz)<=4*aR l+30*F l:=by intro l;induction l with|nil=>intro _;simp|cons x l ih =>intro h;have g:=ih λy c=>h y (by simp[c]);have e:=wE x (h x (by simp));simp only[dR,ai,aR,ah];omega
 have:=a l b;simp only[format];split;.simp
 simp only;omega
def pY:∀l:aJ,-1<=Lib.indexByte l X:=by
 intro l;induction l with
 |nil=>simp[Lib.indexByte]
 |cons a l ih =>
 simp only[Lib.indexByte];split;.omega
 split<;>omega
def tc:∀{l:aJ},T ∉ l->Lib.indexByte l T = -1:=by
 intro l;induction l with
 |nil=>intro _;simp[Lib.indexByte]
 |cons a l ih =>
 intro h;have d:(a==T)=Z:=by simp only[bE,T8]at h;simpa using λe=>h.1 e.symm
 have c:=ih (λb=>h (dw _ b));simp[Lib.indexByte,d,c]
def rH{c:UInt8}{rest:aJ}:∀{pre:aJ},c ∉ pre->Lib.indexByte (pre++c::rest) c=F pre:=by
 intro pre;induction pre with
 |nil=>intro _;simp[Lib.indexByte]
 |cons a l ih =>
 intro h;have f:(a==c)=Z:=by simp only[bE,T8]at h;simpa using λe=>h.1 e.symm
 have d:=ih (λb=>h (dw _ b));simp only[bo,Lib.indexByte,f,d,aI,aQ,ah];have:((F l:Int) == -1)=Z:=by rw[cU];omega
 rw[this];simp
def oS(h:T∈Q):0<=Lib.indexByte Q T:=by
 induction Q with
 |nil=>simp at h
 |cons a Q ih =>
 have f:=pY T Q;simp only[Lib.indexByte];by_cases b:a=T;.simp[b]
 have c:(a==T)=Z:=by simpa using b
 have e:T∈Q:=by
  rcases bE.1 h with h|h;.exact absurd h.symm b
  exact h
 have g:=ih e;have d:(Lib.indexByte Q T == -1)=Z:=by simp;omega
 simp[c,d];omega
structure En where
 ao2:List It
 ao7:List It
 b6:aJ
 next:aJ
 cW:aJ
 cx:aJ
 ao9:Int
 ape:Int
def En.aoZ(e:En):ao:=[.sl 3 (e.ao2.map It.aoZ),.sl 3 (e.ao7.map It.aoZ),.s e.b6,.s e.next,.s e.cW,.s e.cx,.i .i64 e.ao9,.i .i64 e.ape]
def named:Bool:=s==[]||apb s
def mr(e:En):Bool:=!(F e.ao2==0)&&gQ (ft e.ao2 e.ao7) e.ao2&&gQ (fI e.ao2 e.ao7) e.ao7
def cJ(e:En):Int :=if bV e.ao2≠0 then bV e.ao2 else if bV e.ao7≠0 then bV e.ao7 else
 if mr e=Z then 1 else
 if(parse e.b6).2.2≠0 then(parse e.b6).2.2 else if(parse e.next).2.2≠0 then(parse e.next).2.2 else
 if(named e.cW&&named e.cx)=Z then 4 else
 if e.ao9<0\/1073741824<e.ao9\/e.ape<1\/3<e.ape then 1 else 0
structure En.apa (e:En):Prop where
 ao2:e.ao2.length<2^30
 nY:aR e.ao2<2^30
 ao7:e.ao7.length<2^30
 Mk:aR e.ao7<2^30
 b6:e.b6.length<2^30
 next:e.next.length<2^30
 ids:∀x∈e.ao2++e.ao7,-9223372036854775808<=x.id/\x.id<=9223372036854775807
def ed(e:En):aJ:=(format e.ao2).1++10::(e.b6++10::e.next)
def bf(e:En):aJ:=if cJ e≠0 then[]else ed e
structure CQ where
 jd:NM
 ao0:Int
 apc:En
 apg:bG
def CQ.aoZ(o:CQ):ao:=o.jd.aoZ++[.i .i64 o.ao0]++o.apc.aoZ++[.sl 1 (o.apg.map cg)]
structure CQ.apa (o:CQ):Prop where
 apc:o.apc.apa
 cW:o.apc.cW.length<2^30
 cx:o.apc.cx.length<2^30
 apg:o.apg.length<2^30
def asked(e:En):En:=⟨e.ao2,e.ao2,e.b6,e.next,[],[],0,1⟩
def looked(o:CQ):En:=if o.ao0≠2 then o.apc else asked o.apc
def aaQ(e:En):Bool:=F e.ao7==0&&(e.cW==[]&&(e.cx==[]&&(e.ao9==0&&e.ape==0)))
def abn(v:bG):bG:=abo v []
def XG(o:CQ):Int :=if UL o.jd=Z then 1 else
 if(o.ao0≠1/\o.ao0≠2)\/abn o.apg≠o.apg then 1 else
 if o.apg.any (λn=>decide (128<n))then 1 else
 if vAt o.apg o.jd.lR≠o.jd.number - 1 then 11 else
 if o.ao0=2/\aaQ o.apc=Z then 1 else cJ (looked o)
def OX:UInt8:=UInt8.ofNat (S % 256).toNat
def be2:aJ:=[OX (S / 256),OX S]
def be4:aJ:=be2 (S / 65536)++be2 S
def uf:aJ:=be4 (F s)++s
def W9(o:CQ):aJ :=[1,OX o.ao0]++be4 o.jd.time++[OX o.jd.lR]++be2 o.jd.number++[OX (F o.apg)]++o.apg.flatMap be2 ++uf (format o.apc.ao2).1++uf o.apc.b6++uf o.apc.next ++(if o.ao0=1 then uf (format o.apc.ao7).1++uf o.apc.cW++uf o.apc.cx++be4 o.apc.ao9++[OX o.apc.ape]else[])
def gw:aJ->aJ->Int|[],[]=>0|[],_::_ => -1|_::_,[]=>1|a::x,b::y=>if a<b then -1 else if b<a then 1 else gw x y
structure Rb where
 b:aJ
 bad:Bool
def Rb.take(r:Rb)(n:Nat):aJ×Rb :=if F r.b<n then(List.replicate (min n 4) 0,⟨[],A⟩)else(r.b.take n,⟨r.b.drop n,r.bad⟩)
def ae8:Int:=s.foldl (λa x=>a*256+x.toNat) 0
def Rb.number(r:Rb)(n:Nat):Int×Rb:=(ae8 (r.take n).1,(r.take n).2)
def Rb.ao3(r:Rb):aJ×Rb :=
 let p:=r.number 4
 if(F p.2.b:Int)<p.1 then([],⟨p.2.b,A⟩)else p.2.take p.1.toNat
def Rb.aph:Nat->Rb->bG×Rb|0,r=>([],r)|n+1,r=>let p:=r.number 2;let q:=Rb.aph n p.2;(p.1::q.1,q.2)
def pH:UInt8:=if 65<=X.toNat/\X.toNat<=90 then UInt8.ofNat (X.toNat+32)else X
def lower:aJ:=s.map pH
def zn(h1:65<=(T.toNat:Int))(a:(T.toNat:Int)<=90):((pH T).toNat:Int)=T.toNat+32:=by unfold pH;rw[aK (by omega),UInt8.toNat_ofNat'];omega
def rE(h:¬(65<=(T.toNat:Int)/\(T.toNat:Int)<=90)):pH T=T:=by unfold pH;rw[au (by omega)]
def wB:F (lower s)=F s:=by simp[lower]
def mO:Bool:=du X==4||du X==3
def DN:Bool:=du X==3
def pS:Bool:=du X==2
def iA(inner:UInt8->Bool)(b a:UInt8):aJ->Nat|[]=>0|[c]=>if inner c then 1 else 0|c::d::r=>if inner c then 1+iA inner b a (d::r)else if((c==b)||(c==a))&&inner d then 2+iA inner b a r else 0
def yl{inner:UInt8->Bool}(h:inner P=A)(r:aJ):iA inner T R (P::r)=1+iA inner T R r:=by cases r<;>simp[iA,h]
def yn{inner:UInt8->Bool}(h:inner P=Z):iA inner T R [P]=0:=by simp[iA,h]
def ym{inner:UInt8->Bool}{d:UInt8}(h:inner P=Z)(a:((P==T||P==R)&&inner d)=A)(r:aJ):iA inner T R (P::d::r)=2+iA inner T R r:=by simp only[iA,h,a,aU,aI,aQ]
def wC{inner:UInt8->Bool}{d:UInt8}(h:inner P=Z)(a:((P==T||P==R)&&inner d)=Z)(r:aJ):iA inner T R (P::d::r)=0:=by simp only[iA,h,a,aI,aQ]
def wD(inner:UInt8->Bool)(a b:UInt8):∀(l:aJ),iA inner a b l<=F l|[]=>ax _|[c]=>by simp only[iA];split<;>simp|c::d::r=>by have e:=wD inner a b (d::r);have f:=wD inner a b r;simp only[iA,ah]at *;(repeat' split)<;>omega
def gS:aJ->Nat|[]=>0|c::r=>if pS c then 1+gS r else 0
def E1:∀(l:aJ),gS l<=F l|[]=>ax _|c::r=>by have:=E1 r;simp only[gS,ah];split<;>omega
def eG:aJ->Int×Nat|[]=>(9,1)|c::r=>if du c=4 then(6,1+iA mO 39 45 r)else if du c=3 then(7,1+iA DN 46 44 r)else if du c=2 then(8,1+gS r)else(9,1)
def nH:1<=(eG s).2:=by cases s with|nil=>simp[eG]|cons c r=>simp only[eG];(repeat' split)<;>simp
def BI(h:Q≠[]):(eG Q).2<=F Q:=by cases Q with|nil=>exact absurd rfl h|cons c r =>have a:=wD mO 39 45 r;have d:=wD DN 46 44 r;have b:=E1 r;simp only[eG,ah];(repeat' split)<;>simp only<;>omega
def Ab:Nat->aJ->List It|0,_=>[]|_+1,[]=>[]|n+1,c::r=>⟨(eG (c::r)).1,(c::r).take (eG (c::r)).2,0⟩::Ab n ((c::r).drop (eG (c::r)).2)
def jI:List It:=Ab (F s) s
def EU:∀(n m:Nat) (s:aJ),F s<=n->F s<=m->Ab n s=Ab m s|n,m,[],_,_=>by cases n<;>cases m<;>rfl|0,_,c::r,h,_=>by simp at h|_,0,c::r,_,h=>by simp at h|n+1,m+1,c::r,h1,h2=>by have a:=nH (c::r);simp only[Ab];rw[EU n m _ (by simp only[bY,ah]at *;omega) (by simp only[bY,ah]at *;omega)]
def zz(h:Q≠[]):jI Q=⟨(eG Q).1,Q.take (eG Q).2,0⟩::jI (Q.drop (eG Q).2):=by cases Q with|nil=>exact absurd rfl h|cons c r =>have a:=nH (c::r);simp only[jI,ah,Ab];rw[EU (F r) _ _ (by simp only[bY,ah];omega) (ax _)]
def vn:∀(n:Nat) (s:aJ),F (Ab n s)<=F s|0,s=>by simp[Ab]|n+1,[]=>by simp[Ab]|n+1,c::r=>by have a:=nH (c::r);have:=vn n ((c::r).drop (eG (c::r)).2);simp only[Ab,ah,bY]at *;omega
def lA:List It:=if U.ao0=2\/U.ao0=3\/U.ao0=4\/U.ao0=5 then[U]else if U.ao0=1 then jI U.ao3 else[]
def cR:List It:=l.flatMap lA
def sI(pre a:List It):aR a<=aR (pre++a):=by induction pre with|nil=>exact ax _|cons y pre ih=>simp only[bo,aR];omega
def xK:F (lA U)<=1+U.ao3.length:=by unfold lA;have:=vn U.ao3.length U.ao3;simp only[jI]at *;(repeat' split)<;>simp<;>omega
def weight:Int:=if U.ao0=6\/U.ao0=5 then 4 else if U.ao0=7\/U.ao0=2\/U.ao0=3\/U.ao0=4 then 3 else if U.ao0=9 then 2 else if U.ao0=8 then 1 else 0
def ic:Int:=(l.map weight).sum
def lJ:Bool:=U.ao0==L.ao0&&U.ao3==L.ao3
def eQ:aJ:=if U.ao0=6 then lower U.ao3 else U.ao3
def mP:0<=weight U/\weight U<=4:=by unfold weight;(repeat' split)<;>omega
def vN:0<=ic l/\ic l<=4*F l:=by induction l with|nil=>simp[ic]|cons x l ih =>have:=mP x;simp only[ic,aC,ca,ah]at *;omega
def single:Int:=if bW U then 1 else weight U
def er:uA :=if lJ U L then N 0 else if U.ao0≠L.ao0 then Y
 else if U.ao0=6 then(if eQ U==eQ L then N 1 else N (weight U))
 else if U.ao0=7\/U.ao0=8\/U.ao0=9\/U.ao0=5 then N (weight U)else Y
def eV:0<=single U/\single U<=4:=by have:=mP U;unfold single;split<;>omega
def qR{a b:It}{c:Int}(h:er a b=N c):0<=c/\c<=4:=by have:=mP a;unfold er at h;(repeat' split at h)<;>simp at h<;>omega
def eZ:V:=.i .i64 S
section
variable {α:Type} [DecidableEq α] {kd:Nat} {ke:α->V}
def tz(p:∀a b,cA kd (ke a) (ke b)=N (decide (a=b)))(C:List (α×Int))(a:α): (bZ a C=Y/\eL kd (ke a) (emap ke eZ C) 0=N Y/\(∀z,eL kd (ke a) (emap ke eZ C++[(ke a,z)]) 0=N (N (F (emap ke eZ C),z))) /\(∀z,(emap ke eZ C++[(ke a,z)])[F (emap ke eZ C)]?=N (ke a,z))/\∀z v,(emap ke eZ C++[(ke a,z)]).set (F (emap ke eZ C)) (ke a,.i .i64 v)=emap ke eZ (fZ C a v)) \/(∃i b,bZ a C=N b/\eL kd (ke a) (emap ke eZ C) 0=N (N (i,.i .i64 b))/\(emap ke eZ C)[i]?=N (ke a,.i .i64 b)/\∀v,(emap ke eZ C).set i (ke a,.i .i64 v)=emap ke eZ (fZ C a v)):=by
 rcases ka (ve:=eZ) p C a with⟨g,f,m⟩|⟨i,b,g,f,m⟩
 .refine .inl ⟨g,f,λz=>?_,λz=>by simp,λz v=>?_⟩
  .have d:∀(c:List (V×V)) (n:Nat),eL kd (ke a) c n=N Y->eL kd (ke a) (c++[(ke a,z)]) n=N (N (n+F c,z)):=by
    intro c;induction c with
    |nil=>intro n _;simp[eL,p]
    |cons e c ih =>
    intro n h;simp only[eL,bo]at h |-;split at h;.simp at h
    .rw[ih _ h];simp;omega
    simp at h
   simpa using d _ 0 f
  rw[<- m v,b8 _ _ (ax _)];simp[eZ]
 refine .inr ⟨i,b,g,f,?_,m⟩;have d:∀(c:List (V×V)) (n:Nat) (r:Nat) (y:V),eL kd (ke a) c n=N (N (r,y))->∃j k,r=n+j/\c[j]?=N (k,y)/\cA kd (ke a) k=N A:=by
  intro c;induction c with
  |nil=>intro n r y h;simp[eL]at h
  |cons e c ih =>
  intro n r y h;obtain⟨k,x⟩:=e;simp only[eL]at h;split at h;.rename_i s;simp only[aa,aB]at h;exact⟨0,k,by omega,by simp[h.2],s⟩
  .obtain⟨j,t,q,l,o⟩:=ih _ _ _ h;exact⟨j+1,t,by omega,by simpa using l,o⟩
  simp at h
 obtain⟨j,k,q,l,o⟩:=d _ 0 i _ f;have:i=j:=by omega
 subst this;rw[l,sO o];rfl
def bump(C:List (α×Int))(a:α)(d:Int):List (α×Int):=fZ C a ((bZ a C).getD 0+d)
def qO(C:List (α×Int))(a:α)(d:Int)(x:α):(bZ x (bump C a d)).getD 0=(bZ x C).getD 0+if x=a then d else 0:=by
 unfold bump;rw[gf];split;.rename_i h;subst h;rfl
 simp
def kb(C:List (α×Int)):Int:=(C.map λp=>max p.2 (-p.2)).sum
end
variable(l:List It)(m:List It)(U:It)(T:Nat)(R:bG)(K:uA)(J:bG)(d:Int)(S:Nat->Int)(v:Int)(k:Nat)(P:It){M Q:Int}{L:It}{X B:List It}{i j:Nat}{H:cy}
abbrev TK:=Int×aJ
variable{C:List (TK×Int)}
def iv(k:TK):V:=.agg [.i .i64 k.1,.s k.2,.i .i64 0]
def eI:TK:=(U.ao0,U.ao3)
def u0(a b:TK):cA 5 (iv a) (iv b)=N (decide (a=b)):=by obtain⟨k,t⟩:=a;obtain⟨l,s⟩:=b;simp only[cA,iv,HB,lu,aU,aa];rw[dL];simp
def ga(d:Int)(C:List (TK×Int)):List It->List (TK×Int)|[]=>C|t::r=>ga d (if bW t then bump C (eI t) d else C) r
def rj:List (TK×Int):=ga (-1) (ga 1 [] l) m
def jS:Int:=2*kb (rj l m)
def CB(C:List (TK×Int)):Prop:=F C<=T/\∀k v,bZ k C=N v -> -(T:Int)<=v/\v<=T
def CB.nil:CB 0 []:=⟨ax _,λk v h=>by simp[bZ,eO]at h⟩
def CB.mono(h:CB i C)(a:i<=j):CB j C:=⟨bX h.1 a,λk v b=>by have:=h.2 k v b;omega⟩
def CB.getD(h:CB i C)(k:TK): -(i:Int)<=(bZ k C).getD 0/\(bZ k C).getD 0<=i:=by cases a:bZ k C with|none=>simp|some v=>exact h.2 k v a
def CB.bump(h:CB i C)(a:TK)(d:Int)(e : -1<=d/\d<=1):CB (i+1) (Bt.bump C a d):=by
 refine⟨bX (Hv _ _ _) (by have:=h.1;omega),λk v b=>?_⟩;unfold Bt.bump at b;rw[gf]at b;have c:=h.getD a;split at b;.simp only[aa]at b;omega
 have:=h.2 k v b;omega
def jM{α:Type}(C:List (α×Int)):Prop:=(C.map (·.1)).Nodup
def IP{α:Type}[DecidableEq α](C:List (α×Int))(a:α)(b:Int):(fZ C a b).map (·.1)=if a∈C.map (·.1)then C.map (·.1)else C.map (·.1)++[a]:=by
 induction C with
 |nil=>simp[fZ]
 |cons p C ih =>
 simp only[fZ];split;.rename_i h;subst h;simp
 rename_i h;simp only[aC,ih];by_cases c:a∈C.map (·.1);.rw[aK c,aK (dw _ c)]
 rw[au c,au (by simp only[bE];rintro(d|d);exact h d;exact c d)];rfl
def jM.r7{α:Type}[DecidableEq α]{C:List (α×Int)}(h:jM C)(a:α)(b:Int):jM (fZ C a b):=by
 unfold jM at *;rw[IP];split;.exact h
 rename_i d;rw[fp];exact⟨h,by simp,by simp;intro x y c;rintro rfl;exact d (br.2 ⟨_,c,rfl⟩)⟩
def l5{α:Type}[DecidableEq α]{C:List (α×Int)}(h:jM C){p:α×Int}(a:p∈C):bZ p.1 C=N p.2:=by
 induction C with
 |nil=>simp at a
 |cons q C ih =>
 unfold jM at h;simp only[aC,eu]at h;rw[jj];rcases bE.1 a with rfl|a;.simp
 have:p.1≠q.1:=λe=>h.1 (e▸br.2 ⟨p,a,rfl⟩);rw[au this];exact ih h.2 a
def jM.count:∀(l:List It) {C:List (TK×Int)},jM C->jM (ga d C l)
 |[],_,h=>h
 |t::r,C,h=>by
  simp only[ga];split;.exact jM.count r (h.r7 _ _)
  exact jM.count r h
def CB.count(a : -1<=d/\d<=1):∀(l:List It) {n:Nat} {C:List (TK×Int)},CB n C->CB (n+F l) (ga d C l)
 |[],_,_,h=>h
 |t::r,n,C,h=>by
  simp only[ga,ah];split;.have:=CB.count a r (h.bump (eI t) d a);exact this.mono (by omega)
  have:=CB.count a r h;exact this.mono (by omega)
def r9(a:cy):Int:=(a.map S).sum
def Fg(b:H.Nodup)(c:i∈H):r9 S H=S i+r9 S (H.filter λa=>a != i):=by
 induction H with
 |nil=>simp at c
 |cons p H ih =>
 simp only[eu]at b;by_cases h:p=i
 .subst h;have:(p::H).filter (λa=>a != p)=H:=by simp only[dS,Ql,aI,aQ];rw[lj];intro x g;simp only[nq,fJ];rintro rfl;exact b.1 g
  rw[this];simp[r9]
 have f:i∈H:=by rcases bE.1 c with rfl|d;exact absurd rfl h;exact d
 have:=ih b.2 f;have e:(p::H).filter (λa=>a != i)=p::H.filter (λa=>a != i):=by rw[jv (by simpa using h)]
 rw[e];simp only[r9,aC,ca]at this |-;omega
def HL{β:Type}(g:β->Int)(l:List β)(a:β):r9 (λi=>g (l.getD i a)) (List.range (F l))=(l.map g).sum:=by
 have:(List.range (F l)).map (λi=>g (l.getD i a))=l.map g:=by
  apply List.ext_getElem;.simp
  intro i b c;simp at b;simp[aq,b]
 rw[r9,this]
def Ff(b:∀i,0<=S i)(a:cy):0<=r9 S a:=by induction a with|nil=>simp[r9]|cons p a ih =>have:=b p;simp only[r9,aC,ca]at ih |-;omega
def ug{α β:Type}{ke:α->V}{ve:β->V}(C:List (α×β))(d:α×β)(h:i<F C):(emap ke ve C)[i]?=N (ke (C.getD i d).1,ve (C.getD i d).2):=by simp[emap,aq,h]
def wU{β:Type}{C:List β}{d:β}(h:i<F C):C.getD i d∈C:=by rw[aq,an h];exact cS h
def E5{C:List (TK×Int)}(c:CB i C)(g:jM C):0<=kb C/\kb C<=(i:Int)*F C:=by
 have a:∀D:List (TK×Int),(∀p∈D,-(i:Int)<=p.2/\p.2<=i)->0<=kb D/\kb D<=(i:Int)*F D:=by
  intro D;induction D with
  |nil=>intro _;simp[kb]
  |cons p D ih =>
  intro h;have f:=ih λq d=>h q (dw _ d);have j:=h p (by simp);have e:(i:Int)*((F D+1:Nat):Int)=(i:Int)*(F D:Int)+i:=by rw[tK,jK];simp
  simp only[kb,aC,ca,ah]at f |-;rw[e];omega
 exact a C λp b=>c.2 p.1 p.2 (l5 g b)
def HH{α:Type}(C:List (α×Int)):(C.map λp=>2*max p.2 (-p.2)).sum=2*kb C:=by induction C with|nil=>rfl|cons p C ih =>simp only[kb,aC,ca]at ih |-;rw[ih];omega
def nh(b:i∈H):F (H.filter λa=>a != i)<F H :=E8.2 ⟨i,b,by simp⟩
def mn:Int:=if v<d then v else d
def oZ(a left b:Int):Int:=match er U P with|some c=>mn (mn (b+single U) (left+single P)) (a+c)|none=>mn (b+single U) (left+single P)
def jD(t:It):Int->Int->List It->bG->bG|diag,left,u::b,up::a=>oZ t u diag left up::jD t up (oZ t u diag left up) b a|_,_,_,a=>a
def iG(b:List It):bG->bG|x::old=>(x+single U)::jD U x (x+single U) b old|[]=>[]
def lL(a:Int):List It->bG|[]=>[]|t::r=>(a+single t)::lL (a+single t) r
def vY:bG:=0::lL 0 l
def Bc:bG:=l.foldl (λrow t=>iG t m row) (vY m)
def iM:Int:=(Bc l m).getD (F m) 0+jS l m
def BR(a:bG):Prop:=∀x∈a,0<=x/\x<=d
def yV(t:It):∀(b:List It) (a:bG) (d l:Int),F (jD t d l b a)=F a|[],a,_,_=>by simp[jD]|u::b,[],_,_=>by simp[jD]|u::b,up::a,d,l=>by simp[jD,yV t b a]
def zh(b:List It)(a:bG):F (iG U b a)=F a:=by cases a<;>simp[iG,yV]
def za:∀(b:List It) (a:Int),F (lL a b)=F b|[],_=>rfl|t::r,a=>by simp[lL,za r]
def HX:F (vY l)=F l+1:=by simp[vY,za]
def zG{t u:It}{b a:Int}(e:0<=M/\M<=a)(f:0<=Q/\Q<=a+4)(i:0<=b/\b<=a):0<=oZ t u M Q b/\oZ t u M Q b<=a+4:=by
 have h:=eV t;have g:=eV u;unfold oZ mn;split;.rename_i c d;have:=qR d;(repeat' split)<;>omega
 split<;>omega
def BR.step{t:It}:∀(b:List It) (a:bG) (d l:Int),BR M a->0<=d/\d<=M->0<=l/\l<=M+4->BR (M+4) (jD t d l b a)
 |[],a,d,l,ho,_,_=>λx c=>by have:=ho x (by simpa[jD]using c);omega
 |u::b,[],d,l,ho,_,_=>λx c=>by simp[jD]at c
 |u::b,up::a,d,l,ho,hd,hl=>λx c=>by
  have e:=ho up (by simp);have f:=zG (t:=t) (u:=u) hd hl e;simp only[jD,bE]at c;rcases c with rfl|c;.exact f
  exact BR.step b a up _ (λy g=>ho y (by simp[g])) e f x c
def BR.new{c:bG}(h:BR M c):BR (M+4) (iG L l c):=by
 cases c with
 |nil=>intro x a;simp[iG]at a
 |cons y b =>
 have d:=h y (by simp);have f:=eV L;intro x a;simp only[iG,bE]at a;rcases a with rfl|a;.omega
 exact BR.step l b y _ (λz e=>h z (by simp[e])) d (by omega) x a
def BR.pre:∀(b:List It) (a:Int),0<=a->BR (a+4*F b) (lL a b)
 |[],a,_=>λx c=>by simp[lL]at c
 |t::r,a,ha=>λx c=>by
  have d:=eV t;simp only[lL,bE,ah]at c |-;rcases c with rfl|c;.omega
  have:=BR.pre r (a+single t) (by omega) x c;omega
def BR.vY(b:List It):BR (4*F b) (vY b):=λx a=>by
 simp only[Bt.vY,bE]at a;rcases a with rfl|a;.omega
 have:=BR.pre b 0 (by omega) x a;omega
def uQ(b:List It):∀(a:List It) (row:bG) (M:Int),BR M row->BR (M+4*F a) (a.foldl (λrow t=>iG t b row) row)/\F (a.foldl (λrow t=>iG t b row) row)=F row|[],row,M,h=>⟨by simpa using h,rfl⟩|t::a,row,M,h=>by have:=uQ b a (iG t b row) (M+4) (h.new b);simp only[dK,ah];refine⟨λx c=>?_,by rw[this.2,zh]⟩;have:=this.1 x c;omega
def HV:BR (4*F m+4*F l) (Bc l m)/\F (Bc l m)=F m+1:=by have:=uQ m l (vY m) _ (BR.vY m);exact⟨this.1,by rw[Bc,this.2,HX]⟩
def BU:((R++d::J).map cg).set (F R) [.i .i64 v]=(R++v::J).map cg:=by rw[cF,b8 _ _ (by simp)];simp[cg]
def Av:gp ((R++d::J).map cg) (F R) 0=N (.i .i64 d):=by simp[gp,cg]
def yr:((R++d::J).map cg).getD (F R) []=[.i .i64 d]:=by simp[aq,cg]
structure Qr where
 ao2:List It
 b6:aJ
 next:aJ
 now:Int
 threshold:Int
 oc:Int
def Qr.aoZ(q:Qr):ao:=[.sl 3 (q.ao2.map It.aoZ),.s q.b6,.s q.next,.i .i64 q.now,.i .i64 q.threshold,.i .i64 q.oc]
structure Pn where
 ape:Int
 cW:aJ
 cx:aJ
 fw:Int
 points:Int
def Pn.aoZ(p:Pn):ao:=[.i .i64 p.ape,.s p.cW,.s p.cx,.i .i64 p.fw,.i .i64 p.points]
structure Mt where
 apc:Int
 pD:Int
 context:Int
 points:Int
 score:Int
def Mt.aoZ(m:Mt):ao:=[.i .i64 m.apc,.i .i64 m.pD,.i .i64 m.context,.i .i64 m.points,.i .i64 m.score]
def mx:Int:=if d<v then v else d
def gZ:Int:=mx (ic l) (ic m)
def dm:Int:=if gZ l m=0 then 100 else(100*mx (gZ l m - iM l m) 0).tdiv (gZ l m)
def ET(a b:aJ):Bool:=a != []&&a==b
def iC(e:En)(q:Qr):Int:=(if ET e.b6 q.b6 then 1 else 0)+if ET e.next q.next then 1 else 0
def pW(p:Pn):Int :=if p.ape<0\/3<p.ape\/p.fw<0\/1073741824<p.fw\/p.points<0\/100<p.points then 1
 else if(named p.cW&&named p.cx)=Z then 4 else 0
def mY:List Pn->Int|[]=>0|p::r=>if pW p≠0 then pW p else mY r
def qA(l:List Pn):Int:=if(16:Int)<F l then 3 else mY l
def lG(p:Pn)(e:En)(a:Int):Bool :=if p.ape != 0&&p.ape != e.ape then Z
 else if(p.cW != []&&p.cW != e.cW)||(p.cx != []&&p.cx != e.cx)then Z
 else decide (p.fw<=0)||decide (p.fw<=a - e.ao9)
def mg(e:En)(a:Int):Int->List Pn->Int|s,[]=>s|s,p::r=>mg e a (if decide (0<p.points)&&lG p e a then mn (s+mn p.points 100) 100 else s) r
def jm(l:List Pn)(e:En)(a:Int):Int:=mg e a 0 l
def ig(e:En)(a b:List It)(l:List Pn)(q:Qr):Mt :=
 let p:=dm a b;let s:=jm l e q.now;let c:=if p=100 then iC e q else 0
 ⟨0,p,c,s,mx (p+c - s) 0⟩
def oH(e:En)(l:List Pn)(q:Qr):Mt:=ig e (cR e.ao2) (cR q.ao2) l q
def fb(q:Qr):Int :=if bV q.ao2≠0 then bV q.ao2 else
 if F q.ao2=0 then 1 else
 if(parse q.b6).2.2≠0 then(parse q.b6).2.2 else if(parse q.next).2.2≠0 then(parse q.next).2.2 else
 if q.now<0\/1073741824<q.now\/q.threshold<1\/102<q.threshold\/q.oc<1\/100<q.oc then 1 else 0
def xq:0<=gZ l m/\gZ l m<=4*F l+4*F m:=by have:=vN l;have:=vN m;unfold gZ mx;split<;>omega
def s3(c:0<=iM l m):0<=dm l m/\dm l m<=100:=by
 have b:=(xq l m).1;unfold dm;split;.omega
 have a:0<=100*mx (gZ l m - iM l m) 0/\100*mx (gZ l m - iM l m) 0<=100*gZ l m:=by unfold mx;split<;>omega
 rw[ey a.1];exact⟨tL a.1 b,Int.ediv_le_of_le_mul (by omega) a.2⟩
def zC(e:En)(q:Qr):0<=iC e q/\iC e q<=2:=by unfold iC;(repeat' split)<;>omega
def rA(e:En)(a:Int):∀(l:List Pn) (s:Int),0<=s/\s<=100->0<=mg e a s l/\mg e a s l<=100
 |[],s,h=>h
 |p::r,s,h=>by
  unfold mg;refine rA e a r _ ?_;split;.rename_i b;simp only[aP,a7]at b;unfold mn;(repeat' split)<;>omega
  exact h
def dh:List It->It->Int|[],_=>0|x::l,t=>(if lJ x t then 1 else 0)+dh l t
def AR:dh (l++m) U=dh l U+dh m U:=by induction l with|nil=>simp[dh]|cons x l ih=>simp only[bo,dh,ih];omega
def mR:0<=dh l U/\dh l U<=F l:=by induction l with|nil=>simp[dh]|cons x l ih=>simp only[dh,ah];split<;>omega
def l8:Int :=
 let a:=match K with
  |some a=>if d<a then d else a
  |none=>d
 if v<a then v else a
def tv:List It->List It->Int|[],[]=>0|[],u::b=>single u+tv [] b|x::a,[]=>single x+tv a []|x::a,u::b=>l8 ((er x u).map (·+tv a b)) (single x+tv a (u::b)) (single u+tv (x::a) b)
def yS:∀(a b:List It),0<=tv a b/\tv a b<=4*F a+4*F b
 |[],[]=>by simp[tv]
 |[],u::b=>by have:=yS [] b;have:=eV u;simp only[tv,ah,az]at *;omega
 |x::a,[]=>by have:=yS a [];have:=eV x;simp only[tv,ah,az]at *;omega
 |x::a,u::b=>by have f:=yS a b;have e:=yS a (u::b);have g:=yS (x::a) b;have:=eV x;have:=eV u;simp only[tv,ah,az]at *;cases d:er x u with|none =>simp only[iF,l8];split<;>omega|some c =>have:=qR d;simp only[b5,l8];(repeat' split)<;>omega
def mb:Int:=tv (l.drop T) (m.drop k)
def QZ:0<=mb l m T k/\mb l m T k<=4*F l+4*F m:=by have:=yS (l.drop T) (m.drop k);simp only[mb,bY]at *;omega
def HW:bG:=(List.range' k (F m+1 - k)).map (mb l m T)
def gH:bG:=List.replicate k 0++HW l m T k
def Ri:F (HW l m T k)=F m+1 - k:=by simp[HW]
def xX(a:k<=F m+1):F (gH l m T k)=F m+1:=by simp[gH,Ri];omega
def ON{k:Nat}(h:j<=k)(a:k<=F B):(gH X B i j)[k]?=N (mb X B i k):=by unfold gH HW;rw[aD (by simp;omega)];simp only[qY,bu];rw[List.getElem?_range' (by omega)];simp;congr 1;omega
def s4{a b:List It}{i j k:Nat}(h:j<=k)(c:k<=F b):gp ((gH a b i j).map cg) k 0=N (.i .i64 (mb a b i k)):=by simp[gp,ON h c,cg]
def KP{a b:List It}{i j:Nat}(h:j<=F b):((gH a b i (j+1)).map cg).getD j []=[.i .i64 0]:=by unfold gH;simp[aq,aj,pn,cg]
def Oq(h:j<=F B):HW X B i j=mb X B i j::HW X B i (j+1):=by
 unfold HW;have:F B+1 - j=(F B+1 - (j+1))+1:=by omega
 rw[this,List.range'_succ];rfl
def OM(h:j<=F B):(gH X B i (j+1)).set j (mb X B i j)=gH X B i j:=by unfold gH;rw[Oq h,List.replicate_succ',aS,b8 _ _ (by simp)];simp
def Il:gH l m T (F m+1)=List.replicate (F m+1) 0:=by simp[gH,HW]
def YE:mb l m (F l) (F m)=0:=by simp[mb,tv]
def YD(a:B[i]?=N L):mb X B (F X) i=single L+mb X B (F X) (i+1):=by obtain⟨h,rfl⟩:=ab.1 a;unfold mb;rw[cX h];simp only[nN,tv]
def UK(a:X[i]?=N L):mb X B i (F B)=single L+mb X B (i+1) (F B):=by obtain⟨h,rfl⟩:=ab.1 a;unfold mb;rw[cX h];simp only[nN,tv]
def YC{u:It}(c:X[i]?=N L)(a:B[j]?=N u): mb X B i j=l8 ((er L u).map (·+mb X B (i+1) (j+1))) (single L+mb X B (i+1) j) (single u+mb X B i (j+1)):=by obtain⟨h,rfl⟩:=ab.1 c;obtain⟨b,rfl⟩:=ab.1 a;unfold mb;rw[cX h,cX b];simp only[tv]
def mz:Int:=if d < -d then -d else d
def pR(a b:List It):List It->List It->Int|_,[]=>0|pre,t::r=>(if bW t&&dh pre t==0 then mz (dh a t - dh b t)else 0)+pR a b (pre++[t]) r
def rk(a b:List It):List It->List It->Int|_,[]=>0|pre,t::r=>(if(bW t&&dh pre t==0)&&dh a t==0 then dh b t else 0)+rk a b (pre++[t]) r
def po:Int:=pR l m [] l+rk l m [] m
def NL{d:Int}{n:Int}(h : -n<=d/\d<=n):0<=mz d/\mz d<=n:=by unfold mz;split<;>omega
def Ao(a b:List It):∀(c pre:List It),0<=pR a b pre c/\pR a b pre c<=F c*((F a:Int)+F b)
 |[],_=>by simp[pR]
 |t::r,pre=>by
  have h:=Ao a b r (pre++[t]);have g:=mR a t;have f:=mR b t;have i:=NL (d:=dh a t - dh b t) (n:=(F a:Int)+F b) (by omega);have e:((F (t::r):Nat):Int)*((F a:Int)+F b)=F r*((F a:Int)+F b)+((F a:Int)+F b):=by simp only[ah,tK,Ux];omega
  rw[e];simp only[pR];split<;>omega
def An(a b:List It):∀(c pre:List It),0<=rk a b pre c/\rk a b pre c<=F c*((F a:Int)+F b)
 |[],_=>by simp[rk]
 |t::r,pre=>by
  have h:=An a b r (pre++[t]);have d:=mR b t;have e:((F (t::r):Nat):Int)*((F a:Int)+F b)=F r*((F a:Int)+F b)+((F a:Int)+F b):=by simp only[ah,tK,Ux];omega
  rw[e];simp only[rk];split<;>omega
def dd{α:Type}(f:α->Int)(l:List α):Int:=(l.map f).sum
def xN{α:Type}(f:α->Int){l a:List α}(h:l.Perm a):dd f l=dd f a:=by induction h with|nil=>rfl|cons x _ ih=>simp only[dd,aC,ca]at ih |-;omega|swap x y l=>simp only[dd,aC,ca];omega|trans _ _ c b=>exact c.trans b
def Q2{α:Type}(f:α->Int)(l a:List α):dd f (l++a)=dd f l+dd f a:=by simp[dd]
def eK{α:Type}{f g:α->Int}{l:List α}(h:∀x∈l,f x=g x):dd f l=dd g l:=by induction l with|nil=>rfl|cons x l ih =>have c:=h x (by simp);have b:=ih λy a=>h y (by simp[a]);simp only[dd,aC,ca]at b |-;omega
def iH(k:TK):List It->Int|[]=>0|x::l=>(if eI x=k then 1 else 0)+iH k l
def sP:lJ U P=A<->eI U=eI P:=by simp[lJ,eI]
def oE:dh l U=iH (eI U) l:=by
 induction l with
 |nil=>rfl
 |cons x l ih =>
 simp only[dh,iH,ih];by_cases h:eI x=eI U;.rw[aK ((sP x U).2 h),aK h]
 rw[au (λa=>h ((sP x U).1 a)),au h]
def pO(k:TK)(l:List It):0<=iH k l:=by induction l with|nil=>exact cP _|cons x l ih=>simp only[iH];split<;>omega
def xh(k:TK)(l m:List It):iH k (l++m)=iH k l+iH k m:=by induction l with|nil=>simp[iH]|cons x l ih=>simp only[bo,iH,ih];omega
def lQ(k:TK):Bool:=k.1==2||k.1==3||k.1==4
def ua:bW U=lQ (eI U):=rfl
def J3:List It->List It->List TK|_,[]=>[]|pre,t::r=>if bW t&&dh pre t==0 then eI t::J3 (pre++[t]) r else J3 (pre++[t]) r
def J5(a:List It):List It->List It->List TK|_,[]=>[]|pre,t::r=>if(bW t&&dh pre t==0)&&dh a t==0 then eI t::J5 a (pre++[t]) r else J5 a (pre++[t]) r
def Ec(a b:List It):∀(c pre:List It),pR a b pre c=dd (λk=>mz (iH k a - iH k b)) (J3 pre c)
 |[],_=>rfl
 |t::r,pre=>by
  have ih:=Ec a b r (pre++[t]);simp only[pR,J3];split;.simp only[dd,aC,ca]at ih |-;rw[ih,oE,oE]
  rw[ih,fm]
def Eb(a b:List It):∀(c pre:List It),rk a b pre c=dd (λk=>iH k b) (J5 a pre c)
 |[],_=>rfl
 |t::r,pre=>by
  have ih:=Eb a b r (pre++[t]);simp only[rk,J5];split;.simp only[dd,aC,ca]at ih |-;rw[ih,oE]
  rw[ih,fm]
def pF(k:TK):∀(a pre:List It),k∈J3 pre a<->lQ k=A/\iH k pre=0/\iH k a≠0
 |[],pre=>by simp[J3,iH]
 |t::r,pre=>by
  have ih:=pF k r (pre++[t]);have j:=pO k r;have i:=pO k pre;simp only[J3,ua,oE];rw[xh]at ih;have e:iH k [t]=if eI t=k then 1 else 0:=by simp[iH]
  rw[e]at ih;by_cases c:eI t=k
  .subst c;simp only[aU]at ih;have d:¬eI t∈J3 (pre++[t]) r:=λh=>by have:=(ih.1 h).2.1;omega
   simp only[iH,aU];split;.rename_i b;simp only[aP,b9]at b;simp only[bE,Ho,true_iff];exact⟨b.1,b.2,by omega⟩
   rename_i b;simp only[aP,b9]at b;simp only[d,T9];rintro⟨g,f,_⟩;exact b ⟨g,f⟩
  simp only[c,aQ,uz]at ih;simp only[iH,c,aQ,fm];split
  .rw[bE,ih];constructor
   .rintro(h|h);.exact absurd h.symm c
    exact h
   exact .inr
  exact ih
def yb:∀(a pre:List It),(J3 pre a).Nodup
 |[],_=>kg
 |t::r,pre=>by
  have ih:=yb r (pre++[t]);simp only[J3];split;.refine eu.2 ⟨λh=>?_,ih⟩;have:=((pF _ _ _).1 h).2.1;rw[xh]at this;have b:=pO (eI t) pre;simp[iH]at this;omega
  exact ih
def od(a:List It)(k:TK):∀(b pre:List It),k∈J5 a pre b<->lQ k=A/\iH k pre=0/\iH k a=0/\iH k b≠0
 |[],pre=>by simp[J5,iH]
 |t::r,pre=>by
  have ih:=od a k r (pre++[t]);have m:=pO k r;have l:=pO k pre;simp only[J5,ua,oE];rw[xh]at ih;have e:iH k [t]=if eI t=k then 1 else 0:=by simp[iH]
  rw[e]at ih;by_cases d:eI t=k
  .subst d;simp only[aU]at ih;have f:¬eI t∈J5 a (pre++[t]) r:=λh=>by have:=(ih.1 h).2.1;omega
   simp only[iH,aU];split;.rename_i c;simp only[aP,b9]at c;simp only[bE,Ho,true_iff];exact⟨c.1.1,c.1.2,c.2,by omega⟩
   rename_i c;simp only[aP,b9]at c;simp only[f,T9];rintro⟨j,g,i,_⟩;exact c ⟨⟨j,g⟩,i⟩
  simp only[d,aQ,uz]at ih;simp only[iH,d,aQ,fm];split
  .rw[bE,ih];constructor
   .rintro(h|h);.exact absurd h.symm d
    exact h
   exact .inr
  exact ih
def yc(a:List It):∀(b pre:List It),(J5 a pre b).Nodup
 |[],_=>kg
 |t::r,pre=>by
  have ih:=yc a r (pre++[t]);simp only[J5];split;.refine eu.2 ⟨λh=>?_,ih⟩;have:=((od _ _ _ _).1 h).2.1;rw[xh]at this;have c:=pO (eI t) pre;simp[iH]at this;omega
  exact ih
def Ea:po l m=dd (λk=>mz (iH k l - iH k m)) (J3 [] l++J5 l [] m):=by rw[Q2,po,Ec,Eb];congr 1;refine eK λk b=>?_;have a:=((od _ _ _ _).1 b).2.2.1;have c:=pO k m;rw[a];unfold mz;split<;>omega
def JR(h:jM C):kb C=dd (λk=>mz ((bZ k C).getD 0)) (C.map (·.1)):=by
 have e:dd (λk=>mz ((bZ k C).getD 0)) (C.map (·.1))=(C.map λp=>mz ((bZ p.1 C).getD 0)).sum:=by simp only[dd,im];rfl
 rw[e];unfold kb;congr 1;refine di λp a=>?_;rw[l5 h a];unfold mz;simp only[gM];split<;>omega
def vq(d:Int)(k:TK):∀(l:List It) (C:List (TK×Int)),(bZ k (ga d C l)).getD 0=(bZ k C).getD 0+d*(if lQ k then iH k l else 0)
 |[],C=>by simp[ga,iH]
 |t::r,C=>by
  have ih:=vq d k r (if bW t then bump C (eI t) d else C);simp only[ga];rw[ih];rw[ua];by_cases a:eI t=k
  .subst a;by_cases b:lQ (eI t)=A;.simp only[b,aU,qO,iH,jK];omega
   simp only[b,aI,aQ]
  split;.rw[qO,au (λh=>a h.symm)];simp only[iH,a,aQ,fm,uz]
  simp only[iH,a,aQ,fm]
def vp(d:Int)(k:TK):∀(l:List It) (C:List (TK×Int)),k∈(ga d C l).map (·.1)<->k∈C.map (·.1)\/(lQ k=A/\iH k l≠0)
 |[],C=>by simp[ga,iH]
 |t::r,C=>by
  have ih:=vp d k r (if bW t then bump C (eI t) d else C);have e:=pO k r;simp only[ga];rw[ih,ua];by_cases b:lQ (eI t)=A
  .simp only[b,aU,bump,IP];by_cases a:eI t=k
   .subst a;simp only[iH,aU,b,gL];constructor;.intro _;exact .inr (by omega)
    intro _;refine .inl ?_;split;.assumption
    simp
   simp only[iH,a,aQ,fm];split;.rfl
   have c:¬k=eI t:=λh=>a h.symm;simp only[bR,cj,c,vA]
  simp only[b,aI,aQ];by_cases a:eI t=k;.subst a;simp[b]
  simp only[iH,a,aQ,fm]
def u3:jS l m=2*po l m:=by
 have a:jM (rj l m):=jM.count (-1) m (jM.count 1 l (by simp[jM]));unfold jS;rw[Ea,JR a];congr 1;have n:∀k,k∈(rj l m).map (·.1)<->k∈J3 [] l++J5 l [] m:=λk=>by unfold rj;rw[vp,vp,bR,pF,od];simp only[bI,fK,qb,iH,gL];by_cases j:lQ k=A<;>by_cases c:iH k l=0<;>by_cases f:iH k m=0<;>simp[j,c,f]
 have d:(J3 [] l++J5 l [] m).Nodup:=by rw[fp];refine⟨yb _ _,yc _ _ _,λx g y b=>?_⟩;rintro rfl;exact((pF _ _ _).1 g).2.2 ((od _ _ _ _).1 b).2.2.1
 rw[xN _ ((vD a d).2 n)];refine eK λk i=>?_;congr 1;have e:lQ k=A:=by
  rcases bR.1 i with h|h;.exact((pF _ _ _).1 h).1
  exact((od _ _ _ _).1 h).1
 unfold rj;rw[vq,vq];simp[e,bZ,eO];omega
inductive Al:List It->List It->Int->Prop
 |nil:Al [] [] 0
 |del (x:It) {a b:List It} {c:Int} (h:Al a b c):Al (x::a) b (single x+c)
 |ins (u:It) {a b:List It} {c:Int} (h:Al a b c):Al a (u::b) (single u+c)
 |pair (x u:It) {p:Int} (hp:er x u=some p) {a b:List It} {c:Int} (h:Al a b c):Al (x::a) (u::b) (p+c)
def Al.cast(h:Al X B M)(e:M=Q):Al X B Q:=e▸h
def CG:l8 K d v<=d/\l8 K d v<=v/\∀a,K=N a->l8 K d v<=a:=by
 cases K with
 |none =>unfold l8;simp only;refine⟨by split<;>omega,by split<;>omega,λa h=>by simp at h⟩
 |some w =>unfold l8;simp only;refine⟨by(repeat' split)<;>omega,by(repeat' split)<;>omega,λa h=>?_⟩;simp only[aa]at h;subst h;(repeat' split)<;>omega
def TX:l8 K d v=d\/l8 K d v=v\/K=N (l8 K d v):=by cases K with|none =>unfold l8;simp only;split<;>simp|some w =>unfold l8;simp only;(repeat' split)<;>simp
def uC:∀(a b:List It),Al a b (tv a b)
 |[],[]=>by simp only[tv];exact .nil
 |[],u::b=>by simp only[tv];exact .ins u (uC [] b)
 |x::a,[]=>by simp only[tv];exact .del x (uC a [])
 |x::a,u::b=>by
  have f:=uC a b;have e:=uC a (u::b);have g:=uC (x::a) b;simp only[tv];rcases TX ((er x u).map (·+tv a b)) (single x+tv a (u::b)) (single u+tv (x::a) b)with h|h|h;.rw[h];exact .del x e
  .rw[h];exact .ins u g
  obtain⟨p,c,d⟩:=al.1 h;rw[<- d];exact .pair x u c f
def xH(h:Al X B M):tv X B<=M:=by
 induction h with
 |nil=>simp[tv]
 |del x h ih =>
  rename_i X B M;cases B with
  |nil=>simp only[tv];omega
  |cons u B=>have:=(CG ((er x u).map (·+tv X B)) (single x+tv X (u::B)) (single u+tv (x::X) B)).1;simp only[tv];omega
 |ins u h ih =>
  rename_i X B M;cases X with
  |nil=>simp only[tv];omega
  |cons x X=>have:=(CG ((er x u).map (·+tv X B)) (single x+tv X (u::B)) (single u+tv (x::X) B)).2.1;simp only[tv];omega
 |pair x u a h ih =>rename_i p X B M;have:=(CG ((er x u).map (·+tv X B)) (single x+tv X (u::B)) (single u+tv (x::X) B)).2.2 (p+tv X B) (by rw[a];rfl);simp only[tv];omega
inductive rU:List It->List It->Int->Prop
 |nil:rU [] [] 0
 |del (x:It) {a b:List It} {c:Int} (h:rU a b c):rU (a++[x]) b (c+single x)
 |ins (u:It) {a b:List It} {c:Int} (h:rU a b c):rU a (b++[u]) (c+single u)
 |pair (x u:It) {p:Int} (hp:er x u=some p) {a b:List It} {c:Int} (h:rU a b c):rU (a++[x]) (b++[u]) (c+p)
def rU.cast(h:rU X B M)(e:M=Q):rU X B Q:=e▸h
def rU.ah8(h:rU X B M):rU (U::X) B (single U+M):=by induction h with|nil=>exact(rU.del U .nil).cast (by omega)|del y h ih=>exact(rU.del y ih).cast (by omega)|ins u h ih=>exact(rU.ins u ih).cast (by omega)|pair y u a h ih=>exact(rU.pair y u a ih).cast (by omega)
def rU.ah7(h:rU X B M):rU X (U::B) (single U+M):=by induction h with|nil=>exact(rU.ins U .nil).cast (by omega)|del y h ih=>exact(rU.del y ih).cast (by omega)|ins v h ih=>exact(rU.ins v ih).cast (by omega)|pair y v a h ih=>exact(rU.pair y v a ih).cast (by omega)
def rU.ae6(b:er U P=N M)(h:rU X B Q):rU (U::X) (P::B) (M+Q):=by induction h with|nil=>exact(rU.pair U P b .nil).cast (by omega)|del y h ih=>exact(rU.del y ih).cast (by omega)|ins v h ih=>exact(rU.ins v ih).cast (by omega)|pair y v a h ih=>exact(rU.pair y v a ih).cast (by omega)
def Al.toR(h:Al X B M):rU X B M:=by induction h with|nil=>exact .nil|del x h ih=>exact ih.ah8 x|ins u h ih=>exact ih.ah7 u|pair x u a h ih=>exact ih.ae6 x u a
def Al.abB(h:Al X B M):Al (X++[U]) B (M+single U):=by induction h with|nil=>exact(Al.del U .nil).cast (by omega)|del y h ih=>exact(Al.del y ih).cast (by omega)|ins u h ih=>exact(Al.ins u ih).cast (by omega)|pair y u a h ih=>exact(Al.pair y u a ih).cast (by omega)
def Al.aby(h:Al X B M):Al X (B++[U]) (M+single U):=by induction h with|nil=>exact(Al.ins U .nil).cast (by omega)|del y h ih=>exact(Al.del y ih).cast (by omega)|ins v h ih=>exact(Al.ins v ih).cast (by omega)|pair y v a h ih=>exact(Al.pair y v a ih).cast (by omega)
def Al.XA(b:er U P=N M)(h:Al X B Q):Al (X++[U]) (B++[P]) (Q+M):=by induction h with|nil=>exact(Al.pair U P b .nil).cast (by omega)|del y h ih=>exact(Al.del y ih).cast (by omega)|ins v h ih=>exact(Al.ins v ih).cast (by omega)|pair y v a h ih=>exact(Al.pair y v a ih).cast (by omega)
def rU.CW(h:rU X B M):Al X B M:=by induction h with|nil=>exact .nil|del x h ih=>exact ih.abB x|ins u h ih=>exact ih.aby u|pair x u a h ih=>exact ih.XA x u a
def rU.last(h:rU X B M):(X=[]/\B=[]/\M=0)\/(∃a x d,X=a++[x]/\M=d+single x/\rU a B d)\/(∃b u d,B=b++[u]/\M=d+single u/\rU X b d) \/∃a x b u p d,X=a++[x]/\B=b++[u]/\er x u=N p/\M=d+p/\rU a b d:=by cases h with|nil=>exact .inl ⟨rfl,rfl,rfl⟩|del x h=>exact .inr (.inl ⟨_,x,_,rfl,rfl,h⟩)|ins u h=>exact .inr (.inr (.inl ⟨_,u,_,rfl,rfl,h⟩))|pair x u c h=>exact .inr (.inr (.inr ⟨_,x,_,u,_,_,rfl,rfl,c,rfl,h⟩))
def vQ{α:Type}{a b:List α}{x y:α}(h:a++[x]=b++[y]):a=b/\x=y:=by have:=List.append_inj' h rfl;exact⟨this.1,by simpa using this.2⟩
def UG:tv (l++[U]) (m++[P])=oZ U P (tv l m) (tv (l++[U]) m) (tv l (m++[P])):=by
 refine Int.le_antisymm ?_ ?_
 .have a:=xH ((uC l (m++[P])).abB U);have e:=xH ((uC (l++[U]) m).aby P);unfold oZ mn;split;.rename_i c k;have b:=xH ((uC l m).XA U P k);(repeat' split)<;>omega
  split<;>omega
 have f:=(uC (l++[U]) (m++[P])).toR;generalize tv (l++[U]) (m++[P])=c at f;rcases f.last with⟨h,_⟩|⟨g,x,d,a,e,b⟩|⟨j,v,d,a,e,b⟩|⟨g,x,j,v,p,d,a,e,b,n,i⟩;.simp at h
 .obtain⟨rfl,rfl⟩:=vQ a;have:=xH b.CW;unfold oZ mn;(repeat' split)<;>omega
 .obtain⟨rfl,rfl⟩:=vQ a;have:=xH b.CW;unfold oZ mn;(repeat' split)<;>omega
 obtain⟨rfl,rfl⟩:=vQ a;obtain⟨rfl,rfl⟩:=vQ e;have:=xH i.CW;unfold oZ mn;rw[b];simp only;(repeat' split)<;>omega
def D5:∀(a:List It) (t:It),tv (a++[t]) []=tv a []+single t|[],t=>by simp[tv]|x::a,t=>by have:=D5 a t;simp only[bo,tv]at this |-;omega
def D4:∀(b:List It) (u:It),tv [] (b++[u])=tv [] b+single u|[],u=>by simp[tv]|v::b,u=>by have:=D4 b u;simp only[bo,tv]at this |-;omega
def rowP(a:List It):List It->List It->bG|_,[]=>[]|pre,u::r=>tv a (pre++[u])::rowP a (pre++[u]) r
def A3(a:List It)(t:It):∀(r pre:List It),jD t (tv a pre) (tv (a++[t]) pre) r (rowP a pre r)=rowP (a++[t]) pre r|[],pre=>by simp[rowP,jD]|u::r,pre=>by simp only[rowP,jD];rw[<- UG,A3 a t r (pre++[u])]
def KZ:iG U m (tv l []::rowP l [] m)=tv (l++[U]) []::rowP (l++[U]) [] m:=by simp only[iG,<- D5,A3]
def Bj:∀(r pre:List It),lL (tv [] pre) r=rowP [] pre r|[],_=>rfl|u::r,pre=>by simp only[lL,rowP,<- D4,Bj r (pre++[u])]
def Cg(b:List It):∀(a pre:List It),a.foldl (λrow t=>iG t b row) (tv pre []::rowP pre [] b)=tv (pre++a) []::rowP (pre++a) [] b|[],pre=>by simp|t::r,pre=>by rw[dK,KZ,Cg b r (pre++[t])];simp
def Ej(a:List It):∀(r pre:List It),(tv a pre::rowP a pre r).getD (F r) 0=tv a (pre++r)|[],pre=>by simp|u::r,pre=>by have:=Ej a r (pre++[u]);simpa[rowP]using this
def Cp:iM l m=tv l m+2*po l m:=by
 unfold iM Bc vY;have e:(0:Int)::lL 0 m=tv [] []::rowP [] [] m:=by rw[<- Bj];simp[tv]
 rw[e,Cg,bg,u3];have:=Ej l m [];rw[bg]at this;rw[this]
def JS{C:List (TK×Int)}(k:TK)(d:Int)(a : -1<=d/\d<=1):kb (bump C k d)<=kb C+1:=by
 unfold bump;induction C with
 |nil=>simp[fZ,bZ,eO,kb];omega
 |cons p C ih =>
 by_cases h:k=p.1;.simp only[fZ,bZ,eO,aK h,kb,aC,ca,b5,gM];omega
 have e:bZ k (p::C)=bZ k C:=by unfold bZ;rw[eO,au h];exact kP k C 1
 rw[e];simp only[fZ,au h,kb,aC,ca]at ih |-;omega
def rS(d:Int)(a : -1<=d/\d<=1):∀(l:List It) (C:List (TK×Int)),kb (ga d C l)<=kb C+F l|[],C=>by simp[ga]|t::r,C=>by have h:=rS d a r (if bW t then bump C (eI t) d else C);have b:=JS (C:=C) (eI t) d a;simp only[ga,ah];split at h<;>simp only[*,aU,aQ,aI]at*<;> omega
def Ml:0<=po l m/\po l m<=(F l:Int)+F m:=by have b:=rS 1 (by omega) l [];have d:=rS (-1) (by omega) m (ga 1 [] l);have c:jS l m=2*po l m:=u3 l m;have e:=Ao l m l [];have f:=An l m m [];have a:kb ([]:List (TK×Int))=0:=rfl;rw[a]at b;unfold jS rj at c;unfold po at *;omega
def Jt:0<=iM l m/\iM l m<=6*F l+6*F m:=by rw[Cp];have:=yS l m;have:=Ml l m;omega
section
variable {α β:Type} [DecidableEq α]
end
end Go.Bt
namespace Go.Bt
open Go.Pm
variable(X:List It)(d:UInt8)(r:aJ)(U:It)(Q:List It)(P:Nat)(q:UInt8)(M:Int){R:It}{T:List It}{S:UInt8}{s:aJ}
structure Xu where
 number:Int
 ao4:Int
 ao1:List CQ
 log:aJ
 synced:Int
 down:Bool
def Xu.aoZ(o:Xu):ao:=[.i .i64 o.number,.i .i64 o.ao4,.sl 13 (o.ao1.map CQ.aoZ),.sl 1 (ee o.log),.i .i64 o.synced,.b o.down]
def Xu.zero:Xu:=⟨0,0,[],[],0,Z⟩
structure Xu.apa (o:Xu):Prop where
 ao1:∀x∈o.ao1,x.apa
 len:o.ao1.length<2^30
 log:o.log.length<2^30
def Ev(a b:CQ):Int:=Aq [oq a.jd.lR b.jd.lR,oq a.jd.number b.jd.number]
open Go
def place(n:Int):Int:=if M.tmod n<0 then M.tmod n+n else M.tmod n
def zb{x n:Int}(h:0<n):0<=place x n/\place x n<n:=by have a:=Int.tmod_lt_of_pos x h;have b : - n<x.tmod n:=Int.neg_lt_of_neg_lt (by have:=Int.tmod_lt_of_pos (-x) h;rw[Int.neg_tmod]at this;omega);simp only[place];split<;>omega
def OK:∀c:UInt8,rB c=A->c≠92/\c≠60/\c≠123:=ib (by decide +kernel)
def W7:∀c:UInt8,jq (iT (c.toNat / 16)) (iT (c.toNat % 16))=c/\(iB (iT (c.toNat / 16))).2=A/\(iB (iT (c.toNat % 16))).2=A:=ib (by decide +kernel)
def W8:∀c:UInt8,rB c=Z->c≠10->c≠9->¬(c=92\/c=60\/c=123)->(c==13||du c==1)=A:=ib (by decide +kernel)
def oo(r:aJ):dn (d::q::r)=if q=92\/q=60\/q=123 then(q,2,A)else if q=110 then(10,2,A)else if q=116 then(9,2,A)else if q=120 then
  (if F r<2 then(0,0,Z)else(jq (r.getD 0 0) (r.getD 1 0),4,(iB (r.getD 0 0)).2&&(iB (r.getD 1 0)).2&&(jq (r.getD 0 0) (r.getD 1 0)==13||du (jq (r.getD 0 0) (r.getD 1 0))==1)))else(0,0,Z):=by
 simp only[dn,ah,aO,aZ];rw[au (by omega)];have e:(F r+1+1<4)=(F r<2):=by rw[aaV];omega
 simp only[e]
def xd:bz (92::d::r)=(⟨1,[(dn (92::d::r)).1],0⟩,(dn (92::d::r)).2.1,(dn (92::d::r)).2.2):=by simp only[bz,aO,aU]
def P6:bz (fa d++r)=(⟨1,[d],0⟩,(F (fa d):Int),A):=by
 unfold fa;split;.rename_i h;have g:=OK d h;simp[bz,g,h]
 rename_i h;have h:rB d=Z:=by simpa using h
 split;.rename_i a;subst a;simp only[bo,bg,xd,oo];rfl
 split;.rename_i a b;subst b;simp only[bo,bg,xd,oo];rfl
 split;.rename_i a b c;simp only[bo,bg,xd,oo,aK c];rfl
 rename_i a b c;have e:=W7 d;have f:=W8 d h a b c;simp only[bo,bg,xd,oo];rw[au (by decide),au (by decide),au (by decide),aK (by decide),au (by simp)];simp only[aO,aZ,e.1,e.2.1,e.2.2,f,dM];rfl
def ID:∀c:UInt8,iz c=A->c≠62/\c≠125/\c≠58/\c≠47/\c≠32/\iU c=Z:=ib (by decide +kernel)
def OS:∀c:UInt8,(97<=c.toNat/\c.toNat<=122)->iz c=A:=ib (by decide +kernel)
def Lb(h:apb s=A):∀c∈s,iz c=A:=by
 cases s with
 |nil=>simp[apb]at h
 |cons c r =>
 simp only[apb,aP,a7,cv]at h;intro x a;rcases bE.1 a with rfl|a;.exact OS _ h.1.2
 exact h.2 x a
def P5(t rest:aJ)(h:apb t=A):bz (123::(t++125::rest))=(⟨5,t,0⟩,(F t:Int)+2,A):=by
 have b:Lib.indexByte (123::(t++125::rest)) 125=(F (123::t:aJ):Int):=by
  have:=rH (c:=125) (rest:=rest) (pre:=123::t) (by
   intro a;rcases bE.1 a with a|a;.exact absurd a (by decide)
   exact(ID _ (Lb h _ a)).2.1 rfl);simpa using this
 have e:((123::(t++125::rest)).take (Lib.indexByte (123::(t++125::rest)) 125).toNat).drop 1=t:=by rw[b];simp
 simp only[bz,aO,e,h];rw[au (by decide),au (by decide),aK (by decide),au (by rw[b];simp;omega),b];simp;omega
def Jv{b:aJ}(h:S ∉ s):cutAt (s++S::b) S=(s,b,A):=by simp only[cutAt,rH h];rw[aK (by omega)];simp
def d3:aJ:=if P<10 then[UInt8.ofNat (48+P)]else if P<100 then[UInt8.ofNat (48+P / 10),UInt8.ofNat (48+P % 10)]else[UInt8.ofNat (48+P / 100),UInt8.ofNat (48+P / 10 % 10),UInt8.ofNat (48+P % 10)]
def As(h:P<1000):Lib.itoa (P:Int)=d3 P:=by
 unfold Lib.itoa;rw[au (by omega)];simp only[aG,d3];by_cases a:P<10;.rw[aK a,Lib.decDigits_one a]
 rw[au a];by_cases b:P<100;.rw[aK b,Lib.decDigits_two a b]
 rw[au b,Lib.decDigits,dif_neg a,Lib.decDigits_two (by omega) (by omega)];simp only[bo,bg];have e:P / 10 / 10=P / 100:=by omega
 rw[e]
def aaI:∀n:Fin 1000,1<=n.val->apd (d3 n.val)=((n.val:Int),A)/\(d3 n.val).all dZ=A/\(d3 n.val)≠[]:=by decide +kernel
def Sh(h:1<=M/\M<=999):apd (Lib.itoa M)=(M,A)/\(∀c∈Lib.itoa M,dZ c=A)/\Lib.itoa M≠[]:=by obtain⟨m,rfl⟩:∃m:Nat,M=m:=⟨M.toNat,by omega⟩;have:=aaI ⟨m,by omega⟩ (by show 1<=m;omega);rw[As m (by omega)];exact⟨this.1,λc a=>cv.1 this.2.1 c a,this.2.2⟩
def wid:Nat:=if U.ao0=1 then U.ao3.length else 1
def apf:Nat:=(X.map wid).sum
def xL(m:List (Int×It))(x:It):List (Int×It):=if tagged x then fZ m x.id x else m
def oF:List (Int×It):=X.foldl xL []
def sS:Rd:=⟨X,r,apf X+F r,oF X⟩
def closed:List It:=if r=[]then X else X++[⟨1,r,0⟩]
def rf:apf (X++Q)=apf X+apf Q:=by simp[apf]
def xJ:apf [U]=wid U:=by simp[apf]
def sK:oF (X++[U])=xL (oF X) U:=by simp[oF]
def HG{m:List (Int×It)}{i:Int}:xL m ⟨1,s,i⟩=m:=by simp[xL,tagged]
def Df:oF (closed X r)=oF X:=by
 simp only[closed];split;.rfl
 rw[sK,HG]
def vM:apf (closed X r)=apf X+F r:=by
 simp only[closed];split;.rename_i h;simp[h]
 rw[rf,xJ];simp[wid]
def Cy:F (closed X r)=F X+(if 0<F r then 1 else 0):=by
 simp only[closed];split;.rename_i h;simp[h]
 rename_i h;have:0<F r:=dJ.2 h;simp[this]
def KC:(gh (sS X r)).f=closed X r:=by
 by_cases h:r=[];.subst h;rfl
 have a:0<F r:=dJ.2 h;have e:gh (sS X r)=⟨X++[⟨1,r,0⟩],[],apf X+F r,oF X⟩:=aK a;rw[e,closed,au h]
def Ap{α:Type}{p:List α->Prop}(h0:p [])(h1:∀l x,p l->p (l++[x]))(l:List α):p l:=by
 have:∀l:List α,p l.reverse:=by intro l;induction l with|nil=>exact h0|cons x l ih=>rw[List.reverse_cons];exact h1 _ _ ih
 have:=this l.reverse;rwa [List.reverse_reverse]at this
def lI:Prop:=512<F X+(if 0<F r then 1 else 0)+(if U.ao0≠1\/F r=0 then 1 else 0)\/1024<apf X+F r+1
instance (f:List It) (t:aJ) (x:It):Decidable (lI f t x):=by unfold lI;infer_instance
def KE(c:UInt8):kn (sS X r) ⟨1,[c],0⟩=if lI X r ⟨1,[c],0⟩then(3,sS X r)else(0,sS X (r++[c])):=by simp only[kn,tagged,lH,lI,sS];simp only[Ql,eA,aI,aQ,ai,ah,az,aU];rfl
def KD(a:U.ao0≠1):kn (sS X r) U =if tagged U&&xj (sS X r) U then(7,sS X r)else if lI X r U then(3,sS X r)else(0,sS (closed X r++[U]) []):=by
 simp only[kn,lH,lI,a,aQ];have e:v8 (gh (nV (sS X r) U)) U=sS (closed X r++[U]) []:=by
  have c:wid U=1:=by simp[wid,a]
  simp only[sS,rf,xJ,vM,sK,Df,c,az,dQ];by_cases h:r=[];.subst h;rfl
  have b:0<F r:=dJ.2 h;have e:gh (nV ⟨X,r,apf X+F r,oF X⟩ U)=⟨X++[⟨1,r,0⟩],[],apf X+F r+1,xL (oF X) U⟩:=aK b;rw[e,closed,au h];rfl
 rw[e];rfl
def jW{p:Option It}(h:R.ao0≠1):bQ p R=bQ Y R:=by simp only[bQ,h,aQ]
def oe(h:bQ Y R=A):bW R=tagged R:=by
 simp only[bQ]at h;by_cases b:R.ao0=1;.simp[bW,tagged,b]
 by_cases c:R.ao0=5;.simp[bW,tagged,c]
 by_cases a:R.ao0=2\/R.ao0=4;.rcases a with a|a<;>simp[bW,tagged,a]
 by_cases d:R.ao0=3;.simp[bW,tagged,d]
 simp[b,c,a,d]at h
def fC:∀(f pre:List It) (x:It),bA pre (f++[x])=0<->bA pre f=0/\bQ (pre++f).getLast? x=A/\(bW x&&!fits (pre++f) x)=Z:=by
 intro f;induction f with
 |nil =>
  intro pre x;simp only[bg,bM,bA];by_cases b:bQ pre.getLast? x=Z;.simp[b]
  rw[au b];have b:bQ pre.getLast? x=A:=by simpa using b
  by_cases a:(bW x&&!fits pre x)=A;.simp[a]
  rw[au a];have a:(bW x&&!fits pre x)=Z:=by simpa using a
  simp[b,a]
 |cons y f ih =>
 intro pre x;simp only[bo,bA];by_cases b:bQ pre.getLast? y=Z;.simp[b]
 rw[au b,au b];by_cases a:(bW y&&!fits pre y)=A;.simp[a]
 rw[au a,au a,ih];simp
def uK:∀(f pre:List It),bA pre f=0->∀y∈f,bQ Y y=A:=by
 intro f;induction f with
 |nil=>simp
 |cons x f ih =>
 intro pre h y b;simp only[bA]at h;split at h;.simp at h
 rename_i a;split at h;.simp at h
 rcases bE.1 b with rfl|b
 .have a:bQ pre.getLast? y=A:=by simpa using a
  by_cases c:y.ao0=1;.simp only[bQ,c,aU,aP]at a |-;exact⟨a.1,trivial⟩
  rw[<- jW (p:=pre.getLast?) c];exact a
 exact ih _ h y b
def LU(t:bA [] T=0)(r:bQ Y R=A):(tagged R&&xj (sS T s) R)=(bW R&&!fits (closed T s) R):=by
 rw[oe r];by_cases n:tagged R=A
 .rw[n,cY,cY];have w:bW R=A:=by rw[oe r];exact n
  have m:fits (closed T s) R=fits T R:=by
   simp only[closed];split;.rfl
   simp[fits,eY,bW]
  rw[m];simp only[xj,sS];have l:∀T:List It,bA [] T=0->(match bZ R.id (oF T)with|some b=>R.ao0 != 3||b.ao0 != 2||dj b.ao3 != R.ao3|none=>Z)=!fits T R:=by
   intro T;induction T using Ap with
   |h0=>intro _;simp[oF,Je,fits]
   |h1 T y ih =>
   intro h;rw[fC]at h;obtain⟨h1,i,j⟩:=h;have ih:=ih h1;simp only[bg]at i j;have q:bQ Y y=A:=by
    by_cases o:y.ao0=1;.simp only[bQ,o,aU,aP]at i |-;exact⟨i.1,trivial⟩
    rw[<- jW (p:=T.getLast?) o];exact i
   have e:fits (T++[y]) R=(fits T R&&!eY R y):=by simp[fits]
   rw[sK,e];simp only[xL];by_cases k:tagged y=A
   .rw[aK k,gf];have a:bW y=A:=by rw[oe q];exact k
    by_cases f:R.id=y.id
    .rw[aK f];rw[a,cY,fB]at j;have g:eY R y=(R.ao0 != 3||y.ao0 != 2||!(dj y.ao3==R.ao3)):=by simp[eY,a,f]
     rw[g];by_cases c:(R.ao0 != 3||y.ao0 != 2||!(dj y.ao3==R.ao3))=A;.simp only[bne]at c |-;rw[c];simp
     have c:(R.ao0 != 3||y.ao0 != 2||!(dj y.ao3==R.ao3))=Z:=by simpa using c
     have u:fits T R=A:=by
      simp only[fits,cv,da]at j |-;intro z v;have d:=j z v;simp only[kJ,bne_eq_false_iff_eq]at c;simp only[eY]at d |-;have:(y.ao0 != 3)=A:=by rw[c.1.2];decide
      rw[this,Bool.true_or,Bool.true_or,dM]at d;rw[f,d,eA]
     rw[u];simp only[bne]at c |-;rw[c];simp
    rw[au f,ih];have g:eY R y=Z:=by
     have:(y.id != R.id)=A:=by simpa using λe=>f e.symm
     simp[eY,this]
    rw[g];simp
   rw[au k,ih];have a:bW y=Z:=by rw[oe q];simpa using k
   have g:eY R y=Z:=by simp[eY,a]
   rw[g];simp
  exact l T t
 have h0:tagged R=Z:=by simpa using n
 simp[h0]
def yh:∀(l:List It) (a:Nat),a+apf l<2^63->eW (a:Int) l=((a+apf l:Nat):Int):=by
 intro l;induction l with
 |nil=>intro a _;simp[eW,apf]
 |cons x l ih =>
 intro a h;have c:apf (x::l)=wid x+apf l:=by simp[apf]
 rw[c]at h |-;have b:width x=(wid x:Int):=by simp only[width,wid];split<;>rfl
 have:eW (a:Int) (x::l)=eW ((a+wid x:Nat):Int) l:=by simp only[eW,dK,b];rw[IntWalk.i64_in _ (by omega)];rfl
 rw[this,ih (a+wid x) (by omega)];congr 1;omega
def Yt:wid U<=U.ao3.length+1:=by simp only[wid];split<;>omega
def QV:apf X<=aR X+F X:=by
 induction X with
 |nil=>simp[apf,aR]
 |cons x X ih =>
 have a:apf (x::X)=wid x+apf X:=by simp[apf]
 have:=Yt x;simp only[aR,ah,a];omega
def AO(h:apf T<2^63):bV T=0<->F T<=512/\apf T<=1024/\bA [] T=0:=by
 have e:=yh T 0 (by omega);simp only[bq,iX]at e;simp only[bV];rw[show eW 0 T=(apf T:Int)from e];split
 .constructor;.intro h;simp at h
  rintro⟨b,a,_⟩;omega
 constructor;.intro h;exact⟨by omega,by omega,h⟩
 intro h;exact h.2.2
def sf:∀(a pre b:List It),bA pre (a++b)=0<->bA pre a=0/\bA (pre++a) b=0:=by
 intro a;induction a with
 |nil=>intro pre b;simp[bA]
 |cons x a ih =>
 intro pre b;simp only[bo,bA];by_cases d:bQ pre.getLast? x=Z;.simp[d]
 rw[au d,au d];by_cases c:(bW x&&!fits pre x)=A;.simp[c]
 rw[au c,au c,ih];simp
def uL{pre:List It}:bA pre (R::T)=0<->bQ pre.getLast? R=A/\(bW R&&!fits pre R)=Z/\bA (pre++[R]) T=0:=by
 simp only[bA];by_cases a:bQ pre.getLast? R=Z;.simp[a]
 rw[au a];have a:bQ pre.getLast? R=A:=by simpa using a
 by_cases b:(bW R&&!fits pre R)=A;.simp[b]
 rw[au b];have b:(bW R&&!fits pre R)=Z:=by simpa using b
 simp[a,b]
def kR:closed X []=X:=by simp[closed]
def EM:∀p:UInt8,(iB p).2=A->iT (iB p).1.toNat=p:=ib (by decide +kernel)
def TC:∀b:UInt8,(b==13||du b==1)=A->fa b=[92,120,iT (b.toNat / 16),iT (b.toNat % 16)]:=ib (by decide +kernel)
def DF:(jq d q).toNat / 16=(iB d).1.toNat/\(jq d q).toNat % 16=(iB q).1.toNat:=by
 have a:=wP d;have b:=wP q;have:(jq d q).toNat=16*(iB d).1.toNat+(iB q).1.toNat:=by simp only[jq,UInt8.toNat_ofNat'];omega
 omega
def oA:∀c:UInt8,dZ c=A->∃i:Fin 10,c=UInt8.ofNat (48+i.val)/\((c.toNat:Int) - 48)=i.val:=by
 intro c h;refine⟨⟨c.toNat - 48,by simp[dZ]at h;omega⟩,?_,?_⟩
 .simp only[dZ,aP,a7]at h;have:48+(c.toNat - 48)=c.toNat:=by omega
  simp[this]
 simp only[dZ,aP,a7]at h;simp only;omega
def Xi:∀i:Fin 10,i.val≠0->d3 i.val=[UInt8.ofNat (48+i.val)]:=by decide +kernel
def Xh:∀i j:Fin 10,i.val≠0->d3 (10*i.val+j.val)=[UInt8.ofNat (48+i.val),UInt8.ofNat (48+j.val)]:=by decide +kernel
def Xg:∀i j k:Fin 10,i.val≠0->d3 (100*i.val+10*j.val+k.val)=[UInt8.ofNat (48+i.val),UInt8.ofNat (48+j.val),UInt8.ofNat (48+k.val)]:=by decide +kernel
def oa(h:(apd s).2=A):s=Lib.itoa (apd s).1/\1<=(apd s).1/\(apd s).1<=999:=by
 simp only[apd]at h |-;by_cases b:F s<1\/3<F s\/s.getD 0 0=48;.rw[aK b]at h;simp at h
 rw[au b]at h |-;by_cases a:s.all dZ=A
 .rw[aK a];match s,b,a with
  |[x],b,a =>
   simp only[jJ,Qs,dM]at a;obtain⟨i,c,g⟩:=oA x a;have d:i.val≠0:=by intro e;apply b;right;right;rw[aO,c,e];rfl
   have e:dX 0 [x]=(i.val:Int):=by simp[dX];omega
   simp only[e];rw[As _ (by omega),Xi i d,<- c];exact⟨rfl,by omega,by omega⟩
  |[x,y],b,a =>
   simp only[jJ,Qs,dM,aP]at a;obtain⟨i,c,g⟩:=oA x a.1;obtain⟨j,f,l⟩:=oA y a.2;have d:i.val≠0:=by intro e;apply b;right;right;rw[aO,c,e];rfl
   have e:dX 0 [x,y]=((10*i.val+j.val:Nat):Int):=by simp[dX];omega
   simp only[e];rw[As _ (by omega),Xh i j d,<- c,<- f];exact⟨rfl,by omega,by omega⟩
  |[x,y,z],b,a =>
   simp only[jJ,Qs,dM,aP]at a;obtain⟨i,c,g⟩:=oA x a.1;obtain⟨j,f,l⟩:=oA y a.2.1;obtain⟨k,m,n⟩:=oA z a.2.2;have d:i.val≠0:=by intro e;apply b;right;right;rw[aO,c,e];rfl
   have e:dX 0 [x,y,z]=((100*i.val+10*j.val+k.val:Nat):Int):=by simp[dX];omega
   simp only[e];rw[As _ (by omega),Xg i j k d,<- c,<- f,<- m];exact⟨rfl,by omega,by omega⟩
  |[],b,_=>simp at b
  |_::_::_::_::_,b,_=>simp at b
 rw[au a]at h;simp at h
def ni(h:(cutAt s S).2.2=A):s=(cutAt s S).1++S::(cutAt s S).2.1:=by
 simp only[cutAt]at h |-;by_cases d:0<=Lib.indexByte s S
 .rw[aK d];have b:∀s:aJ,0<=Lib.indexByte s S->s=s.take (Lib.indexByte s S).toNat++S::s.drop ((Lib.indexByte s S).toNat+1):=by
   intro s;induction s with
   |nil=>intro h;simp[Lib.indexByte]at h
   |cons a s ih =>
   intro h;have i:=pY S s;by_cases f:a=S;.subst f;simp[Lib.indexByte]
   have e:(a==S)=Z:=by simpa using f
   simp only[Lib.indexByte,e,aI,aQ]at h |-;by_cases c:(Lib.indexByte s S == -1)=A;.rw[aK c]at h;omega
   rw[au c]at h |-;have j:Lib.indexByte s S ≠ -1:=by simpa using c
   have g:(Lib.indexByte s S+1).toNat=(Lib.indexByte s S).toNat+1:=by omega
   rw[g];simp only[iw,nT,bo];rw[<- ih (by omega)]
  exact b s d
 rw[au d]at h;simp at h
def DG(h:hasSuffix s [S]=A):s=s.take (F s - 1)++[S]:=by simp only[hasSuffix,aP,a7,b9,ah,az,bq]at h;rw[<- h.2,fP]
def DI(h:apj s [S]=A):s=S::s.drop 1:=by simp only[apj,aP,a7,b9,ah,az,bq]at h;cases s with|nil=>simp at h|cons a s=>simp at h;simp[h]
def N1(h:(ja s).2=A):(ja s).1.ao0≠1/\bQ Y (ja s).1=A/\dz (ja s).1=60::(s++[62]):=by
 unfold ja at h |-;dsimp only at h |-;cases f:apj s [47]with
 |true =>
  simp only[f,aU,fL,eA,aI,aQ]at h |-
  by_cases a:((cutAt (s.drop 1) 58).2.2&&(apd (cutAt (s.drop 1) 58).1).2)=A
  .rw[aK a]at h |-;dsimp only at h |-;simp only[aP]at a;obtain⟨d,c,e⟩:=oa a.2;have b:=ni a.1;have i:=DI f;refine⟨by decide,?_,?_⟩
   .simp only[bQ];rw[au (by decide),au (by decide),au (by decide),aK (by decide)];simp only[h,c,e,kH,dM]
   .simp only[dz];rw[au (by decide),au (by decide),aK (by decide),<- d]
    conv=>rhs;rw[i,b]
    simp
  .rw[au a]at h;simp at h
 |false =>
  simp only[f,aI,aQ,iq,cY]at h |-;cases g:hasSuffix (cutAt s 58).2.1 [47]with
  |true =>
   simp only[g,aU]at h |-
   by_cases a:((cutAt s 58).2.2&&(apd (cutAt s 58).1).2)=A
   .rw[aK a]at h |-;dsimp only at h |-;simp only[aP]at a;obtain⟨d,c,e⟩:=oa a.2;have b:=ni a.1;have i:=DG g;have h:dx ((cutAt s 58).2.1.take (F (cutAt s 58).2.1 - 1))=A:=by simpa using h
    refine⟨by decide,?_,?_⟩
    .simp only[bQ];rw[au (by decide),au (by decide),aK (.inr (by decide))];simp only[h,c,e,kH,dM]
    .simp only[dz];rw[au (by decide),au (by decide),au (by decide),aK (by decide),<- d]
     conv=>rhs;rw[b]
     conv=>rhs;rw[i]
     simp
   .rw[au a]at h;simp at h
  |false =>
   simp only[g,aI,aQ]at h |-
   by_cases a:((cutAt s 58).2.2&&(apd (cutAt s 58).1).2)=A
   .rw[aK a]at h |-;dsimp only at h |-;simp only[aP]at a;obtain⟨d,c,e⟩:=oa a.2;have b:=ni a.1;have h:dx (cutAt s 58).2.1=A:=by simpa using h
    refine⟨by decide,?_,?_⟩
    .simp only[bQ];rw[au (by decide),au (by decide),aK (.inl (by decide))];simp only[h,c,e,kH,dM]
    .simp only[dz];rw[au (by decide),aK (by decide),<- d]
     conv=>rhs;rw[b]
     simp
   .rw[au a]at h;simp at h
def xc{s:aJ}(k:s≠[])(h:(bz s).2.2=A):
  ((∃c,(bz s).1=⟨1,[c],0⟩/\s=fa c++s.drop (bz s).2.1.toNat) \/
   ((bz s).1.ao0≠1/\bQ Y (bz s).1=A/\s=dz (bz s).1++s.drop (bz s).2.1.toNat)):=by
 simp only[bz]at h |-
 by_cases b:s.getD 0 0=92
 .left;rw[aK b]at h |-;simp only at h |-;refine⟨_,rfl,?_⟩
  match s,k,b,h with
  |[a],_,b,h=>simp[dn]at h
  |a::d::r,_,b,h =>
   simp only[aO]at b;subst b
   by_cases n:d=92\/d=60\/d=123
   .have e:dn (92::d::r)=(d,2,A):=by simp only[oo,aK n]
    rw[e];rcases n with rfl|rfl|rfl<;>simp[show fa 92=[92,92]by decide,show fa 60=[92,60]by decide,show fa 123=[92,123]by decide]
   .by_cases x:d=110
    .subst x;have e:dn (92::110::r)=(10,2,A):=by simp only[oo];rfl
     rw[e];simp[show fa 10=[92,110]by decide]
    .by_cases d3:d=116
     .subst d3;have e:dn (92::116::r)=(9,2,A):=by simp only[oo];rfl
      rw[e];simp[show fa 9=[92,116]by decide]
     .by_cases y:d=120
      .subst y
       match r,h with
       |[],h=>simp[dn]at h
       |[_],h=>simp[dn]at h
       |p::q::r,h =>
        have e:dn (92::120::p::q::r)=(jq p q,4,(iB p).2&&(iB q).2&&(jq p q==13||du (jq p q)==1)):=by
         simp only[oo];rw[au (by decide),au (by decide),au (by decide),aK (by decide),au (by simp)];simp only[aO,aZ]
        rw[e]at h |-;simp only[aP]at h;have l:=DF p q;rw[TC _ h.2,l.1,l.2,EM p h.1.1,EM q h.1.2];simp
      .have e:dn (92::d::r)=(0,0,Z):=by simp only[oo,n,x,d3,y,aQ]
       rw[e]at h;simp at h
  |[],k,_,_=>exact absurd rfl k
 .rw[au b]at h |-
  by_cases f:s.getD 0 0=60
  .right;rw[aK f]at h |-
   by_cases g:Lib.indexByte s 62<0
   .rw[aK g]at h;simp at h
   .rw[au g]at h |-;simp only at h |-;have w:(cutAt s 62).2.2=A:=by simp only[cutAt];rw[aK (by omega)]
    have u:=ni w;have j:(cutAt s 62).1=s.take (Lib.indexByte s 62).toNat:=by simp only[cutAt];rw[aK (by omega)]
    have i:(cutAt s 62).2.1=s.drop ((Lib.indexByte s 62).toNat+1):=by simp only[cutAt];rw[aK (by omega)]
    obtain⟨C,z,B⟩:=N1 h;refine⟨C,z,?_⟩;have l:=nA s 62 (by rw[f];decide) g
    have o:s.take (Lib.indexByte s 62).toNat=60::(s.take (Lib.indexByte s 62).toNat).drop 1:=by
     cases s with
     |nil=>exact absurd rfl k
     |cons a s =>
      simp only[aO]at f;subst f;obtain⟨m,t⟩:∃m,(Lib.indexByte (60::s) 62).toNat=m+1:=⟨(Lib.indexByte (60::s) 62).toNat - 1,by omega⟩;rw[t];simp
    rw[B];have v:(Lib.indexByte s 62+1).toNat=(Lib.indexByte s 62).toNat+1:=by omega
    rw[v]
    conv=>lhs;rw[u,j,i,o]
    simp
  .rw[au f]at h |-
   by_cases mH:s.getD 0 0=123
   .right;rw[aK mH]at h |-
    by_cases g:Lib.indexByte s 125<0\/apb ((s.take (Lib.indexByte s 125).toNat).drop 1)=Z
    .rw[aK g]at h;simp at h
    .rw[au g]at h |-;simp only[T8]at g;simp only;have D:apb ((s.take (Lib.indexByte s 125).toNat).drop 1)=A:=by simpa using g.2
     have w:(cutAt s 125).2.2=A:=by simp only[cutAt];rw[aK (by omega)]
     have u:=ni w;have j:(cutAt s 125).1=s.take (Lib.indexByte s 125).toNat:=by simp only[cutAt];rw[aK (by omega)]
     have i:(cutAt s 125).2.1=s.drop ((Lib.indexByte s 125).toNat+1):=by simp only[cutAt];rw[aK (by omega)]
     have l:=nA s 125 (by rw[mH];decide) g.1;refine⟨by decide,?_,?_⟩
     .simp only[bQ];rw[au (by decide),aK (by decide),D];rfl
     .have o:s.take (Lib.indexByte s 125).toNat=123::(s.take (Lib.indexByte s 125).toNat).drop 1:=by
       cases s with
       |nil=>exact absurd rfl k
       |cons a s =>
        simp only[aO]at mH;subst mH;obtain⟨m,t⟩:∃m,(Lib.indexByte (123::s) 125).toNat=m+1:=⟨(Lib.indexByte (123::s) 125).toNat - 1,by omega⟩;rw[t];simp
      simp only[dz];rw[au (by decide),au (by decide),au (by decide),au (by decide),aK (by decide)];have v:(Lib.indexByte s 125+1).toNat=(Lib.indexByte s 125).toNat+1:=by omega
      rw[v]
      conv=>lhs;rw[u,j,i,o]
      simp
   .left;rw[au mH]at h |-;simp only at h |-;cases s with
    |nil=>exact absurd rfl k
    |cons a s =>
     simp only[aO]at h;refine⟨a,by simp,?_⟩;simp[fa,h]
structure afm (o:CQ):Prop where
 time:1<=o.jd.time/\o.jd.time<=1073741824
 lR:0<=o.jd.lR/\o.jd.lR<8
 number:1<=o.jd.number/\o.jd.number<=128
 ao0:o.ao0=1\/o.ao0=2
 afj:o.apg.length<=8
 apg:∀n∈o.apg,0<=n/\n<=128
 bare:o.ao0=2->o.apc=⟨o.apc.ao2,[],o.apc.b6,o.apc.next,[],[],0,0⟩
 looked:cJ (looked o)=0
structure Xa (e:En):Prop where
 ao2:bV e.ao2=0
 ao7:bV e.ao7=0
 nonempty:e.ao2≠[]
 cW:apb e.cW=true\/e.cW=[]
 cx:apb e.cx=true\/e.cx=[]
 ao9:0<=e.ao9/\e.ao9<=1073741824
 ape:1<=e.ape/\e.ape<=3
def oV{e:En}(h:cJ e=0):Xa e:=by
 simp only[cJ]at h;split at h;.rename_i c;exact absurd h c
 rename_i c;split at h;.rename_i b;exact absurd h b
 rename_i b;split at h;.simp at h
 rename_i d;split at h;.rename_i f;exact absurd h f
 split at h;.rename_i g;exact absurd h g
 split at h;.simp at h
 rename_i a;split at h;.simp at h
 rename_i i;simp only[mr,Qt,aP,da,cU,fJ,Ag]at d;simp only[named,Qt,aP,dW,b9]at a;exact⟨by simpa using c,by simpa using b,d.1.1,a.1.symm,a.2.symm,⟨by omega,by omega⟩,⟨by omega,by omega⟩⟩
def fy(before:List It)(x:It):Int:=if bQ before.getLast? x=Z then 1 else if(bW x&&!fits before x)=A then 7 else 0
def s7:∀(a pre:List It) (x:It),bA pre (x::a)=if fy pre x≠0 then fy pre x else bA (pre++[x]) a:=by
 intro a pre x;simp only[bA,fy];split;.simp
 split<;>simp
def cM:List It :=if U.ao0≠1 then X++[U]else if U.ao3=[]then X else
 match X.getLast? with|some y=>if y.ao0=1 then X.dropLast++[⟨1,y.ao3++U.ao3,0⟩]else X++[⟨1,U.ao3,0⟩]|none=>X++[⟨1,U.ao3,0⟩]
def qD:List It:=X.foldl cM []
def wZ:Bool:=match X.getLast? with|some y=>y.ao0==1|none=>Z
def KV:∀(n m:Nat) (f:List It),F f<=n->F f<=m->jn n f=jn m f:=by
 intro n;induction n with
 |zero =>intro m f h _;have:f=[]:=aL (by omega);subst this;cases m<;>rfl
 |succ n ih =>
 intro m f d b;cases f with
 |nil=>cases m<;>rfl
 |cons x r =>
 cases m with
 |zero=>simp at b
 |succ m =>
 simp only[ah]at d b;by_cases a:x.ao0=1
 .have e:=pT (x:=x) (r:=r) a;have c:=ih m (ao8 (x::r)).2 (by omega) (by omega);simp only[jn,a,fJ,gm,aQ];split;.exact c
  rw[c]
 simp only[jn,aK a];rw[ih m r (by omega) (by omega)]
def BF(a:R.ao0≠1):ao6 (R::T)=R::ao6 T:=by simp only[ao6,ah,jn,aK a]
def oP{x:It}{r:List It}(a:x.ao0=1):ao6 (x::r)=if(ao8 (x::r)).1.length=0 then ao6 (ao8 (x::r)).2 else⟨1,(ao8 (x::r)).1,0⟩::ao6 (ao8 (x::r)).2:=by have b:=pT (x:=x) (r:=r) a;have e:jn (F r) (ao8 (x::r)).2=jn (F (ao8 (x::r)).2) (ao8 (x::r)).2:=KV _ _ _ b (ax _);simp only[ao6,ah,jn,a,fJ,gm,aQ,e]
def qi(f:List It):List It:=if r=[]then ao6 f else
 ⟨1,r++(ao8 f).1,0⟩::ao6 (ao8 f).2
def PZ:∀(f a:List It) (t:aJ),(wZ a=Z)->f.foldl cM (closed a t)=a++qi t f:=by
 intro f;induction f with
 |nil =>
  intro a t g;simp only[vE,qi,closed];split;.simp[ao6,jn]
  simp[ao8,ao6,jn]
 |cons x f ih =>
 intro a t g;simp only[dK];by_cases c:x.ao0=1
 .by_cases e:x.ao3=[]
  .have h:cM (closed a t) x=closed a t:=by simp[cM,c,e]
   rw[h,ih a t g];congr 1;simp only[qi];have d:ao8 (x::f)=((ao8 f).1,(ao8 f).2):=by simp[ao8,c,e]
   by_cases b:t=[]
   .rw[aK b,aK b,oP c,d];cases f with
    |nil=>simp[ao8,ao6,jn]
    |cons y f =>
    by_cases i:y.ao0=1;.rw[oP i]
    simp[ao8,i]
   rw[au b,au b,d]
  have h:cM (closed a t) x=closed a (t++x.ao3):=by
   simp only[cM,c,fJ,gm,aQ,au e];have j:t++x.ao3≠[]:=by simp[e]
   by_cases b:t=[]
   .subst b;rw[kR];simp only[closed,bg,au e];simp only[wZ]at g;cases k:a.getLast? with
    |none=>rfl
    |some y =>
    rw[k]at g;have i:¬y.ao0=1:=by simpa using g
    simp only[au i]
   simp[closed,b]
  rw[h,ih a _ g];congr 1;have j:t++x.ao3≠[]:=by simp[e]
  simp only[qi,au j];have d:ao8 (x::f)=(x.ao3++(ao8 f).1,(ao8 f).2):=by simp[ao8,c]
  by_cases b:t=[]
  .subst b;rw[aK rfl,oP c,d];have:F (x.ao3++(ao8 f).1)≠0:=by have:=dJ.2 e;rw[ai];omega
   rw[au this];simp
  rw[au b,d];simp
 have h:cM (closed a t) x=closed (closed a t++[x]) []:=by rw[kR];simp[cM,c]
 have l:wZ (closed a t++[x])=Z:=by simp[wZ,c]
 rw[h,ih _ [] l];have d:ao8 (x::f)=([],x::f):=by simp[ao8,c]
 simp only[qi,aU,d,bM,BF c];by_cases b:t=[];.simp[closed,b]
 simp[closed,b]
def nG:qD X=ao6 X:=by have:=PZ X [] [] rfl;rw[kR]at this;simpa[qi,qD]using this
def eJ:aR (X++Q)=aR X+aR Q:=by induction X with|nil=>simp[aR]|cons x X ih=>simp only[bo,aR,ih];omega
def oQ:aR (cM X U)<=aR X+U.ao3.length/\F (cM X U)<=F X+1:=by
 simp only[cM];split
 .simp[eJ,aR]
 .split
  .omega
  .split
   .rename_i y a;have b:X≠[]:=by rintro rfl;simp at a
    have e:X=X.dropLast++[y]:=by
     have:=List.dropLast_concat_getLast b;rw[List.getLast?_eq_some_getLast b]at a;simp only[aa]at a;rw[a]at this;exact this.symm
    split
    .have c:aR X=aR X.dropLast+F y.ao3:=by
      conv=>lhs;rw[e]
      simp[eJ,aR]
     simp[eJ,aR];omega
    .simp[eJ,aR]
   .simp[eJ,aR]
end Go.Bt
