/- A part of a proof; the claim's last text says of what. -/
import Derived.Test.YtfeddmfijllgmaaGreatDoorB9
import Derived.Test.YtfeddmfijllgmaaGreatDoorB18
set_option linter.all false
open Option renaming some->S,none->Z
open Bool renaming true->θ,false->G
open List renaming length->Y

namespace Go.Bt
open Go Go.Pm
variable(s:aR)(c:UInt8)(n:Int)(f:List It)(T:It){X:UInt8}
def arq:0<=(c.toNat:Int).fdiv (2^min 4 IntKind.u8.bits)/\(c.toNat:Int).fdiv (2^min 4 IntKind.u8.bits)<16 /\([48,49,50,51,52,53,54,55,56,57,97,98,99,100,101,102]:aR).getD ((c.toNat:Int).fdiv (2^min 4 IntKind.u8.bits)).toNat 0=mM (c.toNat / 16):=by revert c;exact lq (by decide +kernel)
def arp:0<=IntKind.u8.wrap (((BitVec.ofInt IntKind.u8.bits (c.toNat:Int) &&& BitVec.ofInt IntKind.u8.bits 15).toNat:Nat):Int)/\IntKind.u8.wrap (((BitVec.ofInt IntKind.u8.bits (c.toNat:Int) &&& BitVec.ofInt IntKind.u8.bits 15).toNat:Nat):Int)<16 /\([48,49,50,51,52,53,54,55,56,57,97,98,99,100,101,102]:aR).getD (IntKind.u8.wrap (((BitVec.ofInt IntKind.u8.bits (c.toNat:Int) &&& BitVec.ofInt IntKind.u8.bits 15).toNat:Nat):Int)).toNat 0=mM (c.toNat % 16):=by revert c;exact lq (by decide +kernel)
def dP:aR :=if T.azT=1 then T.azX.flatMap ig else if T.azT=2 then 60::(Lib.itoa T.id++58::(T.azX++[62]))else if T.azT=3 then 60::47::(Lib.itoa T.id++58::(T.azX++[62]))
 else if T.azT=4 then 60::(Lib.itoa T.id++58::(T.azX++[47,62]))else if T.azT=5 then 123::(T.azX++[125])else[]
def aAh:aR×Int:=if dq f≠0 then([],dq f)else(f.flatMap dP,0)
def Mf:Y (ig c)<=4:=by simp only[ig];(repeat' split)<;>simp
def Np:Y (s.flatMap ig)<=4*Y s:=by induction s with|nil=>simp|cons c s ih =>have:=Mf c;simp only[fK,ah,ae];omega
def LG:∀(a b:List It),cz b a=0->∀x∈a,1<=x.azT/\x.azT<=5:=by
 intro a;induction a with
 |nil=>intro b h x c;simp at c
 |cons y a ih =>
 intro b h x c;simp only[cz]at h;split at h;.simp at h
 rename_i d;split at h;.simp at h
 rcases bd.1 c with rfl|c
 .simp only[cP]at d;by_cases g:x.azT=1;.omega
  by_cases e:x.azT=5;.omega
  by_cases f:x.azT=2\/x.azT=4;.omega
  by_cases i:x.azT=3;.omega
  simp[g,e,f,i]at d
 exact ih _ h x c
def zh{f:List It}(h:dq f=0):∀x∈f,1<=x.azT/\x.azT<=5:=by
 simp only[dq]at h;split at h;.simp at h
 exact LG f [] h
def uJ(h : -9223372036854775808<=T.id/\T.id<=9223372036854775807):Y (dP T)<=4*T.azX.length+30:=by
 have a:=Lib.itoa_length_le T.id h.1 h.2;have b:=Np T.azX;simp only[dP];split;.omega
 split;.simp;omega
 split;.simp;omega
 split;.simp;omega
 split;.simp;omega
 simp
def qH(i:Y f<2^30)(g:bo f<2^30)(b:∀x∈f,-9223372036854775808<=x.id/\x.id<=9223372036854775807):Y (aAh f).1<2^36:=by
 have a:∀f:List It,(∀x∈f,-9223372036854775808<=x.id/\x.id<=9223372036854775807)->Y (f.flatMap dP)<=4*bo f+30*Y f:=by intro f;induction f with|nil=>intro _;simp|cons x f ih =>intro h;have d:=ih λy c=>h y (by simp[c]);have e:=uJ x (h x (by simp));simp only[fK,ah,bo,ae];omega
 have:=a f b;simp only[aAh];split;.simp
 simp only;omega
def xd:∀l:aR,-1<=Lib.indexByte l c:=by
 intro l;induction l with
 |nil=>simp[Lib.indexByte]
 |cons a l ih =>
 simp only[Lib.indexByte];split;.omega
 split<;>omega
def AJ:∀{l:aR},X ∉ l->Lib.indexByte l X = -1:=by
 intro l;induction l with
 |nil=>intro _;simp[Lib.indexByte]
 |cons a l ih =>
 intro h;have b:(a==X)=G:=by simp only[bd,Bb]at h;simpa using λe=>h.1 e.symm
 have d:=ih (λc=>h (bJ _ c));simp[Lib.indexByte,b,d]
def uM{c:UInt8}{rest:aR}:∀{pre:aR},c ∉ pre->Lib.indexByte (pre++c::rest) c=Y pre:=by
 intro pre;induction pre with
 |nil=>intro _;simp[Lib.indexByte]
 |cons a l ih =>
 intro h;have b:(a==c)=G:=by simp only[bd,Bb]at h;simpa using λe=>h.1 e.symm
 have f:=ih (λd=>h (bJ _ d));simp only[aF,Lib.indexByte,b,f,aP,bw,ae];have:((Y l:Int) == -1)=G:=by rw[gN];omega
 rw[this];simp
def vM{l:aR}(h:X∈l):0<=Lib.indexByte l X:=by
 induction l with
 |nil=>simp at h
 |cons a l ih =>
 have g:=xd X l;simp only[Lib.indexByte];by_cases b:a=X;.simp[b]
 have d:(a==X)=G:=by simpa using b
 have c:X∈l:=by
  rcases bd.1 h with h|h;.exact absurd h.symm b
  exact h
 have f:=ih c;have e:(Lib.indexByte l X == -1)=G:=by simp;omega
 simp[d,e];omega
structure En where
 azZ:List It
 az0:List It
 cM:aR
 next:aR
 eu:aR
 dC:aR
 aAb:Int
 aAc:Int
def En.azR(e:En):aB:=[.sl 3 (e.azZ.map It.azR),.sl 3 (e.az0.map It.azR),.s e.cM,.s e.next,.s e.eu,.s e.dC,.i .i64 e.aAb,.i .i64 e.aAc]
def named:Bool:=s==[]||aAa s
def qx(e:En):Bool:=!(Y e.azZ==0)&&jG (kc e.azZ e.az0) e.azZ&&jG (k6 e.azZ e.az0) e.az0
def dx(e:En):Int :=if dq e.azZ≠0 then dq e.azZ else if dq e.az0≠0 then dq e.az0 else
 if qx e=G then 1 else
 if(parse e.cM).2.2≠0 then(parse e.cM).2.2 else if(parse e.next).2.2≠0 then(parse e.next).2.2 else
 if(named e.eu&&named e.dC)=G then 4 else
 if e.aAb<0\/1073741824<e.aAb\/e.aAc<1\/3<e.aAc then 1 else 0
structure En.azU (e:En):Prop where
 azZ:e.azZ.length<2^30
 lC:bo e.azZ<2^30
 az0:e.az0.length<2^30
 td:bo e.az0<2^30
 cM:e.cM.length<2^30
 next:e.next.length<2^30
 ids:∀x∈e.azZ++e.az0,-9223372036854775808<=x.id/\x.id<=9223372036854775807
def dO(e:En):aR:=(aAh e.azZ).1++10::(e.cM++10::e.next)
def gT(e:En):aR:=if dx e≠0 then[]else dO e
structure aV where
 aY:cL
 azT:Int
 azV:En
 az1:bU
def aV.azR(o:aV):aB:=o.aY.azR++[.i .i64 o.azT]++o.azV.azR++[.sl 1 (o.az1.map cN)]
structure aV.azU (o:aV):Prop where
 azV:o.azV.azU
 eu:o.azV.eu.length<2^30
 dC:o.azV.dC.length<2^30
 az1:o.az1.length<2^30
def aAd(e:En):En:=⟨e.azZ,e.azZ,e.cM,e.next,[],[],0,1⟩
def aAi(o:aV):En:=if o.azT≠2 then o.azV else aAd o.azV
def pz(e:En):Bool:=Y e.az0==0&&(e.eu==[]&&(e.dC==[]&&(e.aAb==0&&e.aAc==0)))
def yD{o:aV}(h:o.azU):(aAi o).azU:=by
 simp only[aAi];split;.exact h.azV
 exact⟨h.azV.azZ,h.azV.lC,h.azV.azZ,h.azV.lC,h.azV.cM,h.azV.next,λx a=>h.azV.ids x (by simp only[aAd,bW]at a |-;rcases a with a|a<;>exact .inl a)⟩
def ko(v:bU):bU:=u9 v []
def fc(o:aV):Int :=if k8 o.aY=G then 1 else
 if(o.azT≠1/\o.azT≠2)\/ko o.az1≠o.az1 then 1 else
 if o.az1.any (λn=>decide (128<n))then 1 else
 if ox o.az1 o.aY.bS≠o.aY.azW - 1 then 11 else
 if o.azT=2/\pz o.azV=G then 1 else dx (aAi o)
def cX(o:aV):aR:=if fc o≠0 then[]else gT (aAi o)
def ll(n:Int):UInt8:=UInt8.ofNat (n % 256).toNat
def wm:aR:=[ll (n / 256),ll n]
def G4:aR:=wm (n / 65536)++wm n
def gz:Y (G4 n)=4:=rfl
def iU:Y (wm n)=2:=rfl
def fH:aR:=G4 (Y s)++s
def dJ(o:aV):aR :=[1,ll o.azT]++G4 o.aY.time++[ll o.aY.bS]++wm o.aY.azW++[ll o.az1.length]++o.az1.flatMap wm ++fH (aAh o.azV.azZ).1++fH o.azV.cM++fH o.azV.next ++(if o.azT=1 then fH (aAh o.azV.az0).1++fH o.azV.eu++fH o.azV.dC++G4 o.azV.aAb++[ll o.azV.aAc]else[])
def az6(o:aV):aR×Int:=if fc o≠0 then([],fc o)else(dJ o,0)
def jN:aR->aR->Int|[],[]=>0|[],_::_ => -1|_::_,[]=>1|a::x,b::y=>if a<b then -1 else if b<a then 1 else jN x y
def iq(a b:aV):Int :=
 let n:=wj [gJ a.aY.bS b.aY.bS,gJ a.aY.azW b.aY.azW,gJ a.aY.time b.aY.time,gJ a.azT b.azT]
 if n≠0 then n else jN (az6 a).1 (az6 b).1
def lp(a b:aV):Bool:=decide (0<jH a.aY b.aY)||(decide (jH a.aY b.aY=0)&&decide (0<iq a b))
structure Rb where
 b:aR
 bad:Bool
def Rb.take(r:Rb)(n:Nat):aR×Rb :=if Y r.b<n then(List.replicate (min n 4) 0,⟨[],θ⟩)else(r.b.take n,⟨r.b.drop n,r.bad⟩)
def iL:Int:=s.foldl (λa x=>a*256+x.toNat) 0
def Rb.azW(r:Rb)(n:Nat):Int×Rb:=(iL (r.take n).1,(r.take n).2)
def Rb.azX(r:Rb):aR×Rb :=
 let p:=r.azW 4
 if(Y p.2.b:Int)<p.1 then([],⟨p.2.b,θ⟩)else p.2.take p.1.toNat
def Rb.aAl(r:Rb):List It×Rb :=
 let p:=r.azX;let q:=parse p.1
 (q.1,⟨p.2.b,p.2.bad||q.2.2 != 0⟩)
def Rb.az8:Nat->Rb->bU×Rb|0,r=>([],r)|n+1,r=>let p:=r.azW 2;let q:=Rb.az8 n p.2;(p.1::q.1,q.2)
def UU:En:=⟨[],[],[],[],[],[],0,0⟩
def CT:aV:=⟨⟨0,0,0⟩,0,UU,[]⟩
def kt:aV×Int×Rb :=
 let v:=(Rb.mk s G).azW 1;let k:=v.2.azW 1;let t:=k.2.azW 4;let f:=t.2.azW 1;let m:=f.2.azW 2;let c:=m.2.azW 1;let a:=Rb.az8 c.1.toNat c.2;let src:=a.2.aAl;let d:=src.2.azX;let b:=d.2.azX
 if k.1=1 then
  let tg:=b.2.aAl;let g:=tg.2.azX;let e:=g.2.azX;let h:=e.2.azW 4;let i:=h.2.azW 1
  (⟨⟨t.1,f.1,m.1⟩,k.1,⟨src.1,tg.1,d.1,b.1,g.1,e.1,h.1,i.1⟩,a.1⟩,v.1,i.2)
 else(⟨⟨t.1,f.1,m.1⟩,k.1,⟨src.1,[],d.1,b.1,[],[],0,0⟩,a.1⟩,v.1,b.2)
def decode:aV×Int :=
 let p:=kt s
 if p.2.2.bad=θ\/0<Y p.2.2.b\/p.2.1≠1 then(CT,12)else
 if(az6 p.1).2≠0\/(az6 p.1).1≠s then(CT,12)else(p.1,0)
def jO(m:List (aR×aV))(o:aV):List (aR×aV) :=
 if cX o=[]then m else match jM (cX o) m with|none=>oN m (cX o) o|some a=>if lp o a then oN m (cX o) o else m
def iE(l:List aV):List (aR×aV):=if 1024<Y l then[]else l.foldl jO []
def leB(x y:aR):Bool:=decide (x<=y)
def current(l:List aV):List aV:=(((iE l).map (·.1)).mergeSort leB).filterMap λk=>jM k (iE l)
def dw(l:List aV):List En:=((current l).filter λo=>o.azT==1).map (·.azV)
section
variable {α β:Type} [DecidableEq α]
def Yl(l:List (α×β))(a:α)(b:β):(oN l a b).map (·.1)=if(jM a l).isSome=θ then l.map (·.1)else l.map (·.1)++[a]:=by
 induction l with
 |nil=>simp[oN,r6]
 |cons p l ih =>
 simp only[oN,rf];by_cases h:a=p.1;.simp[h]
 rw[aw h,aI,ih,aw h];split<;>rename_i c;.simp
 simp
def Ni{a:α}:∀{l:List (α×β)},jM a l=Z<->a ∉ l.map (·.1):=by
 intro l;induction l with
 |nil=>simp[r6]
 |cons p l ih =>
 rw[rf];by_cases h:a=p.1;.simp[h]
 simp only[aw h,ih,aI,bd,Bb];exact⟨λb=>⟨h,b⟩,λb=>b.2⟩
def Nh{a:α}{l:List (α×β)}(h:a∈l.map (·.1)):∃b,jM a l=S b:=by cases c:jM a l with|none=>exact absurd h (Ni.1 c)|some b=>exact⟨b,rfl⟩
def H5{l:List (α×β)}{a:α}{b:β}(h:(l.map (·.1)).Nodup):((oN l a b).map (·.1)).Nodup:=by
 rw[Yl];split;.exact h
 rename_i f;have i:a ∉ l.map (·.1):=λj=>f (by obtain⟨b,d⟩:=Nh j;simp[d]);rw[xn];refine⟨h,by simp,?_⟩;intro x g y c;simp only[bd,bD,mZ]at c;subst c;exact λe=>i (e▸g)
def Nj{a:α}{b:β}:∀{l:List (α×β)},jM a l=S b->(a,b)∈l:=by
 intro l;induction l with
 |nil=>intro h;simp[r6]at h
 |cons p l ih =>
 intro h;rw[rf]at h;split at h;.rename_i e;simp only[ab]at h;subst e;subst h;exact cU ..
 exact bJ _ (ih h)
end
variable(a:List It)(n:Int)(d:UInt8)(r:aR)(l:List aV)(T:It)(Q:Nat)(b:List It)(q:UInt8)(N:aR){U:It}{m:List (aR×aV)}{X:List It}{R:List aV}{c:UInt8}{s P:aR}{p:aR×aV}{o:aV}
def Lc(h:(m.map (·.1)).Nodup):((jO m o).map (·.1)).Nodup:=by
 simp only[jO];split;.exact h
 split;.exact H5 h
 split;.exact H5 h
 exact h
def QR(m:List (aR×aV))(o:aV):Y (jO m o)<=Y m+1:=by
 simp only[jO];split;.omega
 split;.exact Q3 _ _ _
 split;.exact Q3 _ _ _
 omega
def VC:∀(m:List (aR×aV)),(m.map (·.1)).Nodup->((l.foldl jO m).map (·.1)).Nodup:=by induction l with|nil=>intro m h;exact h|cons o l ih=>intro m h;exact ih _ (Lc h)
def ad6:∀(m:List (aR×aV)),Y (l.foldl jO m)<=Y m+Y l:=by induction l with|nil=>intro m;simp|cons o l ih =>intro m;have b:=ih (jO m o);have a:=QR m o;simp only[bH,ae];omega
def B6:((iE l).map (·.1)).Nodup:=by
 simp only[iE];split;.simp
 exact VC l [] (by simp)
def FQ:Y (iE l)<=1024:=by
 simp only[iE];split;.simp
 have:=ad6 l [];simp at this;omega
def NP(h:p∈jO m o):p=(cX o,o)\/p∈m:=by
 have Bh:∀{m:List (aR×aV)},p∈oN m (cX o) o->p=(cX o,o)\/p∈m:=by
  intro m;induction m with
  |nil=>intro h;simp[oN]at h;exact .inl h
  |cons q l ih =>
  intro h;simp only[oN]at h;split at h
  .rcases bd.1 h with h|h;.exact .inl h
   exact .inr (bJ _ h)
  rcases bd.1 h with h|h;.exact .inr (h▸cU ..)
  rcases ih h with h|h;.exact .inl h
  exact .inr (bJ _ h)
 simp only[jO]at h;split at h;.exact .inr h
 split at h;.exact Bh h
 split at h;.exact Bh h
 exact .inr h
def ad5:∀(m:List (aR×aV)) (p:aR×aV),p∈l.foldl jO m->(p.1=cX p.2/\p.2∈l)\/p∈m:=by
 induction l with
 |nil=>intro m p h;exact .inr h
 |cons o l ih =>
 intro m p h;rcases ih _ p h with h|h;.exact .inl ⟨h.1,bJ _ h.2⟩
 rcases NP h with rfl|h;.exact .inl ⟨rfl,cU ..⟩
 exact .inr h
def zH(h:p∈iE R):p.1=cX p.2/\p.2∈R:=by
 simp only[iE]at h;split at h;.simp at h
 rcases ad5 R [] p h with h|h;.exact h
 simp at h
def lZ:gW:=((iE l).map (·.1)).mergeSort leB
def qt:(lZ l).Perm ((iE l).map (·.1)):=uq _ _
def zi(h:s∈lZ R):∃o,jM s (iE R)=S o:=Nh ((qt R).mem_iff.1 h)
def zS:Y (lZ l)<=1024:=by have:=FQ l;rw[(qt l).length_eq];simpa using this
def rh(h:o∈current R):o∈R:=by simp only[current,V9]at h;obtain⟨k,_,a⟩:=h;exact(zH (Nj a)).2
def AZ:Y (current l)<=1024:=cE (ar4 _ _) (zS l)
def D9:Y (dw l)<=1024:=by have:=AZ l;simp only[dw,aa];exact cE (kW _ _) this
def Hv(a b:En):Bool:=jG a.azZ b.azZ&&(jG a.az0 b.az0&&(a.cM==b.cM&&(a.next==b.next&&(a.eu==b.eu&&(a.dC==b.dC&&(a.aAb==b.aAb&&a.aAc==b.aAc))))))
def Eu{a b:En}:Hv a b=θ<->a=b:=by obtain⟨k,j,d,e,h,c,r,m⟩:=a;obtain⟨f,o,p,l,g,q,n,i⟩:=b;simp[Hv,BA]
def kU:List En->List En->Bool|[],[]=>θ|a::x,b::y=>Hv a b&&kU x y|_,_=>G
def Ns:∀{a b:List En},kU a b=θ<->a=b|[],[]=>by simp[kU]|a::x,b::y=>by simp[kU,Eu,Ns (a:=x) (b:=y)]|[],b::y=>by simp[kU]|a::x,[]=>by simp[kU]
def Nr:∀{a b:List En},kU a b=θ->Y a=Y b:=λh=>by rw[Ns.1 h]
def place(a:Int):Int:=if n.tmod a<0 then n.tmod a+a else n.tmod a
def tM{x n:Int}(h:0<n):0<=place x n/\place x n<n:=by have b:=Int.tmod_lt_of_pos x h;have a : - n<x.tmod n:=Int.neg_lt_of_neg_lt (by have:=Int.tmod_lt_of_pos (-x) h;rw[Int.neg_tmod]at this;omega);simp only[place];split<;>omega
def YY:∀c:UInt8,yB c=θ->c≠92/\c≠60/\c≠123:=lq (by decide +kernel)
def aii:∀c:UInt8,nw (mM (c.toNat / 16)) (mM (c.toNat % 16))=c/\(mg (mM (c.toNat / 16))).2=θ/\(mg (mM (c.toNat % 16))).2=θ:=lq (by decide +kernel)
def aij:∀c:UInt8,yB c=G->c≠10->c≠9->¬(c=92\/c=60\/c=123)->(c==13||pP c==1)=θ:=lq (by decide +kernel)
def uQ(r:aR):fN (d::q::r)=if q=92\/q=60\/q=123 then(q,2,θ)else if q=110 then(10,2,θ)else if q=116 then(9,2,θ)else if q=120 then
  (if Y r<2 then(0,0,G)else(nw (r.getD 0 0) (r.getD 1 0),4,(mg (r.getD 0 0)).2&&(mg (r.getD 1 0)).2&&(nw (r.getD 0 0) (r.getD 1 0)==13||pP (nw (r.getD 0 0) (r.getD 1 0))==1)))else(0,0,G):=by
 simp only[fN,ae,aX,bB];rw[aw (by omega)];have e:(Y r+1+1<4)=(Y r<2):=by rw[amr];omega
 simp only[e]
def Ex:cc (92::d::r)=(⟨1,[(fN (92::d::r)).1],0⟩,(fN (92::d::r)).2.1,(fN (92::d::r)).2.2):=by simp only[cc,aX,aU]
def Nv:cc (ig d++r)=(⟨1,[d],0⟩,(Y (ig d):Int),θ):=by
 unfold ig;split;.rename_i h;have f:=YY d h;simp[cc,f,h]
 rename_i h;have h:yB d=G:=by simpa using h
 split;.rename_i a;subst a;simp only[aF,ay,Ex,uQ];rfl
 split;.rename_i a b;subst b;simp only[aF,ay,Ex,uQ];rfl
 split;.rename_i a b c;simp only[aF,ay,Ex,uQ,aQ c];rfl
 rename_i a b c;have e:=aii d;have g:=aij d h a b c;simp only[aF,ay,Ex,uQ];rw[aw (by decide),aw (by decide),aw (by decide),aQ (by decide),aw (by simp)];simp only[aX,bB,e.1,e.2.1,e.2.2,g,dB];rfl
def Gv:∀c:UInt8,me c=θ->c≠62/\c≠125/\c≠58/\c≠47/\c≠32/\kM c=G:=lq (by decide +kernel)
def Zg:∀c:UInt8,(97<=c.toNat/\c.toNat<=122)->me c=θ:=lq (by decide +kernel)
def KE:∀c:UInt8,kM c=G->c≠62/\c≠125/\c≠60/\c≠123:=lq (by decide +kernel)
def ye:∀c:UInt8,gC c=θ->c≠62/\c≠58/\c≠47/\kM c=G:=lq (by decide +kernel)
def JW(h:aAa s=θ):∀c∈s,me c=θ:=by
 cases s with
 |nil=>simp[aAa]at h
 |cons c r =>
 simp only[aAa,aZ,bE,df]at h;intro x a;rcases bd.1 a with rfl|a;.exact Zg _ h.1.2
 exact h.2 x a
def Nt(t rest:aR)(h:aAa t=θ):cc (123::(t++125::rest))=(⟨5,t,0⟩,(Y t:Int)+2,θ):=by
 have b:Lib.indexByte (123::(t++125::rest)) 125=(Y (123::t:aR):Int):=by
  have:=uM (c:=125) (rest:=rest) (pre:=123::t) (by
   intro a;rcases bd.1 a with a|a;.exact absurd a (by decide)
   exact(Gv _ (JW h _ a)).2.1 rfl);simpa using this
 have e:((123::(t++125::rest)).take (Lib.indexByte (123::(t++125::rest)) 125).toNat).drop 1=t:=by rw[b];simp
 simp only[cc,aX,e,h];rw[aw (by decide),aw (by decide),aQ (by decide),aw (by rw[b];simp;omega),b];simp;omega
def AY(h:c ∉ s):az2 (s++c::P) c=(s,P,θ):=by simp only[az2,uM h];rw[aQ (by omega)];simp
def d3:aR:=if Q<10 then[UInt8.ofNat (48+Q)]else if Q<100 then[UInt8.ofNat (48+Q / 10),UInt8.ofNat (48+Q % 10)]else[UInt8.ofNat (48+Q / 100),UInt8.ofNat (48+Q / 10 % 10),UInt8.ofNat (48+Q % 10)]
def HQ(h:Q<1000):Lib.itoa (Q:Int)=d3 Q:=by
 unfold Lib.itoa;rw[aw (by omega)];simp only[ak,d3];by_cases a:Q<10;.rw[aQ a,Lib.decDigits_one a]
 rw[aw a];by_cases b:Q<100;.rw[aQ b,Lib.decDigits_two a b]
 rw[aw b,Lib.decDigits,dif_neg a,Lib.decDigits_two (by omega) (by omega)];simp only[aF,ay];have e:Q / 10 / 10=Q / 100:=by omega
 rw[e]
def ame:∀n:Fin 1000,1<=n.val->aAg (d3 n.val)=((n.val:Int),θ)/\(d3 n.val).all gC=θ/\(d3 n.val)≠[]:=by decide +kernel
def AF(h:1<=n/\n<=999):aAg (Lib.itoa n)=(n,θ)/\(∀c∈Lib.itoa n,gC c=θ)/\Lib.itoa n≠[]:=by obtain⟨m,rfl⟩:∃m:Nat,n=m:=⟨n.toNat,by omega⟩;have:=ame ⟨m,by omega⟩ (by show 1<=m;omega);rw[HQ m (by omega)];exact⟨this.1,λc a=>df.1 this.2.1 c a,this.2.2⟩
def GY(h:fB s=θ):(∀c∈s,kM c=G)/\s≠[]/\(s.getD (Y s - 1) 0).toNat≠47:=by simp only[fB,mz,aZ,bE,df,dG]at h;exact⟨h.1.2,by intro e;simp[e]at h,h.1.1.2⟩
def C6(t rest:aR)(h:∀c∈t,c≠62):cc (60::(t++62::rest))=((lL t).1,(Y t:Int)+2,(lL t).2):=by
 have b:Lib.indexByte (60::(t++62::rest)) 62=(Y (60::t:aR):Int):=by
  have:=uM (c:=62) (rest:=rest) (pre:=60::t) (by
   intro a;rcases bd.1 a with a|a;.exact absurd a (by decide)
   exact h _ a rfl);simpa using this
 have e:((60::(t++62::rest)).take (Lib.indexByte (60::(t++62::rest)) 62).toNat).drop 1=t:=by rw[b];simp
 simp only[cc,aX,e];rw[aw (by decide),aQ (by decide),aw (by rw[b];simp;omega),b];simp;omega
def Ei(h:s.getD 0 0≠c):aAj s [c]=G:=by cases s with|nil=>simp[aAj]|cons a s=>simp only[aX]at h;simp[aAj,h]
def Qa(h:s.getD (Y s - 1) 0≠c):aAm s [c]=G:=by
 simp only[aAm,ae,ai,aG];by_cases b:1<=Y s
 .have a:s.drop (Y s - 1)=[s.getD (Y s - 1) 0]:=by
   rw[gG (by omega)];have e:Y s - 1+1=Y s:=by omega
   rw[e];simp[aA,show Y s - 1<Y s by omega]
  rw[a];simpa using λ_=>h
 simp;omega
def LR(c:UInt8):aAm (r++[c]) [c]=θ:=by simp[aAm]
def JV(h:1<=n/\n<=999)(t:aR)(c:UInt8)(f:gC c=G):(Lib.itoa n++t).getD 0 0≠c:=by obtain⟨_,g,d⟩:=AF n h;cases b:Lib.itoa n with|nil=>exact absurd b d|cons a s =>simp only[aF,aX];intro e;have:=g a (by rw[b];simp);rw[e,f]at this;simp at this
def aac(id:Int)(t b:aR)(d:1<=id/\id<=999)(h:fB t=θ):cc (60::(Lib.itoa id++58::(t++62::b)))=(⟨2,t,id⟩,(Y (Lib.itoa id):Int)+Y t+3,θ):=by
 obtain⟨j,f,n⟩:=AF id d;obtain⟨i,o,l⟩:=GY h;have:=C6 (Lib.itoa id++58::t) b (by
  intro c a;rcases bW.1 a with a|a;.exact(ye c (f c a)).1
  rcases bd.1 a with rfl|a;.decide
  exact(KE c (i c a)).1);simp only[aO,aF]at this;rw[this];have m:aAj (Lib.itoa id++58::t) [47]=G:=Ei (JV id d _ 47 (by decide));have a:az2 (Lib.itoa id++58::t) 58=(Lib.itoa id,t,θ):=AY λk=>(ye _ (f _ k)).2.1 rfl;have g:aAm t [47]=G:=Qa λe=>l (by rw[e];rfl);simp[lL,m,a,g,j,h];omega
def VI(id:Int)(t b:aR)(d:1<=id/\id<=999)(h:fB t=θ):cc (60::(Lib.itoa id++58::(t++47::62::b)))=(⟨4,t,id⟩,(Y (Lib.itoa id):Int)+Y t+4,θ):=by
 obtain⟨i,e,l⟩:=AF id d;obtain⟨g,n,m⟩:=GY h;have:=C6 (Lib.itoa id++58::(t++[47])) b (by
  intro c a;rcases bW.1 a with a|a;.exact(ye c (e c a)).1
  rcases bd.1 a with rfl|a;.decide
  rcases bW.1 a with a|a;.exact(KE c (g c a)).1
  simp only[bd,bD,mZ]at a;subst a;decide);simp only[aO,aF,ay]at this;rw[this];have k:aAj (Lib.itoa id++58::(t++[47])) [47]=G:=Ei (JV id d _ 47 (by decide));have a:az2 (Lib.itoa id++58::(t++[47])) 58=(Lib.itoa id,t++[47],θ):=AY λj=>(ye _ (e _ j)).2.1 rfl;have f:aAm (t++[47]) [47]=θ:=LR t 47;simp[lL,k,a,f,i,h];omega
def VJ(id:Int)(t b:aR)(d:1<=id/\id<=999)(h:aAa t=θ):cc (60::47::(Lib.itoa id++58::(t++62::b)))=(⟨3,t,id⟩,(Y (Lib.itoa id):Int)+Y t+4,θ):=by
 obtain⟨f,e,j⟩:=AF id d;have:=C6 (47::(Lib.itoa id++58::t)) b (by
  intro c a;rcases bd.1 a with rfl|a;.decide
  rcases bW.1 a with a|a;.exact(ye c (e c a)).1
  rcases bd.1 a with rfl|a;.decide
  exact(Gv c (JW h c a)).1);simp only[aO,aF]at this;rw[this];have i:aAj (47::(Lib.itoa id++58::t)) [47]=θ:=by simp[aAj]
 have a:az2 (Lib.itoa id++58::t) 58=(Lib.itoa id,t,θ):=AY λg=>(ye _ (e _ g)).2.1 rfl;simp[lL,i,a,f,h];omega
def wid:Nat:=if T.azT=1 then T.azX.length else 1
def aAf:Nat:=(a.map wid).sum
def EW(m:List (Int×It))(x:It):List (Int×It):=if tagged x then oN m x.id x else m
def vf:List (Int×It):=a.foldl EW []
def tH:Rd:=⟨a,r,aAf a+Y r,vf a⟩
def closed:List It:=if r=[]then a else a++[⟨1,r,0⟩]
def mj:aAf (a++b)=aAf a+aAf b:=by simp[aAf]
def uT:aAf [T]=wid T:=by simp[aAf]
def zQ:vf (a++[T])=EW (vf a) T:=by simp[vf]
def Re{m:List (Int×It)}{i:Int}:EW m ⟨1,s,i⟩=m:=by simp[EW,tagged]
def Lj:vf (closed a r)=vf a:=by
 simp only[closed];split;.rfl
 rw[zQ,Re]
def rz:aAf (closed a r)=aAf a+Y r:=by
 simp only[closed];split;.rename_i h;simp[h]
 rw[mj,uT];simp[wid]
def yX:Y (closed a r)=Y a+(if 0<Y r then 1 else 0):=by
 simp only[closed];split;.rename_i h;simp[h]
 rename_i h;have:0<Y r:=fJ.2 h;simp[this]
def CL:(kr (tH a r)).f=closed a r:=by
 by_cases h:r=[];.subst h;rfl
 have b:0<Y r:=fJ.2 h;have e:kr (tH a r)=⟨a++[⟨1,r,0⟩],[],aAf a+Y r,vf a⟩:=aQ b;rw[e,closed,aw h]
def HL{α:Type}{p:List α->Prop}(h0:p [])(h1:∀l x,p l->p (l++[x]))(l:List α):p l:=by
 have:∀l:List α,p l.reverse:=by intro l;induction l with|nil=>exact h0|cons x l ih=>rw[List.reverse_cons];exact h1 _ _ ih
 have:=this l.reverse;rwa [List.reverse_reverse]at this
def mR:Prop:=512<Y a+(if 0<Y r then 1 else 0)+(if T.azT≠1\/Y r=0 then 1 else 0)\/1024<aAf a+Y r+1
instance (f:List It) (t:aR) (x:It):Decidable (mR f t x):=by unfold mR;infer_instance
def CN(c:UInt8):nT (tH a r) ⟨1,[c],0⟩=if mR a r ⟨1,[c],0⟩then(3,tH a r)else(0,tH a (r++[c])):=by simp only[nT,tagged,qp,mR,tH];simp only[db,dI,aP,bw,ah,ae,ai,aU];rfl
def CM(b:T.azT≠1):nT (tH a r) T =if tagged T&&CD (tH a r) T then(7,tH a r)else if mR a r T then(3,tH a r)else(0,tH (closed a r++[T]) []):=by
 simp only[nT,qp,mR,b,bw];have e:DG (kr (uv (tH a r) T)) T=tH (closed a r++[T]) []:=by
  have c:wid T=1:=by simp[wid,b]
  simp only[tH,mj,uT,rz,zQ,Lj,c,ai,cu];by_cases h:r=[];.subst h;rfl
  have d:0<Y r:=fJ.2 h;have e:kr (uv ⟨a,r,aAf a+Y r,vf a⟩ T)=⟨a++[⟨1,r,0⟩],[],aAf a+Y r+1,EW (vf a) T⟩:=aQ d;rw[e,closed,aw h];rfl
 rw[e];rfl
def mm{p:Option It}(h:U.azT≠1):cP p U=cP Z U:=by simp only[cP,h,bw]
def uK(h:cP Z U=θ):fp U=tagged U:=by
 simp only[cP]at h;by_cases b:U.azT=1;.simp[fp,tagged,b]
 by_cases d:U.azT=5;.simp[fp,tagged,d]
 by_cases a:U.azT=2\/U.azT=4;.rcases a with a|a<;>simp[fp,tagged,a]
 by_cases c:U.azT=3;.simp[fp,tagged,c]
 simp[b,d,a,c]at h
def gB:∀(f a:List It) (x:It),cz a (f++[x])=0<->cz a f=0/\cP (a++f).getLast? x=θ/\(fp x&&!fits (a++f) x)=G:=by
 intro f;induction f with
 |nil =>
  intro a x;simp only[ay,bI,cz];by_cases b:cP a.getLast? x=G;.simp[b]
  rw[aw b];have b:cP a.getLast? x=θ:=by simpa using b
  by_cases c:(fp x&&!fits a x)=θ;.simp[c]
  rw[aw c];have c:(fp x&&!fits a x)=G:=by simpa using c
  simp[b,c]
 |cons y f ih =>
 intro a x;simp only[aF,cz];by_cases b:cP a.getLast? y=G;.simp[b]
 rw[aw b,aw b];by_cases c:(fp y&&!fits a y)=θ;.simp[c]
 rw[aw c,aw c,ih];simp
def oR:∀(f a:List It),cz a f=0->∀y∈f,cP Z y=θ:=by
 intro f;induction f with
 |nil=>simp
 |cons x f ih =>
 intro a h y c;simp only[cz]at h;split at h;.simp at h
 rename_i b;split at h;.simp at h
 rcases bd.1 c with rfl|c
 .have b:cP a.getLast? y=θ:=by simpa using b
  by_cases d:y.azT=1;.simp only[cP,d,aU,aZ]at b |-;exact⟨b.1,trivial⟩
  rw[<- mm (p:=a.getLast?) d];exact b
 exact ih _ h y c
def C8(u:cz [] X=0)(q:cP Z U=θ):(tagged U&&CD (tH X s) U)=(fp U&&!fits (closed X s) U):=by
 rw[uK q];by_cases f:tagged U=θ
 .rw[f,dp,dp];have w:fp U=θ:=by rw[uK q];exact f
  have m:fits (closed X s) U=fits X U:=by
   simp only[closed];split;.rfl
   simp[fits,iK,fp]
  rw[m];simp only[CD,tH];have n:∀X:List It,cz [] X=0->(match jM U.id (vf X)with|some b=>U.azT != 3||b.azT != 2||fM b.azX != U.azX|none=>G)=!fits X U:=by
   intro X;induction X using HL with
   |h0=>intro _;simp[vf,r6,fits]
   |h1 X y ih =>
   intro h;rw[gB]at h;obtain⟨h1,k,l⟩:=h;have ih:=ih h1;simp only[ay]at k l;have r:cP Z y=θ:=by
    by_cases o:y.azT=1;.simp only[cP,o,aU,aZ]at k |-;exact⟨k.1,trivial⟩
    rw[<- mm (p:=X.getLast?) o];exact k
   have e:fits (X++[y]) U=(fits X U&&!iK U y):=by simp[fits]
   rw[zQ,e];simp only[EW];by_cases a:tagged y=θ
   .rw[aQ a,xZ];have c:fp y=θ:=by rw[uK r];exact a
    by_cases i:U.id=y.id
    .rw[aQ i];rw[c,dp,eP]at l;have j:iK U y=(U.azT != 3||y.azT != 2||!(fM y.azX==U.azX)):=by simp[iK,c,i]
     rw[j];by_cases d:(U.azT != 3||y.azT != 2||!(fM y.azX==U.azX))=θ;.simp only[bne]at d |-;rw[d];simp
     have d:(U.azT != 3||y.azT != 2||!(fM y.azX==U.azX))=G:=by simpa using d
     have v:fits X U=θ:=by
      simp only[fits,df,dG]at l |-;intro z t;have g:=l z t;simp only[kn,BP]at d;simp only[iK]at g |-;have:(y.azT != 3)=θ:=by rw[d.1.2];decide
      rw[this,Bool.true_or,Bool.true_or,dB]at g;rw[i,g,dI]
     rw[v];simp only[bne]at d |-;rw[d];simp
    rw[aw i,ih];have j:iK U y=G:=by
     have:(y.id != U.id)=θ:=by simpa using λe=>i e.symm
     simp[iK,this]
    rw[j];simp
   rw[aw a,ih];have c:fp y=G:=by rw[uK r];simpa using a
   have j:iK U y=G:=by simp[iK,c]
   rw[j];simp
  exact n X u
 have h0:tagged U=G:=by simpa using f
 simp[h0]
def Fl:∀(l:List It) (a:Nat),a+aAf l<2^63->iJ (a:Int) l=((a+aAf l:Nat):Int):=by
 intro l;induction l with
 |nil=>intro a _;simp[iJ,aAf]
 |cons x l ih =>
 intro a h;have b:aAf (x::l)=wid x+aAf l:=by simp[aAf]
 rw[b]at h |-;have c:width x=(wid x:Int):=by simp only[width,wid];split<;>rfl
 have:iJ (a:Int) (x::l)=iJ ((a+wid x:Nat):Int) l:=by simp only[iJ,bH,c];rw[IntWalk.i64_in _ (by omega)];rfl
 rw[this,ih (a+wid x) (by omega)];congr 1;omega
def ajF:wid T<=T.azX.length+1:=by simp only[wid];split<;>omega
def Q5:aAf a<=bo a+Y a:=by
 induction a with
 |nil=>simp[aAf,bo]
 |cons x a ih =>
 have b:aAf (x::a)=wid x+aAf a:=by simp[aAf]
 have:=ajF x;simp only[bo,ae,b];omega
def ry(h:aAf X<2^63):dq X=0<->Y X<=512/\aAf X<=1024/\cz [] X=0:=by
 have e:=Fl X 0 (by omega);simp only[aG,kC]at e;simp only[dq];rw[show iJ 0 X=(aAf X:Int)from e];split
 .constructor;.intro h;simp at h
  rintro⟨a,b,_⟩;omega
 constructor;.intro h;exact⟨by omega,by omega,h⟩
 intro h;exact h.2.2
def uh:∀(a c b:List It),cz c (a++b)=0<->cz c a=0/\cz (c++a) b=0:=by
 intro a;induction a with
 |nil=>intro c b;simp[cz]
 |cons x a ih =>
 intro c b;simp only[aF,cz];by_cases d:cP c.getLast? x=G;.simp[d]
 rw[aw d,aw d];by_cases e:(fp x&&!fits c x)=θ;.simp[e]
 rw[aw e,aw e,ih];simp
def xc{b:List It}:cz X (U::b)=0<->cP X.getLast? U=θ/\(fp U&&!fits X U)=G/\cz (X++[U]) b=0:=by
 simp only[cz];by_cases a:cP X.getLast? U=G;.simp[a]
 rw[aw a];have a:cP X.getLast? U=θ:=by simpa using a
 by_cases c:(fp U&&!fits X U)=θ;.simp[c]
 rw[aw c];have c:(fp U&&!fits X U)=G:=by simpa using c
 simp[a,c]
def I6(g:s≠[]){b e:Rd}(d:cc (s++P)=(U,(Y s:Int),θ))(f:nT b U=(0,e))(n:Nat)(c:Int): ml (n+1) b (s++P) c=ml n e P (c+Y s):=by cases s with|nil=>exact absurd rfl g|cons a s =>simp only[aF]at d;simp only[aF,ml,d,f];simp
def QN:ig d≠[]:=by simp only[ig];(repeat' split)<;>simp
def Sf:∀(t:aR) (f:List It) (u a:aR) (n:Nat) (b:Int),Y f+1<=512->aAf f+Y u+Y t<=1024->Y (t.flatMap ig++a)<n ->∃m gv,Y a<m/\ml n (tH f u) (t.flatMap ig++a) b=ml m (tH f (u++t)) a gv:=by
 intro t;induction t with
 |nil=>intro f u a n b _ _ h;exact⟨n,b,by simpa using h,by simp⟩
 |cons c t ih =>
 intro f u a n b l g i;obtain⟨n,rfl⟩:∃k,n=k+1:=⟨n - 1,by omega⟩;simp only[fK,aO,ah,ae]at g i |-;have p:0<Y (ig c):=fJ.2 (QN c);have d:nT (tH f u) ⟨1,[c],0⟩=(0,tH f (u++[c])):=by
  rw[CN,aw];simp only[mR,gA,gu,pW];by_cases e:Y u=0;.rw[aw (by omega),aQ e];omega
  rw[aQ (by omega),aw e];omega
 rw[I6 (QN c) (Nv c _) d];obtain⟨m,gv,o,j⟩:=ih f (u++[c]) a n (b+Y (ig c)) l (by simp;omega) (by rw[ah];omega);exact⟨m,gv,o,by rw[j];simp⟩
def Nu(d:U.azT≠1)(h:cP Z U=θ)(a:aR):cc (dP U++a)=(U,(Y (dP U):Int),θ):=by
 obtain⟨k,t,i⟩:=U;simp only at d;simp only[cP,d,bw]at h;by_cases c:k=5;.subst c;simp only[aU,aZ,ez]at h;obtain⟨h,rfl⟩:=h;simp only[dP];rw[aw (by decide),aw (by decide),aw (by decide),aw (by decide),aQ (by decide)];simp only[aF,aO,ay];rw[Nt t a h];simp;omega
 rw[aw c]at h;by_cases b:k=2\/k=4
 .rw[aQ b]at h;simp only[aZ,bE]at h;rcases b with rfl|rfl;.simp only[dP];rw[aw (by decide),aQ (by decide)];simp only[aF,aO,ay];rw[aac i t a ⟨h.1.2,h.2⟩ h.1.1];simp;omega
  simp only[dP];rw[aw (by decide),aw (by decide),aw (by decide),aQ (by decide)];simp only[aF,aO,ay];rw[VI i t a ⟨h.1.2,h.2⟩ h.1.1];simp;omega
 rw[aw b]at h;by_cases e:k=3;.subst e;simp only[aU,aZ,bE]at h;simp only[dP];rw[aw (by decide),aw (by decide),aQ (by decide)];simp only[aF,aO,ay];rw[VJ i t a ⟨h.1.2,h.2⟩ h.1.1];simp;omega
 simp[e]at h
def il:closed a []=a:=by simp[closed]
def Y3:∀(a f:List It) (t:aR) (n:Nat) (b:Int),cz [] (closed f t++a)=0->Y (closed f t++a)<=512->aAf (closed f t++a)<=1024 ->Y (a.flatMap dP)<n->ml n (tH f t) (a.flatMap dP) b=(closed f t++a,0,0):=by
 intro a;induction a with
 |nil =>intro f t n b _ _ _ h;obtain⟨n,rfl⟩:∃k,n=k+1:=⟨n - 1,by omega⟩;simp only[mP,ml,CL,bI]
 |cons x a ih =>
 intro f t n b s o r A;have d:=s;rw[uh,xc]at s;obtain⟨J,g,y,O⟩:=s;simp only[ay]at g y O;simp only[fK,ah,ae,mj]at o r A |-;have L:aAf (x::a)=wid x+aAf a:=by simp[aAf]
 by_cases c:x.azT=1;.
  have D:x=⟨1,x.azX,0⟩/\x.azX≠[]/\t=[]:=by
   obtain⟨k,u,i⟩:=x;simp only at c;subst c;simp only[cP,aU,aZ,ez,dG,gN]at g;obtain⟨⟨I,C⟩,N⟩:=g;refine⟨by rw[C],I,?_⟩;by_cases w:t=[];.exact w
   simp[closed,w]at N
  obtain⟨K,E,rfl⟩:=D;have H:wid x=Y x.azX:=by simp[wid,c]
  have l:dP x=x.azX.flatMap ig:=by simp[dP,c]
  rw[il]at o r d |-;rw[l]at A |-;obtain⟨m,gv,F,M⟩:=Sf x.azX f [] (a.flatMap dP) n b (by omega) (by simp only[ai];omega) (by rw[ah];omega);have j:closed f x.azX=f++[x]:=by simp only[closed,aw E];rw[<- K]
  rw[M,ay,ih f x.azX m gv (by rw[j];simpa using d) (by rw[j];simp;omega) (by rw[j,mj,mj,uT];omega) F,j];simp
 have H:wid x=1:=by simp[wid,c]
 have q:cP Z x=θ:=by rw[<- mm (p:=(closed f t).getLast?) c];exact g
 obtain⟨n,rfl⟩:∃k,n=k+1:=⟨n - 1,by omega⟩;have B:dP x≠[]:=by
  intro e;have:=Nu c q [];rw[e]at this;have z:(cc ([]++[])).2.1=1:=by decide
  rw[this]at z;simp at z
 have v:nT (tH f t) x=(0,tH (closed f t++[x]) []):=by
  rw[CM _ _ _ c,C8 (by
   have:=J;simp only[closed]at this;split at this;.exact this
   rw[gB]at this;exact this.1) q,y,aw (by simp),aw];simp only[mR];rw[yX]at o;rw[rz]at r;simp only[c,gA,fi,true_or,aU];omega
 rw[I6 B (Nu c q _) v];have P:0<Y (dP x):=fJ.2 B;have:=ih (closed f t++[x]) [] n (b+Y (dP x)) (by rw[il];simpa using d) (by rw[il];simp;omega) (by rw[il,mj,mj,uT];omega) (by omega);rw[this,il];simp
def DZ(b:aAf X<2^63)(h:dq X=0):parse (aAh X).1=(X,0,0):=by
 have a:=(ry b).1 h;have e:(aAh X).1=X.flatMap dP:=by simp[aAh,h]
 have:=Y3 X [] [] (Y (aAh X).1+1) 0 (by rw[il];exact a.2.2) (by rw[il];exact a.1) (by rw[il];exact a.2.1) (by rw[e];omega);rw[il]at this;simp only[parse];rw[e]at this |-;exact this
def js(before:List It)(x:It):Int:=if cP before.getLast? x=G then 1 else if(fp x&&!fits before x)=θ then 7 else 0
def AG:∀(a b:List It) (x:It),cz b (x::a)=if js b x≠0 then js b x else cz (b++[x]) a:=by
 intro a b x;simp only[cz,js];split;.simp
 split<;>simp
def fg:List It :=if T.azT≠1 then a++[T]else if T.azX=[]then a else
 match a.getLast? with|some y=>if y.azT=1 then a.dropLast++[⟨1,y.azX++T.azX,0⟩]else a++[⟨1,T.azX,0⟩]|none=>a++[⟨1,T.azX,0⟩]
def xN:List It:=a.foldl fg []
def Et:Bool:=match a.getLast? with|some y=>y.azT==1|none=>G
def UT:∀(n m:Nat) (f:List It),Y f<=n->Y f<=m->np n f=np m f:=by
 intro n;induction n with
 |zero =>intro m f h _;have:f=[]:=cd (by omega);subst this;cases m<;>rfl
 |succ n ih =>
 intro m f d c;cases f with
 |nil=>cases m<;>rfl
 |cons x r =>
 cases m with
 |zero=>simp at c
 |succ m =>
 simp only[ae]at d c;by_cases a:x.azT=1
 .have e:=w7 (x:=x) (r:=r) a;have b:=ih m (az7 (x::r)).2 (by omega) (by omega);simp only[np,a,gA,gu,bw];split;.exact b
  rw[b]
 simp only[np,aQ a];rw[ih m r (by omega) (by omega)]
def JA(a:U.azT≠1):az9 (U::X)=U::az9 X:=by simp only[az9,ae,np,aQ a]
def vz{x:It}{r:List It}(a:x.azT=1):az9 (x::r)=if(az7 (x::r)).1.length=0 then az9 (az7 (x::r)).2 else⟨1,(az7 (x::r)).1,0⟩::az9 (az7 (x::r)).2:=by have b:=w7 (x:=x) (r:=r) a;have e:np r.length (az7 (x::r)).2=np (az7 (x::r)).2.length (az7 (x::r)).2:=UT _ _ _ b (aM _);simp only[az9,ae,np,a,gA,gu,bw,e]
def xt(f:List It):List It:=if r=[]then az9 f else
 ⟨1,r++(az7 f).1,0⟩::az9 (az7 f).2
def Z6:∀(f a:List It) (t:aR),(Et a=G)->f.foldl fg (closed a t)=a++xt t f:=by
 intro f;induction f with
 |nil =>
  intro a t g;simp only[ja,xt,closed];split;.simp[az9,np]
  simp[az7,az9,np]
 |cons x f ih =>
 intro a t g;simp only[bH];by_cases c:x.azT=1
 .by_cases d:x.azX=[]
  .have h:fg (closed a t) x=closed a t:=by simp[fg,c,d]
   rw[h,ih a t g];congr 1;simp only[xt];have e:az7 (x::f)=((az7 f).1,(az7 f).2):=by simp[az7,c,d]
   by_cases b:t=[]
   .rw[aQ b,aQ b,vz c,e];cases f with
    |nil=>simp[az7,az9,np]
    |cons y f =>
    by_cases i:y.azT=1;.rw[vz i]
    simp[az7,i]
   rw[aw b,aw b,e]
  have h:fg (closed a t) x=closed a (t++x.azX):=by
   simp only[fg,c,gA,gu,bw,aw d];have j:t++x.azX≠[]:=by simp[d]
   by_cases b:t=[]
   .subst b;rw[il];simp only[closed,ay,aw d];simp only[Et]at g;cases l:a.getLast? with
    |none=>rfl
    |some y =>
    rw[l]at g;have i:¬y.azT=1:=by simpa using g
    simp only[aw i]
   simp[closed,b]
  rw[h,ih a _ g];congr 1;have j:t++x.azX≠[]:=by simp[d]
  simp only[xt,aw j];have e:az7 (x::f)=(x.azX++(az7 f).1,(az7 f).2):=by simp[az7,c]
  by_cases b:t=[]
  .subst b;rw[aQ rfl,vz c,e];have:Y (x.azX++(az7 f).1)≠0:=by have:=fJ.2 d;rw[ah];omega
   rw[aw this];simp
  rw[aw b,e];simp
 have h:fg (closed a t) x=closed (closed a t++[x]) []:=by rw[il];simp[fg,c]
 have k:Et (closed a t++[x])=G:=by simp[Et,c]
 rw[h,ih _ [] k];have e:az7 (x::f)=([],x::f):=by simp[az7,c]
 simp only[xt,aU,e,bI,JA c];by_cases b:t=[];.simp[closed,b]
 simp[closed,b]
def tR:xN a=az9 a:=by have:=Z6 a [] [] rfl;rw[il]at this;simpa[xt,xN]using this
def iz:bo (a++b)=bo a+bo b:=by induction a with|nil=>simp[bo]|cons x a ih=>simp only[aF,bo,ih];omega
def vB:bo (fg a T)<=bo a+T.azX.length/\Y (fg a T)<=Y a+1:=by
 simp only[fg];split
 .simp[iz,bo]
 .split
  .omega
  .split
   .rename_i y b;have c:a≠[]:=by rintro rfl;simp at b
    have e:a=a.dropLast++[y]:=by
     have:=List.dropLast_concat_getLast c;rw[List.getLast?_eq_some_getLast c]at b;simp only[ab]at b;rw[b]at this;exact this.symm
    split
    .have d:bo a=bo a.dropLast+Y y.azX:=by
      conv=>lhs;rw[e]
      simp[iz,bo]
     simp[iz,bo];omega
    .simp[iz,bo]
   .simp[iz,bo]
def Nc:∀p:UInt8,(mg p).2=θ->mM (mg p).1.toNat=p:=lq (by decide +kernel)
def aeq:∀b:UInt8,(b==13||pP b==1)=θ->ig b=[92,120,mM (b.toNat / 16),mM (b.toNat % 16)]:=lq (by decide +kernel)
def LP:(nw d q).toNat / 16=(mg d).1.toNat/\(nw d q).toNat % 16=(mg q).1.toNat:=by
 have a:=Eh d;have b:=Eh q;have:(nw d q).toNat=16*(mg d).1.toNat+(mg q).1.toNat:=by simp only[nw,qN];omega
 omega
def u5:∀c:UInt8,gC c=θ->∃i:Fin 10,c=UInt8.ofNat (48+i.val)/\((c.toNat:Int) - 48)=i.val:=by
 intro c h;refine⟨⟨c.toNat - 48,by simp[gC]at h;omega⟩,?_,?_⟩
 .simp only[gC,aZ,bE]at h;have:48+(c.toNat - 48)=c.toNat:=by omega
  simp[this]
 simp only[gC,aZ,bE]at h;simp only;omega
def aiv:∀i:Fin 10,i.val≠0->d3 i.val=[UInt8.ofNat (48+i.val)]:=by decide +kernel
def aiu:∀i j:Fin 10,i.val≠0->d3 (10*i.val+j.val)=[UInt8.ofNat (48+i.val),UInt8.ofNat (48+j.val)]:=by decide +kernel
def ait:∀i j k:Fin 10,i.val≠0->d3 (100*i.val+10*j.val+k.val)=[UInt8.ofNat (48+i.val),UInt8.ofNat (48+j.val),UInt8.ofNat (48+k.val)]:=by decide +kernel
def uG(h:(aAg s).2=θ):s=Lib.itoa (aAg s).1/\1<=(aAg s).1/\(aAg s).1<=999:=by
 simp only[aAg]at h |-;by_cases b:Y s<1\/3<Y s\/s.getD 0 0=48;.rw[aQ b]at h;simp at h
 rw[aw b]at h |-;by_cases a:s.all gC=θ
 .rw[aQ a];match s,b,a with
  |[x],b,a =>
   simp only[gF,K3,dB]at a;obtain⟨i,c,g⟩:=u5 x a;have d:i.val≠0:=by intro e;apply b;right;right;rw[aX,c,e];rfl
   have e:gH 0 [x]=(i.val:Int):=by simp[gH];omega
   simp only[e];rw[HQ _ (by omega),aiv i d,<- c];exact⟨rfl,by omega,by omega⟩
  |[x,y],b,a =>
   simp only[gF,K3,dB,aZ]at a;obtain⟨i,c,g⟩:=u5 x a.1;obtain⟨j,f,m⟩:=u5 y a.2;have d:i.val≠0:=by intro e;apply b;right;right;rw[aX,c,e];rfl
   have e:gH 0 [x,y]=((10*i.val+j.val:Nat):Int):=by simp[gH];omega
   simp only[e];rw[HQ _ (by omega),aiu i j d,<- c,<- f];exact⟨rfl,by omega,by omega⟩
  |[x,y,z],b,a =>
   simp only[gF,K3,dB,aZ]at a;obtain⟨i,c,g⟩:=u5 x a.1;obtain⟨j,f,m⟩:=u5 y a.2.1;obtain⟨k,l,n⟩:=u5 z a.2.2;have d:i.val≠0:=by intro e;apply b;right;right;rw[aX,c,e];rfl
   have e:gH 0 [x,y,z]=((100*i.val+10*j.val+k.val:Nat):Int):=by simp[gH];omega
   simp only[e];rw[HQ _ (by omega),ait i j k d,<- c,<- f,<- l];exact⟨rfl,by omega,by omega⟩
  |[],b,_=>simp at b
  |_::_::_::_::_,b,_=>simp at b
 rw[aw a]at h;simp at h
def s4(h:(az2 s c).2.2=θ):s=(az2 s c).1++c::(az2 s c).2.1:=by
 simp only[az2]at h |-;by_cases d:0<=Lib.indexByte s c
 .rw[aQ d];have e:∀s:aR,0<=Lib.indexByte s c->s=s.take (Lib.indexByte s c).toNat++c::s.drop ((Lib.indexByte s c).toNat+1):=by
   intro s;induction s with
   |nil=>intro h;simp[Lib.indexByte]at h
   |cons a s ih =>
   intro h;have k:=xd c s;by_cases g:a=c;.subst g;simp[Lib.indexByte]
   have f:(a==c)=G:=by simpa using g
   simp only[Lib.indexByte,f,aP,bw]at h |-;by_cases b:(Lib.indexByte s c == -1)=θ;.rw[aQ b]at h;omega
   rw[aw b]at h |-;have j:Lib.indexByte s c ≠ -1:=by simpa using b
   have i:(Lib.indexByte s c+1).toNat=(Lib.indexByte s c).toNat+1:=by omega
   rw[i];simp only[fe,kQ,aF];rw[<- ih (by omega)]
  exact e s d
 rw[aw d]at h;simp at h
def LS(h:aAm s [c]=θ):s=s.take (Y s - 1)++[c]:=by simp only[aAm,aZ,bE,ez,ae,ai,aG]at h;rw[<- h.2,fC]
def LV(h:aAj s [c]=θ):s=c::s.drop 1:=by simp only[aAj,aZ,bE,ez,ae,ai,aG]at h;cases s with|nil=>simp at h|cons a s=>simp at h;simp[h]
def Ys(h:(lL s).2=θ):(lL s).1.azT≠1/\cP Z (lL s).1=θ/\dP (lL s).1=60::(s++[62]):=by
 unfold lL at h |-;dsimp only at h |-;cases d:aAj s [47]with
 |true =>
  simp only[d,aU,k7,dI,aP,bw]at h |-
  by_cases a:((az2 (s.drop 1) 58).2.2&&(aAg (az2 (s.drop 1) 58).1).2)=θ
  .rw[aQ a]at h |-;dsimp only at h |-;simp only[aZ]at a;obtain⟨n1,n2,n3⟩:=uG a.2;have b:=s4 a.1;have e:=LV d;refine⟨by decide,?_,?_⟩
   .simp only[cP];rw[aw (by decide),aw (by decide),aw (by decide),aQ (by decide)];simp only[h,n2,n3,bt,dB]
   .simp only[dP];rw[aw (by decide),aw (by decide),aQ (by decide),<- n1]
    conv=>rhs;rw[e,b]
    simp
  .rw[aw a]at h;simp at h
 |false =>
  simp only[d,aP,bw,nc,dp]at h |-;cases c:aAm (az2 s 58).2.1 [47]with
  |true =>
   simp only[c,aU]at h |-
   by_cases a:((az2 s 58).2.2&&(aAg (az2 s 58).1).2)=θ
   .rw[aQ a]at h |-;dsimp only at h |-;simp only[aZ]at a;obtain⟨n1,n2,n3⟩:=uG a.2;have b:=s4 a.1;have e:=LS c;have h:fB ((az2 s 58).2.1.take (Y (az2 s 58).2.1 - 1))=θ:=by simpa using h
    refine⟨by decide,?_,?_⟩
    .simp only[cP];rw[aw (by decide),aw (by decide),aQ (.inr (by decide))];simp only[h,n2,n3,bt,dB]
    .simp only[dP];rw[aw (by decide),aw (by decide),aw (by decide),aQ (by decide),<- n1]
     conv=>rhs;rw[b]
     conv=>rhs;rw[e]
     simp
   .rw[aw a]at h;simp at h
  |false =>
   simp only[c,aP,bw]at h |-
   by_cases a:((az2 s 58).2.2&&(aAg (az2 s 58).1).2)=θ
   .rw[aQ a]at h |-;dsimp only at h |-;simp only[aZ]at a;obtain⟨n1,n2,n3⟩:=uG a.2;have b:=s4 a.1;have h:fB (az2 s 58).2.1=θ:=by simpa using h
    refine⟨by decide,?_,?_⟩
    .simp only[cP];rw[aw (by decide),aw (by decide),aQ (.inl (by decide))];simp only[h,n2,n3,bt,dB]
    .simp only[dP];rw[aw (by decide),aQ (by decide),<- n1]
     conv=>rhs;rw[b]
     simp
   .rw[aw a]at h;simp at h
def AW{s:aR}(l:s≠[])(h:(cc s).2.2=θ):
  ((∃c,(cc s).1=⟨1,[c],0⟩/\s=ig c++s.drop (cc s).2.1.toNat) \/
   ((cc s).1.azT≠1/\cP Z (cc s).1=θ/\s=dP (cc s).1++s.drop (cc s).2.1.toNat)):=by
 simp only[cc]at h |-
 by_cases f:s.getD 0 0=92
 .left;rw[aQ f]at h |-;simp only at h |-;refine⟨_,rfl,?_⟩
  match s,l,f,h with
  |[a],_,f,h=>simp[fN]at h
  |a::d::r,_,f,h =>
   simp only[aX]at f;subst f
   by_cases u:d=92\/d=60\/d=123
   .have e:fN (92::d::r)=(d,2,θ):=by simp only[uQ,aQ u]
    rw[e];rcases u with rfl|rfl|rfl<;>simp[show ig 92=[92,92]by decide,show ig 60=[92,60]by decide,show ig 123=[92,123]by decide]
   .by_cases y:d=110
    .subst y;have e:fN (92::110::r)=(10,2,θ):=by simp only[uQ];rfl
     rw[e];simp[show ig 10=[92,110]by decide]
    .by_cases d3:d=116
     .subst d3;have e:fN (92::116::r)=(9,2,θ):=by simp only[uQ];rfl
      rw[e];simp[show ig 9=[92,116]by decide]
     .by_cases z:d=120
      .subst z
       match r,h with
       |[],h=>simp[fN]at h
       |[_],h=>simp[fN]at h
       |p::q::r,h =>
        have e:fN (92::120::p::q::r)=(nw p q,4,(mg p).2&&(mg q).2&&(nw p q==13||pP (nw p q)==1)):=by
         simp only[uQ];rw[aw (by decide),aw (by decide),aw (by decide),aQ (by decide),aw (by simp)];simp only[aX,bB]
        rw[e]at h |-;simp only[aZ]at h;have n:=LP p q;rw[aeq _ h.2,n.1,n.2,Nc p h.1.1,Nc q h.1.2];simp
      .have e:fN (92::d::r)=(0,0,G):=by simp only[uQ,u,y,d3,z,bw]
       rw[e]at h;simp at h
  |[],l,_,_=>exact absurd rfl l
 .rw[aw f]at h |-
  by_cases g:s.getD 0 0=60
  .right;rw[aQ g]at h |-
   by_cases i:Lib.indexByte s 62<0
   .rw[aQ i]at h;simp at h
   .rw[aw i]at h |-;simp only at h |-;have x:(az2 s 62).2.2=θ:=by simp only[az2];rw[aQ (by omega)]
    have w:=s4 x;have k:(az2 s 62).1=s.take (Lib.indexByte s 62).toNat:=by simp only[az2];rw[aQ (by omega)]
    have j:(az2 s 62).2.1=s.drop ((Lib.indexByte s 62).toNat+1):=by simp only[az2];rw[aQ (by omega)]
    obtain⟨D,C,A⟩:=Ys h;refine⟨D,C,?_⟩;have n:=tr s 62 (by rw[g];decide) i
    have o:s.take (Lib.indexByte s 62).toNat=60::(s.take (Lib.indexByte s 62).toNat).drop 1:=by
     cases s with
     |nil=>exact absurd rfl l
     |cons a s =>
      simp only[aX]at g;subst g;obtain⟨m,t⟩:∃m,(Lib.indexByte (60::s) 62).toNat=m+1:=⟨(Lib.indexByte (60::s) 62).toNat - 1,by omega⟩;rw[t];simp
    rw[A];have v:(Lib.indexByte s 62+1).toNat=(Lib.indexByte s 62).toNat+1:=by omega
    rw[v]
    conv=>lhs;rw[w,k,j,o]
    simp
  .rw[aw g]at h |-
   by_cases b:s.getD 0 0=123
   .right;rw[aQ b]at h |-
    by_cases i:Lib.indexByte s 125<0\/aAa ((s.take (Lib.indexByte s 125).toNat).drop 1)=G
    .rw[aQ i]at h;simp at h
    .rw[aw i]at h |-;simp only[Bb]at i;simp only;have B:aAa ((s.take (Lib.indexByte s 125).toNat).drop 1)=θ:=by simpa using i.2
     have x:(az2 s 125).2.2=θ:=by simp only[az2];rw[aQ (by omega)]
     have w:=s4 x;have k:(az2 s 125).1=s.take (Lib.indexByte s 125).toNat:=by simp only[az2];rw[aQ (by omega)]
     have j:(az2 s 125).2.1=s.drop ((Lib.indexByte s 125).toNat+1):=by simp only[az2];rw[aQ (by omega)]
     have n:=tr s 125 (by rw[b];decide) i.1;refine⟨by decide,?_,?_⟩
     .simp only[cP];rw[aw (by decide),aQ (by decide),B];rfl
     .have o:s.take (Lib.indexByte s 125).toNat=123::(s.take (Lib.indexByte s 125).toNat).drop 1:=by
       cases s with
       |nil=>exact absurd rfl l
       |cons a s =>
        simp only[aX]at b;subst b;obtain⟨m,t⟩:∃m,(Lib.indexByte (123::s) 125).toNat=m+1:=⟨(Lib.indexByte (123::s) 125).toNat - 1,by omega⟩;rw[t];simp
      simp only[dP];rw[aw (by decide),aw (by decide),aw (by decide),aw (by decide),aQ (by decide)];have v:(Lib.indexByte s 125+1).toNat=(Lib.indexByte s 125).toNat+1:=by omega
      rw[v]
      conv=>lhs;rw[w,k,j,o]
      simp
   .left;rw[aw b]at h |-;simp only at h |-;cases s with
    |nil=>exact absurd rfl l
    |cons a s =>
     simp only[aX]at h;refine⟨a,by simp,?_⟩;simp[ig,h]
def Y2:∀(n:Nat) (f:List It) (t l:aR) (j:Int) (g:List It) (k:Int),ml n (tH f t) l j=(g,k,0)->cz [] (closed f t)=0->(∀x,f.getLast?=S x->x.azT≠1) ->
  Y (closed f t)<=512->aAf (closed f t)<=1024->cz [] g=0/\Y g<=512/\aAf g<=1024/\(closed f t).flatMap dP++l=g.flatMap dP:=by
 intro n
 induction n with
 |zero=>intro f t l j g k h;simp[ml]at h
 |succ n ih =>
  intro f t l j g k h a C E I;cases l with
  |nil =>
   simp only[ml,CL,bm]at h;obtain⟨rfl,_⟩:=h;exact⟨a,E,I,by simp⟩
  |cons c l =>
   simp only[ml]at h
   by_cases m:(cc (c::l)).2.2=G
   .rw[aQ m]at h;simp at h
   .rw[aw m]at h;have m:(cc (c::l)).2.2=θ:=by simpa using m
    rcases AW (by simp) m with⟨b,p,w⟩|⟨o,p,w⟩
    .rw[p,CN]at h
     by_cases e:mR f t ⟨1,[b],0⟩
     .rw[aQ e]at h;simp at h
     .rw[aw e]at h;simp only[gA,gu,bw]at h;simp only[mR]at e;have i:closed f (t++[b])=f++[⟨1,t++[b],0⟩]:=by simp[closed]
      have d:Y (closed f (t++[b]))<=512:=by
       rw[i];simp only[ah,ae,ai];simp only[gA,gu,pW]at e
       by_cases D:Y t=0
       .rw[aw (by omega),aQ D]at e;omega
       .rw[aQ (by omega),aw D]at e;omega
      have q:cz [] (closed f (t++[b]))=0:=by
       rw[i,gB]
       have r:cz [] f=0:=by
        simp only[closed]at a;split at a
        .exact a
        .rw[gB]at a;exact a.1
       refine⟨r,?_,by simp[fp]⟩;simp only[cP,aU,ay,aZ];refine⟨⟨by simp,by simp⟩,?_⟩;cases F:f.getLast? with
       |none=>rfl
       |some y=>simpa using C y F
      have:=ih f (t++[b]) _ _ g k h q C d (by rw[rz];simp;omega);obtain⟨s,z,A,v⟩:=this;refine⟨s,z,A,?_⟩;rw[<- v]
      conv=>lhs;rw[w]
      rw[i];simp only[closed];split
      .rename_i u;subst u;simp[dP]
      .simp[dP]
    .rw[CM _ _ _ o]at h
     have r:cz [] f=0:=by
      simp only[closed]at a;split at a
      .exact a
      .rw[gB]at a;exact a.1
     by_cases i:(tagged (cc (c::l)).1&&CD (tH f t) (cc (c::l)).1)=θ
     .rw[aQ i]at h;simp at h
     .rw[aw i]at h
      by_cases e:mR f t (cc (c::l)).1
      .rw[aQ e]at h;simp at h
      .rw[aw e]at h;simp only[gA,gu,bw]at h;rw[C8 r p]at i;simp only[mR,o,gA,fi,true_or,aU]at e
       have d:Y (closed (closed f t++[(cc (c::l)).1]) [])<=512:=by
        rw[il,ah,yX];simp only[ae,ai];omega
       have q:cz [] (closed (closed f t++[(cc (c::l)).1]) [])=0:=by
        rw[il,gB];refine⟨a,?_,by simpa using i⟩;rw[mm o];exact p
       have u:aAf (closed (closed f t++[(cc (c::l)).1]) [])<=1024:=by
        have H:wid (cc (c::l)).1=1:=by simp[wid,o]
        rw[il,mj,rz,uT,H];omega
       obtain⟨s,z,A,v⟩:=ih _ [] _ _ g k h q (by
        intro x B;simp only[lJ,kg,pX,ab]at B;subst B;exact o) d u
       refine⟨s,z,A,?_⟩;rw[<- v,il]
       conv=>lhs;rw[w]
       simp
def Er(h:(parse s).2.2=0):dq (parse s).1=0/\(aAh (parse s).1).1=s/\aAf (parse s).1<=1024/\Y (parse s).1<=512:=by obtain⟨g,k,e,d⟩:∃g k e,parse s=(g,k,e):=⟨_,_,_,rfl⟩;rw[d]at h |-;simp only at h;subst h;have:=Y2 (Y s+1) [] [] s 0 g k (by rw[<- d];rfl) (by simp[closed,cz]) (by simp) (by simp[closed]) (by simp[closed,aAf]);obtain⟨f,c,a,i⟩:=this;have b:dq g=0:=(ry (by omega)).2 ⟨c,a,f⟩;refine⟨b,?_,a,c⟩;simp only[aAh,b,gA,gu,bw];rw[<- i];simp[closed]
def oa:It×Int:=if(cc r).2.2=θ then((cc r).1,(cc r).2.1)else(sv,0)
def E4(h:(cc s).2.2=G):oa s=(sv,0):=by simp[oa,h]
def Ac:It×Bool :=
 let k:=min 4 (Y (r.takeWhile gC))
 if k=0\/Y r<=k\/r.getD 0 0=48\/999<gH 0 (r.take k)\/r.getD k 0≠58 then(sv,G)else
 if(n=3/\aAa (r.drop (k+1))=G)\/(n≠3/\fB (r.drop (k+1))=G)then(sv,G)else(⟨n,r.drop (k+1),gH 0 (r.take k)⟩,θ)
def N8:It×Bool :=if aAj r [47]=θ then Ac 3 (r.drop 1)else if aAm r [47]=θ then Ac 4 (r.take (Y r - 1))else Ac 2 r
def Se(cut:Bool):It×Bool :=if(cut&&(aAg r).2)=θ then(if(if n=3 then aAa N else fB N)=θ then(⟨n,N,(aAg r).1⟩,θ)else(sv,G))else(sv,G)
def Li(h:∀c∈s,gC c=θ):(s++58::P).takeWhile gC=s:=by induction s with|nil=>simp[show gC 58=G by decide]|cons x s ih =>have a:gC x=θ:=h x (by simp);simp[a,ih λc b=>h c (by simp[b])]
def Ib{n:Nat}{t:aR}(h:n<=Y (t.takeWhile gC)):∀c∈t.take n,gC c=θ:=by
 intro c a
 have e:t.take n=(t.takeWhile gC).take n:=by
  have:=List.takeWhile_append_dropWhile (p:=gC) (l:=t)
  conv=>lhs;rw[<- this]
  rw[dW h]
 rw[e]at a;have b:=dY a;exact df.1 (List.all_takeWhile (p:=gC) (l:=t)) c b
def aek{b a d:UInt8}{r:aR}(h:gC c=θ)(f:c≠48)(g:gC b=θ)(j:gC a=θ)(i:gC d=θ):999<gH 0 [c,b,a,d]:=by simp only[gC,aZ,bE]at h g j i;have:c.toNat≠48:=λe=>f (rm.1 e);simp only[gH,bH,ja];omega
def Ab(i:Int)(t:aR):Ac i t=Se i (az2 t 58).1 (az2 t 58).2.1 (az2 t 58).2.2:=by
 by_cases u:((az2 t 58).2.2&&(aAg (az2 t 58).1).2)=θ
 .have q:=u;simp only[aZ]at q;obtain⟨n1,n2,n3⟩:=uG q.2;have f:=s4 q.1;generalize Q:(az2 t 58).1=a at *;generalize p:(az2 t 58).2.1=b at *;have z:=AF (aAg a).1 ⟨n2,n3⟩;rw[<- n1]at z;have g:=q.2;simp only[aAg]at g
  by_cases l:Y a<1\/3<Y a\/a.getD 0 0=48
  .rw[aQ l]at g;simp at g
  .have e:a.all gC=θ:=df.2 z.2.1;have w:(aAg a).1=gH 0 a:=by simp only[aAg,aw l,e,aU]
   have D:min 4 (Y (t.takeWhile gC))=Y a:=by rw[f,Li z.2.1];omega
   have H:t.take (Y a)=a:=by rw[f];simp
   have K:t.drop (Y a+1)=b:=by rw[f];simp
   have O:¬Y t<=Y a:=by rw[f];simp
   have M:t.getD 0 0=a.getD 0 0:=by
    rw[f];cases a with
    |nil=>simp at l
    |cons x a=>rfl
   have B:t.getD a.length 0=58:=by rw[f];simp[aA]
   simp only[Ac,Se,u,aU,D,H,K,M,B]
   rw[aw (by
    simp only[Bb]at l |-;exact⟨by omega,O,l.2.2,by rw[<- w];omega,by simp⟩)]
   by_cases j:i=3
   .simp only[j,km,aU,gA,gu,rq,mZ,w]
    by_cases p:aAa b=θ<;>simp[p]
   .simp only[j,rq,bw,gA,fi,km,pW,w]
    by_cases p:fB b=θ<;>simp[p]
 .simp only[Se,aw u,Ac];refine aQ ?_;apply cp;intro E;apply u;simp only[Bb,Wc,Nat.not_le,Decidable.not_not]at E;obtain⟨P,y,s,A,F⟩:=E;generalize D:min 4 (Y (t.takeWhile gC))=k at *;have e:=Ib (n:=k) (t:=t) (by omega)
  have f:t=t.take k++58::t.drop (k+1):=by
   conv=>lhs;rw[<- List.take_append_drop k t]
   congr 1;rw[gG y];congr 1;rw[aA,aD y]at F;simpa using F
  have L:(58:UInt8) ∉ t.take k:=λI=>absurd (e _ I) (by decide)
  have v:az2 t 58=(t.take k,t.drop (k+1),θ):=by
   conv=>lhs;rw[f]
   exact AY L
  rw[v];have o:Y (t.take k)=k:=by rw[bj];omega
  have C:(t.take k).getD 0 0=t.getD 0 0:=by
   cases t with
   |nil=>simp
   |cons x t =>
    obtain⟨m,rfl⟩:∃m,k=m+1:=⟨k - 1,by omega⟩;rfl
  have J:k<=3:=by
   apply cp;intro h;have N:k=4:=by omega
   subst N
   match t,y,e,s,A with
   |a::b::c::d::r,_,e,s,A =>
    have:=aek (r:=r) (e a (by simp)) (by simpa using s) (e b (by simp)) (e c (by simp)) (e d (by simp));simp only[fe,jE]at A;omega
   |[],h,_,_,_=>simp at h
   |[_],h,_,_,_=>simp at h
   |[_,_],h,_,_,_=>simp at h
   |[_,_,_],h,_,_,_=>simp at h
  simp only[dp,aAg];rw[aw (by rw[o,C];simp only[Bb];exact⟨by omega,by omega,s⟩),aQ (df.2 e)]
def acn(p:It×Bool):It×Bool:=if p.2=θ then p else(sv,G)
def Fc(cut:Bool): acn (if(cut&&(aAg r).2)=θ then(⟨n,N,(aAg r).1⟩,if n=3 then aAa N else fB N)else(⟨0,[],0⟩,G))=Se n r N cut:=by
 simp only[Se];by_cases a:(cut&&(aAg r).2)=θ;.rw[aQ a,aQ a];simp only[acn];generalize (if n=3 then aAa N else fB N)=X;cases X<;>rfl
 rw[aw a,aw a];rfl
def rY{a:UInt8}:aAm (s++[c]) [a]=(c==a):=by simp[aAm]
def LU:aAm (s++58::P) [47]=aAm P [47]:=by
 rcases gE P with a|⟨b,x,a⟩;.subst a;rw[rY];rfl
 rw[fU]at a;subst a;rw[rY,show s++58::(b++[x])=(s++58::b)++[x]by simp,rY]
def C7(h:c ∉ s):az2 s c=(s,[],G):=by simp only[az2,AJ h];rfl
def aah(h:c∈s):(az2 s c).2.2=θ:=by simp only[az2];rw[aQ (vM h)]
def zt{c:UInt8}:∀{s:aR},c ∉ s.take (Lib.indexByte s c).toNat
 |[]=>by simp
 |a::s=>by
  by_cases d:a=c;.subst d;simp[Lib.indexByte]
  have f:(a==c)=G:=by simpa using d
  have i:=xd c s;simp only[Lib.indexByte,f,aP,bw];by_cases e:(Lib.indexByte s c == -1)=θ;.rw[aQ e];simp
  rw[aw e];have h:Lib.indexByte s c ≠ -1:=by simpa using e
  have g:(Lib.indexByte s c+1).toNat=(Lib.indexByte s c).toNat+1:=by omega
  rw[g,fe];intro b;rcases bd.1 b with b|b;.exact d b.symm
  exact zt b
def Qo(h:c∈s):c ∉ (az2 s c).1:=by simp only[az2];rw[aQ (vM h)];exact zt
def afB:N8 r=acn (lL r):=by
 unfold N8 lL;dsimp only;cases t:aAj r [47]with
 |true =>
  simp only[aU,k7,dI,aP,bw];rw[Ab,<- Fc];rfl
 |false =>
  simp only[aP,bw,nc,dp]
  by_cases c:(58:UInt8)∈r
  .have i:=aah c;have l:=Qo c;have j:=s4 i;generalize o:(az2 r 58).1=a at *;generalize g:(az2 r 58).2.1=b at *;have n:aAm r [47]=aAm b [47]:=by conv=>lhs;rw[j,LU]
   rw[n];cases f:aAm b [47]with
   |true =>
    simp only[aU];have e:b≠[]:=by rintro rfl;simp[aAm]at f
    have p:r.take (Y r - 1)=a++58::b.take (Y b - 1):=by
     have s:=fJ.2 e;rw[j];simp only[ah,ae];rw[ae0,cx (by omega)];have:Y a+(Y b+1) - 1 - Y a=(Y b - 1)+1:=by omega
     rw[this,fe]
    rw[Ab,p,AY l,<- Fc,i]
   |false =>
    simp only[aP,bw];rw[Ab,o,g,i,<- Fc]
  .have d:(58:UInt8) ∉ r.take (Y r - 1):=λh=>c (dY h);have q:∀k,Ac k r=(sv,G):=λk=>by rw[Ab,C7 c];rfl
   have m:Ac 4 (r.take (Y r - 1))=(sv,G):=by rw[Ab,C7 d];rfl
   rw[C7 c,q,m];simp[acn]
def YG(h0:s.getD 0 0=60):oa s=if Lib.indexByte s 62<0 then(sv,0)else
  (if(N8 ((s.take (Lib.indexByte s 62).toNat).drop 1)).2=θ then((N8 ((s.take (Lib.indexByte s 62).toNat).drop 1)).1,Lib.indexByte s 62+1)else(sv,0)):=by
 have e:cc s=if Lib.indexByte s 62<0 then(sv,0,G)else((lL ((s.take (Lib.indexByte s 62).toNat).drop 1)).1,Lib.indexByte s 62+1,(lL ((s.take (Lib.indexByte s 62).toNat).drop 1)).2):=by simp only[cc,h0];rw[aw (by decide),aQ trivial]
 rw[oa,e];by_cases a:Lib.indexByte s 62<0;.simp[a]
 rw[aw a,aw a,afB,acn];generalize lL ((s.take (Lib.indexByte s 62).toNat).drop 1)=p;obtain⟨x,b⟩:=p;cases b<;>rfl
def Uv(h:aAj s (ig c)=θ):oa s=(⟨1,[c],0⟩,(Y (ig c):Int)):=by
 have e:s=ig c++s.drop (Y (ig c)):=by
  simp only[aAj,aZ,bE,ez]at h
  conv=>lhs;rw[<- List.take_append_drop (ig c).length s,h.2]
 rw[oa,e,Nv];simp
def AH(c:U.azT≠1)(h:cP Z U=θ):∃r,dP U=60::r\/(dP U=123::(U.azX++[125])/\aAa U.azX=θ):=by
 simp only[cP,aw c]at h;simp only[dP,aw c];by_cases a:U.azT=5;.rw[aQ a,aZ]at h;refine⟨[],.inr ⟨?_,h.1⟩⟩;simp[a]
 rw[aw a]at h;by_cases b:U.azT=2;.exact⟨_,.inl (by rw[aQ b])⟩
 by_cases e:U.azT=4;.exact⟨_,.inl (by rw[aw b,aw (by omega),aQ e])⟩
 rw[aw (by omega)]at h;by_cases d:U.azT=3;.exact⟨_,.inl (by rw[aw b,aQ d])⟩
 rw[aw d]at h;simp at h
def Uu(f:s≠[])(b:s.getD 0 0≠60)(e:s.getD 0 0≠123)(h:∀c,aAj s (ig c)=G):oa s=(sv,0):=by
 refine E4 ?_;apply cp;intro g;rcases AW f (by simpa using g)with⟨c,_,a⟩|⟨i,j,a⟩;.have:=h c;rw[a]at this;simp[aAj]at this
 obtain⟨r,d|⟨d,_⟩⟩:=AH i j;.rw[d]at a;rw[a]at b;simp at b
 rw[d]at a;rw[a]at e;simp at e
def T5:∀c:UInt8,(ig c).getD 0 0≠123/\ig c≠[]:=lq (by decide +kernel)
def Us{k:Nat}(c:s.getD 0 0=123)(i:1<=k)(f:k<Y s)(b:s.getD k 0=125)(g:aAa ((s.take k).drop 1)=θ):
  oa s=(⟨5,(s.take k).drop 1,0⟩,(k:Int)+1):=by
 have e:s=123::((s.take k).drop 1++125::s.drop (k+1)):=by
  cases s with
  |nil=>simp at f
  |cons a s =>
   simp only[aX]at c;subst c;obtain⟨m,rfl⟩:∃m,k=m+1:=⟨k - 1,by omega⟩;simp only[ae]at f;have d:m<Y s:=by omega
   simp only[fe,kQ,oL];congr 1
   conv=>lhs;rw[<- List.take_append_drop m s]
   congr 1;rw[gG d];congr 1;rw[bB,aA,aD d]at b;simpa using b
 have h:Y ((s.take k).drop 1)=k - 1:=by rw[ca,bj];omega
 have:=Nt ((s.take k).drop 1) (s.drop (k+1)) g;rw[<- e]at this;rw[oa,this];simp only[aU,h];congr 1;omega
def N9(g:s.getD 0 0=123)(h:∀k,1<=k->k<Y s->k<=25->¬(s.getD k 0=125/\aAa ((s.take k).drop 1)=θ)):oa s=(sv,0):=by
 have n:s≠[]:=by rintro rfl;simp at g
 refine E4 ?_;apply cp;intro o;rcases AW n (by simpa using o)with⟨c,_,b⟩|⟨l,m,b⟩;.have f:=T5 c;rw[b]at g;cases j:ig c with|nil=>exact f.2 j|cons a w =>rw[j]at g f;exact f.1 (by simpa using g)
 obtain⟨r,f|⟨f,i⟩⟩:=AH l m;.rw[f]at b;rw[b]at g;simp at g
 rw[f]at b;generalize (cc s).1.azX=t at *;have p:Y t<=24:=by cases t with|nil=>simp|cons c t =>simp only[aAa,aZ,bE]at i;exact i.1.1
 generalize s.drop (cc s).2.1.toNat=d at b;have e:s=(123::t)++125::d:=by rw[b];simp
 refine h (Y t+1) (by omega) (by rw[e];simp) (by omega) ⟨?_,?_⟩;.rw[e];rw[show Y t+1=Y (123::t) by simp,ana]
 rw[e];rw[show Y t+1=Y (123::t) by simp];simpa using i
def lT:Nat->List It->Int->aR->Int->List It×Int×Int
 |0,_,_,_,at'=>([],at',2)
 |_+1,f,_,[],_=>(f,0,0)
 |n+1,f,len,c::l,at' =>
  let p:=oa (c::l)
  if p.2=0 then([],at',2)else if p.1.azT≠1/\js f p.1≠0 then([],at',js f p.1)else
  let g:=az9 (f++[p.1])
  if 512<Y g\/1024<len+1 then([],at',3)else lT n g (len+1) ((c::l).drop p.2.toNat) (at'+p.2)
def LB:xN (a++[T])=fg (xN a) T:=by simp[xN]
def lP(h:az9 X=X):az9 (X++[U])=fg X U:=by rw[<- tR,LB,tR,h]
def LA(h:∀x,X.getLast?=S x->x.azT≠1):fg (closed X s) ⟨1,[c],0⟩=closed X (s++[c]):=by
 by_cases a:s=[];.subst a;rw[il];simp only[fg,closed,gA,gu,bw,ay];rw[aw (by simp),aw (by simp)];cases b:X.getLast? with|none=>rfl|some y=>simp only[aw (h y b)]
 simp[fg,closed,a]
def tj(h:U.azT≠1):fg X U=X++[U]:=by simp[fg,h]
def Ss{t:aR}(b:az9 X=X)(h:∀x,X.getLast?=S x->x.azT≠1):az9 (closed X t)=closed X t:=by
 by_cases a:t=[];.subst a;rw[il];exact b
 have e:closed X t=X++[⟨1,t,0⟩]:=by simp[closed,a]
 rw[e,lP b];simp only[fg,gA,gu,bw,aw a];cases c:X.getLast? with|none=>rfl|some y=>simp only[aw (h y c)]
def YH:∀(n:Nat) (f:List It) (t l:aR) (a:Int),cz [] (closed f t)=0->(∀x,f.getLast?=S x->x.azT≠1)->az9 f=f ->lT n (closed f t) ((aAf f+Y t:Nat):Int) l a=ml n (tH f t) l a:=by
 intro n;induction n with
 |zero=>intros;rfl
 |succ n ih =>
 intro f t l a j m v;have q:=Ss (t:=t) v m;cases l with
 |nil=>simp only[lT,ml,CL]
 |cons c l =>
 have r:cz [] f=0:=by
  simp only[closed]at j;split at j;.exact j
  rw[gB]at j;exact j.1
 simp only[lT,ml];by_cases g:(cc (c::l)).2.2=θ
 .have E:=(yR (s:=c::l) (by simp)).2.2 g;have D:oa (c::l)=((cc (c::l)).1,(cc (c::l)).2.1):=by rw[oa,aQ g]
  simp only[D,g,wi,bw];rw[aw (by omega)];rcases AW (s:=c::l) (by simp) g with⟨b,d,_⟩|⟨d,p,_⟩
  .rw[d,CN,aw (by simp),lP q,LA m];have k:(512<Y (closed f (t++[b]))\/(1024:Int)<((aAf f+Y t:Nat):Int)+1)<->mR f t ⟨1,[b],0⟩:=by
    simp only[mR,yX,ah,ae,ai,gA,gu,pW];by_cases w:Y t=0;.rw[aQ (by omega),aw (by omega),aQ w];omega
    rw[aQ (by omega),aQ (by omega),aw w];omega
   by_cases e:mR f t ⟨1,[b],0⟩;.rw[aQ (k.2 e),aQ e];simp
   rw[aw (λh=>e (k.1 h)),aw e];simp only[gA,gu,bw];have i:closed f (t++[b])=f++[⟨1,t++[b],0⟩]:=by simp[closed]
   have o:cz [] (closed f (t++[b]))=0:=by rw[i,gB];refine⟨r,?_,by simp[fp]⟩;simp only[cP,aU,ay,aZ];refine⟨⟨by simp,by simp⟩,?_⟩;cases z:f.getLast? with|none=>rfl|some y=>simpa using m y z
   have:=ih f (t++[b]) ((c::l).drop (cc (c::l)).2.1.toNat) (a+(cc (c::l)).2.1) o m v;rw[<- this];congr 1;simp;omega
  rw[CM _ _ _ d,C8 r p];have A:js (closed f t) (cc (c::l)).1=if(fp (cc (c::l)).1&&!fits (closed f t) (cc (c::l)).1)=θ then 7 else 0:=by simp only[js,mm d,p];simp
  rw[A];by_cases i:(fp (cc (c::l)).1&&!fits (closed f t) (cc (c::l)).1)=θ;.simp[i,d]
  rw[aw i,aw i,aw (by simp),lP q,tj d];have k:(512<Y (closed f t++[(cc (c::l)).1])\/(1024:Int)<((aAf f+Y t:Nat):Int)+1)<->mR f t (cc (c::l)).1:=by simp only[mR,d,yX,ah,ae,ai,gA,fi,true_or,aU];omega
  by_cases e:mR f t (cc (c::l)).1;.rw[aQ (k.2 e),aQ e];simp
  rw[aw (λh=>e (k.1 h)),aw e];simp only[gA,gu,bw];have o:cz [] (closed (closed f t++[(cc (c::l)).1]) [])=0:=by rw[il,gB];refine⟨j,?_,by simpa using i⟩;rw[mm d];exact p
  have B:az9 (closed f t++[(cc (c::l)).1])=closed f t++[(cc (c::l)).1]:=by rw[lP q,tj d]
  have:=ih (closed f t++[(cc (c::l)).1]) [] ((c::l).drop (cc (c::l)).2.1.toNat) (a+(cc (c::l)).2.1) o (by intro x u;simp only[lJ,kg,pX,ab]at u;subst u;exact d) B;rw[<- this,il];congr 1;have C:wid (cc (c::l)).1=1:=by simp[wid,d]
  simp[mj,rz,uT,C]
 have g:(cc (c::l)).2.2=G:=by simpa using g
 rw[E4 g];simp[g]
def IA:∀(n:Nat) (f:List It) (len:Int) (l:aR) (a:Int),(lT n f len l a).2.2=0->(lT n f len l a).2.1=0
 |0,_,_,_,_,h=>by simp[lT]at h
 |n+1,f,len,[],a,_=>rfl
 |n+1,f,len,c::l,a,h=>by
  simp only[lT]at h |-;split;.rename_i e;rw[aQ e]at h;simp at h
  rename_i e;rw[aw e]at h;split;.rename_i b;rw[aQ b]at h;exact absurd h b.2
  rename_i b;rw[aw b]at h;split;.rename_i d;rw[aQ d]at h;simp at h
  rename_i d;rw[aw d]at h;exact IA n _ _ _ _ h
def zY:∀(n:Nat) (f:List It) (len:Int) (l:aR) (a:Int),(lT n f len l a).2.2≠0->(lT n f len l a).1=[]
 |0,_,_,_,_,_=>rfl
 |n+1,f,len,[],a,h=>by simp[lT]at h
 |n+1,f,len,c::l,a,h=>by
  simp only[lT]at h |-;split;.rfl
  rename_i e;rw[aw e]at h;split;.rfl
  rename_i d;rw[aw d]at h;split;.rfl
  rename_i b;rw[aw b]at h;exact zY n _ _ _ _ h
def Kk:∀(f a:List It),bo (f.foldl fg a)<=bo a+bo f/\Y (f.foldl fg a)<=Y a+Y f|[],a=>by simp[bo]|x::f,a=>by have b:=vB a x;have c:=Kk f (fg a x);simp only[bH,bo,ae];omega
def US:bo (az9 a)<=bo a/\Y (az9 a)<=Y a:=by have h:=Kk a [];rw[<- tR];simpa[xN,bo]using h
def LH(a:U.azT≠1)(h:cP Z U=θ):U.azX.length<=Y (dP U):=by
 simp only[cP,aw a]at h;simp only[dP,aw a];by_cases b:U.azT=2;.simp[b];omega
 by_cases d:U.azT=3;.simp[d];omega
 by_cases e:U.azT=4;.simp[e];omega
 by_cases c:U.azT=5;.simp[c];omega
 simp[b,d,e,c]at h
def Ur{s:aR}(b:s≠[]):(oa s).2≠0->1<=(oa s).2/\(oa s).2<=Y s/\(Y (oa s).1.azX:Int)<=(oa s).2:=by
 have h:=yR b;simp only[oa];by_cases a:(cc s).2.2=θ
 .rw[aQ a];intro _;have d:=h.2.2 a;refine⟨d.1,d.2,?_⟩;have k:Y (s.drop (cc s).2.1.toNat)=Y s - (cc s).2.1.toNat:=ca ..;rcases AW b a with⟨c,e,_⟩|⟨f,i,j⟩;.rw[e];simp;omega
  have l:=LH f i;have g:=congrArg List.length j;rw[ah,k]at g;simp only;omega
 rw[aw a];simp
def E5:List It×Int×Int:=lT (Y r+1) [] 0 r 0
def DA:E5 r=parse r:=by have:=YH (Y r+1) [] [] r 0 (by simp[closed,cz]) (by simp) rfl;rw[il]at this;exact this
def Nl:∀(m l:bU),∃r,m.foldl mL l=l++r
 |[],l=>⟨[],by simp⟩
 |n::m,l=>by
  obtain⟨r,a⟩:=Nl m (mL l n);simp only[bH,a];by_cases h:l.contains n=θ;.exact⟨r,by simp only[mL,h,aU]⟩
  exact⟨n::r,by simp only[mL,h];simp⟩
def Tf:∀(m l:bU),(∀n∈m,n∈l)->m.foldl mL l=l
 |[],_,_=>rfl
 |n::m,l,h=>by
  have e:mL l n=l:=by
   have:l.contains n=θ:=by simpa using h n (by simp)
   simp only[mL,this,aU]
  simp only[bH,e];exact Tf m l λk a=>h k (by simp[a])
def Q6:∀(c f e g:bU) (x:Int),Y c=Y e->x∈c->Lh (c++f) (e++g) x=Lh c e x
 |[],_,_,_,_,_,h=>by simp at h
 |a::c,f,[],g,x,hl,_=>by simp at hl
 |a::c,f,b::e,g,x,hl,h=>by
  simp only[aF,Lh];by_cases d:x=a;.rw[aQ d,aQ d]
  rw[aw d,aw d];refine Q6 c f e g x (by simpa using hl) ?_;rcases bd.1 h with h|h;.exact absurd h d
  exact h
def Qq(b:Nat):∃r,eH (Q+b)=eH Q++r:=by refine⟨((List.range b).map (Q+·)).map λ(i:Nat)=>(i:Int)+1,?_⟩;simp only[eH,List.range_add,fQ]
def yV:Y (eH Q)=Q:=by simp[eH]
def akR(b:U∈X)(a:fp U=θ):U.id∈az8 X:=by simp only[az8,mB];refine ya _ ?_;simp only[cv,eB];exact⟨U,⟨b,a⟩,rfl⟩
def Ko{α β:Type}{f g:α->Option β}:∀{l:List α},(∀x∈l,f x=g x)->l.filterMap f=l.filterMap g|[],_=>rfl|x::l,h=>by simp only[nZ,h x (by simp)];rw[Ko λy a=>h y (by simp[a])]
def VX:kc a b=kc a a:=by
 have d:∀l m:bU,iQ l m=m.foldl mL l:=λ_ _=>rfl;obtain⟨r,j⟩:=Nl (az8 b) (az8 a);have g:dh a b=az8 a++r:=by simp only[dh,d,j]
 have f:dh a a=az8 a:=by simp only[dh,d];exact Tf _ _ λ_ h=>h
 obtain⟨q,e⟩:=Qq (az8 a).length (Y r);simp only[kc,g,f,ah,e,rename];congr 1;simp only[aAk];refine Ko λx i=>?_;simp only[Wu];by_cases c:fp x=θ;.rw[aQ c,aQ c,Q6 _ _ _ _ _ (yV _).symm (akR i c)]
 rw[aw c,aw c]
def TB:k6 a a=kc a a:=rfl
def aeM{e:En}(h:dx e=0):dx (aAd e)=0:=by
 simp only[dx]at h |-;split at h;.rename_i a;exact absurd h a
 rename_i a;split at h;.rename_i i;exact absurd h i
 split at h;.simp at h
 rename_i f;split at h;.rename_i c;exact absurd h c
 rename_i c;split at h;.rename_i d;exact absurd h d
 rename_i d;have b:qx e=θ:=by simpa using f
 simp only[qx,aZ]at b;have j:qx (aAd e)=θ:=by simp only[qx,aAd,aZ,TB];rw[<- VX e.azZ e.az0];exact⟨⟨b.1.1,b.1.2⟩,b.1.2⟩
 have g:(named (aAd e).eu&&named (aAd e).dC)=θ:=rfl;rw[aw (show ¬dq (aAd e).azZ≠0 from a),aw (show ¬dq (aAd e).az0≠0 from a),aw (by rw[j];simp),
  aw (show ¬(parse (aAd e).cM).2.2≠0 from c),aw (show ¬(parse (aAd e).next).2.2≠0 from d),aw (by rw[g];simp),aw (by simp[aAd])]
def Sn(h:fc o=0)(a:dx (aAi o)=0):cX o=gT (aAd o.azV):=by
 simp only[cX,h,gA,gu,bw,aAi]at a |-;by_cases b:o.azT≠2;.rw[aQ b]at a |-;simp only[gT,a,aeM a,gA,gu,bw];rfl
 rw[aw b]
end Go.Bt
