/- Part of a proof. -/
import Derived.Test.YtfeddmfijllgmaaGreatDoorZ8
import Derived.Test.YtfeddmfijllgmaaGreatDoorZ13
set_option linter.all false
open Option renaming some->S,none->Y
open Bool renaming true->G,false->Z
open List renaming length->X
namespace Go.Bt
open Go Go.Pm
variable(s:aL)(U:UInt8)(T:Int)(R:List It)(N:It){Q:UInt8}
def aph:0<=(U.toNat:Int).fdiv (2^min 4 IntKind.u8.bits)/\(U.toNat:Int).fdiv (2^min 4 IntKind.u8.bits)<16 /\([48,49,50,51,52,53,54,55,56,57,97,98,99,100,101,102]:aL).getD ((U.toNat:Int).fdiv (2^min 4 IntKind.u8.bits)).toNat 0=ly (U.toNat / 16):=by revert U;exact jW (by decide +kernel)
def apg:0<=IntKind.u8.wrap (((BitVec.ofInt IntKind.u8.bits (U.toNat:Int) &&& BitVec.ofInt IntKind.u8.bits 15).toNat:Nat):Int)/\IntKind.u8.wrap (((BitVec.ofInt IntKind.u8.bits (U.toNat:Int) &&& BitVec.ofInt IntKind.u8.bits 15).toNat:Nat):Int)<16 /\([48,49,50,51,52,53,54,55,56,57,97,98,99,100,101,102]:aL).getD (IntKind.u8.wrap (((BitVec.ofInt IntKind.u8.bits (U.toNat:Int) &&& BitVec.ofInt IntKind.u8.bits 15).toNat:Nat):Int)).toNat 0=ly (U.toNat % 16):=by revert U;exact jW (by decide +kernel)
def dz:aL :=if N.axW=1 then N.ax1.flatMap gq else if N.axW=2 then 60::(Lib.itoa N.id++58::(N.ax1++[62]))else if N.axW=3 then 60::47::(Lib.itoa N.id++58::(N.ax1++[62]))
 else if N.axW=4 then 60::(Lib.itoa N.id++58::(N.ax1++[47,62]))else if N.axW=5 then 123::(N.ax1++[125])else[]
def ayj:aL×Int:=if cU R≠0 then([],cU R)else(R.flatMap dz,0)
def Jj:X (gq U)<=4:=by simp only[gq];(repeat' split)<;>simp
def Kr:X (s.flatMap gq)<=4*X s:=by induction s with|nil=>simp|cons c s ih =>have:=Jj c;simp only[fc,ae,ah];omega
def IN:∀(a b:List It),cj b a=0->∀x∈a,1<=x.axW/\x.axW<=5:=by
 intro a;induction a with
 |nil=>intro b h x c;simp at c
 |cons y a ih =>
 intro b h x c;simp only[cj]at h;split at h;.simp at h
 rename_i d;split at h;.simp at h
 rcases bw.1 c with rfl|c
 .simp only[cv]at d;by_cases e:x.axW=1;.omega
  by_cases i:x.axW=5;.omega
  by_cases f:x.axW=2\/x.axW=4;.omega
  by_cases g:x.axW=3;.omega
  simp[e,i,f,g]at d
 exact ih _ h x c
def vN{f:List It}(h:cU f=0):∀x∈f,1<=x.axW/\x.axW<=5:=by
 simp only[cU]at h;split at h;.simp at h
 exact IN f [] h
def rz(h : -9223372036854775808<=N.id/\N.id<=9223372036854775807):X (dz N)<=4*N.ax1.length+30:=by
 have a:=Lib.itoa_length_le N.id h.1 h.2;have b:=Kr N.ax1;simp only[dz];split;.omega
 split;.simp;omega
 split;.simp;omega
 split;.simp;omega
 split;.simp;omega
 simp
def oC(d:X R<2^30)(f:bA R<2^30)(b:∀x∈R,-9223372036854775808<=x.id/\x.id<=9223372036854775807):X (ayj R).1<2^36:=by
 have a:∀R:List It,(∀x∈R,-9223372036854775808<=x.id/\x.id<=9223372036854775807)->X (R.flatMap dz)<=4*bA R+30*X R:=by intro R;induction R with|nil=>intro _;simp|cons x R ih =>intro h;have g:=ih λy c=>h y (by simp[c]);have e:=rz x (h x (by simp));simp only[fc,ae,bA,ah];omega
 have:=a R b;simp only[ayj];split;.simp
 simp only;omega
def tM:∀l:aL,-1<=Lib.indexByte l U:=by
 intro l;induction l with
 |nil=>simp[Lib.indexByte]
 |cons a l ih =>
 simp only[Lib.indexByte];split;.omega
 split<;>omega
def xk:∀{l:aL},Q ∉ l->Lib.indexByte l Q = -1:=by
 intro l;induction l with
 |nil=>intro _;simp[Lib.indexByte]
 |cons a l ih =>
 intro h;have d:(a==Q)=Z:=by simp only[bw,xQ]at h;simpa using λe=>h.1 e.symm
 have c:=ih (λb=>h (cd _ b));simp[Lib.indexByte,d,c]
def rC{c:UInt8}{rest:aL}:∀{pre:aL},c ∉ pre->Lib.indexByte (pre++c::rest) c=X pre:=by
 intro pre;induction pre with
 |nil=>intro _;simp[Lib.indexByte]
 |cons a l ih =>
 intro h;have f:(a==c)=Z:=by simp only[bw,xQ]at h;simpa using λe=>h.1 e.symm
 have d:=ih (λb=>h (cd _ b));simp only[aF,Lib.indexByte,f,d,aI,bo,ah];have:((X l:Int) == -1)=Z:=by rw[fW];omega
 rw[this];simp
def sr{l:aL}(h:Q∈l):0<=Lib.indexByte l Q:=by
 induction l with
 |nil=>simp at h
 |cons a l ih =>
 have f:=tM Q l;simp only[Lib.indexByte];by_cases b:a=Q;.simp[b]
 have c:(a==Q)=Z:=by simpa using b
 have e:Q∈l:=by
  rcases bw.1 h with h|h;.exact absurd h.symm b
  exact h
 have g:=ih e;have d:(Lib.indexByte l Q == -1)=Z:=by simp;omega
 simp[c,d];omega
structure En where
 ax3:List It
 ax4:List It
 cJ:aL
 next:aL
 dL:aL
 dh:aL
 ayd:Int
 ayf:Int
def En.axV(e:En):ar:=[.sl 3 (e.ax3.map It.axV),.sl 3 (e.ax4.map It.axV),.s e.cJ,.s e.next,.s e.dL,.s e.dh,.i .i64 e.ayd,.i .i64 e.ayf]
def named:Bool:=s==[]||ayc s
def oo(e:En):Bool:=!(X e.ax3==0)&&iJ (iX e.ax3 e.ax4) e.ax3&&iJ (jL e.ax3 e.ax4) e.ax4
def cY(e:En):Int :=if cU e.ax3≠0 then cU e.ax3 else if cU e.ax4≠0 then cU e.ax4 else
 if oo e=Z then 1 else
 if(parse e.cJ).2.2≠0 then(parse e.cJ).2.2 else if(parse e.next).2.2≠0 then(parse e.next).2.2 else
 if(named e.dL&&named e.dh)=Z then 4 else
 if e.ayd<0\/1073741824<e.ayd\/e.ayf<1\/3<e.ayf then 1 else 0
structure En.axZ (e:En):Prop where
 ax3:e.ax3.length<2^30
 kz:bA e.ax3<2^30
 ax4:e.ax4.length<2^30
 rl:bA e.ax4<2^30
 cJ:e.cJ.length<2^30
 next:e.next.length<2^30
 ids:∀x∈e.ax3++e.ax4,-9223372036854775808<=x.id/\x.id<=9223372036854775807
def dw(e:En):aL:=(ayj e.ax3).1++10::(e.cJ++10::e.next)
def fZ(e:En):aL:=if cY e≠0 then[]else dw e
structure bf where
 aZ:cz
 axW:Int
 axY:En
 ax5:bH
def bf.axV(o:bf):ar:=o.aZ.axV++[.i .i64 o.axW]++o.axY.axV++[.sl 1 (o.ax5.map cG)]
structure bf.axZ (o:bf):Prop where
 axY:o.axY.axZ
 dL:o.axY.dL.length<2^30
 dh:o.axY.dh.length<2^30
 ax5:o.ax5.length<2^30
def aye(e:En):En:=⟨e.ax3,e.ax3,e.cJ,e.next,[],[],0,1⟩
def ayk(o:bf):En:=if o.axW≠2 then o.axY else aye o.axY
def ny(e:En):Bool:=X e.ax4==0&&(e.dL==[]&&(e.dh==[]&&(e.ayd==0&&e.ayf==0)))
def vk{o:bf}(h:o.axZ):(ayk o).axZ:=by
 simp only[ayk];split;.exact h.axY
 exact⟨h.axY.ax3,h.axY.kz,h.axY.ax3,h.axY.kz,h.axY.cJ,h.axY.next,λx a=>h.axY.ids x (by simp only[aye,bJ]at a |-;rcases a with a|a<;>exact .inl a)⟩
def jf(v:bH):bH:=rY v []
def eO(o:bf):Int :=if jO o.aZ=false then 1 else
 if(o.axW≠1/\o.axW≠2)\/jf o.ax5≠o.ax5 then 1 else
 if o.ax5.any (λn=>decide (128<n))then 1 else
 if mB o.ax5 o.aZ.bR≠o.aZ.ax0 - 1 then 11 else
 if o.axW=2/\ny o.axY=false then 1 else cY (ayk o)
def cF(o:bf):aL:=if eO o≠0 then[]else fZ (ayk o)
def jT(n:Int):UInt8:=UInt8.ofNat (n % 256).toNat
def sN:aL:=[jT (T / 256),jT T]
def DS:aL:=sN (T / 65536)++sN T
def fI:X (DS T)=4:=rfl
def gU:X (sN T)=2:=rfl
def eY:aL:=DS (X s)++s
def dx(o:bf):aL :=[1,jT o.axW]++DS o.aZ.time++[jT o.aZ.bR]++sN o.aZ.ax0++[jT (X o.ax5)]++o.ax5.flatMap sN ++eY (ayj o.axY.ax3).1++eY o.axY.cJ++eY o.axY.next ++(if o.axW=1 then eY (ayj o.axY.ax4).1++eY o.axY.dL++eY o.axY.dh++DS o.axY.ayd++[jT o.axY.ayf]else[])
def aya(o:bf):aL×Int:=if eO o≠0 then([],eO o)else(dx o,0)
def iR:aL->aL->Int|[],[]=>0|[],_::_ => -1|_::_,[]=>1|a::x,b::y=>if a<b then -1 else if b<a then 1 else iR x y
def kr(a b:bf):Int :=
 let n:=sP [gp a.aZ.bR b.aZ.bR,gp a.aZ.ax0 b.aZ.ax0,gp a.aZ.time b.aZ.time,gp a.axW b.axW]
 if n≠0 then n else iR (aya a).1 (aya b).1
def nz(a b:bf):Bool:=decide (0<jU a.aZ b.aZ)||(decide (jU a.aZ b.aZ=0)&&decide (0<kr a b))
structure Rb where
 b:aL
 bad:Bool
def Rb.take(r:Rb)(n:Nat):aL×Rb :=if X r.b<n then(List.replicate (min n 4) 0,⟨[],G⟩)else(r.b.take n,⟨r.b.drop n,r.bad⟩)
def gM:Int:=s.foldl (λa x=>a*256+x.toNat) 0
def Rb.ax0(r:Rb)(n:Nat):Int×Rb:=(gM (r.take n).1,(r.take n).2)
def Rb.ax1(r:Rb):aL×Rb :=
 let p:=r.ax0 4
 if(X p.2.b:Int)<p.1 then([],⟨p.2.b,G⟩)else p.2.take p.1.toNat
def Rb.ayn(r:Rb):List It×Rb :=
 let p:=r.ax1;let q:=parse p.1
 (q.1,⟨p.2.b,p.2.bad||q.2.2 != 0⟩)
def Rb.ax9:Nat->Rb->bH×Rb|0,r=>([],r)|n+1,r=>let p:=r.ax0 2;let q:=Rb.ax9 n p.2;(p.1::q.1,q.2)
def Sj:En:=⟨[],[],[],[],[],[],0,0⟩
def zQ:bf:=⟨⟨0,0,0⟩,0,Sj,[]⟩
def jm:bf×Int×Rb :=
 let v:=(Rb.mk s Z).ax0 1;let k:=v.2.ax0 1;let t:=k.2.ax0 4;let f:=t.2.ax0 1;let m:=f.2.ax0 2;let c:=m.2.ax0 1;let a:=Rb.ax9 c.1.toNat c.2;let src:=a.2.ayn;let d:=src.2.ax1;let b:=d.2.ax1
 if k.1=1 then
  let tg:=b.2.ayn;let e:=tg.2.ax1;let i:=e.2.ax1;let h:=i.2.ax0 4;let g:=h.2.ax0 1
  (⟨⟨t.1,f.1,m.1⟩,k.1,⟨src.1,tg.1,d.1,b.1,e.1,i.1,h.1,g.1⟩,a.1⟩,v.1,g.2)
 else(⟨⟨t.1,f.1,m.1⟩,k.1,⟨src.1,[],d.1,b.1,[],[],0,0⟩,a.1⟩,v.1,b.2)
def decode:bf×Int :=
 let p:=jm s
 if p.2.2.bad=G\/0<X p.2.2.b\/p.2.1≠1 then(zQ,12)else
 if(aya p.1).2≠0\/(aya p.1).1≠s then(zQ,12)else(p.1,0)
def jj(m:List (aL×bf))(o:bf):List (aL×bf) :=
 if cF o=[]then m else match jo (cF o) m with|none=>mN m (cF o) o|some a=>if nz o a then mN m (cF o) o else m
def iw(l:List bf):List (aL×bf):=if 1024<X l then[]else l.foldl jj []
def leB(x y:aL):Bool:=decide (x<=y)
def current(l:List bf):List bf:=(((iw l).map (·.1)).mergeSort leB).filterMap λk=>jo k (iw l)
def dC(l:List bf):List En:=((current l).filter λo=>o.axW==1).map (·.axY)
section
variable {α β:Type} [DecidableEq α]
def V1(l:List (α×β))(a:α)(b:β):(mN l a b).map (·.1)=if(jo a l).isSome=G then l.map (·.1)else l.map (·.1)++[a]:=by
 induction l with
 |nil=>simp[mN,pw]
 |cons p l ih =>
 simp only[mN,oU];by_cases h:a=p.1;.simp[h]
 rw[ao h,az,ih,ao h];split<;>rename_i c;.simp
 simp
def Kk{a:α}:∀{l:List (α×β)},jo a l=Y<->a ∉ l.map (·.1):=by
 intro l;induction l with
 |nil=>simp[pw]
 |cons p l ih =>
 rw[oU];by_cases h:a=p.1;.simp[h]
 simp only[ao h,ih,az,bw,xQ];exact⟨λb=>⟨h,b⟩,λb=>b.2⟩
def Kj{a:α}{l:List (α×β)}(h:a∈l.map (·.1)):∃b,jo a l=S b:=by cases c:jo a l with|none=>exact absurd h (Kk.1 c)|some b=>exact⟨b,rfl⟩
def EX{l:List (α×β)}{a:α}{b:β}(h:(l.map (·.1)).Nodup):((mN l a b).map (·.1)).Nodup:=by
 rw[V1];split;.exact h
 rename_i d;have f:a ∉ l.map (·.1):=λj=>d (by obtain⟨b,g⟩:=Kj j;simp[g]);rw[tW];refine⟨h,by simp,?_⟩;intro x i y c;simp only[bw,bM,mg]at c;subst c;exact λe=>f (e▸i)
def Kl{a:α}{b:β}:∀{l:List (α×β)},jo a l=S b->(a,b)∈l:=by
 intro l;induction l with
 |nil=>intro h;simp[pw]at h
 |cons p l ih =>
 intro h;rw[oU]at h;split at h;.rename_i e;simp only[aa]at h;subst e;subst h;exact dN ..
 exact cd _ (ih h)
end
variable(s:List It)(J:bH)(p:UInt8)(P:Int)(U:aL)(l:List bf)(Q:It)(M:List It)(E:Nat)(q:UInt8)(B:aL){F:Bool}{i:Int}{T:It}{m:List (aL×bf)}{r g:List It}{H:List bf}{k:Nat}{N:Option It}{R:UInt8}{w L:aL}{D:aL×bf}{v:bH}{K:bf}
def Ie(h:(m.map (·.1)).Nodup):((jj m K).map (·.1)).Nodup:=by
 simp only[jj];split;.exact h
 split;.exact EX h
 split;.exact EX h
 exact h
def N8(m:List (aL×bf))(o:bf):X (jj m o)<=X m+1:=by
 simp only[jj];split;.omega
 split;.exact Ol _ _ _
 split;.exact Ol _ _ _
 omega
def S3:∀(m:List (aL×bf)),(m.map (·.1)).Nodup->((l.foldl jj m).map (·.1)).Nodup:=by induction l with|nil=>intro m h;exact h|cons o l ih=>intro m h;exact ih _ (Ie h)
def ab1:∀(m:List (aL×bf)),X (l.foldl jj m)<=X m+X l:=by induction l with|nil=>intro m;simp|cons o l ih =>intro m;have a:=ih (jj m o);have b:=N8 m o;simp only[bT,ah];omega
def yR:((iw l).map (·.1)).Nodup:=by
 simp only[iw];split;.simp
 exact S3 l [] (by simp)
def CK:X (iw l)<=1024:=by
 simp only[iw];split;.simp
 have:=ab1 l [];simp at this;omega
def KW(h:D∈jj m K):D=(cF K,K)\/D∈m:=by
 have xX:∀{m:List (aL×bf)},D∈mN m (cF K) K->D=(cF K,K)\/D∈m:=by
  intro m;induction m with
  |nil=>intro h;simp[mN]at h;exact .inl h
  |cons q l ih =>
  intro h;simp only[mN]at h;split at h
  .rcases bw.1 h with h|h;.exact .inl h
   exact .inr (cd _ h)
  rcases bw.1 h with h|h;.exact .inr (h▸dN ..)
  rcases ih h with h|h;.exact .inl h
  exact .inr (cd _ h)
 simp only[jj]at h;split at h;.exact .inr h
 split at h;.exact xX h
 split at h;.exact xX h
 exact .inr h
def ab0:∀(m:List (aL×bf)) (p:aL×bf),p∈l.foldl jj m->(p.1=cF p.2/\p.2∈l)\/p∈m:=by
 induction l with
 |nil=>intro m p h;exact .inr h
 |cons o l ih =>
 intro m p h;rcases ih _ p h with h|h;.exact .inl ⟨h.1,cd _ h.2⟩
 rcases KW h with rfl|h;.exact .inl ⟨rfl,dN ..⟩
 exact .inr h
def wg(h:D∈iw H):D.1=cF D.2/\D.2∈H:=by
 simp only[iw]at h;split at h;.simp at h
 rcases ab0 H [] D h with h|h;.exact h
 simp at h
def kK:gf:=((iw l).map (·.1)).mergeSort leB
def oe:(kK l).Perm ((iw l).map (·.1)):=q7 _ _
def vO(h:w∈kK H):∃o,jo w (iw H)=S o:=Kj ((oe H).mem_iff.1 h)
def wy:X (kK l)<=1024:=by have:=CK l;rw[(oe l).length_eq];simpa using this
def oV(h:K∈current H):K∈H:=by simp only[current,TC]at h;obtain⟨k,_,a⟩:=h;exact(wg (Kl a)).2
def xF:X (current l)<=1024:=cE (apU _ _) (wy l)
def Bc:X (dC l)<=1024:=by have:=xF l;simp only[dC,ab];exact cE (jH _ _) this
def Eo(a b:En):Bool:=iJ a.ax3 b.ax3&&(iJ a.ax4 b.ax4&&(a.cJ==b.cJ&&(a.next==b.next&&(a.dL==b.dL&&(a.dh==b.dh&&(a.ayd==b.ayd&&a.ayf==b.ayf))))))
def By{a b:En}:Eo a b=G<->a=b:=by obtain⟨h,i,o,c,q,r,k,d⟩:=a;obtain⟨f,m,p,n,g,l,e,j⟩:=b;simp[Eo,yq]
def kG:List En->List En->Bool|[],[]=>G|a::x,b::y=>Eo a b&&kG x y|_,_=>Z
def Kv:∀{a b:List En},kG a b=G<->a=b|[],[]=>by simp[kG]|a::x,b::y=>by simp[kG,By,Kv (a:=x) (b:=y)]|[],b::y=>by simp[kG]|a::x,[]=>by simp[kG]
def Ku:∀{a b:List En},kG a b=G->X a=X b:=λh=>by rw[Kv.1 h]
def place(n:Int):Int:=if P.tmod n<0 then P.tmod n+n else P.tmod n
def s8{x n:Int}(h:0<n):0<=place x n/\place x n<n:=by have a:=Int.tmod_lt_of_pos x h;have b : - n<x.tmod n:=Int.neg_lt_of_neg_lt (by have:=Int.tmod_lt_of_pos (-x) h;rw[Int.neg_tmod]at this;omega);simp only[place];split<;>omega
def WK:∀c:UInt8,vh c=G->c≠92/\c≠60/\c≠123:=jW (by decide +kernel)
def agp:∀c:UInt8,lQ (ly (c.toNat / 16)) (ly (c.toNat % 16))=c/\(kU (ly (c.toNat / 16))).2=G/\(kU (ly (c.toNat % 16))).2=G:=jW (by decide +kernel)
def agq:∀c:UInt8,vh c=Z->c≠10->c≠9->¬(c=92\/c=60\/c=123)->(c==13||nL c==1)=G:=jW (by decide +kernel)
def rH(r:aL):fg (p::q::r)=if q=92\/q=60\/q=123 then(q,2,G)else if q=110 then(10,2,G)else if q=116 then(9,2,G)else if q=120 then
  (if X r<2 then(0,0,Z)else(lQ (r.getD 0 0) (r.getD 1 0),4,(kU (r.getD 0 0)).2&&(kU (r.getD 1 0)).2&&(lQ (r.getD 0 0) (r.getD 1 0)==13||nL (lQ (r.getD 0 0) (r.getD 1 0))==1)))else(0,0,Z):=by
 simp only[fg,ah,aQ,bj];rw[ao (by omega)];have e:(X r+1+1<4)=(X r<2):=by rw[akm];omega
 simp only[e]
def BA:bO (92::p::U)=(⟨1,[(fg (92::p::U)).1],0⟩,(fg (92::p::U)).2.1,(fg (92::p::U)).2.2):=by simp only[bO,aQ,aR]
def Ky:bO (gq p++U)=(⟨1,[p],0⟩,(X (gq p):Int),G):=by
 unfold gq;split;.rename_i h;have f:=WK p h;simp[bO,f,h]
 rename_i h;have h:vh p=Z:=by simpa using h
 split;.rename_i a;subst a;simp only[aF,aw,BA,rH];rfl
 split;.rename_i a b;subst b;simp only[aF,aw,BA,rH];rfl
 split;.rename_i a b c;simp only[aF,aw,BA,rH,aO c];rfl
 rename_i a b c;have d:=agp p;have e:=agq p h a b c;simp only[aF,aw,BA,rH];rw[ao (by decide),ao (by decide),ao (by decide),aO (by decide),ao (by simp)];simp only[aQ,bj,d.1,d.2.1,d.2.2,e,db];rfl
def Dm:∀c:UInt8,kS c=G->c≠62/\c≠125/\c≠58/\c≠47/\c≠32/\jB c=Z:=jW (by decide +kernel)
def W5:∀c:UInt8,(97<=c.toNat/\c.toNat<=122)->kS c=G:=jW (by decide +kernel)
def HH:∀c:UInt8,jB c=Z->c≠62/\c≠125/\c≠60/\c≠123:=jW (by decide +kernel)
def uS:∀c:UInt8,fL c=G->c≠62/\c≠58/\c≠47/\jB c=Z:=jW (by decide +kernel)
def G1(h:ayc w=G):∀c∈w,kS c=G:=by
 cases w with
 |nil=>simp[ayc]at h
 |cons c r =>
 simp only[ayc,aV,bz,dd]at h;intro x a;rcases bw.1 a with rfl|a;.exact W5 _ h.1.2
 exact h.2 x a
def Kw(t rest:aL)(h:ayc t=G):bO (123::(t++125::rest))=(⟨5,t,0⟩,(X t:Int)+2,G):=by
 have b:Lib.indexByte (123::(t++125::rest)) 125=(X (123::t:aL):Int):=by
  have:=rC (c:=125) (rest:=rest) (pre:=123::t) (by
   intro a;rcases bw.1 a with a|a;.exact absurd a (by decide)
   exact(Dm _ (G1 h _ a)).2.1 rfl);simpa using this
 have e:((123::(t++125::rest)).take (Lib.indexByte (123::(t++125::rest)) 125).toNat).drop 1=t:=by rw[b];simp
 simp only[bO,aQ,e,h];rw[ao (by decide),ao (by decide),aO (by decide),ao (by rw[b];simp;omega),b];simp;omega
def xE(h:R ∉ w):cutAt (w++R::L) R=(w,L,G):=by simp only[cutAt,rC h];rw[aO (by omega)];simp
def d3:aL:=if E<10 then[UInt8.ofNat (48+E)]else if E<100 then[UInt8.ofNat (48+E / 10),UInt8.ofNat (48+E % 10)]else[UInt8.ofNat (48+E / 100),UInt8.ofNat (48+E / 10 % 10),UInt8.ofNat (48+E % 10)]
def EJ(h:E<1000):Lib.itoa (E:Int)=d3 E:=by
 unfold Lib.itoa;rw[ao (by omega)];simp only[al,d3];by_cases a:E<10;.rw[aO a,Lib.decDigits_one a]
 rw[ao a];by_cases b:E<100;.rw[aO b,Lib.decDigits_two a b]
 rw[ao b,Lib.decDigits,dif_neg a,Lib.decDigits_two (by omega) (by omega)];simp only[aF,aw];have e:E / 10 / 10=E / 100:=by omega
 rw[e]
def akb:∀n:Fin 1000,1<=n.val->ayh (d3 n.val)=((n.val:Int),G)/\(d3 n.val).all fL=G/\(d3 n.val)≠[]:=by decide +kernel
def xg(h:1<=P/\P<=999):ayh (Lib.itoa P)=(P,G)/\(∀c∈Lib.itoa P,fL c=G)/\Lib.itoa P≠[]:=by obtain⟨m,rfl⟩:∃m:Nat,P=m:=⟨P.toNat,by omega⟩;have:=akb ⟨m,by omega⟩ (by show 1<=m;omega);rw[EJ m (by omega)];exact⟨this.1,λc a=>dd.1 this.2.1 c a,this.2.2⟩
def DM(h:eQ w=G):(∀c∈w,jB c=Z)/\w≠[]/\(w.getD (X w - 1) 0).toNat≠47:=by simp only[eQ,lh,aV,bz,dd,dt]at h;exact⟨h.1.2,by intro e;simp[e]at h,h.1.1.2⟩
def z6(t rest:aL)(h:∀c∈t,c≠62):bO (60::(t++62::rest))=((kp t).1,(X t:Int)+2,(kp t).2):=by
 have b:Lib.indexByte (60::(t++62::rest)) 62=(X (60::t:aL):Int):=by
  have:=rC (c:=62) (rest:=rest) (pre:=60::t) (by
   intro a;rcases bw.1 a with a|a;.exact absurd a (by decide)
   exact h _ a rfl);simpa using this
 have e:((60::(t++62::rest)).take (Lib.indexByte (60::(t++62::rest)) 62).toNat).drop 1=t:=by rw[b];simp
 simp only[bO,aQ,e];rw[ao (by decide),aO (by decide),ao (by rw[b];simp;omega),b];simp;omega
def Bm(h:w.getD 0 0≠R):ayl w [R]=Z:=by cases w with|nil=>simp[ayl]|cons a w=>simp only[aQ]at h;simp[ayl,h]
def Nl(h:w.getD (X w - 1) 0≠R):ayo w [R]=Z:=by
 simp only[ayo,ah,aj,aP];by_cases b:1<=X w
 .have a:w.drop (X w - 1)=[w.getD (X w - 1) 0]:=by
   rw[fO (by omega)];have e:X w - 1+1=X w:=by omega
   rw[e];simp[ax,show X w - 1<X w by omega]
  rw[a];simpa using λ_=>h
 simp;omega
def I0(c:UInt8):ayo (U++[c]) [c]=G:=by simp[ayo]
def G0(h:1<=P/\P<=999)(t:aL)(c:UInt8)(g:fL c=Z):(Lib.itoa P++t).getD 0 0≠c:=by obtain⟨_,d,f⟩:=xg P h;cases b:Lib.itoa P with|nil=>exact absurd b f|cons a s =>simp only[aF,aQ];intro e;have:=d a (by rw[b];simp);rw[e,g]at this;simp at this
def XY(id:Int)(t b:aL)(d:1<=id/\id<=999)(h:eQ t=G):bO (60::(Lib.itoa id++58::(t++62::b)))=(⟨2,t,id⟩,(X (Lib.itoa id):Int)+X t+3,G):=by
 obtain⟨k,f,o⟩:=xg id d;obtain⟨m,n,j⟩:=DM h;have:=z6 (Lib.itoa id++58::t) b (by
  intro c a;rcases bJ.1 a with a|a;.exact(uS c (f c a)).1
  rcases bw.1 a with rfl|a;.decide
  exact(HH c (m c a)).1);simp only[aJ,aF]at this;rw[this];have i:ayl (Lib.itoa id++58::t) [47]=Z:=Bm (G0 id d _ 47 (by decide));have a:cutAt (Lib.itoa id++58::t) 58=(Lib.itoa id,t,G):=xE λg=>(uS _ (f _ g)).2.1 rfl;have l:ayo t [47]=Z:=Nl λe=>j (by rw[e];rfl);simp[kp,i,a,l,k,h];omega
def Tb(id:Int)(t b:aL)(d:1<=id/\id<=999)(h:eQ t=G):bO (60::(Lib.itoa id++58::(t++47::62::b)))=(⟨4,t,id⟩,(X (Lib.itoa id):Int)+X t+4,G):=by
 obtain⟨i,e,n⟩:=xg id d;obtain⟨k,l,m⟩:=DM h;have:=z6 (Lib.itoa id++58::(t++[47])) b (by
  intro c a;rcases bJ.1 a with a|a;.exact(uS c (e c a)).1
  rcases bw.1 a with rfl|a;.decide
  rcases bJ.1 a with a|a;.exact(HH c (k c a)).1
  simp only[bw,bM,mg]at a;subst a;decide);simp only[aJ,aF,aw]at this;rw[this];have g:ayl (Lib.itoa id++58::(t++[47])) [47]=Z:=Bm (G0 id d _ 47 (by decide));have a:cutAt (Lib.itoa id++58::(t++[47])) 58=(Lib.itoa id,t++[47],G):=xE λf=>(uS _ (e _ f)).2.1 rfl;have j:ayo (t++[47]) [47]=G:=I0 t 47;simp[kp,g,a,j,i,h];omega
def Tc(id:Int)(t b:aL)(d:1<=id/\id<=999)(h:ayc t=G):bO (60::47::(Lib.itoa id++58::(t++62::b)))=(⟨3,t,id⟩,(X (Lib.itoa id):Int)+X t+4,G):=by
 obtain⟨i,e,j⟩:=xg id d;have:=z6 (47::(Lib.itoa id++58::t)) b (by
  intro c a;rcases bw.1 a with rfl|a;.decide
  rcases bJ.1 a with a|a;.exact(uS c (e c a)).1
  rcases bw.1 a with rfl|a;.decide
  exact(Dm c (G1 h c a)).1);simp only[aJ,aF]at this;rw[this];have f:ayl (47::(Lib.itoa id++58::t)) [47]=G:=by simp[ayl]
 have a:cutAt (Lib.itoa id++58::t) 58=(Lib.itoa id,t,G):=xE λg=>(uS _ (e _ g)).2.1 rfl;simp[kp,f,a,i,h];omega
def wid:Nat:=if Q.axW=1 then Q.ax1.length else 1
def ayg:Nat:=(s.map wid).sum
def BS(m:List (Int×It))(x:It):List (Int×It):=if tagged x then mN m x.id x else m
def r4:List (Int×It):=s.foldl BS []
def qy:Rd:=⟨s,U,ayg s+X U,r4 s⟩
def closed:List It:=if U=[]then s else s++[⟨1,U,0⟩]
def kY:ayg (s++M)=ayg s+ayg M:=by simp[ayg]
def rK:ayg [Q]=wid Q:=by simp[ayg]
def wx:r4 (s++[Q])=BS (r4 s) Q:=by simp[r4]
def Ox{m:List (Int×It)}:BS m ⟨1,w,i⟩=m:=by simp[BS,tagged]
def Il:r4 (closed s U)=r4 s:=by
 simp only[closed];split;.rfl
 rw[wx,Ox]
def o7:ayg (closed s U)=ayg s+X U:=by
 simp only[closed];split;.rename_i h;simp[h]
 rw[kY,rK];simp[wid]
def vE:X (closed s U)=X s+(if 0<X U then 1 else 0):=by
 simp only[closed];split;.rename_i h;simp[h]
 rename_i h;have:0<X U:=fb.2 h;simp[this]
def zI:(jl (qy s U)).f=closed s U:=by
 by_cases h:U=[];.subst h;rfl
 have a:0<X U:=fb.2 h;have e:jl (qy s U)=⟨s++[⟨1,U,0⟩],[],ayg s+X U,r4 s⟩:=aO a;rw[e,closed,ao h]
def ED{α:Type}{p:List α->Prop}(h0:p [])(h1:∀l x,p l->p (l++[x]))(l:List α):p l:=by
 have:∀l:List α,p l.reverse:=by intro l;induction l with|nil=>exact h0|cons x l ih=>rw[List.reverse_cons];exact h1 _ _ ih
 have:=this l.reverse;rwa [List.reverse_reverse]at this
def lD:Prop:=512<X s+(if 0<X U then 1 else 0)+(if Q.axW≠1\/X U=0 then 1 else 0)\/1024<ayg s+X U+1
instance (f:List It) (t:aL) (x:It):Decidable (lD f t x):=by unfold lD;infer_instance
def zK(c:UInt8):mb (qy s U) ⟨1,[c],0⟩=if lD s U ⟨1,[c],0⟩then(3,qy s U)else(0,qy s (U++[c])):=by simp only[mb,tagged,oc,lD,qy];simp only[na,dq,aI,bo,ae,ah,aj,aR];rfl
def zJ(a:Q.axW≠1):mb (qy s U) Q =if tagged Q&&zC (qy s U) Q then(7,qy s U)else if lD s U Q then(3,qy s U)else(0,qy (closed s U++[Q]) []):=by
 simp only[mb,oc,lD,a,bo];have e:AK (jl (re (qy s U) Q)) Q=qy (closed s U++[Q]) []:=by
  have c:wid Q=1:=by simp[wid,a]
  simp only[qy,kY,rK,o7,wx,Il,c,aj,cg];by_cases h:U=[];.subst h;rfl
  have b:0<X U:=fb.2 h;have e:jl (re ⟨s,U,ayg s+X U,r4 s⟩ Q)=⟨s++[⟨1,U,0⟩],[],ayg s+X U+1,BS (r4 s) Q⟩:=aO b;rw[e,closed,ao h];rfl
 rw[e];rfl
def k7{p:Option It}(h:T.axW≠1):cv p T=cv Y T:=by simp only[cv,h,bo]
def rA(h:cv Y T=G):eB T=tagged T:=by
 simp only[cv]at h;by_cases b:T.axW=1;.simp[eB,tagged,b]
 by_cases c:T.axW=5;.simp[eB,tagged,c]
 by_cases a:T.axW=2\/T.axW=4;.rcases a with a|a<;>simp[eB,tagged,a]
 by_cases d:T.axW=3;.simp[eB,tagged,d]
 simp[b,c,a,d]at h
def fK:∀(f a:List It) (x:It),cj a (f++[x])=0<->cj a f=0/\cv (a++f).getLast? x=G/\(eB x&&!fits (a++f) x)=Z:=by
 intro f;induction f with
 |nil =>
  intro a x;simp only[aw,bE,cj];by_cases c:cv a.getLast? x=Z;.simp[c]
  rw[ao c];have c:cv a.getLast? x=G:=by simpa using c
  by_cases b:(eB x&&!fits a x)=G;.simp[b]
  rw[ao b];have b:(eB x&&!fits a x)=Z:=by simpa using b
  simp[c,b]
 |cons y f ih =>
 intro a x;simp only[aF,cj];by_cases c:cv a.getLast? y=Z;.simp[c]
 rw[ao c,ao c];by_cases b:(eB y&&!fits a y)=G;.simp[b]
 rw[ao b,ao b,ih];simp
def mR:∀(f a:List It),cj a f=0->∀y∈f,cv Y y=G:=by
 intro f;induction f with
 |nil=>simp
 |cons x f ih =>
 intro a h y c;simp only[cj]at h;split at h;.simp at h
 rename_i b;split at h;.simp at h
 rcases bw.1 c with rfl|c
 .have b:cv a.getLast? y=G:=by simpa using b
  by_cases d:y.axW=1;.simp only[cv,d,aR,aV]at b |-;exact⟨b.1,trivial⟩
  rw[<- k7 (p:=a.getLast?) d];exact b
 exact ih _ h y c
def Aa(t:cj [] r=0)(s:cv Y T=G):(tagged T&&zC (qy r w) T)=(eB T&&!fits (closed r w) T):=by
 rw[rA s];by_cases g:tagged T=G
 .rw[g,cN,cN];have x:eB T=G:=by rw[rA s];exact g
  have n:fits (closed r w) T=fits r T:=by
   simp only[closed];split;.rfl
   simp[fits,gK,eB]
  rw[n];simp only[zC,qy];have m:∀r:List It,cj [] r=0->(match jo T.id (r4 r)with|some b=>T.axW != 3||b.axW != 2||ff b.ax1 != T.ax1|none=>Z)=!fits r T:=by
   intro r;induction r using ED with
   |h0=>intro _;simp[r4,pw,fits]
   |h1 r y ih =>
   intro h;rw[fK]at h;obtain⟨h1,k,l⟩:=h;have ih:=ih h1;simp only[aw]at k l;have q:cv Y y=G:=by
    by_cases o:y.axW=1;.simp only[cv,o,aR,aV]at k |-;exact⟨k.1,trivial⟩
    rw[<- k7 (p:=r.getLast?) o];exact k
   have e:fits (r++[y]) T=(fits r T&&!gK T y):=by simp[fits]
   rw[wx,e];simp only[BS];by_cases a:tagged y=G
   .rw[aO a,uN];have c:eB y=G:=by rw[rA q];exact a
    by_cases i:T.id=y.id
    .rw[aO i];rw[c,cN,eI]at l;have j:gK T y=(T.axW != 3||y.axW != 2||!(ff y.ax1==T.ax1)):=by simp[gK,c,i]
     rw[j];by_cases d:(T.axW != 3||y.axW != 2||!(ff y.ax1==T.ax1))=G;.simp only[bne]at d |-;rw[d];simp
     have d:(T.axW != 3||y.axW != 2||!(ff y.ax1==T.ax1))=Z:=by simpa using d
     have u:fits r T=G:=by
      simp only[fits,dd,dt]at l |-;intro z v;have f:=l z v;simp only[km,yD]at d;simp only[gK]at f |-;have:(y.axW != 3)=G:=by rw[d.1.2];decide
      rw[this,Bool.true_or,Bool.true_or,db]at f;rw[i,f,dq]
     rw[u];simp only[bne]at d |-;rw[d];simp
    rw[ao i,ih];have j:gK T y=Z:=by
     have:(y.id != T.id)=G:=by simpa using λe=>i e.symm
     simp[gK,this]
    rw[j];simp
   rw[ao a,ih];have c:eB y=Z:=by rw[rA q];simpa using a
   have j:gK T y=Z:=by simp[gK,c]
   rw[j];simp
  exact m r t
 have h0:tagged T=Z:=by simpa using g
 simp[h0]
def Cg:∀(l:List It) (a:Nat),a+ayg l<2^63->gJ (a:Int) l=((a+ayg l:Nat):Int):=by
 intro l;induction l with
 |nil=>intro a _;simp[gJ,ayg]
 |cons x l ih =>
 intro a h;have c:ayg (x::l)=wid x+ayg l:=by simp[ayg]
 rw[c]at h |-;have b:width x=(wid x:Int):=by simp only[width,wid];split<;>rfl
 have:gJ (a:Int) (x::l)=gJ ((a+wid x:Nat):Int) l:=by simp only[gJ,bT,b];rw[IntWalk.i64_in _ (by omega)];rfl
 rw[this,ih (a+wid x) (by omega)];congr 1;omega
def ahL:wid Q<=Q.ax1.length+1:=by simp only[wid];split<;>omega
def On:ayg s<=bA s+X s:=by
 induction s with
 |nil=>simp[ayg,bA]
 |cons x s ih =>
 have a:ayg (x::s)=wid x+ayg s:=by simp[ayg]
 have:=ahL x;simp only[bA,ah,a];omega
def o6(h:ayg r<2^63):cU r=0<->X r<=512/\ayg r<=1024/\cj [] r=0:=by
 have e:=Cg r 0 (by omega);simp only[aP,jv]at e;simp only[cU];rw[show gJ 0 r=(ayg r:Int)from e];split
 .constructor;.intro h;simp at h
  rintro⟨b,a,_⟩;omega
 constructor;.intro h;exact⟨by omega,by omega,h⟩
 intro h;exact h.2.2
def qW:∀(a c b:List It),cj c (a++b)=0<->cj c a=0/\cj (c++a) b=0:=by
 intro a;induction a with
 |nil=>intro c b;simp[cj]
 |cons x a ih =>
 intro c b;simp only[aF,cj];by_cases e:cv c.getLast? x=Z;.simp[e]
 rw[ao e,ao e];by_cases d:(eB x&&!fits c x)=G;.simp[d]
 rw[ao d,ao d,ih];simp
def tL:cj r (T::g)=0<->cv r.getLast? T=G/\(eB T&&!fits r T)=Z/\cj (r++[T]) g=0:=by
 simp only[cj];by_cases a:cv r.getLast? T=Z;.simp[a]
 rw[ao a];have a:cv r.getLast? T=G:=by simpa using a
 by_cases b:(eB T&&!fits r T)=G;.simp[b]
 rw[ao b];have b:(eB T&&!fits r T)=Z:=by simpa using b
 simp[a,b]
def F3(e:w≠[]){s c:Rd}(d:bO (w++L)=(T,(X w:Int),G))(f:mb s T=(0,c))(n:Nat)(b:Int): kZ (n+1) s (w++L) b=kZ n c L (b+X w):=by cases w with|nil=>exact absurd rfl e|cons a w =>simp only[aF]at d;simp only[aF,kZ,d,f];simp
def N3:gq p≠[]:=by simp only[gq];(repeat' split)<;>simp
def Pr:∀(t:aL) (f:List It) (u a:aL) (n:Nat) (b:Int),X f+1<=512->ayg f+X u+X t<=1024->X (t.flatMap gq++a)<n ->∃m gi,X a<m/\kZ n (qy f u) (t.flatMap gq++a) b=kZ m (qy f (u++t)) a gi:=by
 intro t;induction t with
 |nil=>intro f u a n b _ _ h;exact⟨n,b,by simpa using h,by simp⟩
 |cons c t ih =>
 intro f u a n b j g o;obtain⟨n,rfl⟩:∃k,n=k+1:=⟨n - 1,by omega⟩;simp only[fc,aJ,ae,ah]at g o |-;have p:0<X (gq c):=fb.2 (N3 c);have d:mb (qy f u) ⟨1,[c],0⟩=(0,qy f (u++[c])):=by
  rw[zK,ao];simp only[lD,gj,fU,nQ];by_cases e:X u=0;.rw[ao (by omega),aO e];omega
  rw[aO (by omega),ao e];omega
 rw[F3 (N3 c) (Ky c _) d];obtain⟨m,gi,i,l⟩:=ih f (u++[c]) a n (b+X (gq c)) j (by simp;omega) (by rw[ae];omega);exact⟨m,gi,i,by rw[l];simp⟩
def Kx(c:T.axW≠1)(h:cv Y T=G)(a:aL):bO (dz T++a)=(T,(X (dz T):Int),G):=by
 obtain⟨k,t,i⟩:=T;simp only at c;simp only[cv,c,bo]at h;by_cases e:k=5;.subst e;simp only[aR,aV,dM]at h;obtain⟨h,rfl⟩:=h;simp only[dz];rw[ao (by decide),ao (by decide),ao (by decide),ao (by decide),aO (by decide)];simp only[aF,aJ,aw];rw[Kw t a h];simp;omega
 rw[ao e]at h;by_cases b:k=2\/k=4
 .rw[aO b]at h;simp only[aV,bz]at h;rcases b with rfl|rfl;.simp only[dz];rw[ao (by decide),aO (by decide)];simp only[aF,aJ,aw];rw[XY i t a ⟨h.1.2,h.2⟩ h.1.1];simp;omega
  simp only[dz];rw[ao (by decide),ao (by decide),ao (by decide),aO (by decide)];simp only[aF,aJ,aw];rw[Tb i t a ⟨h.1.2,h.2⟩ h.1.1];simp;omega
 rw[ao b]at h;by_cases d:k=3;.subst d;simp only[aR,aV,bz]at h;simp only[dz];rw[ao (by decide),ao (by decide),aO (by decide)];simp only[aF,aJ,aw];rw[Tc i t a ⟨h.1.2,h.2⟩ h.1.1];simp;omega
 simp[d]at h
def gr:closed s []=s:=by simp[closed]
def WQ:∀(a f:List It) (t:aL) (n:Nat) (b:Int),cj [] (closed f t++a)=0->X (closed f t++a)<=512->ayg (closed f t++a)<=1024 ->X (a.flatMap dz)<n->kZ n (qy f t) (a.flatMap dz) b=(closed f t++a,0,0):=by
 intro a;induction a with
 |nil =>intro f t n b _ _ _ h;obtain⟨n,rfl⟩:∃k,n=k+1:=⟨n - 1,by omega⟩;simp only[lB,kZ,zI,bE]
 |cons x a ih =>
 intro f t n b q l r z;have d:=q;rw[qW,tL]at q;obtain⟨O,g,B,P⟩:=q;simp only[aw]at g B P;simp only[fc,ae,ah,kY]at l r z |-;have F:ayg (x::a)=wid x+ayg a:=by simp[ayg]
 by_cases c:x.axW=1;.
  have L:x=⟨1,x.ax1,0⟩/\x.ax1≠[]/\t=[]:=by
   obtain⟨k,u,i⟩:=x;simp only at c;subst c;simp only[cv,aR,aV,dM,dt,fW]at g;obtain⟨⟨D,H⟩,E⟩:=g;refine⟨by rw[H],D,?_⟩;by_cases w:t=[];.exact w
   simp[closed,w]at E
  obtain⟨I,N,rfl⟩:=L;have K:wid x=X x.ax1:=by simp[wid,c]
  have o:dz x=x.ax1.flatMap gq:=by simp[dz,c]
  rw[gr]at l r d |-;rw[o]at z |-;obtain⟨m,gi,J,M⟩:=Pr x.ax1 f [] (a.flatMap dz) n b (by omega) (by simp only[aj];omega) (by rw[ae];omega);have j:closed f x.ax1=f++[x]:=by simp only[closed,ao N];rw[<- I]
  rw[M,aw,ih f x.ax1 m gi (by rw[j];simpa using d) (by rw[j];simp;omega) (by rw[j,kY,kY,rK];omega) J,j];simp
 have K:wid x=1:=by simp[wid,c]
 have s:cv Y x=G:=by rw[<- k7 (p:=(closed f t).getLast?) c];exact g
 obtain⟨n,rfl⟩:∃k,n=k+1:=⟨n - 1,by omega⟩;have C:dz x≠[]:=by
  intro e;have:=Kx c s [];rw[e]at this;have y:(bO ([]++[])).2.1=1:=by decide
  rw[this]at y;simp at y
 have v:mb (qy f t) x=(0,qy (closed f t++[x]) []):=by
  rw[zJ _ _ _ c,Aa (by
   have:=O;simp only[closed]at this;split at this;.exact this
   rw[fK]at this;exact this.1) s,B,ao (by simp),ao];simp only[lD];rw[vE]at l;rw[o7]at r;simp only[c,gj,eP,true_or,aR];omega
 rw[F3 C (Kx c s _) v];have Q:0<X (dz x):=fb.2 C;have:=ih (closed f t++[x]) [] n (b+X (dz x)) (by rw[gr];simpa using d) (by rw[gr];simp;omega) (by rw[gr,kY,kY,rK];omega) (by omega);rw[this,gr];simp
def A5(b:ayg r<2^63)(h:cU r=0):parse (ayj r).1=(r,0,0):=by
 have a:=(o6 b).1 h;have e:(ayj r).1=r.flatMap dz:=by simp[ayj,h]
 have:=WQ r [] [] (X (ayj r).1+1) 0 (by rw[gr];exact a.2.2) (by rw[gr];exact a.1) (by rw[gr];exact a.2.1) (by rw[e];omega);rw[gr]at this;simp only[parse];rw[e]at this |-;exact this
def iA(before:List It)(x:It):Int:=if cv before.getLast? x=Z then 1 else if(eB x&&!fits before x)=G then 7 else 0
def xh:∀(a b:List It) (x:It),cj b (x::a)=if iA b x≠0 then iA b x else cj (b++[x]) a:=by
 intro a b x;simp only[cj,iA];split;.simp
 split<;>simp
def ee:List It :=if Q.axW≠1 then s++[Q]else if Q.ax1=[]then s else
 match s.getLast? with|some y=>if y.axW=1 then s.dropLast++[⟨1,y.ax1++Q.ax1,0⟩]else s++[⟨1,Q.ax1,0⟩]|none=>s++[⟨1,Q.ax1,0⟩]
def uB:List It:=s.foldl ee []
def Bx:Bool:=match s.getLast? with|some y=>y.axW==1|none=>Z
def Si:∀(n m:Nat) (f:List It),X f<=n->X f<=m->lO n f=lO m f:=by
 intro n;induction n with
 |zero =>intro m f h _;have:f=[]:=bQ (by omega);subst this;cases m<;>rfl
 |succ n ih =>
 intro m f d b;cases f with
 |nil=>cases m<;>rfl
 |cons x r =>
 cases m with
 |zero=>simp at b
 |succ m =>
 simp only[ah]at d b;by_cases a:x.axW=1
 .have e:=tH (x:=x) (r:=r) a;have c:=ih m (ax8 (x::r)).2 (by omega) (by omega);simp only[lO,a,gj,fU,bo];split;.exact c
  rw[c]
 simp only[lO,aO a];rw[ih m r (by omega) (by omega)]
def GB(a:T.axW≠1):ayb (T::r)=T::ayb r:=by simp only[ayb,ah,lO,aO a]
def sf{x:It}{r:List It}(a:x.axW=1):ayb (x::r)=if(ax8 (x::r)).1.length=0 then ayb (ax8 (x::r)).2 else⟨1,(ax8 (x::r)).1,0⟩::ayb (ax8 (x::r)).2:=by have b:=tH (x:=x) (r:=r) a;have e:lO (X r) (ax8 (x::r)).2=lO (X (ax8 (x::r)).2) (ax8 (x::r)).2:=Si _ _ _ b (aB _);simp only[ayb,ah,lO,a,gj,fU,bo,e]
def ud(f:List It):List It:=if U=[]then ayb f else
 ⟨1,U++(ax8 f).1,0⟩::ayb (ax8 f).2
def XS:∀(f a:List It) (t:aL),(Bx a=Z)->f.foldl ee (closed a t)=a++ud t f:=by
 intro f;induction f with
 |nil =>
  intro a t g;simp only[gZ,ud,closed];split;.simp[ayb,lO]
  simp[ax8,ayb,lO]
 |cons x f ih =>
 intro a t g;simp only[bT];by_cases c:x.axW=1
 .by_cases e:x.ax1=[]
  .have h:ee (closed a t) x=closed a t:=by simp[ee,c,e]
   rw[h,ih a t g];congr 1;simp only[ud];have d:ax8 (x::f)=((ax8 f).1,(ax8 f).2):=by simp[ax8,c,e]
   by_cases b:t=[]
   .rw[aO b,aO b,sf c,d];cases f with
    |nil=>simp[ax8,ayb,lO]
    |cons y f =>
    by_cases i:y.axW=1;.rw[sf i]
    simp[ax8,i]
   rw[ao b,ao b,d]
  have h:ee (closed a t) x=closed a (t++x.ax1):=by
   simp only[ee,c,gj,fU,bo,ao e];have j:t++x.ax1≠[]:=by simp[e]
   by_cases b:t=[]
   .subst b;rw[gr];simp only[closed,aw,ao e];simp only[Bx]at g;cases k:a.getLast? with
    |none=>rfl
    |some y =>
    rw[k]at g;have i:¬y.axW=1:=by simpa using g
    simp only[ao i]
   simp[closed,b]
  rw[h,ih a _ g];congr 1;have j:t++x.ax1≠[]:=by simp[e]
  simp only[ud,ao j];have d:ax8 (x::f)=(x.ax1++(ax8 f).1,(ax8 f).2):=by simp[ax8,c]
  by_cases b:t=[]
  .subst b;rw[aO rfl,sf c,d];have:X (x.ax1++(ax8 f).1)≠0:=by have:=fb.2 e;rw[ae];omega
   rw[ao this];simp
  rw[ao b,d];simp
 have h:ee (closed a t) x=closed (closed a t++[x]) []:=by rw[gr];simp[ee,c]
 have l:Bx (closed a t++[x])=Z:=by simp[Bx,c]
 rw[h,ih _ [] l];have d:ax8 (x::f)=([],x::f):=by simp[ax8,c]
 simp only[ud,aR,d,bE,GB c];by_cases b:t=[];.simp[closed,b]
 simp[closed,b]
def qH:uB s=ayb s:=by have:=XS s [] [] rfl;rw[gr]at this;simpa[ud,uB]using this
def gz:bA (s++M)=bA s+bA M:=by induction s with|nil=>simp[bA]|cons x s ih=>simp only[aF,bA,ih];omega
def si:bA (ee s Q)<=bA s+Q.ax1.length/\X (ee s Q)<=X s+1:=by
 simp only[ee];split
 .simp[gz,bA]
 .split
  .omega
  .split
   .rename_i y a;have b:s≠[]:=by rintro rfl;simp at a
    have e:s=s.dropLast++[y]:=by
     have:=List.dropLast_concat_getLast b;rw[List.getLast?_eq_some_getLast b]at a;simp only[aa]at a;rw[a]at this;exact this.symm
    split
    .have c:bA s=bA s.dropLast+X y.ax1:=by
      conv=>lhs;rw[e]
      simp[gz,bA]
     simp[gz,bA];omega
    .simp[gz,bA]
   .simp[gz,bA]
def Kg:∀p:UInt8,(kU p).2=G->ly (kU p).1.toNat=p:=jW (by decide +kernel)
def acp:∀b:UInt8,(b==13||nL b==1)=G->gq b=[92,120,ly (b.toNat / 16),ly (b.toNat % 16)]:=jW (by decide +kernel)
def IY:(lQ p q).toNat / 16=(kU p).1.toNat/\(lQ p q).toNat % 16=(kU q).1.toNat:=by
 have a:=Bl p;have b:=Bl q;have:(lQ p q).toNat=16*(kU p).1.toNat+(kU q).1.toNat:=by simp only[lQ,oG];omega
 omega
def rR:∀c:UInt8,fL c=G->∃i:Fin 10,c=UInt8.ofNat (48+i.val)/\((c.toNat:Int) - 48)=i.val:=by
 intro c h;refine⟨⟨c.toNat - 48,by simp[fL]at h;omega⟩,?_,?_⟩
 .simp only[fL,aV,bz]at h;have:48+(c.toNat - 48)=c.toNat:=by omega
  simp[this]
 simp only[fL,aV,bz]at h;simp only;omega
def agC:∀i:Fin 10,i.val≠0->d3 i.val=[UInt8.ofNat (48+i.val)]:=by decide +kernel
def agB:∀i j:Fin 10,i.val≠0->d3 (10*i.val+j.val)=[UInt8.ofNat (48+i.val),UInt8.ofNat (48+j.val)]:=by decide +kernel
def agA:∀i j k:Fin 10,i.val≠0->d3 (100*i.val+10*j.val+k.val)=[UInt8.ofNat (48+i.val),UInt8.ofNat (48+j.val),UInt8.ofNat (48+k.val)]:=by decide +kernel
def rv(h:(ayh w).2=G):w=Lib.itoa (ayh w).1/\1<=(ayh w).1/\(ayh w).1<=999:=by
 simp only[ayh]at h |-;by_cases b:X w<1\/3<X w\/w.getD 0 0=48;.rw[aO b]at h;simp at h
 rw[ao b]at h |-;by_cases a:w.all fL=G
 .rw[aO a];match w,b,a with
  |[x],b,a =>
   simp only[im,H5,db]at a;obtain⟨i,c,g⟩:=rR x a;have d:i.val≠0:=by intro e;apply b;right;right;rw[aQ,c,e];rfl
   have e:fP 0 [x]=(i.val:Int):=by simp[fP];omega
   simp only[e];rw[EJ _ (by omega),agC i d,<- c];exact⟨rfl,by omega,by omega⟩
  |[x,y],b,a =>
   simp only[im,H5,db,aV]at a;obtain⟨i,c,g⟩:=rR x a.1;obtain⟨j,f,l⟩:=rR y a.2;have d:i.val≠0:=by intro e;apply b;right;right;rw[aQ,c,e];rfl
   have e:fP 0 [x,y]=((10*i.val+j.val:Nat):Int):=by simp[fP];omega
   simp only[e];rw[EJ _ (by omega),agB i j d,<- c,<- f];exact⟨rfl,by omega,by omega⟩
  |[x,y,z],b,a =>
   simp only[im,H5,db,aV]at a;obtain⟨i,c,g⟩:=rR x a.1;obtain⟨j,f,l⟩:=rR y a.2.1;obtain⟨k,m,n⟩:=rR z a.2.2;have d:i.val≠0:=by intro e;apply b;right;right;rw[aQ,c,e];rfl
   have e:fP 0 [x,y,z]=((100*i.val+10*j.val+k.val:Nat):Int):=by simp[fP];omega
   simp only[e];rw[EJ _ (by omega),agA i j k d,<- c,<- f,<- m];exact⟨rfl,by omega,by omega⟩
  |[],b,_=>simp at b
  |_::_::_::_::_,b,_=>simp at b
 rw[ao a]at h;simp at h
def qd(h:(cutAt w R).2.2=G):w=(cutAt w R).1++R::(cutAt w R).2.1:=by
 simp only[cutAt]at h |-;by_cases d:0<=Lib.indexByte w R
 .rw[aO d];have b:∀w:aL,0<=Lib.indexByte w R->w=w.take (Lib.indexByte w R).toNat++R::w.drop ((Lib.indexByte w R).toNat+1):=by
   intro w;induction w with
   |nil=>intro h;simp[Lib.indexByte]at h
   |cons a w ih =>
   intro h;have i:=tM R w;by_cases f:a=R;.subst f;simp[Lib.indexByte]
   have e:(a==R)=Z:=by simpa using f
   simp only[Lib.indexByte,e,aI,bo]at h |-;by_cases c:(Lib.indexByte w R == -1)=G;.rw[aO c]at h;omega
   rw[ao c]at h |-;have j:Lib.indexByte w R ≠ -1:=by simpa using c
   have g:(Lib.indexByte w R+1).toNat=(Lib.indexByte w R).toNat+1:=by omega
   rw[g];simp only[eZ,mi,aF];rw[<- ih (by omega)]
  exact b w d
 rw[ao d]at h;simp at h
def I1(h:ayo w [R]=G):w=w.take (X w - 1)++[R]:=by simp only[ayo,aV,bz,dM,ah,aj,aP]at h;rw[<- h.2,eU]
def I3(h:ayl w [R]=G):w=R::w.drop 1:=by simp only[ayl,aV,bz,dM,ah,aj,aP]at h;cases w with|nil=>simp at h|cons a w=>simp at h;simp[h]
def V8(h:(kp w).2=G):(kp w).1.axW≠1/\cv Y (kp w).1=G/\dz (kp w).1=60::(w++[62]):=by
 unfold kp at h |-;dsimp only at h |-;cases c:ayl w [47]with
 |true =>
  simp only[c,aR,jN,dq,aI,bo]at h |-
  by_cases a:((cutAt (w.drop 1) 58).2.2&&(ayh (cutAt (w.drop 1) 58).1).2)=G
  .rw[aO a]at h |-;dsimp only at h |-;simp only[aV]at a;obtain⟨n1,n2,n3⟩:=rv a.2;have b:=qd a.1;have e:=I3 c;refine⟨by decide,?_,?_⟩
   .simp only[cv];rw[ao (by decide),ao (by decide),ao (by decide),aO (by decide)];simp only[h,n2,n3,cZ,db]
   .simp only[dz];rw[ao (by decide),ao (by decide),aO (by decide),<- n1]
    conv=>rhs;rw[e,b]
    simp
  .rw[ao a]at h;simp at h
 |false =>
  simp only[c,aI,bo,lK,cN]at h |-;cases d:ayo (cutAt w 58).2.1 [47]with
  |true =>
   simp only[d,aR]at h |-
   by_cases a:((cutAt w 58).2.2&&(ayh (cutAt w 58).1).2)=G
   .rw[aO a]at h |-;dsimp only at h |-;simp only[aV]at a;obtain⟨n1,n2,n3⟩:=rv a.2;have b:=qd a.1;have e:=I1 d;have h:eQ ((cutAt w 58).2.1.take (X (cutAt w 58).2.1 - 1))=G:=by simpa using h
    refine⟨by decide,?_,?_⟩
    .simp only[cv];rw[ao (by decide),ao (by decide),aO (.inr (by decide))];simp only[h,n2,n3,cZ,db]
    .simp only[dz];rw[ao (by decide),ao (by decide),ao (by decide),aO (by decide),<- n1]
     conv=>rhs;rw[b]
     conv=>rhs;rw[e]
     simp
   .rw[ao a]at h;simp at h
  |false =>
   simp only[d,aI,bo]at h |-
   by_cases a:((cutAt w 58).2.2&&(ayh (cutAt w 58).1).2)=G
   .rw[aO a]at h |-;dsimp only at h |-;simp only[aV]at a;obtain⟨n1,n2,n3⟩:=rv a.2;have b:=qd a.1;have h:eQ (cutAt w 58).2.1=G:=by simpa using h
    refine⟨by decide,?_,?_⟩
    .simp only[cv];rw[ao (by decide),ao (by decide),aO (.inl (by decide))];simp only[h,n2,n3,cZ,db]
    .simp only[dz];rw[ao (by decide),aO (by decide),<- n1]
     conv=>rhs;rw[b]
     simp
   .rw[ao a]at h;simp at h
def xC{s:aL}(l:s≠[])(h:(bO s).2.2=G):
  ((∃c,(bO s).1=⟨1,[c],0⟩/\s=gq c++s.drop (bO s).2.1.toNat) \/
   ((bO s).1.axW≠1/\cv Y (bO s).1=G/\s=dz (bO s).1++s.drop (bO s).2.1.toNat)):=by
 simp only[bO]at h |-
 by_cases f:s.getD 0 0=92
 .left;rw[aO f]at h |-;simp only at h |-;refine⟨_,rfl,?_⟩
  match s,l,f,h with
  |[a],_,f,h=>simp[fg]at h
  |a::d::r,_,f,h =>
   simp only[aQ]at f;subst f
   by_cases o:d=92\/d=60\/d=123
   .have e:fg (92::d::r)=(d,2,G):=by simp only[rH,aO o]
    rw[e];rcases o with rfl|rfl|rfl<;>simp[show gq 92=[92,92]by decide,show gq 60=[92,60]by decide,show gq 123=[92,123]by decide]
   .by_cases y:d=110
    .subst y;have e:fg (92::110::r)=(10,2,G):=by simp only[rH];rfl
     rw[e];simp[show gq 10=[92,110]by decide]
    .by_cases d3:d=116
     .subst d3;have e:fg (92::116::r)=(9,2,G):=by simp only[rH];rfl
      rw[e];simp[show gq 9=[92,116]by decide]
     .by_cases z:d=120
      .subst z
       match r,h with
       |[],h=>simp[fg]at h
       |[_],h=>simp[fg]at h
       |p::q::r,h =>
        have e:fg (92::120::p::q::r)=(lQ p q,4,(kU p).2&&(kU q).2&&(lQ p q==13||nL (lQ p q)==1)):=by
         simp only[rH];rw[ao (by decide),ao (by decide),ao (by decide),aO (by decide),ao (by simp)];simp only[aQ,bj]
        rw[e]at h |-;simp only[aV]at h;have n:=IY p q;rw[acp _ h.2,n.1,n.2,Kg p h.1.1,Kg q h.1.2];simp
      .have e:fg (92::d::r)=(0,0,Z):=by simp only[rH,o,y,d3,z,bo]
       rw[e]at h;simp at h
  |[],l,_,_=>exact absurd rfl l
 .rw[ao f]at h |-
  by_cases g:s.getD 0 0=60
  .right;rw[aO g]at h |-
   by_cases i:Lib.indexByte s 62<0
   .rw[aO i]at h;simp at h
   .rw[ao i]at h |-;simp only at h |-;have x:(cutAt s 62).2.2=G:=by simp only[cutAt];rw[aO (by omega)]
    have v:=qd x;have k:(cutAt s 62).1=s.take (Lib.indexByte s 62).toNat:=by simp only[cutAt];rw[aO (by omega)]
    have j:(cutAt s 62).2.1=s.drop ((Lib.indexByte s 62).toNat+1):=by simp only[cutAt];rw[aO (by omega)]
    obtain⟨D,B,C⟩:=V8 h;refine⟨D,B,?_⟩;have n:=qm s 62 (by rw[g];decide) i
    have t:s.take (Lib.indexByte s 62).toNat=60::(s.take (Lib.indexByte s 62).toNat).drop 1:=by
     cases s with
     |nil=>exact absurd rfl l
     |cons a s =>
      simp only[aQ]at g;subst g;obtain⟨m,u⟩:∃m,(Lib.indexByte (60::s) 62).toNat=m+1:=⟨(Lib.indexByte (60::s) 62).toNat - 1,by omega⟩;rw[u];simp
    rw[C];have w:(Lib.indexByte s 62+1).toNat=(Lib.indexByte s 62).toNat+1:=by omega
    rw[w]
    conv=>lhs;rw[v,k,j,t]
    simp
  .rw[ao g]at h |-
   by_cases b:s.getD 0 0=123
   .right;rw[aO b]at h |-
    by_cases i:Lib.indexByte s 125<0\/ayc ((s.take (Lib.indexByte s 125).toNat).drop 1)=Z
    .rw[aO i]at h;simp at h
    .rw[ao i]at h |-;simp only[xQ]at i;simp only;have E:ayc ((s.take (Lib.indexByte s 125).toNat).drop 1)=G:=by simpa using i.2
     have x:(cutAt s 125).2.2=G:=by simp only[cutAt];rw[aO (by omega)]
     have v:=qd x;have k:(cutAt s 125).1=s.take (Lib.indexByte s 125).toNat:=by simp only[cutAt];rw[aO (by omega)]
     have j:(cutAt s 125).2.1=s.drop ((Lib.indexByte s 125).toNat+1):=by simp only[cutAt];rw[aO (by omega)]
     have n:=qm s 125 (by rw[b];decide) i.1;refine⟨by decide,?_,?_⟩
     .simp only[cv];rw[ao (by decide),aO (by decide),E];rfl
     .have t:s.take (Lib.indexByte s 125).toNat=123::(s.take (Lib.indexByte s 125).toNat).drop 1:=by
       cases s with
       |nil=>exact absurd rfl l
       |cons a s =>
        simp only[aQ]at b;subst b;obtain⟨m,u⟩:∃m,(Lib.indexByte (123::s) 125).toNat=m+1:=⟨(Lib.indexByte (123::s) 125).toNat - 1,by omega⟩;rw[u];simp
      simp only[dz];rw[ao (by decide),ao (by decide),ao (by decide),ao (by decide),aO (by decide)];have w:(Lib.indexByte s 125+1).toNat=(Lib.indexByte s 125).toNat+1:=by omega
      rw[w]
      conv=>lhs;rw[v,k,j,t]
      simp
   .left;rw[ao b]at h |-;simp only at h |-;cases s with
    |nil=>exact absurd rfl l
    |cons a s =>
     simp only[aQ]at h;refine⟨a,by simp,?_⟩;simp[gq,h]
def WO:∀(n:Nat) (f:List It) (t l:aL) (j:Int) (g:List It) (k:Int),kZ n (qy f t) l j=(g,k,0)->cj [] (closed f t)=0->(∀x,f.getLast?=S x->x.axW≠1) ->
  X (closed f t)<=512->ayg (closed f t)<=1024->cj [] g=0/\X g<=512/\ayg g<=1024/\(closed f t).flatMap dz++l=g.flatMap dz:=by
 intro n
 induction n with
 |zero=>intro f t l j g k h;simp[kZ]at h
 |succ n ih =>
  intro f t l j g k h a C I F;cases l with
  |nil =>
   simp only[kZ,zI,aY]at h;obtain⟨rfl,_⟩:=h;exact⟨a,I,F,by simp⟩
  |cons c l =>
   simp only[kZ]at h
   by_cases o:(bO (c::l)).2.2=Z
   .rw[aO o]at h;simp at h
   .rw[ao o]at h;have o:(bO (c::l)).2.2=G:=by simpa using o
    rcases xC (by simp) o with⟨b,p,r⟩|⟨m,p,r⟩
    .rw[p,zK]at h
     by_cases e:lD f t ⟨1,[b],0⟩
     .rw[aO e]at h;simp at h
     .rw[ao e]at h;simp only[gj,fU,bo]at h;simp only[lD]at e;have i:closed f (t++[b])=f++[⟨1,t++[b],0⟩]:=by simp[closed]
      have d:X (closed f (t++[b]))<=512:=by
       rw[i];simp only[ae,ah,aj];simp only[gj,fU,nQ]at e
       by_cases E:X t=0
       .rw[ao (by omega),aO E]at e;omega
       .rw[aO (by omega),ao E]at e;omega
      have u:cj [] (closed f (t++[b]))=0:=by
       rw[i,fK]
       have w:cj [] f=0:=by
        simp only[closed]at a;split at a
        .exact a
        .rw[fK]at a;exact a.1
       refine⟨w,?_,by simp[eB]⟩;simp only[cv,aR,aw,aV];refine⟨⟨by simp,by simp⟩,?_⟩;cases J:f.getLast? with
       |none=>rfl
       |some y=>simpa using C y J
      have:=ih f (t++[b]) _ _ g k h u C d (by rw[o7];simp;omega);obtain⟨z,v,B,s⟩:=this;refine⟨z,v,B,?_⟩;rw[<- s]
      conv=>lhs;rw[r]
      rw[i];simp only[closed];split
      .rename_i q;subst q;simp[dz]
      .simp[dz]
    .rw[zJ _ _ _ m]at h
     have w:cj [] f=0:=by
      simp only[closed]at a;split at a
      .exact a
      .rw[fK]at a;exact a.1
     by_cases i:(tagged (bO (c::l)).1&&zC (qy f t) (bO (c::l)).1)=G
     .rw[aO i]at h;simp at h
     .rw[ao i]at h
      by_cases e:lD f t (bO (c::l)).1
      .rw[aO e]at h;simp at h
      .rw[ao e]at h;simp only[gj,fU,bo]at h;rw[Aa w p]at i;simp only[lD,m,gj,eP,true_or,aR]at e
       have d:X (closed (closed f t++[(bO (c::l)).1]) [])<=512:=by
        rw[gr,ae,vE];simp only[ah,aj];omega
       have u:cj [] (closed (closed f t++[(bO (c::l)).1]) [])=0:=by
        rw[gr,fK];refine⟨a,?_,by simpa using i⟩;rw[k7 m];exact p
       have q:ayg (closed (closed f t++[(bO (c::l)).1]) [])<=1024:=by
        have H:wid (bO (c::l)).1=1:=by simp[wid,m]
        rw[gr,kY,o7,rK,H];omega
       obtain⟨z,v,B,s⟩:=ih _ [] _ _ g k h u (by
        intro x D;simp only[kj,iZ,nR,aa]at D;subst D;exact m) d q
       refine⟨z,v,B,?_⟩;rw[<- s,gr]
       conv=>lhs;rw[r]
       simp
def Bu(h:(parse w).2.2=0):cU (parse w).1=0/\(ayj (parse w).1).1=w/\ayg (parse w).1<=1024/\X (parse w).1<=512:=by obtain⟨g,k,e,a⟩:∃g k e,parse w=(g,k,e):=⟨_,_,_,rfl⟩;rw[a]at h |-;simp only at h;subst h;have:=WO (X w+1) [] [] w 0 g k (by rw[<- a];rfl) (by simp[closed,cj]) (by simp) (by simp[closed]) (by simp[closed,ayg]);obtain⟨i,c,d,f⟩:=this;have b:cU g=0:=(o6 (by omega)).2 ⟨c,d,i⟩;refine⟨b,?_,d,c⟩;simp only[ayj,b,gj,fU,bo];rw[<- f];simp[closed]
def mj:It×Int:=if(bO U).2.2=G then((bO U).1,(bO U).2.1)else(pH,0)
def BZ(h:(bO w).2.2=Z):mj w=(pH,0):=by simp[mj,h]
def wJ:It×Bool :=
 let k:=min 4 (X (U.takeWhile fL))
 if k=0\/X U<=k\/U.getD 0 0=48\/999<fP 0 (U.take k)\/U.getD k 0≠58 then(pH,Z)else
 if(P=3/\ayc (U.drop (k+1))=Z)\/(P≠3/\eQ (U.drop (k+1))=Z)then(pH,Z)else(⟨P,U.drop (k+1),fP 0 (U.take k)⟩,G)
def Lh:It×Bool :=if ayl U [47]=G then wJ 3 (U.drop 1)else if ayo U [47]=G then wJ 4 (U.take (X U - 1))else wJ 2 U
def Pq(cut:Bool):It×Bool :=if(cut&&(ayh U).2)=G then(if(if P=3 then ayc B else eQ B)=G then(⟨P,B,(ayh U).1⟩,G)else(pH,Z))else(pH,Z)
def Ik(h:∀c∈w,fL c=G):(w++58::L).takeWhile fL=w:=by induction w with|nil=>simp[show fL 58=Z by decide]|cons x w ih =>have b:fL x=G:=h x (by simp);simp[b,ih λc a=>h c (by simp[a])]
def E1{n:Nat}{t:aL}(h:n<=X (t.takeWhile fL)):∀c∈t.take n,fL c=G:=by
 intro c a
 have e:t.take n=(t.takeWhile fL).take n:=by
  have:=List.takeWhile_append_dropWhile (p:=fL) (l:=t)
  conv=>lhs;rw[<- this]
  rw[dI h]
 rw[e]at a;have b:=dB a;exact dd.1 (List.all_takeWhile (p:=fL) (l:=t)) c b
def aci{b c d:UInt8}{r:aL}(g:fL R=G)(a:R≠48)(h:fL b=G)(i:fL c=G)(f:fL d=G):999<fP 0 [R,b,c,d]:=by simp only[fL,aV,bz]at g h i f;have:R.toNat≠48:=λe=>a (oY.1 e);simp only[fP,bT,gZ];omega
def wI(t:aL):wJ P t=Pq P (cutAt t 58).1 (cutAt t 58).2.1 (cutAt t 58).2.2:=by
 by_cases q:((cutAt t 58).2.2&&(ayh (cutAt t 58).1).2)=G
 .have p:=q;simp only[aV]at p;obtain⟨n1,n2,n3⟩:=rv p.2;have f:=qd p.1;generalize R:(cutAt t 58).1=a at *;generalize o:(cutAt t 58).2.1=b at *;have z:=xg (ayh a).1 ⟨n2,n3⟩;rw[<- n1]at z;have g:=p.2;simp only[ayh]at g
  by_cases i:X a<1\/3<X a\/a.getD 0 0=48
  .rw[aO i]at g;simp at g
  .have e:a.all fL=G:=dd.2 z.2.1;have C:(ayh a).1=fP 0 a:=by simp only[ayh,ao i,e,aR]
   have D:min 4 (X (t.takeWhile fL))=X a:=by rw[f,Ik z.2.1];omega
   have J:t.take (X a)=a:=by rw[f];simp
   have H:t.drop (X a+1)=b:=by rw[f];simp
   have N:¬X t<=X a:=by rw[f];simp
   have K:t.getD 0 0=a.getD 0 0:=by
    rw[f];cases a with
    |nil=>simp at i
    |cons x a=>rfl
   have B:t.getD (X a) 0=58:=by rw[f];simp[ax]
   simp only[wJ,Pq,q,aR,D,J,H,K,B]
   rw[ao (by
    simp only[xQ]at i |-;exact⟨by omega,N,i.2.2,by rw[<- C];omega,by simp⟩)]
   by_cases l:P=3
   .simp only[l,jd,aR,gj,fU,o0,mg,C]
    by_cases o:ayc b=G<;>simp[o]
   .simp only[l,o0,bo,gj,eP,jd,nQ,C]
    by_cases o:eQ b=G<;>simp[o]
 .simp only[Pq,ao q,wJ];refine aO ?_;apply bY;intro F;apply q;simp only[xQ,TF,Nat.not_le,Decidable.not_not]at F;obtain⟨Q,u,s,w,E⟩:=F;generalize D:min 4 (X (t.takeWhile fL))=k at *;have e:=E1 (n:=k) (t:=t) (by omega)
  have f:t=t.take k++58::t.drop (k+1):=by
   conv=>lhs;rw[<- List.take_append_drop k t]
   congr 1;rw[fO u];congr 1;rw[ax,aA u]at E;simpa using E
  have I:(58:UInt8) ∉ t.take k:=λO=>absurd (e _ O) (by decide)
  have v:cutAt t 58=(t.take k,t.drop (k+1),G):=by
   conv=>lhs;rw[f]
   exact xE I
  rw[v];have j:X (t.take k)=k:=by rw[aX];omega
  have y:(t.take k).getD 0 0=t.getD 0 0:=by
   cases t with
   |nil=>simp
   |cons x t =>
    obtain⟨m,rfl⟩:∃m,k=m+1:=⟨k - 1,by omega⟩;rfl
  have M:k<=3:=by
   apply bY;intro h;have L:k=4:=by omega
   subst L
   match t,u,e,s,w with
   |a::b::c::d::r,_,e,s,w =>
    have:=aci (r:=r) (e a (by simp)) (by simpa using s) (e b (by simp)) (e c (by simp)) (e d (by simp));simp only[eZ,jM]at w;omega
   |[],h,_,_,_=>simp at h
   |[_],h,_,_,_=>simp at h
   |[_,_],h,_,_,_=>simp at h
   |[_,_,_],h,_,_,_=>simp at h
  simp only[cN,ayh];rw[ao (by rw[j,y];simp only[xQ];exact⟨by omega,by omega,s⟩),aO (dd.2 e)]
def aaa(p:It×Bool):It×Bool:=if p.2=G then p else(pH,Z)
def B8(cut:Bool): aaa (if(cut&&(ayh U).2)=G then(⟨P,B,(ayh U).1⟩,if P=3 then ayc B else eQ B)else(⟨0,[],0⟩,Z))=Pq P U B cut:=by
 simp only[Pq];by_cases b:(cut&&(ayh U).2)=G;.rw[aO b,aO b];simp only[aaa];generalize (if P=3 then ayc B else eQ B)=a;cases a<;>rfl
 rw[ao b,ao b];rfl
def pt{c:UInt8}:ayo (w++[R]) [c]=(R==c):=by simp[ayo]
def I2:ayo (w++58::L) [47]=ayo L [47]:=by
 rcases fN L with a|⟨b,x,a⟩;.subst a;rw[pt];rfl
 rw[fk]at a;subst a;rw[pt,show w++58::(b++[x])=(w++58::b)++[x]by simp,pt]
def z7(h:R ∉ w):cutAt w R=(w,[],Z):=by simp only[cutAt,xk h];rfl
def X3(h:R∈w):(cutAt w R).2.2=G:=by simp only[cutAt];rw[aO (sr h)]
def vV{c:UInt8}:∀{s:aL},c ∉ s.take (Lib.indexByte s c).toNat
 |[]=>by simp
 |a::s=>by
  by_cases d:a=c;.subst d;simp[Lib.indexByte]
  have f:(a==c)=Z:=by simpa using d
  have h:=tM c s;simp only[Lib.indexByte,f,aI,bo];by_cases e:(Lib.indexByte s c == -1)=G;.rw[aO e];simp
  rw[ao e];have i:Lib.indexByte s c ≠ -1:=by simpa using e
  have g:(Lib.indexByte s c+1).toNat=(Lib.indexByte s c).toNat+1:=by omega
  rw[g,eZ];intro b;rcases bw.1 b with b|b;.exact d b.symm
  exact vV b
def NA(h:R∈w):R ∉ (cutAt w R).1:=by simp only[cutAt];rw[aO (sr h)];exact vV
def adI:Lh U=aaa (kp U):=by
 unfold Lh kp;dsimp only;cases s:ayl U [47]with
 |true =>
  simp only[aR,jN,dq,aI,bo];rw[wI,<- B8];rfl
 |false =>
  simp only[aI,bo,lK,cN]
  by_cases c:(58:UInt8)∈U
  .have i:=X3 c;have m:=NA c;have j:=qd i;generalize q:(cutAt U 58).1=a at *;generalize f:(cutAt U 58).2.1=b at *;have p:ayo U [47]=ayo b [47]:=by conv=>lhs;rw[j,I2]
   rw[p];cases d:ayo b [47]with
   |true =>
    simp only[aR];have g:b≠[]:=by rintro rfl;simp[ayo]at d
    have o:U.take (X U - 1)=a++58::b.take (X b - 1):=by
     have r:=fb.2 g;rw[j];simp only[ae,ah];rw[ac3,cc (by omega)];have:X a+(X b+1) - 1 - X a=(X b - 1)+1:=by omega
     rw[this,eZ]
    rw[wI,o,xE m,<- B8,i]
   |false =>
    simp only[aI,bo];rw[wI,q,f,i,<- B8]
  .have e:(58:UInt8) ∉ U.take (X U - 1):=λh=>c (dB h);have l:∀k,wJ k U=(pH,Z):=λk=>by rw[wI,z7 c];rfl
   have n:wJ 4 (U.take (X U - 1))=(pH,Z):=by rw[wI,z7 e];rfl
   rw[z7 c,l,n];simp[aaa]
def Wo(h0:w.getD 0 0=60):mj w=if Lib.indexByte w 62<0 then(pH,0)else
  (if(Lh ((w.take (Lib.indexByte w 62).toNat).drop 1)).2=G then((Lh ((w.take (Lib.indexByte w 62).toNat).drop 1)).1,Lib.indexByte w 62+1)else(pH,0)):=by
 have e:bO w=if Lib.indexByte w 62<0 then(pH,0,Z)else((kp ((w.take (Lib.indexByte w 62).toNat).drop 1)).1,Lib.indexByte w 62+1,(kp ((w.take (Lib.indexByte w 62).toNat).drop 1)).2):=by simp only[bO,h0];rw[ao (by decide),aO trivial]
 rw[mj,e];by_cases a:Lib.indexByte w 62<0;.simp[a]
 rw[ao a,ao a,adI,aaa];generalize kp ((w.take (Lib.indexByte w 62).toNat).drop 1)=p;obtain⟨x,b⟩:=p;cases b<;>rfl
def RO(h:ayl w (gq R)=G):mj w=(⟨1,[R],0⟩,(X (gq R):Int)):=by
 have e:w=gq R++w.drop (X (gq R)):=by
  simp only[ayl,aV,bz,dM]at h
  conv=>lhs;rw[<- List.take_append_drop (X (gq R)) w,h.2]
 rw[mj,e,Ky];simp
def xi(c:T.axW≠1)(h:cv Y T=G):∃r,dz T=60::r\/(dz T=123::(T.ax1++[125])/\ayc T.ax1=G):=by
 simp only[cv,ao c]at h;simp only[dz,ao c];by_cases b:T.axW=5;.rw[aO b,aV]at h;refine⟨[],.inr ⟨?_,h.1⟩⟩;simp[b]
 rw[ao b]at h;by_cases a:T.axW=2;.exact⟨_,.inl (by rw[aO a])⟩
 by_cases e:T.axW=4;.exact⟨_,.inl (by rw[ao a,ao (by omega),aO e])⟩
 rw[ao (by omega)]at h;by_cases d:T.axW=3;.exact⟨_,.inl (by rw[ao a,aO d])⟩
 rw[ao d]at h;simp at h
def RN(j:w≠[])(b:w.getD 0 0≠60)(e:w.getD 0 0≠123)(h:∀c,ayl w (gq c)=Z):mj w=(pH,0):=by
 refine BZ ?_;apply bY;intro i;rcases xC j (by simpa using i)with⟨c,_,a⟩|⟨f,g,a⟩;.have:=h c;rw[a]at this;simp[ayl]at this
 obtain⟨r,d|⟨d,_⟩⟩:=xi f g;.rw[d]at a;rw[a]at b;simp at b
 rw[d]at a;rw[a]at e;simp at e
def Ri:∀c:UInt8,(gq c).getD 0 0≠123/\gq c≠[]:=jW (by decide +kernel)
def RL(f:w.getD 0 0=123)(i:1<=k)(c:k<X w)(d:w.getD k 0=125)(h:ayc ((w.take k).drop 1)=G):
  mj w=(⟨5,(w.take k).drop 1,0⟩,(k:Int)+1):=by
 have e:w=123::((w.take k).drop 1++125::w.drop (k+1)):=by
  cases w with
  |nil=>simp at c
  |cons a w =>
   simp only[aQ]at f;subst f;obtain⟨m,rfl⟩:∃m,k=m+1:=⟨k - 1,by omega⟩;simp only[ah]at c;have b:m<X w:=by omega
   simp only[eZ,mi,qg];congr 1
   conv=>lhs;rw[<- List.take_append_drop m w]
   congr 1;rw[fO b];congr 1;rw[bj,ax,aA b]at d;simpa using d
 have g:X ((w.take k).drop 1)=k - 1:=by rw[bN,aX];omega
 have:=Kw ((w.take k).drop 1) (w.drop (k+1)) h;rw[<- e]at this;rw[mj,this];simp only[aR,g];congr 1;omega
def Li(i:w.getD 0 0=123)(h:∀k,1<=k->k<X w->k<=25->¬(w.getD k 0=125/\ayc ((w.take k).drop 1)=G)):mj w=(pH,0):=by
 have p:w≠[]:=by rintro rfl;simp at i
 refine BZ ?_;apply bY;intro m;rcases xC p (by simpa using m)with⟨c,_,g⟩|⟨n,o,g⟩;.have f:=Ri c;rw[g]at i;cases l:gq c with|nil=>exact f.2 l|cons a b =>rw[l]at i f;exact f.1 (by simpa using i)
 obtain⟨r,f|⟨f,j⟩⟩:=xi n o;.rw[f]at g;rw[g]at i;simp at i
 rw[f]at g;generalize (bO w).1.ax1=t at *;have q:X t<=24:=by cases t with|nil=>simp|cons c t =>simp only[ayc,aV,bz]at j;exact j.1.1
 generalize w.drop (bO w).2.1.toNat=d at g;have e:w=(123::t)++125::d:=by rw[g];simp
 refine h (X t+1) (by omega) (by rw[e];simp) (by omega) ⟨?_,?_⟩;.rw[e];rw[show X t+1=X (123::t) by simp,alc]
 rw[e];rw[show X t+1=X (123::t) by simp];simpa using j
def kC:Nat->List It->Int->aL->Int->List It×Int×Int
 |0,_,_,_,at'=>([],at',2)
 |_+1,f,_,[],_=>(f,0,0)
 |n+1,f,len,c::l,at' =>
  let p:=mj (c::l)
  if p.2=0 then([],at',2)else if p.1.axW≠1/\iA f p.1≠0 then([],at',iA f p.1)else
  let g:=ayb (f++[p.1])
  if 512<X g\/1024<len+1 then([],at',3)else kC n g (len+1) ((c::l).drop p.2.toNat) (at'+p.2)
def IJ:uB (s++[Q])=ee (uB s) Q:=by simp[uB]
def ku(h:ayb r=r):ayb (r++[T])=ee r T:=by rw[<- qH,IJ,qH,h]
def II(h:∀x,r.getLast?=S x->x.axW≠1):ee (closed r w) ⟨1,[R],0⟩=closed r (w++[R]):=by
 by_cases a:w=[];.subst a;rw[gr];simp only[ee,closed,gj,fU,bo,aw];rw[ao (by simp),ao (by simp)];cases b:r.getLast? with|none=>rfl|some y=>simp only[ao (h y b)]
 simp[ee,closed,a]
def qj(h:T.axW≠1):ee r T=r++[T]:=by simp[ee,h]
def PG{t:aL}(b:ayb r=r)(h:∀x,r.getLast?=S x->x.axW≠1):ayb (closed r t)=closed r t:=by
 by_cases a:t=[];.subst a;rw[gr];exact b
 have e:closed r t=r++[⟨1,t,0⟩]:=by simp[closed,a]
 rw[e,ku b];simp only[ee,gj,fU,bo,ao a];cases c:r.getLast? with|none=>rfl|some y=>simp only[ao (h y c)]
def Wp:∀(n:Nat) (f:List It) (t l:aL) (d:Int),cj [] (closed f t)=0->(∀x,f.getLast?=S x->x.axW≠1)->ayb f=f ->kC n (closed f t) ((ayg f+X t:Nat):Int) l d=kZ n (qy f t) l d:=by
 intro n;induction n with
 |zero=>intros;rfl
 |succ n ih =>
 intro f t l d i m v;have o:=PG (t:=t) v m;cases l with
 |nil=>simp only[kC,kZ,zI]
 |cons c l =>
 have u:cj [] f=0:=by
  simp only[closed]at i;split at i;.exact i
  rw[fK]at i;exact i.1
 simp only[kC,kZ];by_cases g:(bO (c::l)).2.2=G
 .have F:=(vB (s:=c::l) (by simp)).2.2 g;have D:mj (c::l)=((bO (c::l)).1,(bO (c::l)).2.1):=by rw[mj,aO g]
  simp only[D,g,sM,bo];rw[ao (by omega)];rcases xC (s:=c::l) (by simp) g with⟨b,a,_⟩|⟨a,p,_⟩
  .rw[a,zK,ao (by simp),ku o,II m];have k:(512<X (closed f (t++[b]))\/(1024:Int)<((ayg f+X t:Nat):Int)+1)<->lD f t ⟨1,[b],0⟩:=by
    simp only[lD,vE,ae,ah,aj,gj,fU,nQ];by_cases r:X t=0;.rw[aO (by omega),ao (by omega),aO r];omega
    rw[aO (by omega),aO (by omega),ao r];omega
   by_cases e:lD f t ⟨1,[b],0⟩;.rw[aO (k.2 e),aO e];simp
   rw[ao (λh=>e (k.1 h)),ao e];simp only[gj,fU,bo];have j:closed f (t++[b])=f++[⟨1,t++[b],0⟩]:=by simp[closed]
   have q:cj [] (closed f (t++[b]))=0:=by rw[j,fK];refine⟨u,?_,by simp[eB]⟩;simp only[cv,aR,aw,aV];refine⟨⟨by simp,by simp⟩,?_⟩;cases B:f.getLast? with|none=>rfl|some y=>simpa using m y B
   have:=ih f (t++[b]) ((c::l).drop (bO (c::l)).2.1.toNat) (d+(bO (c::l)).2.1) q m v;rw[<- this];congr 1;simp;omega
  rw[zJ _ _ _ a,Aa u p];have z:iA (closed f t) (bO (c::l)).1=if(eB (bO (c::l)).1&&!fits (closed f t) (bO (c::l)).1)=G then 7 else 0:=by simp only[iA,k7 a,p];simp
  rw[z];by_cases j:(eB (bO (c::l)).1&&!fits (closed f t) (bO (c::l)).1)=G;.simp[j,a]
  rw[ao j,ao j,ao (by simp),ku o,qj a];have k:(512<X (closed f t++[(bO (c::l)).1])\/(1024:Int)<((ayg f+X t:Nat):Int)+1)<->lD f t (bO (c::l)).1:=by simp only[lD,a,vE,ae,ah,aj,gj,eP,true_or,aR];omega
  by_cases e:lD f t (bO (c::l)).1;.rw[aO (k.2 e),aO e];simp
  rw[ao (λh=>e (k.1 h)),ao e];simp only[gj,fU,bo];have q:cj [] (closed (closed f t++[(bO (c::l)).1]) [])=0:=by rw[gr,fK];refine⟨i,?_,by simpa using j⟩;rw[k7 a];exact p
  have E:ayb (closed f t++[(bO (c::l)).1])=closed f t++[(bO (c::l)).1]:=by rw[ku o,qj a]
  have:=ih (closed f t++[(bO (c::l)).1]) [] ((c::l).drop (bO (c::l)).2.1.toNat) (d+(bO (c::l)).2.1) q (by intro x w;simp only[kj,iZ,nR,aa]at w;subst w;exact a) E;rw[<- this,gr];congr 1;have C:wid (bO (c::l)).1=1:=by simp[wid,a]
  simp[kY,o7,rK,C]
 have g:(bO (c::l)).2.2=Z:=by simpa using g
 rw[BZ g];simp[g]
def Fm:∀(n:Nat) (f:List It) (len:Int) (l:aL) (a:Int),(kC n f len l a).2.2=0->(kC n f len l a).2.1=0
 |0,_,_,_,_,h=>by simp[kC]at h
 |n+1,f,len,[],a,_=>rfl
 |n+1,f,len,c::l,a,h=>by
  simp only[kC]at h |-;split;.rename_i d;rw[aO d]at h;simp at h
  rename_i d;rw[ao d]at h;split;.rename_i b;rw[aO b]at h;exact absurd h b.2
  rename_i b;rw[ao b]at h;split;.rename_i e;rw[aO e]at h;simp at h
  rename_i e;rw[ao e]at h;exact Fm n _ _ _ _ h
def wD:∀(n:Nat) (f:List It) (len:Int) (l:aL) (a:Int),(kC n f len l a).2.2≠0->(kC n f len l a).1=[]
 |0,_,_,_,_,_=>rfl
 |n+1,f,len,[],a,h=>by simp[kC]at h
 |n+1,f,len,c::l,a,h=>by
  simp only[kC]at h |-;split;.rfl
  rename_i b;rw[ao b]at h;split;.rfl
  rename_i e;rw[ao e]at h;split;.rfl
  rename_i d;rw[ao d]at h;exact wD n _ _ _ _ h
def Hp:∀(f a:List It),bA (f.foldl ee a)<=bA a+bA f/\X (f.foldl ee a)<=X a+X f|[],a=>by simp[bA]|x::f,a=>by have b:=si a x;have c:=Hp f (ee a x);simp only[bT,bA,ah];omega
def Sh:bA (ayb s)<=bA s/\X (ayb s)<=X s:=by have h:=Hp s [];rw[<- qH];simpa[uB,bA]using h
def IP(a:T.axW≠1)(h:cv Y T=G):T.ax1.length<=X (dz T):=by
 simp only[cv,ao a]at h;simp only[dz,ao a];by_cases b:T.axW=2;.simp[b];omega
 by_cases e:T.axW=3;.simp[e];omega
 by_cases d:T.axW=4;.simp[d];omega
 by_cases c:T.axW=5;.simp[c];omega
 simp[b,e,d,c]at h
def RK{s:aL}(d:s≠[]):(mj s).2≠0->1<=(mj s).2/\(mj s).2<=X s/\(X (mj s).1.ax1:Int)<=(mj s).2:=by
 have h:=vB d;simp only[mj];by_cases a:(bO s).2.2=G
 .rw[aO a];intro _;have b:=h.2.2 a;refine⟨b.1,b.2,?_⟩;have i:X (s.drop (bO s).2.1.toNat)=X s - (bO s).2.1.toNat:=bN ..;rcases xC d a with⟨c,e,_⟩|⟨f,g,k⟩;.rw[e];simp;omega
  have l:=IP f g;have j:=congrArg List.length k;rw[ae,i]at j;simp only;omega
 rw[ao a];simp
def B1:List It×Int×Int:=kC (X U+1) [] 0 U 0
def AA:B1 U=parse U:=by have:=Wp (X U+1) [] [] U 0 (by simp[closed,cj]) (by simp) rfl;rw[gr]at this;exact this
def Ko:∀(m l:bH),∃r,m.foldl lu l=l++r
 |[],l=>⟨[],by simp⟩
 |n::m,l=>by
  obtain⟨r,a⟩:=Ko m (lu l n);simp only[bT,a];by_cases h:l.contains n=G;.exact⟨r,by simp only[lu,h,aR]⟩
  exact⟨n::r,by simp only[lu,h];simp⟩
def Qn:∀(m l:bH),(∀n∈m,n∈l)->m.foldl lu l=l
 |[],_,_=>rfl
 |n::m,l,h=>by
  have e:lu l n=l:=by
   have:l.contains n=G:=by simpa using h n (by simp)
   simp only[lu,this,aR]
  simp only[bT,e];exact Qn m l λk a=>h k (by simp[a])
def Oo:∀(c f d g:bH) (x:Int),X c=X d->x∈c->Ij (c++f) (d++g) x=Ij c d x
 |[],_,_,_,_,_,h=>by simp at h
 |a::c,f,[],g,x,hl,_=>by simp at hl
 |a::c,f,b::d,g,x,hl,h=>by
  simp only[aF,Ij];by_cases e:x=a;.rw[aO e,aO e]
  rw[ao e,ao e];refine Oo c f d g x (by simpa using hl) ?_;rcases bw.1 h with h|h;.exact absurd h e
  exact h
def NC(b:Nat):∃r,dK (E+b)=dK E++r:=by refine⟨((List.range b).map (E+·)).map λ(i:Nat)=>(i:Int)+1,?_⟩;simp only[dK,List.range_add,gl]
def vD:X (dK E)=E:=by simp[dK]
def aiY(a:T∈r)(b:eB T=G):T.id∈ax9 r:=by simp only[ax9,ll];refine uO _ ?_;simp only[cP,fv];exact⟨T,⟨a,b⟩,rfl⟩
def Hs{α β:Type}{f g:α->Option β}:∀{l:List α},(∀x∈l,f x=g x)->l.filterMap f=l.filterMap g|[],_=>rfl|x::l,h=>by simp only[mh,h x (by simp)];rw[Hs λy a=>h y (by simp[a])]
def Tp:iX s M=iX s s:=by
 have b:∀l m:bH,gP l m=m.foldl lu l:=λ_ _=>rfl;obtain⟨r,c⟩:=Ko (ax9 M) (ax9 s);have f:cK s M=ax9 s++r:=by simp only[cK,b,c]
 have g:cK s s=ax9 s:=by simp only[cK,b];exact Qn _ _ λ_ h=>h
 obtain⟨q,e⟩:=NC (X (ax9 s)) (X r);simp only[iX,f,g,ae,e,rename];congr 1;simp only[aym];refine Hs λx d=>?_;simp only[TX];by_cases a:eB x=G;.rw[aO a,aO a,Oo _ _ _ _ _ (vD _).symm (aiY d a)]
 rw[ao a,ao a]
def QJ:jL s s=iX s s:=rfl
def acP{e:En}(h:cY e=0):cY (aye e)=0:=by
 simp only[cY]at h |-;split at h;.rename_i a;exact absurd h a
 rename_i a;split at h;.rename_i f;exact absurd h f
 split at h;.simp at h
 rename_i g;split at h;.rename_i c;exact absurd h c
 rename_i c;split at h;.rename_i d;exact absurd h d
 rename_i d;have b:oo e=G:=by simpa using g
 simp only[oo,aV]at b;have i:oo (aye e)=G:=by simp only[oo,aye,aV,QJ];rw[<- Tp e.ax3 e.ax4];exact⟨⟨b.1.1,b.1.2⟩,b.1.2⟩
 have j:(named (aye e).dL&&named (aye e).dh)=G:=rfl;rw[ao (show ¬cU (aye e).ax3≠0 from a),ao (show ¬cU (aye e).ax4≠0 from a),ao (by rw[i];simp),
  ao (show ¬(parse (aye e).cJ).2.2≠0 from c),ao (show ¬(parse (aye e).next).2.2≠0 from d),ao (by rw[j];simp),ao (by simp[aye])]
def PB(h:eO K=0)(a:cY (ayk K)=0):cF K=fZ (aye K.axY):=by
 simp only[cF,h,gj,fU,bo,ayk]at a |-;by_cases b:K.axW≠2;.rw[aO b]at a |-;simp only[fZ,a,acP a,gj,fU,bo];rfl
 rw[ao b]
def tg:List It:=s.filter eB
def iU:tg (s++M)=tg s++tg M:=by simp[tg]
def wo(h:eB T=G):tg [T]=[T]:=by simp[tg,h]
def xY(h:eB T=Z):tg [T]=[]:=by simp[tg,h]
def zT(i:Int):eB ⟨1,U,i⟩=Z:=by simp[eB]
def Dr(h:T.axW=1):eB T=Z:=by simp[eB,h]
def K8(h1:T.axW=1)(a:T.id=0):(⟨1,T.ax1,0⟩:It)=T:=by obtain⟨k,t,i⟩:=T;simp only at h1 a;subst h1;subst a;rfl
def yv(b:T.axW=1)(h:cv N T=G):T.ax1≠[]/\T.id=0/\∀y,N=S y->y.axW≠1:=by simp only[cv,b,aR,aV,dt,fW,dM]at h;refine⟨h.1.1,h.1.2,λy a=>?_⟩;subst a;simpa using h.2
def rG(h1:w≠[])(a:∀y,N=S y->y.axW≠1):cv N ⟨1,w,0⟩=G:=by simp only[cv,aR,aV,dt,fW,dM];refine⟨⟨h1,trivial⟩,?_⟩;cases N with|none=>rfl|some y=>simpa using a y rfl
def sg:cj [] r=0->ayb r=r:=by
 refine ED (p:=λr=>cj [] r=0->ayb r=r) (λ_=>rfl) ?_ r;intro l x ih h;obtain⟨f,b,_⟩:=(fK l [] x).1 h;simp only[aw]at b;rw[ku (ih f)];by_cases a:x.axW=1;.obtain⟨d,c,g⟩:=yv a b;simp only[ee,a,gj,fU,bo,ao d];cases e:l.getLast? with|none=>simp only[K8 a c]|some y=>simp only[ao (g y e),K8 a c]
 exact qj a
def EN:fits s Q=fits (tg s) Q:=by
 induction s with
 |nil=>rfl
 |cons y s ih =>
 by_cases h:eB y=G;.simp only[fits,tg,iN,h,aR,im]at ih |-;rw[ih]
 have h:eB y=Z:=by simpa using h
 have a:gK Q y=Z:=by simp[gK,h]
 simp only[fits,tg,iN,h,im,a,aI,bo,lK,cN]at ih |-;exact ih
def rP(h:cj [] r=0):cj [] (ayb (r++[⟨1,U,0⟩]))=0/\tg (ayb (r++[⟨1,U,0⟩]))=tg r:=by
 rw[ku (sg h)];by_cases a:U=[]
 .have e:ee r ⟨1,U,0⟩=r:=by simp[ee,a]
  rw[e];exact⟨h,rfl⟩
 revert h;refine ED (p:=λr=>cj [] r=0->cj [] (ee r ⟨1,U,0⟩)=0/\tg (ee r ⟨1,U,0⟩)=tg r) ?_ ?_ r
 .intro _;have e:ee [] ⟨1,U,0⟩=[]++[⟨1,U,0⟩]:=by simp[ee,a]
  rw[e,fK,iU,xY (zT U 0),bE];exact⟨⟨rfl,rG a (by simp),by simp[eB]⟩,rfl⟩
 intro l y _ h;obtain⟨f,d,i⟩:=(fK l [] y).1 h;by_cases b:y.axW=1
 .have e:ee (l++[y]) ⟨1,U,0⟩=l++[⟨1,y.ax1++U,0⟩]:=by simp[ee,a,b]
  obtain⟨_,_,g⟩:=yv b d;rw[e,fK,iU,iU,xY (zT _ 0),xY (Dr b)];exact⟨⟨f,rG (by simp[a]) g,by simp[eB]⟩,rfl⟩
 have e:ee (l++[y]) ⟨1,U,0⟩=(l++[y])++[⟨1,U,0⟩]:=by simp[ee,a,b]
 rw[e,fK,iU,xY (zT _ 0),bE];refine⟨⟨h,rG a λz c=>?_,by simp[eB]⟩,rfl⟩;simp only[aw,kj,iZ,nR,aa]at c;subst c;exact b
def uA{x:It}(h:cj [] r=0)(a:x.axW≠1)(d:cv Y x=G)(c:eB x=G->fits r x=G): ayb (r++[x])=r++[x]/\cj [] (r++[x])=0:=by refine⟨by rw[ku (sg h),qj a],?_⟩;rw[fK];refine⟨h,by rw[k7 a];exact d,?_⟩;rw[aw];cases b:eB x with|false=>rfl|true=>rw[c b];rfl
structure DU (f opn:List It) (n:Int):Prop where
 err:cj [] f=0
 ids:∀z∈tg f,1<=z.id/\z.id<=n
 nd:(opn.map (·.id)).Nodup
 op:∀y∈opn,ayc (ff y.ax1)=true/\1<=y.id/\y.id<=n/\∀z∈tg f,z.id=y.id->z.axW=2/\z.ax1=y.ax1
def DU.nil:DU [] [] 0:=⟨rfl,by simp[tg],by simp,by simp⟩
def DU.same{a:List It}(h:DU r a i)(h1:cj [] g=0)(b:tg g=tg r):DU g a i :=⟨h1,by rw[b];exact h.ids,h.nd,by rw[b];exact h.op⟩
def DU.ax1{n:Int}(h:DU r g n)(t:aL):DU (ayb (r++[⟨1,t,0⟩])) g n :=h.same (rP t h.err).1 (rP t h.err).2
def DU.slot(h:DU r g i)(a:ayc w=G):DU (ayb (r++[⟨5,w,0⟩])) g i:=by obtain⟨e,b⟩:=uA (x:=⟨5,w,0⟩) h.err (by simp) (by simp[cv,a]) (by simp[eB]);rw[e];exact h.same b (by rw[iU,xY (by simp[eB]),bE])
def Qr(h:∀z∈tg r,z.id≠T.id):fits r T=G:=by rw[EN];simp only[fits,dd];intro z a;have:=h z a;simp[gK,this]
def DU.empty(h:DU r g i)(f:eQ w=G)(h0:0<=i)(m:i<999):DU (ayb (r++[⟨4,w,i+1⟩])) g (i+1):=by
 have c:eB ⟨4,w,i+1⟩=G:=by simp[eB]
 obtain⟨e,k⟩:=uA (x:=⟨4,w,i+1⟩) h.err (by simp) (by simp[cv,f];omega) (λ_=>Qr λz a=>by have:=h.ids z a;simp only;omega);rw[e];refine⟨k,?_,h.nd,?_⟩
 .intro z a;rw[iU,wo c,bJ,cQ]at a;rcases a with a|rfl;.have:=h.ids z a;omega
  simp only;omega
 intro y d;obtain⟨o1,o2,l,j⟩:=h.op y d;refine⟨o1,o2,by omega,λz a b=>?_⟩;rw[iU,wo c,bJ,cQ]at a;rcases a with a|rfl;.exact j z a b
 simp only at b;omega
def DU.opens(h:DU r g i)(k:eQ w=G)(n:ayc (ff w)=G)(h0:0<=i)(s:i<999): DU (ayb (r++[⟨2,w,i+1⟩])) (g++[⟨2,w,i+1⟩]) (i+1):=by
 have j:eB ⟨2,w,i+1⟩=G:=by simp[eB]
 obtain⟨e,o⟩:=uA (x:=⟨2,w,i+1⟩) h.err (by simp) (by simp[cv,k];omega) (λ_=>Qr λz c=>by have:=h.ids z c;simp only;omega);rw[e];refine⟨o,?_,?_,?_⟩
 .intro z c;rw[iU,wo j,bJ,cQ]at c;rcases c with c|rfl;.have:=h.ids z c;omega
  simp only;omega
 .rw[gl,tW];refine⟨h.nd,by simp,?_⟩;intro a p b l;obtain⟨y,f,rfl⟩:=cP.1 p;simp only[az,aq,cQ]at l;have:=(h.op y f).2.2.1;omega
 intro y f;rw[bJ,cQ]at f;rcases f with f|rfl
 .obtain⟨o1,o2,q,m⟩:=h.op y f;refine⟨o1,o2,by omega,λz c d=>?_⟩;rw[iU,wo j,bJ,cQ]at c;rcases c with c|rfl;.exact m z c d
  simp only at d;omega
 refine⟨n,by simp only;omega,by simp only;omega,λz c d=>?_⟩;rw[iU,wo j,bJ,cQ]at c;rcases c with c|rfl;.have:=h.ids z c;simp only at d;omega
 exact⟨rfl,rfl⟩
def DU.close{y:It}(h:DU r (g++[y]) i)(u:i<=999): DU (r++[⟨3,ff y.ax1,y.id⟩]) g i/\ayb (r++[⟨3,ff y.ax1,y.id⟩])=r++[⟨3,ff y.ax1,y.id⟩]:=by
 have j:eB ⟨3,ff y.ax1,y.id⟩=G:=by simp[eB]
 obtain⟨o1,o2,n,p⟩:=h.op y (by simp);obtain⟨e,s⟩:=uA (x:=⟨3,ff y.ax1,y.id⟩) h.err (by simp) (by simp[cv,o1];omega) (λ_=>by
  rw[EN];simp only[fits,dd];intro z a;by_cases d:z.id=y.id;.obtain⟨t,q⟩:=p z a d;simp[gK,t,q]
  simp[gK,d]);have c:=h.nd;rw[gl,tW]at c;refine⟨⟨s,?_,c.1,?_⟩,e⟩
 .intro z a;rw[iU,wo j,bJ,cQ]at a;rcases a with a|rfl;.exact h.ids z a
  exact⟨o2,n⟩
 intro x f;obtain⟨m,o,k,l⟩:=h.op x (by simp[f]);refine⟨m,o,k,λz a b=>?_⟩;rw[iU,wo j,bJ,cQ]at a;rcases a with a|rfl;.exact l z a b
 have:=c.2.2 x.id (cP.2 ⟨x,f,rfl⟩) y.id (by simp);exact absurd b.symm this
structure Ty (pre f:List It):Prop where
 err:cj [] f=0
 tags:tg f=tg pre
def Ty.nil:Ty [] []:=⟨rfl,rfl⟩
def Ty.more(h:Ty r g)(t:aL):Ty r (ayb (g++[⟨1,t,0⟩])) :=⟨(rP t h.err).1,(rP t h.err).2.trans h.tags⟩
def Ty.ax1(h:Ty r g)(a:T.axW=1)(t:aL):Ty (r++[T]) (ayb (g++[⟨1,t,0⟩])) :=⟨(rP t h.err).1,by rw[(rP t h.err).2,h.tags,iU,xY (Dr a),bE]⟩
def Ty.item{a:List It}{x:It}(h:Ty r g)(f:cj [] (r++x::a)=0)(c:x.axW≠1):Ty (r++[x]) (ayb (g++[x])):=by rw[qW,tL]at f;obtain⟨_,d,b,_⟩:=f;rw[aw]at d b;obtain⟨e,i⟩:=uA (x:=x) h.err c (by rw[<- k7 (p:=r.getLast?) c];exact d) (λj=>by rw[j,cN]at b;rw[EN,h.tags,<- EN];simpa using b);rw[e];exact⟨i,by rw[iU,iU,h.tags]⟩
def Oq:∀(l:bH) (k:Int) (x:Int),Ij l ((List.range (X l)).map λ(i:Nat)=>(i:Int)+k) x=if x∈l then S ((l.idxOf x:Int)+k)else Y
 |[],k,x=>by simp[Ij]
 |a::l,k,x=>by
  have e:(List.range (X l+1)).map (λ(i:Nat)=>(i:Int)+k)=k::(List.range (X l)).map λ(i:Nat)=>(i:Int)+(k+1):=by rw[tV,az,kO];refine congr (congrArg _ (by omega)) (eH λi _=>?_);simp only[Function.comp];omega
  rw[ah,e];simp only[Ij];by_cases h:x=a;.subst h;simp
  have c:(a==x)=Z:=by simpa using λe=>h e.symm
  rw[ao h,Oq l (k+1) x,Ia,c];by_cases b:x∈l;.rw[aO b,aO (cd _ b)];congr 1;simp only[TA];omega
  rw[ao b,ao (by simp[h,b])]
def V5:Ij J (dK (X J)) P=if P∈J then S ((J.idxOf P:Int)+1)else Y:=Oq J 1 P
def we:It:=if eB Q=G then⟨Q.axW,Q.ax1,(J.idxOf Q.id:Int)+1⟩else Q
def PL:(we J Q).axW=Q.axW:=by simp only[we];split<;>rfl
def aal:(we J Q).ax1=Q.ax1:=by simp only[we];split<;>rfl
def EH:eB (we J Q)=eB Q:=by simp only[eB,PL]
def CV(h:∀x∈tg r,x.id∈v):aym r v (dK (X v))=r.map (we v):=by
 have a:∀x∈r,TX v (dK (X v)) x=S (we v x):=by
  intro x c;simp only[TX,we];by_cases b:eB x=G;.have:=h x (fv.2 ⟨c,b⟩);rw[aO b,aO b,V5,aO this];rfl
  rw[ao b,ao b]
 simp only[aym];rw[Hs a];clear a h;induction r with|nil=>rfl|cons x r ih=>simp only[mh,az,ih]
def Vq{x y:Int}(g:x∈v)(i:y∈v)(h:v.idxOf x=v.idxOf y):x=y:=by
 induction v with
 |nil=>simp at g
 |cons a v ih =>
 simp only[Ia]at h;by_cases f:a=x
 .by_cases c:a=y;.rw[<- f,c]
  have e:(a==x)=G:=by simp[f]
  have d:(a==y)=Z:=by simp[c]
  rw[e,d]at h;simp at h
 have e:(a==x)=Z:=by simp[f]
 by_cases c:a=y
 .have d:(a==y)=G:=by simp[c]
  rw[e,d]at h;simp at h
 have d:(a==y)=Z:=by simp[c]
 rw[e,d]at h;simp only[TA]at h;refine ih ?_ ?_ (by omega)
 .rcases bw.1 g with b|b;.exact absurd b.symm f
  exact b
 rcases bw.1 i with b|b;.exact absurd b.symm c
 exact b
def aan(i:eB T=G->T.id∈v)(l:X v<=999)(h:cv N T=G):cv (N.map (we v)) (we v T)=G:=by
 by_cases b:eB T=G
 .have k:v.idxOf T.id<X v:=ahB (i b);have a:T.axW=2\/T.axW=3\/T.axW=4:=by simp only[eB,iG,dM]at b;omega
  have e:we v T=⟨T.axW,T.ax1,(v.idxOf T.id:Int)+1⟩:=by rw[we,aO b]
  rw[e];simp only[cv]at h |-;rcases a with a|a|a;.simp[a]at h |-;exact⟨⟨h.1.1,by omega⟩,by omega⟩
  .simp[a]at h |-;exact⟨⟨h.1.1,by omega⟩,by omega⟩
  simp[a]at h |-;exact⟨⟨h.1.1,by omega⟩,by omega⟩
 have e:we v T=T:=by rw[we,ao b]
 rw[e];by_cases a:T.axW=1;.obtain⟨d,c,g⟩:=yv a h;rw[<- K8 a c];refine rG d λy f=>?_;obtain⟨z,j,rfl⟩:=aH.1 f;rw[PL];exact g z j
 rw[k7 a]at h |-;exact h
def aam(m:eB T=G)(o:T.id∈v)(g:∀z∈tg r,z.id∈v)(h:fits r T=G):fits (r.map (we v)) (we v T)=G:=by
 simp only[fits,dd,cP]at h |-;rintro _ ⟨y,d,rfl⟩;have f:=h y d;by_cases a:eB y=G
 .have b:=g y (fv.2 ⟨d,a⟩);have i:we v T=⟨T.axW,T.ax1,(v.idxOf T.id:Int)+1⟩:=by rw[we,aO m]
  have n:we v y=⟨y.axW,y.ax1,(v.idxOf y.id:Int)+1⟩:=by rw[we,aO a]
  have j:((v.idxOf y.id:Int)+1 != (v.idxOf T.id:Int)+1)=(y.id != T.id):=by
   by_cases c:y.id=T.id;.rw[c];simp
   have:v.idxOf y.id≠v.idxOf T.id:=λe=>c (Vq b o e);have l:(y.id != T.id)=G:=by simpa using c
   rw[l];simp;omega
  have k:eB (we v y)=eB y:=EH v y;simp only[gK,k]at f |-;rw[i,n];simp only;rw[j];exact f
 have a:eB y=Z:=by simpa using a
 simp[gK,EH,a]
def ym(g:X v<=999)(c:∀x∈tg r,x.id∈v)(h:cj [] r=0):cj [] (r.map (we v))=0:=by
 revert c h;refine ED (p:=λr=>(∀x∈tg r,x.id∈v)->cj [] r=0->cj [] (r.map (we v))=0) (λ_ _=>rfl) ?_ r;intro r x ih c h;obtain⟨i,e,d⟩:=(fK r [] x).1 h;rw[aw]at e d;have a:∀z∈tg r,z.id∈v:=λz j=>c z (by rw[iU];exact iv _ j);have f:eB x=G->x.id∈v:=λb=>c x (by rw[iU,wo b];simp);rw[gl,az,aq,fK];refine⟨ih a i,?_,?_⟩;.rw[aw,List.getLast?_map];exact aan f g e
 rw[aw,EH];cases b:eB x with|false=>rfl|true =>rw[b,cN]at d;rw[aam b (f b) a (by simpa using d)];rfl
def CM(f:List It):bA (f.map (we J))=bA f:=by induction f with|nil=>rfl|cons x f ih=>simp only[az,bA,aal,ih]
def u1:bH:=(tg s).map (·.id)
def Gz:ax9 s=(u1 s).foldl lu []:=by simp only[ax9,ll];rfl
def CA:cK s M=(u1 (s++M)).foldl lu []:=by rw[<- se,Gz]
def yA:(∀x∈tg s,x.id∈cK s M)/\∀x∈tg M,x.id∈cK s M:=by
 rw[CA];constructor<;>intro x a<;>refine uO _ ?_<;>simp only[u1,iU,gl,bJ,cP];.exact .inl ⟨x,a,rfl⟩
 exact .inr ⟨x,a,rfl⟩
def SE(h:v.Nodup):(lu v i).Nodup:=by
 simp only[lu];split;.exact h
 rename_i d;rw[tW];refine⟨h,by simp,?_⟩;intro a f b c e;simp only[cQ]at c;subst c;subst e;exact d (by simpa using f)
def DF:∀(m:bH) {l:bH},l.Nodup->(m.foldl lu l).Nodup|[],_,h=>h|_::m,_,h=>DF m (SE h)
def Kp{g:Int->Int}{L:bH}(i:∀x∈L,∀y∈L,g x=g y->x=y):∀(m a:bH),(∀x∈m,x∈L)->(∀x∈a,x∈L)->(m.map g).foldl lu (a.map g)=(m.foldl lu a).map g
 |[],_,_,_=>rfl
 |n::m,a,hm,ha=>by
  have k:=hm n (by simp);have e:lu (a.map g) (g n)=(lu a n).map g:=by
   by_cases h:n∈a
   .have f:a.contains n=G:=by simpa using h
    have d:(a.map g).contains (g n)=G:=by simp;exact⟨n,h,rfl⟩
    simp only[lu,f,d,aR]
   have f:a.contains n=Z:=by simpa using h
   have d:(a.map g).contains (g n)=Z:=by cases j:(a.map g).contains (g n)with|false=>rfl|true =>simp only[List.contains_iff_mem,cP]at j;obtain⟨x,b,c⟩:=j;exact absurd (i x (ha x b) n k c▸b) h
   simp only[lu,f,d,aI,bo,gl,az,aq]
  simp only[az,bT,e];refine Kp i m (lu a n) (λx b=>hm x (by simp[b])) λx b=>?_;simp only[lu]at b;split at b;.exact ha x b
  rw[bJ,cQ]at b;rcases b with b|rfl;.exact ha x b
  exact k
def Kc:∀{L:bH} (_:L.Nodup),L.map (λx=>(L.idxOf x:Int)+1)=dK (X L):=by
 intro L k;have f:∀(l c:bH),(c++l).Nodup->l.map (λx=>((c++l).idxOf x:Int)+1)=(List.range (X l)).map λ(i:Nat)=>(i:Int)+((X c:Int)+1):=by
  intro l;induction l with
  |nil=>intro c _;rfl
  |cons a l ih =>
  intro c h;have e:(List.range (X l+1)).map (λ(i:Nat)=>(i:Int)+((X c:Int)+1))=((X c:Int)+1)::(List.range (X l)).map λ(i:Nat)=>(i:Int)+((X (c++[a]):Int)+1):=by rw[tV,az,kO];refine congr (congrArg _ (by omega)) (eH λi _=>?_);simp only[Function.comp,ae,ah,aj];omega
  have g:=ih (c++[a]) (by rwa [aJ,uW]);rw[aJ,uW]at g;rw[ah,e,<- g,az];congr 1;have d:a ∉ c:=by rw[tW]at h;exact λj=>h.2.2 a j a (by simp) rfl
  have:(c++a::l).idxOf a=X c:=by
   clear g e ih h;induction c with
   |nil=>simp
   |cons b c ih =>
   have m:(b==a)=Z:=by simp only[bw,xQ]at d;simpa using λe=>d.1 e.symm
   rw[aF,Ia,m,TA,ih (λj=>d (cd _ j)),ah]
  rw[this]
 have:=f L [] k;simpa[dK]using this
def Ru:u1 (r.map (we v))=(u1 r).map λx=>(v.idxOf x:Int)+1:=by
 induction r with
 |nil=>rfl
 |cons x r ih =>
 simp only[u1,tg,az,iN,EH]at ih |-;by_cases a:eB x=G;.rw[aO a,aO a,az,az,az,ih];congr 1;rw[we,aO a]
 rw[ao a,ao a,ih]
def HR(c:cj [] r=0)(d:cj [] g=0)(b:X (cK r g)<=999): iX r g=r.map (we (cK r g))/\jL r g=g.map (we (cK r g)):=by
 have a:=yA r g;constructor;.rw[iX,rename,CV a.1];exact sg (ym b a.1 c)
 rw[jL,rename,CV a.2];exact sg (ym b a.2 d)
def QI{s t:List It}:cK (s.map (we (cK s t))) (t.map (we (cK s t)))=dK (X (cK s t)):=by
 have e:cK s t=(u1 (s++t)).foldl lu []:=CA s t;have d:∀x∈u1 (s++t),x∈cK s t:=λx a=>by rw[e];exact uO _ a
 rw[CA (s.map _) (t.map _),<- List.map_append,Ru];have b:=Kp (g:=λx=>((cK s t).idxOf x:Int)+1) (L:=cK s t) (λx a y c h=>Vq a c (by omega)) (u1 (s++t)) [] d (by simp);rw[aq]at b;rw[b,<- e];exact Kc (by rw[e];exact DF _ List.nodup_nil)
def X8(h:i∈dK k):((dK k).idxOf i:Int)+1=i:=by
 have j:(dK k).Nodup:=by simp only[dK];exact(List.nodup_range).map (f:=λ(c:Nat)=>(c:Int)+1) (λa b h=>by have h:a≠b:=h;omega)
 have e:=Kc j;rw[vD]at e;have g:(dK k).idxOf i<X (dK k):=ahB h;have d:((dK k).map λi=>((dK k).idxOf i:Int)+1)[(dK k).idxOf i]?=(dK k)[(dK k).idxOf i]?:=by rw[e]
 rw[bP,aA g]at d;have l:(dK k)[(dK k).idxOf i]=i:=List.getElem_idxOf g;rw[l]at d;simpa using d
def J1(h:∀x∈tg r,x.id∈dK k):r.map (we (dK k))=r:=by
 induction r with
 |nil=>rfl
 |cons x r ih =>
 rw[az];have b:∀z∈tg r,z.id∈dK k:=λz a=>h z (by simp only[tg,iN];split<;>simp[tg]at a |-<;>simp[a]);rw[ih b];congr 1;rw[we];split;.rename_i c;have:=h x (by simp only[tg,iN,c,aR];simp);rw[X8 this]
 rfl
def acA{s t:List It}(j:cj [] s=0)(i:cj [] t=0)(a:X (cK s t)<=999): iX (iX s t) (jL s t)=iX s t/\jL (iX s t) (jL s t)=jL s t:=by
 obtain⟨l,m⟩:=HR j i a;have h:=yA s t;have c:=ym a h.1 j;have b:=ym a h.2 i;rw[l,m];have k:=QI (s:=s) (t:=t);have d:X (cK (s.map (we (cK s t))) (t.map (we (cK s t))))<=999:=by rw[k,vD];exact a
 obtain⟨g,f⟩:=HR c b d;have e:=yA (s.map (we (cK s t))) (t.map (we (cK s t)));rw[k]at e g f;exact⟨by rw[g,J1 e.1],by rw[f,J1 e.2]⟩
def pq:((jT P).toNat:Int)=P % 256:=by have a:0<=P % 256:=agT _ (by decide);have b:P % 256<256:=TG _ (by decide);simp only[jT,oG];omega
def aer:jT (p.toNat:Int)=p:=by have:=p.toNat_lt;apply oY.1;have h:=pq (p.toNat:Int);omega
def KP(h:0<=i/\i<65536):gM (sN i)=i:=by have a:=pq (i / 256);have b:=pq i;simp only[gM,sN,bT,gZ,a,b];omega
def CF(h:0<=i/\i<4294967296):gM (DS i)=i:=by have a:=pq (i / 65536 / 256);have c:=pq (i / 65536);have b:=pq (i / 256);have d:=pq i;simp only[gM,DS,sN,aF,aw,bT,gZ,a,c,b,d];omega
def yC(h:0<=i/\i<256):gM [jT i]=i:=by have a:=pq i;simp only[gM,bT,gZ,a];omega
def NP:[jT (gM [p])]=[p]:=by
 have:gM [p]=(p.toNat:Int):=by simp[gM]
 rw[this,aer]
def yn(h:i % 256=R.toNat):jT i=R:=by apply oY.1;have:=pq i;omega
def acN:sN (gM [p,q])=[p,q]:=by have a:=p.toNat_lt;have b:=q.toNat_lt;simp only[sN,gM,bT,gZ,gQ,dm];exact⟨yn (by omega),yn (by omega)⟩
def Tt(c d:UInt8):DS (gM [p,q,c,d])=[p,q,c,d]:=by have a:=p.toNat_lt;have e:=q.toNat_lt;have b:=c.toNat_lt;have f:=d.toNat_lt;simp only[DS,sN,gM,bT,gZ,aF,aw,gQ,dm];exact⟨yn (by omega),yn (by omega),yn (by omega),yn (by omega)⟩
def Ow:(Rb.mk (w++L) F).take (X w)=(w,⟨L,F⟩):=by simp only[Rb.take];rw[ao (by simp)];simp
def lZ{w rest:aL}{bad:Bool}{n:Nat}(h:X w=n):(Rb.mk (w++rest) bad).ax0 n=(gM w,⟨rest,bad⟩):=by subst h;simp only[Rb.ax0,Ow]
def wq(h:X w<4294967296):(Rb.mk (eY w++L) F).ax1=(w,⟨L,F⟩):=by
 have a:(Rb.mk (eY w++L) F).ax0 4=((X w:Int),⟨w++L,F⟩):=by simp only[eY,aJ];rw[lZ (fI _),CF (by omega)]
 simp only[Rb.ax1,a];rw[ao (by simp;omega)];simp only[al,Ow]
def Bs(h:X w<4294967296)(a:parse w=(r,0,0)):(Rb.mk (eY w++L) F).ayn=(r,⟨L,F⟩):=by simp only[Rb.ayn,wq h,a];simp
def PF:∀(l:bH) (a:aL) (b:Bool),(∀n∈l,0<=n/\n<65536)->Rb.ax9 (X l) (Rb.mk (l.flatMap sN++a) b)=(l,⟨a,b⟩):=by intro l;induction l with|nil=>intro a b _;rfl|cons n l ih =>intro a b h;simp only[ah,Rb.ax9,fc,aJ];rw[lZ (gU n),KP (h n (by simp))];simp only[ih a b λm c=>h m (by simp[c])]
def xW:0<=mB J P:=by simp only[mB];(repeat' split)<;>omega
def Of(h:jf v=v):X v<=8/\∀n∈v,0<=n:=by
 have b:jf v=(kT v [] 8).take (ig v [] 8):=rfl;constructor;.rw[<- h,b];simp[mO];omega
 intro n a;rw[<- h,b]at a;have a:=dB a;simp only[kT,cP]at a;obtain⟨i,_,rfl⟩:=a;have d:=xW v i;have c:=xW [] i;split<;>omega
structure aee (o:bf):Prop where
 time:1<=o.aZ.time/\o.aZ.time<=1073741824
 bR:0<=o.aZ.bR/\o.aZ.bR<8
 ax0:1<=o.aZ.ax0/\o.aZ.ax0<=128
 axW:o.axW=1\/o.axW=2
 Ld:o.ax5.length<=8
 ax5:∀n∈o.ax5,0<=n/\n<=128
 bare:o.axW=2->o.axY=⟨o.axY.ax3,[],o.axY.cJ,o.axY.next,[],[],0,0⟩
 ayk:cY (ayk o)=0
def qE(h:eO K=0):aee K:=by
 simp only[eO]at h;split at h;.simp at h
 rename_i q;split at h;.simp at h
 rename_i l;split at h;.simp at h
 rename_i j;split at h;.simp at h
 split at h;.simp at h
 rename_i r;simp only[tY,jO,bz]at q;have a:jf K.ax5=K.ax5:=by
  by_cases a:jf K.ax5=K.ax5;.exact a
  exact absurd (.inr a) l
 obtain⟨m,p⟩:=Of a;simp only[Bool.not_eq_true,Yv,bz]at j;refine⟨⟨by omega,by omega⟩,⟨by omega,by omega⟩,⟨by omega,by omega⟩,by omega,m,λn k=>⟨p n k,by have:=j n k;omega⟩,λo=>?_,h⟩;have b:ny K.axY=G:=by cases b:ny K.axY with|true=>rfl|false=>exact absurd ⟨o,b⟩ r
 simp only[ny,aV,dM,lX]at b;obtain⟨c,f,i,g,d⟩:=b;clear h;generalize K.axY=e at c f i g d |-;obtain⟨w,x,y,s,z,v,u,t⟩:=e;simp only at c f i g d;subst c;subst f;subst i;subst g;subst d;rfl
structure ags (e:En):Prop where
 ax3:cU e.ax3=0
 ax4:cU e.ax4=0
 nonempty:e.ax3≠[]
 dL:ayc e.dL=true\/e.dL=[]
 dh:ayc e.dh=true\/e.dh=[]
 ayd:0<=e.ayd/\e.ayd<=1073741824
 ayf:1<=e.ayf/\e.ayf<=3
def mq{e:En}(h:cY e=0):ags e:=by
 simp only[cY]at h;split at h;.rename_i c;exact absurd h c
 rename_i c;split at h;.rename_i b;exact absurd h b
 rename_i b;split at h;.simp at h
 rename_i d;split at h;.rename_i f;exact absurd h f
 split at h;.rename_i g;exact absurd h g
 split at h;.simp at h
 rename_i a;split at h;.simp at h
 rename_i i;simp only[oo,tY,aV,dt,fW,gj,lX]at d;simp only[named,tY,aV,iG,dM]at a;exact⟨by simpa using c,by simpa using b,d.1.1,a.1.symm,a.2.symm,⟨by omega,by omega⟩,⟨by omega,by omega⟩⟩
def vm(h:ayc w=G\/w=[]):X w<=24:=by
 rcases h with h|rfl;.cases w with|nil=>simp|cons c r=>simp only[ayc,aV,bz]at h;exact h.1.1
 simp
def wz(h1:X r<2^30)(a:bA r<2^30):ayg r<2^63:=by have:=On r;omega
def An:∀f:List It,(∀x∈f,cv Y x=G)->bA f<=ayg f+64*X f:=by
 intro f;induction f with
 |nil=>intro _;simp[bA]
 |cons x f ih =>
 intro h;have k:=ih λy g=>h y (by simp[g]);have a:=h x (by simp);have i:ayg (x::f)=wid x+ayg f:=by simp[ayg]
 have j:X x.ax1<=wid x+64:=by
  simp only[cv]at a;by_cases b:x.axW=1;.simp[wid,b]
  rw[ao b]at a;by_cases e:x.axW=5;.rw[aO e]at a;simp only[aV]at a;have:=vm (.inl a.1);omega
  rw[ao e]at a;by_cases c:x.axW=2\/x.axW=4;.rw[aO c]at a;simp only[aV,eQ,lh,bz]at a;omega
  rw[ao c]at a;by_cases d:x.axW=3;.rw[aO d]at a;simp only[aV]at a;have:=vm (.inl a.1.1);omega
  rw[ao d]at a;simp at a
 simp only[bA,ah,i];omega
def pL(h1:X r<2^30)(k:bA r<2^30)(h:cU r=0):X (ayj r).1<4294967296:=by
 have l:=(o6 (wz h1 k)).1 h;have e:=mR r [] l.2.2;have b:∀r:List It,(∀x∈r,cv Y x=G)->X (r.flatMap dz)<=4*bA r+30*X r:=by
  intro r;induction r with
  |nil=>intro _;simp
  |cons x r ih =>
  intro h;have n:=ih λy j=>h y (by simp[j]);have a:=h x (by simp);have c : -9223372036854775808<=x.id/\x.id<=9223372036854775807:=by
   simp only[cv]at a;by_cases d:x.axW=1;.rw[aO d]at a;simp only[aV,dM]at a;omega
   rw[ao d]at a;by_cases i:x.axW=5;.rw[aO i]at a;simp only[aV,dM]at a;omega
   rw[ao i]at a;by_cases f:x.axW=2\/x.axW=4;.rw[aO f]at a;simp only[aV,bz]at a;omega
   rw[ao f]at a;by_cases g:x.axW=3;.rw[aO g]at a;simp only[aV,bz]at a;omega
   rw[ao g]at a;simp at a
  have o:=rz x c;simp only[fc,ae,bA,ah];omega
 have:=b r e;have m:=An r e;simp only[ayj,h,gj,fU,bo];omega
def Fw(a:K.axZ)(h:eO K=0):jm (dx K)=(K,1,⟨[],false⟩):=by
 have F:=qE h;have c:cU K.axY.ax3=0:=by
  have:=(mq F.ayk).ax3;rcases F.axW with k|k;.simpa[ayk,k]using this
  simpa[ayk,k,aye]using this
 have q:parse (ayj K.axY.ax3).1=(K.axY.ax3,0,0):=A5 (wz a.axY.ax3 a.axY.kz) c;have z:=pL a.axY.ax3 a.axY.kz c;have W:=a.axY.cJ;have pU:=a.axY.next;have Vt:=F.Ld;have V:=F.time;have hf:=F.bR;have p:=F.ax0;have U:=F.axW;have u:∀(rest:aL),(Rb.mk ([1,jT K.axW]++rest) false).ax0 1=(1,⟨[jT K.axW]++rest,false⟩):=λrest=>by have:=lZ (w:=[1]) (rest:=[jT K.axW]++rest) (bad:=false) (n:=1) rfl;simpa[gM]using this
 have r:∀(rest:aL),(Rb.mk ([jT K.axW]++rest) false).ax0 1=(K.axW,⟨rest,false⟩):=λrest=>by rw[lZ (w:=[jT K.axW]) (n:=1) rfl,yC (by omega)]
 have N:∀(rest:aL),(Rb.mk (DS K.aZ.time++rest) false).ax0 4=(K.aZ.time,⟨rest,false⟩):=λrest=>by rw[lZ (fI _),CF (by omega)]
 have s:∀(rest:aL),(Rb.mk ([jT K.aZ.bR]++rest) false).ax0 1=(K.aZ.bR,⟨rest,false⟩):=λrest=>by rw[lZ (w:=[jT K.aZ.bR]) (n:=1) rfl,yC (by omega)]
 have x:∀(rest:aL),(Rb.mk (sN K.aZ.ax0++rest) false).ax0 2=(K.aZ.ax0,⟨rest,false⟩):=λrest=>by rw[lZ (gU _),KP (by omega)]
 have O:∀(rest:aL),(Rb.mk ([jT K.ax5.length]++rest) false).ax0 1=((K.ax5.length:Int),⟨rest,false⟩):=λrest=>by rw[lZ (w:=[jT K.ax5.length]) (n:=1) rfl,yC (by omega)]
 have v:∀(rest:aL),Rb.ax9 K.ax5.length (Rb.mk (K.ax5.flatMap sN++rest) false)=(K.ax5,⟨rest,false⟩):=λrest=>PF _ _ _ λn p=>by have:=F.ax5 n p;omega
 have C:dx K=[1,jT K.axW]++(DS K.aZ.time++([jT K.aZ.bR]++(sN K.aZ.ax0++([jT K.ax5.length]++(K.ax5.flatMap sN ++
   (eY (ayj K.axY.ax3).1++(eY K.axY.cJ++(eY K.axY.next ++
   (if K.axW=1 then eY (ayj K.axY.ax4).1++eY K.axY.dL++eY K.axY.dh++DS K.axY.ayd++[jT K.axY.ayf]else[]))))))))):=by simp only[dx,aJ]
 rw[C];generalize j:(if K.axW=1 then eY (ayj K.axY.ax4).1++eY K.axY.dL++eY K.axY.dh++DS K.axY.ayd++[jT K.axY.ayf]else[])=R;simp only[jm,u,r,N,s,x,O,al,v,Bs z q,wq (show K.axY.cJ.length<4294967296 by omega),wq (show K.axY.next.length<4294967296 by omega)];obtain⟨⟨t,f,n⟩,k,⟨L,i,P,M,l,b,g,e⟩,sn⟩:=K;simp only at *;rcases U with rfl|rfl
 .rw[aO rfl]at j |-;have J:cY ⟨L,i,P,M,l,b,g,e⟩=0:=by simpa[ayk]using F.ayk
  have E:=mq J;have d:parse (ayj i).1=(i,0,0):=A5 (wz a.axY.ax4 a.axY.rl) E.ax4;have o:=pL a.axY.ax4 a.axY.rl E.ax4;have H:=vm E.dL;have y:=vm E.dh;have T:=E.ayd;have D:=E.ayf;simp only at d o H y T D;have I:∀(rest:aL),(Rb.mk (DS g++rest) false).ax0 4=(g,⟨rest,false⟩):=λrest=>by rw[lZ (fI _),CF (by omega)]
  have Q:(Rb.mk [jT e] false).ax0 1=(e,⟨[],false⟩):=by have:=lZ (w:=[jT e]) (rest:=[]) (bad:=false) (n:=1) rfl;rw[yC (by omega)]at this;simpa using this
  have B:R=eY (ayj i).1++(eY l++(eY b++(DS g++[jT e]))):=by rw[<- j];simp only[aJ]
  rw[B];simp only[Bs o d,wq (show X l<4294967296 by omega),wq (show X b<4294967296 by omega),I,Q]
 rw[ao (by decide)]at j |-;subst j;have m:=F.bare rfl;simp only[En.mk.injEq,jd]at m;obtain⟨rfl,rfl,rfl,rfl,rfl⟩:=m;rfl
def vC(a:K.axZ)(h:eO K=0):decode (dx K)=(K,0):=by
 have b:aya K=(dx K,0):=by simp[aya,h]
 simp only[decode,Fw a h,b];simp
def encode_inj{b:bf}(e:K.axZ)(c:b.axZ)(h1:eO K=0)(a:eO b=0)(h:(aya K).1=(aya b).1):K=b:=by
 have d:(aya K).1=dx K:=by simp[aya,h1]
 have f:(aya b).1=dx b:=by simp[aya,a]
 rw[d,f]at h;have:=Fw e h1;rw[h,Fw c a]at this;simpa using this.symm
def Yg:X (cK s M)<=X s+X M:=by have a:=vT (ax9 M) (ax9 s);have b:=qF s;have c:=qF M;simp only[cK];omega
def Km(h:cj [] r=0)(h1:X r<=100)(a:bA r<=900):cU r=0:=by have:=On r;exact(o6 (by omega)).2 ⟨by omega,by omega,h⟩
def Ho:gf:=[[],[83,97,118,101],[114,101,100,32,99,97,114],[120]]
def xw:gf:=[[],[97,110,110],[98,111,98],[112],[113]]
def NB:∀s∈Ho,(parse s).2.2=0/\X s<=7:=by decide +kernel
def Bb:∀s∈xw,named s=G/\X s<=3:=by decide +kernel
structure KU (e:En):Prop where
 ok:cY e=0
 Rz:e.ax3.length<=40
 K9:bA e.ax3<=400
 Rr:e.ax4.length<=100
 K7:bA e.ax4<=900
 prev:e.cJ.length<=7
 next:e.next.length<=7
 dL:e.dL.length<=3
 dh:e.dh.length<=3
def Nt(h:cv N T=G):0<=T.id/\T.id<=999:=by
 simp only[cv]at h;split at h;.simp only[aV,dM]at h;omega
 split at h;.simp only[aV,dM]at h;omega
 split at h;.simp only[aV,bz]at h;omega
 split at h;.simp only[aV,bz]at h;omega
 simp at h
def Jl(h:cU r=0):∀x∈r,0<=x.id/\x.id<=999:=by
 simp only[cU]at h;split at h;.simp at h
 intro x a;exact Nt (mR r [] h x a)
def NQ{e:En}(h:cY e=0):cU e.ax3=0/\cU e.ax4=0:=⟨(mq h).ax3,(mq h).ax4⟩
def XM{a b:aL}{o:Int}(e:cj [] r=0)(f:cj [] g=0)(K:r≠[])(E:X r<=40)(C:bA r<=400)(y:X g<=100)(x:bA g<=900) (m:w∈Ho) (p:L∈Ho) (t:a∈xw) (n:b∈xw) (N:0<=i/\i<=1073741824) (M:1<=o/\o<=3):KU ⟨iX r g,jL r g,w,L,a,b,i,o⟩:=by
 have d:X (cK r g)<=999:=by have:=Yg r g;omega
 obtain⟨j,l⟩:=HR e f d;have q:=yA r g;have H:cj [] (iX r g)=0:=by rw[j];exact ym d q.1 e
 have z:cj [] (jL r g)=0:=by rw[l];exact ym d q.2 f
 have s:X (iX r g)=X r:=by rw[j,ab]
 have F:X (jL r g)=X g:=by rw[l,ab]
 have I:bA (iX r g)=bA r:=by rw[j,CM]
 have B:bA (jL r g)=bA g:=by rw[l,CM]
 obtain⟨u,D⟩:=acA e f d;have v:cU (iX r g)=0:=Km H (by omega) (by omega);have J:cU (jL r g)=0:=Km z (by omega) (by omega);have c:X (iX r g)≠0:=by rw[s];exact λh=>K (bQ h)
 have k:oo ⟨iX r g,jL r g,w,L,a,b,i,o⟩=G:=by simp only[oo,u,D,yq.2 rfl,db,dt,fW,gj];exact c
 refine⟨?_,by simp only[s];exact E,by simp only[I];exact C,by simp only[F];exact y,by simp only[B];exact x,(NB w m).2,(NB L p).2,(Bb a t).2,(Bb b n).2⟩;simp only[cY,v,J,k,(NB w m).1,(NB L p).1,(Bb a t).1,(Bb b n).1,gj,fU,bo,apX,sM];rw[ao (by omega)]
def KU.axZ{e:En}(h:KU e):e.axZ:=by
 have:=NQ h.ok;have f:=h.Rz;have c:=h.K9;have i:=h.Rr;have d:=h.K7;have g:=h.prev;have b:=h.next;refine⟨by omega,by omega,by omega,by omega,by omega,by omega,λx a=>?_⟩;rcases bJ.1 a with a|a;.have:=Jl this.1 x a;omega
 have:=Jl this.2 x a;omega
structure ahz (o:bf):Prop where
 ok:eO o=0
 off:o.aZ.bR<3
 src:cj [] o.axY.ax3=0
 Rz:o.axY.ax3.length<=40
 K9:bA o.axY.ax3<=400
 axZ:o.axZ
 Rr:o.axY.ax4.length<=100
 K7:bA o.axY.ax4<=1200
 ctx:o.axY.cJ.length<=7/\o.axY.next.length<=7/\o.axY.dL.length<=3/\o.axY.dh.length<=3
def pB(e:En):En:=⟨e.ax3,[],e.cJ,e.next,[],[],0,0⟩
def agr(h:cj [] r=0):∀x∈r,0<=x.id/\x.id<=999:=λx a=>Nt (mR r [] h x a)
end Go.Bt
namespace Go.Bt
open Go.Pm
variable(h:Int)(Q:fF)(p:aL)(l:List bf)(T:bf)(k:Int×Int){R:Int×Int}{U:List bf}{P:aL}{w M:bf}
structure bX where
 ax0:Int
 ax7:Int
 axX:List bf
 log:aL
 ayi:Int
 down:Bool
def bX.axV(o:bX):ar:=[.i .i64 o.ax0,.i .i64 o.ax7,.sl 13 (o.axX.map bf.axV),.sl 1 (aC o.log),.i .i64 o.ayi,.b o.down]
def bX.zero:bX:=⟨0,0,[],[],0,Z⟩
structure bX.axZ (o:bX):Prop where
 axX:∀x∈o.axX,x.axZ
 len:o.axX.length<2^30
 log:o.log.length<2^30
def Cc:bX×Int:=if h<0\/8<=h then(.zero,1)else(⟨h,0,[],[],0,Z⟩,0)
def dS(b:bf):Int:=sP [gp T.aZ.bR b.aZ.bR,gp T.aZ.ax0 b.aZ.ax0]
open Go
def DQ:UInt8:=UInt8.ofNat (IntKind.u8.wrap h).toNat
def DP:((DQ h).toNat:Int)=IntKind.u8.wrap h:=by
 have a:IntKind.u8.wrap h=h % 256:=by simp only[IntKind.wrap,IntKind.bits,IntKind.signed];rfl
 rw[DQ,a];have b:(h % 256).toNat<256:=by omega
 simp only[oG];omega
def np:aL:=[DQ (h.fdiv (2^24)),DQ (h.fdiv (2^16)),DQ (h.fdiv (2^8)),DQ h]
def od(x:UInt8):Int :=IntKind.u32.wrap (IntKind.u32.wrap ((BitVec.ofInt IntKind.u32.bits h ^^^ BitVec.ofInt IntKind.u32.bits (IntKind.u32.wrap (x.toNat:Int))).toNat:Int)*16777619)
def lH:Int:=p.foldl od h
def Cz:aL:=np (lH (lH 2166136261 (np (IntKind.u32.wrap (X p:Int)))) p)
def qt(log p:aL):aL×Int :=if 65536<X p\/4194304<X log+8+X p then([],3)else(log++np (IntKind.u32.wrap (X p:Int))++Cz p++p,0)
def kt:X (np h)=4:=rfl
def yM(b:aL):En:=⟨[⟨1,p,0⟩],[⟨1,b,0⟩],[],[],[],[],0,1⟩
def pd:aL:=np (IntKind.u32.wrap (X p:Int))++Cz p++p
def jh:X (pd p)=8+X p:=by simp only[pd,Cz,ae,kt]
def Tv{log p:aL}(h1:X p<=60000)(a:X log<=4000000):qt log p=(log++pd p,0):=by rw[qt,ao (by omega),pd];simp
def HC(h:eO w=0):aya w=(dx w,0):=by simp[aya,h]
def jn(o:bX)(x:bf)(m:Nat):bX :=⟨o.ax0,if o.ax7<x.aZ.time then x.aZ.time else o.ax7,o.axX.take m++x::o.axX.drop m,o.log++pd (dx x),o.ayi,o.down⟩
def nf:bf:=⟨⟨0,0,0⟩,0,⟨[],[],[],[],[],[],0,0⟩,[]⟩
structure Let where
 src:Int
 dst:Int
 op:bf
def Let.axV(x:Let):ar:=.i .i64 x.src::.i .i64 x.dst::x.op.axV
def ct:ar:=[.i .i64 k.1,.i .i64 k.2]
structure Net where
 aM:List bX
 aW:List Let
 cy:fF
def Net.axV(n:Net):ar:=[.sl 6 (n.aM.map bX.axV),.sl 15 (n.aW.map Let.axV),.sl 2 (n.cy.map ct)]
def Net.zero:Net:=⟨[],[],[]⟩
structure Net.axZ (n:Net):Prop where
 bg:∀o∈n.aM,o.axZ
 D5:n.aM.length<2^30
 axX:∀x∈n.aW,x.op.axZ
 vZ:n.aW.length<2^30
 tT:n.cy.length<2^30
structure Ev where
 axW:Int
 a:Int
 b:Int
 n:Int
 axY:En
def Ev.axV(e:Ev):ar:=.i .i64 e.axW::.i .i64 e.a::.i .i64 e.b::.i .i64 e.n::e.axY.axV
def fx(b:Int):Int×Int:=(if b<h then b else h,if h<b then b else h)
def Nc(n:Nat):Bool:=decide (0<=h)&&decide (h<n)
def mT(n:Net)(a b:Int):Bool:=n.cy.any λc=>c==fx a b
def jz(n:Net)(e:Ev):Bool :=if e.axW=1\/e.axW=2\/e.axW=9\/e.axW=10\/e.axW=11 then Nc e.a (X n.aM)
 else if e.axW=3\/e.axW=7\/e.axW=8 then Nc e.a (X n.aM)&&Nc e.b (X n.aM)
 else if e.axW=4\/e.axW=5\/e.axW=6 then Nc e.n (X n.aW)
 else Z
def mm:Int×Int:=(T.aZ.bR,T.aZ.ax0)
def Eu:fF:=if k∈Q then Q else Q++[k]
def kV:V:=.agg [.i .i64 k.1,.i .i64 k.2]
def qY:List (V×V):=Q.map λk=>(kV k,.agg [])
def acT{a:fF}{q:Int×Int}:q∈Eu a R<->q=R\/q∈a:=by
 unfold Eu;split;.rename_i h;exact⟨.inr,λb=>b.elim (λe=>e▸h) id⟩
 simp[or_comm]
def aaY:∀(b:fF) (q:Int×Int),q∈l.foldl (λb o=>Eu b (mm o)) b<->q∈b\/∃o∈l,mm o=q:=by
 induction l with
 |nil=>simp
 |cons o l ih =>
 intro b q;rw[bT,ih,acT];constructor
 .rintro((rfl|h)|⟨p,a,c⟩);.exact .inr ⟨o,by simp,rfl⟩
  .exact .inl h
  exact .inr ⟨p,by simp[a],c⟩
 rintro(h|⟨p,a,c⟩);.exact .inl (.inr h)
 rcases bw.1 a with rfl|a;.exact .inl (.inl c.symm)
 exact .inr ⟨p,a,c⟩
def eqK(q:Int×Int):ez 3 (kV k) (kV q)=S (k.1==q.1&&k.2==q.2):=by simp[ez,kV,LD]
def Hw:∀{f:fF} {n:Nat},R ∉ f->jA 3 (kV R) (qY f) n=S Y:=by
 intro f;induction f with
 |nil=>intro n _;rfl
 |cons q f ih =>
 intro n h;simp only[bw,xQ]at h;have e:(R.1==q.1&&R.2==q.2)=Z:=by rcases R with⟨a,b⟩;rcases q with⟨c,d⟩;simp only[aY]at h;cases i:(a==c)<;>cases g:(b==d)<;>simp_all
 simp only[qY,az,jA,eqK,e];exact ih h.2
def Hv:∀{f:fF} {n:Nat},R∈f->∃i,jA 3 (kV R) (qY f) n=S (S (n+i,.agg []))/\(qY f)[i]?=S (kV R,.agg []):=by
 intro f;induction f with
 |nil=>intro n h;simp at h
 |cons q f ih =>
 intro n h;by_cases e:R=q;.subst e;exact⟨0,by simp[qY,jA,eqK],by simp[qY]⟩
 have k:(R.1==q.1&&R.2==q.2)=Z:=by rcases R with⟨a,b⟩;rcases q with⟨c,d⟩;simp only[aY]at e;cases j:(a==c)<;>cases g:(b==d)<;>simp_all
 have h:R∈f:=by
  rcases bw.1 h with h|h;.exact absurd h e
  exact h
 obtain⟨i,j,g⟩:=ih (n:=n+1) h;refine⟨i+1,?_,by simpa[qY]using g⟩;simp only[qY,az,jA,eqK,k];rw[show n+(i+1)=n+1+i by omega];exact j
def ab9: (k ∉ Q/\jA 3 (kV k) (qY Q) 0=S Y/\qY Q++[(kV k,.agg [])]=qY (Eu Q k)) \/(k∈Q/\∃i,jA 3 (kV k) (qY Q) 0=S (S (i,.agg []))/\(qY Q).set i (kV k,.agg [])=qY (Eu Q k)):=by
 by_cases h:k∈Q;.obtain⟨i,a,b⟩:=Hv (n:=0) h;rw[aP]at a;refine .inr ⟨h,i,a,?_⟩;rw[Eu,aO h];obtain⟨d,c⟩:=ag.1 b;rw[<- c,uX]
 exact .inl ⟨h,Hw h,by simp[Eu,ao h,qY]⟩
structure rj {α:Type} (c:α->α->Int):Prop where
 mA:∀a b,c b a = - c a b
 trans:∀a b d,0<=c a b->0<=c b d->0<=c a d
def rj.self{α:Type}{c:α->α->Int}(h:rj c)(a:α):c a a=0:=by have:=h.mA a a;omega
def rj.gt{α:Type}{c:α->α->Int}(h:rj c){a b d:α}(h1:0<c a b)(g:0<c b d):0<c a d:=by
 have k:=h.trans a b d (by omega) (by omega);rcases(by omega:0<c a d\/c a d=0)with e|e;.exact e
 have j:=h.mA a d;have f:=h.trans d a b (by omega) (by omega);have i:=h.mA d b;omega
def rj.on{α β:Type}{c:β->β->Int}(h:rj c)(f:α->β):rj λa b=>c (f a) (f b) :=⟨λ_ _=>h.mA _ _,λ_ _ _=>h.trans _ _ _⟩
def yH{α:Type}(c d:α->α->Int)(a b:α):Int:=if c a b≠0 then c a b else d a b
def rj.lex{α:Type}{c d:α->α->Int}(h:rj c)(k:rj d):rj (yH c d):=by
 refine⟨λa b=>?_,λa b e g f=>?_⟩;.have g:=h.mA a b;have f:=k.mA a b;simp only[yH];split<;>split<;>omega
 have l:=h.mA a b;have m:=h.mA b e;have r:=h.trans a b e;have i:=h.trans e a b;have n:=h.mA e b;have j:=h.mA a e;have p:=h.trans b e a;have q:=h.mA b a;have o:=k.trans a b e;simp only[yH]at g f |-;split at g<;>split at f<;>split<;>omega
def sC:rj gp:=by refine⟨λa b=>?_,λa b d=>?_⟩<;>simp only[gp]<;>(repeat' split)<;>omega
def uT{a b:Int}:gp a b=0<->a=b:=by simp only[gp];(repeat' split)<;>omega
def EY{a b:UInt8}:a<b<->a.toNat<b.toNat:=N0
def gw:rj iR:=by
 have k:∀a b,iR b a = - iR a b:=by
  intro a;induction a with
  |nil=>intro b;cases b<;>simp[iR]
  |cons x a ih =>
  intro b;cases b with
  |nil=>simp[iR]
  |cons y b =>
  simp only[iR,ih];by_cases e:x<y
  .have c:¬y<x:=by rw[EY]at *;omega
   simp[e,c]
  by_cases c:y<x<;>simp[e,c]
 refine⟨k,?_⟩;intro a;induction a with
 |nil =>
  intro b d e c;cases b with
  |nil=>exact c
  |cons y b=>simp[iR]at e
 |cons x a ih =>
 intro b d e c;cases d with
 |nil=>simp[iR]
 |cons z d =>
 cases b with
 |nil=>simp[iR]at c
 |cons y b =>
 simp only[iR]at e c |-;by_cases f:x<y;.simp[f]at e
 by_cases h:y<z;.simp[h]at c
 rw[ao f]at e;rw[ao h]at c;have i:¬x<z:=by rw[EY]at *;omega
 rw[ao i];by_cases g:z<x;.rw[aO g];decide
 rw[ao g];have j:¬y<x:=by rw[EY]at *;omega
 have l:¬z<y:=by rw[EY]at *;omega
 rw[ao j]at e;rw[ao l]at c;exact ih b d e c
def nK:∀{a b:aL},iR a b=0<->a=b:=by
 intro a;induction a with
 |nil=>intro b;cases b<;>simp[iR]
 |cons x a ih =>
 intro b;cases b with
 |nil=>simp[iR]
 |cons y b =>
 simp only[iR];by_cases c:x<y
 .have:x≠y:=by rintro rfl;rw[EY]at c;omega
  simp[c,this]
 by_cases d:y<x
 .have:x≠y:=by rintro rfl;rw[EY]at d;omega
  simp[c,d,this]
 have:x=y:=by rw[EY]at c d;exact oY.1 (by omega)
 simp[c,d,this,ih]
def BC:jU=yH (λa b=>gp a.time b.time) (yH (λa b=>gp a.bR b.bR) (λa b=>gp a.ax0 b.ax0)):=by funext a b;simp only[jU,sP,yH];(repeat' split)<;>omega
def NI:rj jU:=by rw[BC];exact(sC.on (λs:cz=>s.time)).lex ((sC.on (λs:cz=>s.bR)).lex (sC.on (λs:cz=>s.ax0)))
def B7:kr=yH (λa b=>gp a.aZ.bR b.aZ.bR) (yH (λa b=>gp a.aZ.ax0 b.aZ.ax0) (yH (λa b=>gp a.aZ.time b.aZ.time) (yH (λa b=>gp a.axW b.axW) λa b=>iR (aya a).1 (aya b).1))):=by funext a b;simp only[kr,sP,yH];(repeat' split)<;>omega
def kD:rj kr:=by rw[B7];exact(sC.on (λs:bf=>s.aZ.bR)).lex ((sC.on (λs:bf=>s.aZ.ax0)).lex ((sC.on (λs:bf=>s.aZ.time)).lex ((sC.on (λs:bf=>s.axW)).lex (gw.on (λo:bf=>(aya o).1)))))
def rX:bf->bf->Int:=yH (λa b=>jU a.aZ b.aZ) kr
def mF:rj rX:=(NI.on (λo:bf=>o.aZ)).lex kD
def rW:nz w M=G<->0<rX w M:=by simp only[nz,rX,yH,iG,aV,bz];split<;>omega
def VX:nz T T=Z:=by
 have h:¬nz T T=G:=by rw[rW,mF.self];omega
 simpa using h
def Rk(h:nz w M=G):nz M w=Z:=by
 have a:¬nz M w=G:=by rw[rW]at *;have:=mF.mA w M;omega
 simpa using a
def N9{a b:bf}(h:rX a b=0):a.aZ=b.aZ/\a.axW=b.axW/\(aya a).1=(aya b).1:=by
 simp only[rX,yH]at h;split at h;.rename_i c;exact absurd h c
 rename_i c;rw[BC]at c;rw[B7]at h;simp only[yH]at h c;obtain⟨⟨t,f,n⟩,k,e,s⟩:=a;obtain⟨⟨i,m,g⟩,r,q,p⟩:=b;simp only at h c;have j:t=i:=uT.1 (by split at c<;>omega);subst j;have z:∀x,gp x x=0:=λx=>uT.2 rfl;simp only[z,gj,fU,bo]at h c;have l:f=m:=uT.1 (by split at c<;>omega);subst l;simp only[z,gj,fU,bo]at h c;have o:n=g:=uT.1 (by omega);subst o;simp only[z,gj,fU,bo]at h;split at h;.rename_i d;exact absurd h d
 rename_i d;exact⟨rfl,uT.1 (by simpa using d),nK.1 h⟩
def jD:∀(x y:aL),Op.bytesLess x y=decide (iR x y<0)
 |[],[]=>rfl
 |[],_::_=>rfl
 |_::_,[]=>rfl
 |a::x,b::y=>by
  simp only[Op.bytesLess,iR];by_cases c:a<b;.simp[c]
  by_cases d:b<a
  .have:a≠b:=by rintro rfl;exact c d
   simp[c,d,this]
  have e:a=b:=UInt8.le_antisymm (Yq.1 d) (Yq.1 c);subst e;simp[c,jD x y]
def tc:∀{x y:aL},x<y<->iR x y<0
 |[],[]=>by simp[iR]
 |[],_::_=>by simp[iR]
 |_::_,[]=>by simp[iR]
 |a::x,b::y=>by
  rw[List.cons_lt_cons_iff,tc (x:=x) (y:=y)];simp only[iR];by_cases c:a<b;.simp[c]
  by_cases d:b<a
  .have:a≠b:=by rintro rfl;exact c d
   simp[c,d,this]
  have e:a=b:=UInt8.le_antisymm (Yq.1 d) (Yq.1 c);subst e;simp[c]
def Bf(x y:aL):leB x y=decide (iR x y<=0):=by have h:(x<=y)<->¬(y<x):=N0;have a:=gw.mA x y;simp only[leB,decide_eq_decide,h,tc];omega
def lj{x y z:aL}(h1:iR x y<0)(f:iR y z<0):iR x z<0:=by have e:=gw.mA x y;have g:=gw.mA y z;have c:=gw.mA x z;have:=gw.gt (a:=z) (b:=y) (d:=x) (by omega) (by omega);omega
def mQ:Prop:=l.Pairwise λa b=>iR (cF a) (cF b)<0
def l7(k:aL):List bf->Option bf|[]=>Y|x::r=>if cF x=k then S x else l7 k r
def Hn{k:aL}{o:bf}:∀{l:List bf},l7 k l=S o->o∈l/\cF o=k
 |[],h=>by simp[l7]at h
 |x::r,h=>by
  simp only[l7]at h;split at h;.simp only[aa]at h;subst h;exact⟨by simp,by assumption⟩
  exact⟨cd _ (Hn h).1,(Hn h).2⟩
def rQ{k:aL}:∀{l:List bf},(∀x∈l,cF x≠k)->l7 k l=Y|[],_=>rfl|x::r,h=>by simp only[l7];rw[ao (h x (by simp))];exact rQ λy a=>h y (by simp[a])
def XL(h:mQ U)(a:w∈U):l7 (cF w) U=S w:=by
 induction U with
 |nil=>simp at a
 |cons y U ih =>
 simp only[mQ,cX]at h;simp only[l7];rcases bw.1 a with rfl|a;.rw[aO rfl]
 have:=h.1 w a;rw[ao (λe=>by rw[e,gw.self]at this;omega)];exact ih h.2 a
def KT:∀{a b:List bf},mQ a->mQ b->(∀k,l7 k a=l7 k b)->a=b
 |[],[],_,_,_=>rfl
 |[],y::b,_,_,h=>by have:=h (cF y);simp[l7]at this
 |x::a,[],_,_,h=>by have:=h (cF x);simp[l7]at this
 |x::a,y::b,ha,hb,h=>by
  have o:=ha;have n:=hb;simp only[mQ,cX]at ha hb;have m:cF x=cF y:=by
   rw[<- nK];have p:=gw.mA (cF x) (cF y);by_cases l:iR (cF x) (cF y)<0
   .have d:=h (cF x);have i:l7 (cF x) (y::b)=Y:=rQ λz c e=>by
     rcases bw.1 c with rfl|c;.rw[e,gw.self]at l;omega
     have:=lj l (hb.1 z c);rw[e,gw.self]at this;omega
    rw[i]at d;simp[l7]at d
   by_cases j:iR (cF y) (cF x)<0
   .have d:=h (cF y);have i:l7 (cF y) (x::a)=Y:=rQ λz c e=>by
     rcases bw.1 c with rfl|c;.rw[e,gw.self]at j;omega
     have:=lj j (ha.1 z c);rw[e,gw.self]at this;omega
    rw[i]at d;simp[l7]at d
   omega
  have g:x=y:=by have d:=h (cF x);simp only[l7,aR,m]at d;exact kW d
  subst g;congr 1;refine KT ha.2 hb.2 λk=>?_;by_cases f:cF x=k
  .subst f;rw[rQ λz c e=>?_,rQ λz c e=>?_];.have:=hb.1 z c;rw[e,gw.self]at this;omega
   have:=ha.1 z c;rw[e,gw.self]at this;omega
  have:=h k;simpa only[l7,ao f]using this
def xr{m:List (aL×bf)}(k:aL):∀(a:gf),(∀k∈a,∃o,jo k m=S o/\cF o=k)->l7 k (a.filterMap λk=>jo k m)=if k∈a then jo k m else Y
 |[],_=>by simp[l7]
 |x::a,h=>by
  obtain⟨o,c,d⟩:=h x (by simp);have ih:=xr k a λy f=>h y (by simp[f]);simp only[mh,c,l7,d];by_cases b:x=k;.subst b;simp[c]
  rw[ao b,ih];have:¬k=x:=λe=>b e.symm;simp[this]
def N6(h:jo P (iw U)=S w):cF w=P:=(wg (Kl h)).1.symm
def CO:∀k∈kK U,∃o,jo k (iw U)=S o/\cF o=k:=by intro k b;obtain⟨o,a⟩:=vO b;exact⟨o,a,N6 a⟩
def vw:l7 p (current l)=jo p (iw l):=by
 have e:current l=(kK l).filterMap λp=>jo p (iw l):=rfl;rw[e,xr p _ CO];by_cases h:p∈kK l;.rw[aO h]
 rw[ao h];have:p ∉ (iw l).map (·.1):=λa=>h ((oe l).mem_iff.2 a);exact(Kk.2 this).symm
def Im:(kK l).Pairwise λa b=>iR a b<0:=by
 have f:(kK l).Pairwise λa b=>leB a b=G:=aqD (le:=leB) (λa b c f d=>by
  rw[Bf,bz]at f d |-;have m:=gw.mA a b;have n:=gw.mA b c;have o:=gw.mA a c;by_cases g:iR a b=0;.rw[nK]at g;subst g;exact d
  by_cases i:iR b c=0;.rw[nK]at i;subst i;exact f
  have:=lj (x:=a) (y:=b) (z:=c) (by omega) (by omega);omega) (λa b=>by rw[Bf,Bf,iG,bz,bz];have:=gw.mA a b;omega) _;have d:(kK l).Nodup:=(oe l).nodup_iff.2 (yR l);refine(f.and d).imp λ{a b} h=>?_;obtain⟨j,k⟩:=h;rw[Bf,bz]at j;have:iR a b≠0:=λe=>k (nK.1 e);omega
def pairwise_filterMap{m:List (aL×bf)}:∀(c:gf),(∀k∈c,∃o,jo k m=S o/\cF o=k)->c.Pairwise (λa b=>iR a b<0)->mQ (c.filterMap λk=>jo k m)|[],_,_=>by simp[mQ]|x::c,h,hp=>by obtain⟨o,n,i⟩:=h x (by simp);rw[cX]at hp;have f:∀k∈c,∃o,jo k m=S o/\cF o=k:=λy g=>h y (by simp[g]);have ih:=pairwise_filterMap c f hp.2;simp only[mh,n];simp only[mQ,cX]at ih |-;refine⟨λz d=>?_,ih⟩;obtain⟨k,e,d⟩:=TC.1 d;obtain⟨p,j,l⟩:=f k e;rw[j]at d;simp only[aa]at d;subst d;rw[i,l];exact hp.1 k e
def z8:mQ (current l):=pairwise_filterMap _ CO (Im l)
def uJ(o:bf):List bf->List bf|[]=>[o]|x::r=>if iR (cF x) (cF o)<0 then x::uJ o r else if cF x=cF o then(if nz o x=G then o::r else x::r)else o::x::r
def sW:List bf:=if cF T=[]then l else uJ T l
def wH:List bf:=if 1024<X l then[]else l.foldl sW []
def G4{o z:bf}:∀{l:List bf},z∈uJ o l->z=o\/z∈l
 |[],h=>by simp[uJ]at h;exact .inl h
 |x::r,h=>by
  simp only[uJ]at h;split at h
  .rcases bw.1 h with rfl|h;.exact .inr (by simp)
   rcases G4 h with h|h;.exact .inl h
   exact .inr (by simp[h])
  split at h
  .split at h
   .rcases bw.1 h with h|h;.exact .inl h
    exact .inr (by simp[h])
   exact .inr h
  rcases bw.1 h with h|h;.exact .inl h
  exact .inr h
def Vn{o:bf}:∀{l:List bf},mQ l->mQ (uJ o l)
 |[],_=>by simp[uJ,mQ]
 |x::r,h=>by
  have f:=h;simp only[mQ,cX]at h;have g:=gw.mA (cF x) (cF o);simp only[uJ];split
  .rename_i d;have ih:=Vn (o:=o) (l:=r) h.2;simp only[mQ,cX]at ih |-;refine⟨λz a=>?_,ih⟩;rcases G4 a with rfl|a;.exact d
   exact h.1 z a
  rename_i d;split
  .rename_i b;split;.simp only[mQ,cX];exact⟨λz a=>by rw[<- b];exact h.1 z a,h.2⟩
   exact f
  rename_i b;simp only[mQ,cX];have c:iR (cF o) (cF x)<0:=by have:iR (cF x) (cF o)≠0:=λe=>b (nK.1 e);omega
  refine⟨λz a=>?_,h.1,h.2⟩;rcases bw.1 a with rfl|a;.exact c
  exact lj c (h.1 z a)
def better(a:Option bf)(o:bf):Option bf:=match a with|none=>S o|some w=>if nz o w=G then S o else S w
def P5{o:bf}(k:aL):∀{l:List bf},mQ l->l7 k (uJ o l)=if cF o=k then better (l7 k l) o else l7 k l
 |[],_=>by simp only[uJ,l7,better]
 |x::r,h=>by
  have j:=h;simp only[mQ,cX]at h;have m:=gw.mA (cF x) (cF o);simp only[uJ];split
  .rename_i f;have ih:=P5 (o:=o) k h.2;simp only[l7];by_cases b:cF x=k
   .have:¬cF o=k:=λe=>by rw[e,b,gw.self]at f;omega
    rw[aO b,ao this,aO b]
   rw[ao b,ih,ao b]
  rename_i f;split
  .rename_i c;by_cases a:cF o=k
   .have b:cF x=k:=c.trans a;simp only[l7,b,aO a,better,aR];split;.simp only[l7,aO a]
    simp only[l7,aO b]
   have b:¬cF x=k:=λe=>a (c.symm.trans e);simp only[l7,ao b,ao a];split;.simp only[l7,ao a]
   simp only[l7,ao b]
  rename_i c;have g:iR (cF o) (cF x)<0:=by have:iR (cF x) (cF o)≠0:=λe=>c (nK.1 e);omega
  by_cases a:cF o=k
  .have i:l7 k (x::r)=Y:=rQ λz d e=>by
    rcases bw.1 d with rfl|d;.exact c (e.trans a.symm)
    have:=lj g (h.1 z d);rw[a,e,gw.self]at this;omega
   rw[aO a,i];simp only[l7,aO a,better]
  rw[ao a];simp only[l7,ao a]
def wh(m:List (aL×bf))(o:bf)(k:aL):jo k (jj m o)=if cF o=[]then jo k m else if cF o=k then better (jo k m) o else jo k m:=by
 simp only[jj];split;.rfl
 by_cases b:cF o=k
 .subst b;rw[aO rfl];cases c:jo (cF o) m with
  |none=>simp[uN,better]
  |some w =>
  simp only[better];split;.simp[uN]
  exact c
 rw[ao b];have a:¬k=cF o:=λe=>b e.symm;split;.rw[uN,ao a]
 split;.rw[uN,ao a]
 rfl
def B4:∀(l:List bf) (a:List bf) (m:List (aL×bf)),mQ a->(∀k,l7 k a=jo k m)->mQ (l.foldl sW a)/\∀k,l7 k (l.foldl sW a)=jo k (l.foldl jj m)
 |[],_,_,h1,h2=>⟨h1,h2⟩
 |o::l,a,m,h1,h2=>by
  simp only[bT];refine B4 l _ _ ?_ λk=>?_
  .simp only[sW];split;.exact h1
   exact Vn h1
  rw[wh];simp only[sW];split;.exact h2 k
  rw[P5 k h1,h2 k]
def OQ:wH l=current l:=by
 refine KT ?_ (z8 l) λk=>?_
 .simp only[wH];split;.simp[mQ]
  exact(B4 l [] [] (by simp[mQ]) λk=>by simp[l7,pw]).1
 rw[vw];simp only[wH,iw];split;.simp[l7,pw]
 exact(B4 l [] [] (by simp[mQ]) λk=>by simp[l7,pw]).2 k
def Ts:Option bf:=l.foldl better Y
def vS:List bf:=l.filter λo=>decide (cF o=p)
def Am(b:p≠[])(l:List bf)(c:X l<=1024):jo p (iw l)=Ts (vS p l):=by
 have a:∀(l:List bf) (m:List (aL×bf)),jo p (l.foldl jj m)=(vS p l).foldl better (jo p m):=by
  intro l;induction l with
  |nil=>intro m;rfl
  |cons o l ih =>
  intro m;simp only[bT,ih,wh,vS,iN];by_cases h:cF o=p;.rw[ao (by rw[h];exact b),aO h];simp[h]
  rw[ao h];simp[h]
 simp only[iw];rw[ao (by omega),a];rfl
def N5:jo [] (iw l)=Y:=by
 have a:∀(l:List bf) (m:List (aL×bf)),jo [] m=Y->jo [] (l.foldl jj m)=Y:=by
  intro l;induction l with
  |nil=>intro m h;exact h
  |cons o l ih =>
  intro m h;simp only[bT];refine ih _ ?_;rw[wh];split;.exact h
  exact h
 simp only[iw];split;.rfl
 exact a l [] rfl
def wZ{d:bf}(h1:nz w M=Z)(a:nz M d=Z):nz w d=Z:=by
 cases h:nz w d with
 |false=>rfl
 |true =>
 have n1:¬0<rX w M:=λe=>by rw[rW.2 e]at h1;simp at h1
 have n2:¬0<rX M d:=λe=>by rw[rW.2 e]at a;simp at a
 have g:=rW.1 h;have c:=mF.mA w M;have f:=mF.mA M d;have i:=mF.mA w d;exfalso;by_cases b:rX M w=0;.
  by_cases j:rX d M=0;.have:=mF.trans d M w (by omega) (by omega);omega
  have:=mF.trans d M w (by omega) (by omega);omega
 have:=mF.trans d M w (by omega) (by omega);omega
def KN:∀(l:List bf) (w:bf),Ts l=S w->w∈l/\∀x∈l,nz x w=Z:=by
 have i:∀(l:List bf) (b:Option bf) (w:bf),l.foldl better b=S w->(w∈l\/b=S w)/\(∀x∈l,nz x w=Z)/\∀a,b=S a->nz a w=Z:=by
  intro l;induction l with
  |nil =>intro b w h;refine⟨.inr h,by simp,λa f=>?_⟩;have h:b=S w:=h;rw[h]at f;simp only[aa]at f;subst f;exact VX _
  |cons o l ih =>
  intro b w h;simp only[bT]at h;obtain⟨c,g,e⟩:=ih _ _ h;have k:nz o w=Z:=by
   cases b with
   |none=>exact e o rfl
   |some a =>
   simp only[better]at e;by_cases d:nz o a=G;.exact e o (by rw[aO d])
   exact wZ (by simpa using d) (e a (by rw[ao d]))
  refine⟨?_,λx j=>?_,λa f=>?_⟩
  .rcases c with c|c;.exact .inl (by simp[c])
   cases b with
   |none=>simp only[better,aa]at c;exact .inl (by simp[c])
   |some a =>
   simp only[better]at c;split at c;.simp only[aa]at c;exact .inl (by simp[c])
   exact .inr c
  .rcases bw.1 j with rfl|j;.exact k
   exact g x j
  subst f;simp only[better]at e;by_cases d:nz o a=G;.exact wZ (Rk d) k
  exact e a (by rw[ao d])
 intro l w h;obtain⟨c,g,_⟩:=i l Y w h;exact⟨by simpa using c,g⟩
def KO(h:Ts U=Y):U=[]:=by
 cases U with
 |nil=>rfl
 |cons o U =>
 have b:∀(U:List bf) (a:bf),∃w,U.foldl better (S a)=S w:=by
  intro U;induction U with
  |nil=>intro a;exact⟨a,rfl⟩
  |cons o U ih =>
  intro a;simp only[bT,better];split;.exact ih o
  exact ih a
 obtain⟨w,c⟩:=b U o;simp only[Ts,bT,better]at h;rw[c]at h;simp at h
def aaR{a b:bf}(f:a.axZ)(h:b.axZ)(h1:eO a=0)(g:eO b=0)(d:nz a b=Z)(c:nz b a=Z):a=b:=by
 have n1:¬0<rX a b:=λe=>by rw[rW.2 e]at d;simp at d
 have n2:¬0<rX b a:=λe=>by rw[rW.2 e]at c;simp at c
 have:=mF.mA a b;exact encode_inj f h h1 g (N9 (a:=a) (b:=b) (by omega)).2.2
def aa0(h:cF w≠[]):eO w=0:=by
 by_cases a:eO w=0;.exact a
 exact absurd (by simp only[cF,gj,a,eP,aR]) h
def acJ(i:P≠[])(k:∀o∈U,o.axZ):Ts (vS P U)=S w<->(w∈U/\cF w=P/\∀x∈U,cF x=P->nz x w=Z):=by
 constructor;.intro h;obtain⟨a,b⟩:=KN _ _ h;simp only[vS,fv,bz]at a b;exact⟨a.1,a.2,λx m d=>b x ⟨m,d⟩⟩
 rintro⟨a,b,l⟩;have f:w∈vS P U:=by simp[vS,a,b]
 cases j:Ts (vS P U)with|none=>rw[KO j]at f;simp at f|some v =>obtain⟨c,g⟩:=KN _ _ j;simp only[vS,fv,bz]at c g;have e:=aaR (k v c.1) (k w a) (aa0 (by rw[c.2];exact i)) (aa0 (by rw[b];exact i)) (l v c.1 c.2) (g w ⟨a,b⟩);rw[e]
def QC(c:X U<=1024)(b:∀o∈U,o.axZ):l7 P (current U)=S w<->(P≠[]/\w∈U/\cF w=P/\∀x∈U,cF x=P->nz x w=Z):=by
 rw[vw];by_cases a:P=[];.subst a;rw[N5];simp
 rw[Am P a U c,acJ a b];simp[a]
