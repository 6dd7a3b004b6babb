/- A part of a proof; the claim's last text says of what. -/
import Derived.Test.YtfeddmfijllgmaaGreatDoorB38
set_option linter.all false
set_option maxHeartbeats 4000000
open Option renaming some->S,none->Z
open Bool renaming true->θ,false->G
open Go.Proofs.Tryz renaming prog->κ
open List renaming length->Y

namespace Go.Proofs.Tryz
open Go Go.Pm
set_option maxRecDepth 100000
def W5:bl κ f78:=⟨_,by cbv⟩
def Xm:bl κ f35:=⟨_,by cbv⟩
def kI:aJ:=(⟨_,by cbv⟩:Nf (sc κ f20 [1,1,0,1,0,0])).1
def gn:aJ:=(⟨_,by cbv⟩:Nf (sc κ f20 [1,1,1,0,1,0,0,1,1,0,0,0])).1
def fY:aJ:=(⟨_,by cbv⟩:Nf (sc κ f20 [1,1,1,0,1,0,0,1,1,0,0,1,1])).1
def je:aJ:=(⟨_,by cbv⟩:Nf (sc κ f20 [1,1,1,1,0,1,0,0])).1
def wA:aJ:=(⟨_,by cbv⟩:Nf (sc κ f20 [0])).1
def rF:aJ:=(⟨_,by cbv⟩:Nf (sc κ f20 [1,0])).1
def nn:aJ:=(⟨_,by cbv⟩:Nf (sc κ f20 [1,1,0,0])).1
def lU:aJ:=(⟨_,by cbv⟩:Nf (sc κ f20 [1,1,1,0,0])).1
def kH:aJ:=(⟨_,by cbv⟩:Nf (sc κ f20 [1,1,1,1,0,0])).1
def oY:aJ:=(⟨_,by conv=>lhs;simp only[kI]⟩:Nf (kI:aJ)).1
def oX:aJ:=(⟨_,by conv=>lhs;simp only[gn,fY]⟩:Nf (.seq (.ij [] [z 57 (.bin .lss (.t 56) (.t 55))]) (.seq (.ite (.t 57) (.skip) (.exit 2)) (.seq (.block 3 (.seq (gn) (.seq (.pO [] [zf 61 0 7,zl 62 61,zf 63 1 3,zl 64 63,zm 65 6,z 66 (.idx 15 (.t 64) (.t 65)),zf 67 0 66,zl 68 67,z 69 (.bin .neq (.t 62) (.t 68)),zm 70 69,⟨S 71,[(70,G)],.tU 1 (.t 7)⟩,⟨S 72,[(70,G)],.load Z (.t 71)⟩,⟨S 73,[(70,G)],.tU 1 (.t 3)⟩,⟨S 74,[(70,G)],.load Z (.t 73)⟩,⟨S 75,[(70,G)],.nL (.t 6)⟩,⟨S 76,[(70,G)],.idx 15 (.t 74) (.t 75)⟩,⟨S 77,[(70,G)],.tU 1 (.t 76)⟩,⟨S 78,[(70,G)],.load Z (.t 77)⟩,⟨S 79,[(70,G)],.bin .neq (.t 72) (.t 78)⟩,z 80 (.pick (.t 70) (.c (.b θ)) (.t 79)),zm 81 80,⟨S 82,[(81,G)],.tU 2 (.t 7)⟩,⟨S 83,[(81,G)],.load (S 13) (.t 82)⟩,⟨S 84,[(81,G)],.tU 1 (.t 3)⟩,⟨S 85,[(81,G)],.load Z (.t 84)⟩,⟨S 86,[(81,G)],.nL (.t 6)⟩,⟨S 87,[(81,G)],.idx 15 (.t 85) (.t 86)⟩,⟨S 88,[(81,G)],.tU 2 (.t 87)⟩,⟨S 89,[(81,G)],.load (S 13) (.t 88)⟩] [71,72,73,74,75,76,77,78,79,82,83,84,85,86,87,88,89,90,91] [⟨S 90,[(81,G)],.call 58 [.t 83,.t 89]⟩,⟨S 91,[(81,G)],.un .not (.t 90)⟩,z 92 (.pick (.t 81) (.c (.b θ)) (.t 91))]) (fY)))) (.ij [] [z 93 (.bin .add (.t 56) (.c (.I 1))),zm 56 93]))):aJ)).1
def oW:aJ:=(⟨_,by conv=>lhs;simp only[je]⟩:Nf (je:aJ)).1
def Xw:bl κ f20:=⟨(⟨_,by conv=>lhs;simp only[wA,rF,nn,lU,kH]⟩:Nf (⟨112,[.t 4],.seq (wA) (.seq (rF) (.seq (.seq (nn) (.block 0 (.loop oY))) (.seq (.seq (lU) (.block 2 (.loop oX))) (.seq (.seq (kH) (.block 4 (.loop oW))) (.seq (.ij [] [z 4 (.nL (.c (.b θ)))]) (.ret))))))⟩:nR)).1,by kernel_rfl⟩
def p3:bl κ f3:=⟨_,by cbv⟩
open Go.Bt Go.RowKit
def lF(a b:aR)(J:aj):bh κ 78 [.sl 1 (aN a),.sl 1 (aN b)] J (.b (a==b)):=by refine aW func78 W5.2 λc d=>aq ?_;simp only[W5,SS,seval];simp only[iB,VV,seval];exact bK (.inr rfl) (by simp only[RS,seval];rfl) ⟨rfl,rfl⟩
def jV(o:bO)(c:o.azU)(J:aj):bh κ 35 [.agg o.azR,.agg o.azR] J (.b θ):=by
 refine aW func35 Xm.2 λd f=>aq ?_;have g:=c.log;have e:qj o.azS o.azS=θ:=pG.2 rfl;have a:(o.down==o.down)=θ:=by cases o.down<;>rfl
 simp only[Xm,SS,seval];simp only[bO.azR,a,VV,seval];refine bV (by simp only[VV,seval]<;>rfl) (λ_=>nI o.azS o.azS _) rfl ?_;simp only[e,VV,seval];refine bV (by simp only[VV,seval]<;>rfl) (λ_=>lF o.log o.log _) rfl ?_;simp only[a,VV,seval];exact gm d (by rfl) (by simp[LW])
section
variable {J:aj} {K:bL} (n:Net)
def dN(n:Net):Ob:=.box 29 n.azR
def oB(a:bT J):bT (J++[dN n,dN n]):=cj a (by simp only[dN,Net.azR,bF,bD,cA,cW,cK,LW])
def rV(g:n.azU):∀(b a:List bO),n.an=a++b->(((fj 2 (fh (.ptr J.length 0) (fh (.ptr (Y J+1) 0) (fj 108 fo)))) λh=>K (.exit 0) ⟨h,J++[dN n,dN n]⟩)) ->gw (Y J) κ oY K (Y b+1) ⟨(uu 2 (.ptr J.length 0::.ptr (Y J+1) 0::uu 32 (.I (Y n.an)::.I (Y a)::uu 74 []))),J++[dN n,dN n]⟩:=by
 have l:=g.uE;intro b;induction b with
 |nil =>
  intro a c d;have c:n.an=a:=by simpa using c
  refine az λR f=>?_;simp only[oY,c,dt,bZ,↓IT,VV,seval];exact d ..
 |cons o b ih =>
 intro a c d;have m:Y n.an=Y a+(Y b+1):=by rw[c];simp
 have k:=dD a o (by omega);have e:(n.an.map bO.azR).getD a.length []=o.azR:=by rw[c];exact dR
 have i:(0:Int)<=(Y a:Int):=by omega
 have j:(Y a:Int)<(Y n.an:Int):=by omega
 simp only[bO.azR]at e;refine az λR f=>?_;simp only[oY,dN,Net.azR,ak,e,i,j,bt,aa,↓IT,VV,seval];refine al (jV o (g.aK o (by rw[c];simp)) _) (by simp only[bO.azR,VV,seval]) ?_;simp only[k,bb,↓IT,VV,seval];exact f _ (bX (by repeat' constructor) (ih (a++[o]) (by rw[c];simp) d))
def rU(q:bT J)(r:n.azU):∀(b a:List Let),n.ax=a++b->(((fj 2 (fh (.ptr J.length 0) (fh (.ptr (Y J+1) 0) (fj 108 fo)))) λm=>K (.exit 2) ⟨m,J++[dN n,dN n]⟩)) ->gw (Y J) κ oX K (Y b+1) ⟨(uu 2 (.ptr J.length 0::.ptr (Y J+1) 0::uu 50 (.sl 15 (n.ax.map Let.azR)::.I (Y n.ax)::.I (Y a)::uu 55 []))),J++[dN n,dN n]⟩:=by
 have t:=r.pT;intro b;induction b with
 |nil =>
  intro a d f;have d:n.ax=a:=by simpa using d
  refine az λR l=>?_;simp only[oX,d,dt,bZ,↓IT,VV,seval];exact f ..
 |cons o b ih =>
 intro a d f;have u:Y n.ax=Y a+(Y b+1):=by rw[d];simp
 have s:=dD a o (by omega);have e:(n.ax.map Let.azR).getD a.length []=mC o:=by rw[d,<- lh];exact dR
 have k:(0:Int)<=(Y a:Int):=by omega
 have j:(Y a:Int)<(Y n.ax:Int):=by omega
 have i:n.ax[Y a]?=S o:=by rw[d];simp
 have h:gv (n.ax.map Let.azR) a.length 0=S (.I o.src):=by simp[gv,i,Let.azR]
 have g:gv (n.ax.map Let.azR) a.length 1=S (.I o.dst):=by simp[gv,i,Let.azR]
 simp only[mC]at e;refine az λR l=>?_;simp only[oX,dN,Net.azR,ak,e,h,g,k,j,bt,ao,db,aa,bb,↓IT,VV,seval];refine⟨_,rfl,?_⟩;simp only[dN,Net.azR,ak,e,k,j,bt,ao,db,aa,bb,↓IT,VV,seval];refine⟨_,rfl,?_⟩;refine bV (c:=θ) (by simp only[bb,VV,seval]<;>rfl) (λ_=>oD o.op o.op _) (by simp only[gy,qA,VV,seval]) ?_;have p:Fb o.op o.op=θ:=vx.2 rfl;simp only[p,s,bb,↓IT,VV,seval];refine l _ (cn [dN n,dN n] [_] (oB n q) (by repeat' constructor) ?_ (ih (a++[o]) (by rw[d];simp) f));simp only[LW,ae,ai,aG];omega
def rT(j:n.azU):∀(b a:gh),n.cw=a++b->(((fj 2 (fh (.ptr J.length 0) (fh (.ptr (Y J+1) 0) (fj 108 fo)))) λf=>K (.exit 4) ⟨f,J++[dN n,dN n]⟩)) ->gw (Y J) κ oW K (Y b+1) ⟨(uu 2 (.ptr J.length 0::.ptr (Y J+1) 0::uu 92 (.I (Y n.cw)::.I (Y a)::uu 14 []))),J++[dN n,dN n]⟩:=by
 have l:=j.um;intro b;induction b with
 |nil =>
  intro a c d;have c:n.cw=a:=by simpa using c
  refine az λR e=>?_;simp only[oW,c,dt,bZ,↓IT,VV,seval];exact d ..
 |cons o b ih =>
 intro a c d;have m:Y n.cw=Y a+(Y b+1):=by rw[c];simp
 have k:=dD a o (by omega);have i:(n.cw.map cF).getD a.length []=[.I o.1,.I o.2]:=by rw[c];exact dR
 have g:(0:Int)<=(Y a:Int):=by omega
 have h:(Y a:Int)<(Y n.cw:Int):=by omega
 refine az λR e=>?_;simp only[oW,dN,Net.azR,ak,i,g,h,bt,ao,iF,eQ,k,aa,bb,↓IT,VV,seval];exact e _ (bX (by repeat' constructor) (ih (a++[o]) (by rw[c];simp) d))
end
set_option maxRecDepth 4000 in
def jo(n:Net)(a:n.azU)(J:aj):bh κ 20 [.agg n.azR,.agg n.azR] J (.b θ):=by refine aW func20 Xw.2 λe g=>aq ?_;have d:=λK=>rV (J:=J) (K:=K) n a n.an [] rfl;have c:=λK=>rU (J:=J) (K:=K) n e a n.ax [] rfl;have f:=λK=>rT (J:=J) (K:=K) n a n.cw [] rfl;simp only[dN,Net.azR]at d c f;simp only[Xw,SS,seval];simp only[Net.azR,db,aa,bb,↓IT,VV,seval];refine cB.wk (Wk.fw (by repeat' constructor)) (cB.kT (Y n.an+1) (d _ ?_));simp only[JE];intros;simp only[aa,↓IT,VV,seval];refine cB.wk (Wk.fw (by repeat' constructor)) (cB.kT (Y n.ax+1) (c _ ?_));simp only[JE];intros;simp only[aa,↓IT,VV,seval];refine cB.wk (Wk.fw (by repeat' constructor)) (cB.kT (Y n.cw+1) (f _ ?_));simp only[JE];intros;simp only[↓IT,VV,seval];exact gm e (by rfl) (by simp[LW])
end Go.Proofs.Tryz
namespace Go.Proofs.Tryz
open Go Go.Pm Go.Bt
variable(X:aj)(l:bU)
def rv(a:Nat)(e:a<Y X)(l:bU)(k:Nat)(j:k<2^40)(N:Nat)(f:N<=24): PC κ 13 [.ptr a 0,.I N] (mb X a l k) (λr i=>∃(n:Net) (b:List Ev) (c:Nat),r=.jg [.agg n.azR,.sl 12 (b.map Ev.azR)]/\qL N n b/\c<=k+8000/\i=mb X a l c) :=(sJ X a e l k j N f).mono λ_ _ ⟨n,b,c,h,m,d,g,_⟩=>⟨n,b,c,h,m,d,g⟩
def ux(b:Ob)(a:aj)(l:bU)(k:Nat)(g:k<2^40)(N:Nat)(e:N<=24):
  PC κ 13 [.ptr (Y X+1) 0,.I N] (X++(b::.box 84 [.sl 1 (l.map cN),.I k]::a)) (λr f=>∃(n:Net) (c:List Ev) (d:Nat),r=.jg [.agg n.azR,.sl 12 (c.map Ev.azR)]/\qL N n c/\d<=k+8000/\f=X++(b::.box 84 [.sl 1 (l.map cN),.I d]::a)):=by have:=rv (X++(b::.dead::a)) (Y X+1) (by simp) l k g N e;simpa[mb]using this
def xa(c a b:Ob)(n:Net):aj:=[c,a,b,eI n,eI n]
set_option maxRecDepth 4000 in
def CW{J:aj}{K:bL}(k h o:Ob)(N:∀n,bT (J++xa k h o n))(m:Nat)(c:List Ev)(T:Y c<=30)(L:Evs m c):∀(b a:List Ev) (W:List aV) (n:Net),c=a++b->GN m W a.length n ->(∀(W:List aV) (n:Net),GN m W c.length n->((fj 2 (fh (.ptr J.length 0) (fj 3 (fh (.sl 12 (c.map Ev.azR)) (fh (.ptr (Y J+3) 0) (fj 69 fo)))))) λA=>K (.exit 0) ⟨A,J++xa k h o n⟩)) ->gw (Y J) κ qi K (Y b+1) ⟨(uu 2 (.ptr J.length 0::uu 3 (.sl 12 (c.map Ev.azR)::.ptr (Y J+3) 0::uu 1 (.ptr (Y J+4) 0::uu 31 (.sl 12 (c.map Ev.azR)::.I (Y c)::.I (Y a)::uu 33 []))))),J++xa k h o n⟩:=by
 intro b;induction b with
 |nil =>
  intro a W n d i p;have d:c=a:=by simpa using d
  refine az λR v=>?_;simp only[qi,d,dt,bZ,↓IT,VV,seval];rw[d]at p;exact p W n i ..
 |cons e b ih =>
 intro a W n d i p;have U:=gY d;have x:=dD a e (by omega);have u:(c.map Ev.azR).getD a.length []=e.azR:=by rw[d,dR]
 have P:(0:Int)<=(Y a:Int):=by omega
 have H:(Y a:Int)<(Y c:Int):=by omega
 have C:=i.azU (by omega);obtain⟨y,z,B,⟨E,w⟩,Q⟩:=yS i (by omega) e (L e (by rw[d];simp)).1;have F:Y (a++[e])=Y a+1:=by simp
 simp only[Ev.azR,En.azR]at u;refine az λR v=>?_;have g:∀(t:List aV) (n2:Net) (f:aj) (r:aB),GN m t (Y a+1) n2->rk r (uu 2 (.ptr J.length 0::uu 3 (.sl 12 (c.map Ev.azR)::.ptr (Y J+3) 0::uu 1 (.ptr (Y J+4) 0::uu 31 (.sl 12 (c.map Ev.azR)::.I (Y c)::.I (Y (a++[e]))::uu 33 [])))))->R ⟨r,J++(xa k h o n2++f)⟩:=by intro t n2 f r D M;refine v _ (cn (xa k h o n2) f (N n2) M ?_ (ih (a++[e]) t n2 (by rw[d];simp) (by rw[F];exact D) p));simp only[LW,xa,ae,ai,aG];omega
 simp only[xa,eI,Net.azR,aF,ay]at g;simp only[qi,xa,eI,Net.azR,u,P,H,bt,aa,ak,bb,↓IT,VV,seval];refine al (E _) (by simp only[Net.azR,Ev.azR,En.azR,VV,seval]) ?_;by_cases q:z=0;.subst q;obtain⟨l,_⟩:=Q rfl;have s:=l.azU (by omega);have j:=jo y s;simp only[Net.azR]at j;simp only[gf,aU,Net.azR,↓IT,VV,seval];refine al (w _) (by simp only[Net.azR,Ev.azR,En.azR,VV,seval]) ?_;simp only[gf,aU,Net.azR,ao,db,bP,Nat.reduceAdd,bb,↓IT,VV,seval];refine al (j _) rfl ?_;simp only[x,bb,↓IT,VV,seval];exact g B y [_,_,_] _ l (by repeat' constructor)
 have O:(z==0)=G:=by simpa using q
 have j:=jo n C;simp only[Net.azR]at j;simp only[gf,aw q,Net.zero,Net.azR,ar,↓IT,VV,seval];refine al (w _) (by simp only[Net.azR,Ev.azR,En.azR,VV,seval]) ?_;simp only[gf,aw q,Net.zero,Net.azR,ar,O,db,bP,Nat.reduceAdd,bb,↓IT,VV,seval];refine al (j _) rfl ?_;simp only[x,bb,↓IT,VV,seval];exact g W n [_,_,_] _ (i.mono (mh _)) (by repeat' constructor)
set_option maxRecDepth 4000 in
def sU(J:aj):PC κ 11 [.sl 1 (l.map cN)] J (λr q=>∃(n:Net) (a:List Ev),r=.jg [.agg n.azR,.sl 12 (a.map Ev.azR),.b θ]/\qL 24 n a/\q=J):=by
 refine aW func11 K7.2 λf t=>aq ?_;simp only[K7,SS,seval];simp only[↓IT,VV,seval];refine al (yN l _) rfl ?_;simp only[ah,ae,ai,↓IT,VV,seval];refine dZ (ux J _ [] l 0 (by decide) 24 (by decide)) rfl ?_;rintro _ _ ⟨i,a,j,rfl,⟨⟨m,u,c,o,e⟩,d⟩,s,rfl⟩;have v:=c.len;have p:=c.m8;have g:Y i.an=m:=by omega
 simp only[Net.azR,aa,g,↓IT,VV,seval];refine al (sW m (by omega) (by omega) _) rfl ?_;simp only[Net.azR,ar,aa,g,↓IT,VV,seval];refine al (sR m (by omega) (by omega) _) rfl ?_;simp only[Net.azR,ar,aa,db,bb,↓IT,VV,seval];have h:=λK=>CW (J:=J) (K:=K) (.box 29 [.nil,.nil,.nil]) (.box 84 [.sl 1 (l.map cN),.I j]) (eI i) (λn=>cj f (by simp only[xa,eI,Net.azR,bF,bD,cA,cW,cK,LW])) m a (by omega) e a [] [] ⟨mw m,[],[]⟩ rfl (Fw (by omega));simp only[xa,eI,Net.azR,ar,ai]at h;refine cB.wk (Wk.fw (by repeat' constructor)) (cB.kT (Y a+1) (h _ ?_));intro W n k;simp only[JE];intros;simp only[↓IT,VV,seval];exact bA f (.inr rfl) (by simp only[RS,seval];rfl) (by simp[LW]) ⟨n,a,rfl,⟨⟨m,W,k,o,e⟩,d⟩,rfl⟩
def Hj(J:aj):bh κ 3 [.sl 1 (l.map cN)] J (.b θ):=by
 refine aW func3 p3.2 λa e=>aq ?_;simp only[p3,SS,seval];simp only[V.pure,↓IT,VV,seval];refine iN (zs:=[.sl 1 ([l].map Cp)]) (.cons (.lit _ _) .nil) (yE [l] _) ?_;simp only[↓IT,VV,seval];refine⟨λ_=>?_,λ_=>?_⟩;.refine al (ki _) rfl ?_;simp only[↓IT,VV,seval];exact bK (.inr rfl) (by simp only[RS,seval];rfl) ⟨rfl,rfl⟩
 refine dZ (sU l _) rfl ?_;rintro _ _ ⟨n,d,rfl,f,rfl⟩;simp only[Net.azR,bb,↓IT,VV,seval];refine bV (c:=θ) (by simp only[bb,VV,seval]<;>rfl) (λ_=>ki _) rfl ?_;simp only[bb,↓IT,VV,seval];exact gm a (by rfl) (by simp[LW])
end Go.Proofs.Tryz
