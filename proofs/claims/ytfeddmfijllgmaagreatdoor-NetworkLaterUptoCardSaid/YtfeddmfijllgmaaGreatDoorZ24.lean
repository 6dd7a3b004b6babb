/- Part of a proof. -/
import Derived.Test.YtfeddmfijllgmaaGreatDoorZ23
set_option linter.all false
set_option maxHeartbeats 2000000
open Option renaming some->S
open Bool renaming true->G,false->Z
open Go.Proofs.Tryz renaming prog->A
open List renaming length->X
namespace Go.Proofs.Tryz
open Go Go.Pm Go.Bt
variable(n:Nat)(U:gf)(a:List bf)(h:Int)(F:List En)(p:aL)(R:List (bH))(P:bH)(E:List En)(D:List bf)(T:ai)(Q:bf)(L:Net){v:Int}{k:Nat}{N:Ob}{w:aL}{J:ai}{B y:ar}{K:bG}
def kc{g:ai}{a b c:Nat}{u i l K d f C:Ob}{h:List Rs}{Q:V->ai->Prop}{e:Exit}(j:bW (jZ J k a b c N u i l))(r:mK (X J) K)(t:mK (X J) d)(s:mK (X J) f)(m:mK (X J) C)(q:e=.normal\/e=.ret) (p:lG ⟨B,jZ J k a b c K d f C++g⟩ h=S y) (n:iY (X J) y) (o:Q (Pm.cM y) (jZ J k a b c K d f C)):wF prog (X J) h Q e ⟨B,jZ J k a b c K d f C++g⟩ :=gT q p (Wk.lA (by rw[nC];exact aB _) (E7 j r t s m) (dO.1 (by rw[nC];exact n))) rfl o
def yg(c:List bX)(i:Nat)(a:bX):(c.map bX.axV).set i [.I a.ax0,.I a.ax7,.sl 13 (a.axX.map bf.axV),.sl 1 (aC a.log),.I a.ayi,.b a.down]=(c.set i a).map bX.axV:=by rw[Yt];rfl
def kE{a b c e g h:Nat}(f:a<k)(i:b<k)(l:c<k):mK k (eW (.own a e) (.own b g) (.own c h)):=by
 intro j x d;rcases j with _|_|_|j;.simp only[aG,aa]at d;subst d;exact .own _ _ f
 .simp only[aP,cA,aG,aa]at d;subst d;exact .own _ _ i
 .simp only[aP,Nat.reduceAdd,cA,aG,aa]at d;subst d;exact .own _ _ l
 simp at d
def Ba{k a b c ga gb gc:Nat}(h:uV J k a b c)(d:List bX)(B C:Ob)(y:mK (X J) B)(t:mK (X J) C)(e:Ev)(n:e.axW=1)(i:Nat)(q:e.a=i)(o:bX)(p:d[i]?=some o)(j:bX)(x:bf)(f:Int) (l:∀J,bh A 96 [.agg o.axV,.agg e.axY.axV] J (.iS [.agg j.axV,.agg x.axV,.I f])) : PC A 46 [.ptr k 0,.agg e.axV] (jZ J k a b c (eW (.own a ga) (.own b gb) (.own c gc)) (bI ga d) B C) (λr v=>r=.I f/\v=jZ J k a b c (eW (.own a ga) (.own b gb) (.own c gc)) (bI ga (d.set i j)) B C):=by
 obtain⟨D,L,E,F,K⟩:=e;simp only at n q l;subst n q;refine aT func46 p46.2 λw H=>an ?_;have g:(d.map bX.axV).getD i []=o.axV:=by simp[ax,p]
 have u:i<X d:=(ag.1 p).1;have z:=yg d i j;have m:(0:Int)<=(i:Int):=by omega
 have s:(i:Int)<(X d:Int):=by omega
 simp only[bX.axV]at g;simp only[p46,SS,seval];simp only[Ev.axV,En.axV,eW,bI,h.all,g,m,s,bX.axV,ab,VV,seval];refine ak (l _) (by simp only[bX.axV,En.axV,VV,seval]) ?_;simp only[bX.axV,h.all,g,m,s,z,ab,VV,seval];exact⟨u,kc w (kE h.la h.lb h.lc) trivial y t (.inr rfl) rfl (by simp[LW]) ⟨rfl,rfl⟩⟩
open Go.RowKit
def GZ:bh A 255 [.i .u32 h] T (.sl 1 (aC (np h))):=by refine aT func255 amw.2 λa b=>an ?_;simp only[amw,SS,seval];simp only[VV,Int.reduceBEq,Int.reduceBNe,Nat.reduceAdd,Nat.reduceSub,Nat.reduceLeDiff,Nat.reduceEqDiff,Int.reduceToNat,reduceIte,reduceCtorEq];refine⟨by decide,by decide,by decide,?_⟩;refine gT (xs':=[.sl 1 (aC (np h))]) (.inr rfl) rfl (Wk.fG (.cons ?_ .nil)) rfl ⟨rfl,rfl⟩;simp only[aC,np,az,aq,DP];exact .lit _ _
def aeE(d:X p<2^62):∀(a b:aL) (h:Int),p=b++a ->((fh (.i .u32 (a.foldl od h)) (fj 19 fo)) λl=>K (.exit 0) ⟨l,J⟩) ->gF k A LS K (X a+1) ⟨(.i .u32 h::uu 6 (.sl 1 (aC p)::.I (X p)::.I (X b)::uu 10 [])),J⟩:=by
 intro a;induction a with
 |nil =>intro b h c e;have c:=dH c;subst c;refine aD λR f=>?_;simp only[LS,VV,seval];exact⟨λh=>by simp at h,λ_=>e ..⟩
 |cons x a ih =>
 intro b h c e;subst c;have g:gi (aC (b++x::a)) (X b) 0=S (.i .u8 x.toNat):=by simp[aC,gi]
 have j:=eE b x (by simp at d;omega);refine aD λR f=>?_;simp only[LS,bC,g,j,VV,seval];refine⟨λ_=>⟨by simp;omega,?_⟩,λh=>by simp at h<;>omega⟩;refine f _ (bL ?_ (ih (b++[x]) (od h x) (by simp) e));repeat' constructor
def EI(a:X p<2^62)(J:ai):bh A 203 [.i .u32 h,.sl 1 (aC p)] J (.i .u32 (lH h p)):=by
 refine aT func203 amX.2 λb c=>an ?_;simp only[amX,SS,seval];simp only[bC,VV,seval];refine cD.wk (Wk.fG ?_) (cD.mM (X p+1) (aeE p a p [] h rfl ?_));.repeat' constructor
 simp only[JE];intros;simp only[VV,seval];exact bt rfl ⟨rfl,rfl⟩
def afX(h0:0<n)(F:n<2^40)(J:ai):PC A 276 [.nil,.I n] J (λr p=>r=.own (X J) 0/\p=J++[.row 5 1 1 0 Z []]):=by
 obtain⟨i,z,o,j,q,f,m⟩:=ql SF;refine PC.ofRow (E:=5) (by':=1) ⟨by decide,i,z,o,j,q,f,m⟩ λB D w v g H d=>?_;have e:g=#[.slice none 0 0,.int .i64 n]:=by have c:=d.2 0 _ rfl;have b:=d.2 1 _ rfl;have c:=c.nF;have b:=b.jy;obtain⟨l⟩:=g;match l,d.1 with|[x,y],_=>simp at c b;rw[c,b]
 rw[e];refine(Any8.slices_Grow_grow Tryz.apw i z o j (by omega) none 0 0 n [] w (by omega) (by omega) (by rw[f];omega) (by omega) (by simp) (λ_=>rfl) (λa h=>by simp at h)).mono ?_;rintro e C ⟨rfl,rfl⟩;have u:=grownCap_ge w (0+n) 0 5;refine⟨_,[],rfl,?_,?_,by simp,by simp[gi]⟩
 .refine World.ownsRow_made (base:=w.heap.size) (e:=5) (size:=1) w.drew _ _ (aB _) (grownCap_le_maxLen w _ _ _ (by unfold maxLen;omega)) ?_;have b:∀k,(Builtin.zeroCells z.cells k).size=k:=λk=>by simp[Builtin.zeroCells,m]
  have s:0+n<=grownCap w (0+n) 0 (Tryz.Kh.t 25):=u;rw[jG,jG,b,b];simp only[Array.size_empty];omega
 exact((Below.refl _ w).drew).alloc (aB _) _
def yX:eJ:=U.map λl=>[.sl 1 (aC l)]
def ui:X (yX U)=X U:=by simp[yX]
def OK(a:gf):gi (yX (U++p::a)) (X U) 0=S (.sl 1 (aC p)):=by simp[yX,gi]
def VJ{c b a:gf}(h:c=b++w::a):X b.flatten+X w<=X c.flatten:=by subst h;simp
def W9(d:X U<2^40)(o:U.flatten.length<2^40):∀(b a:gf),U=a++b ->((fh (.sl 1 (yX U)) (fj 2 (fh (.I U.flatten.length) (fj 32 fo)))) λm=>K (.exit 0) ⟨m,J⟩) ->gF k A LK K (X b+1) ⟨(.sl 1 (yX U)::uu 2 (.I (X a.flatten)::uu 5 (.sl 1 (yX U)::.I (X U)::.I (X a)::uu 24 []))),J⟩:=by
 intro b;induction b with
 |nil =>intro a c e;have c:=dH c;subst c;refine aD λR f=>?_;simp only[LK,VV,seval];exact⟨λh=>by simp at h,λ_=>e ..⟩
 |cons x b ih =>
 intro a c e;subst c;have l:=OK a x b;have n:=VJ (rfl:a++x::b=a++x::b);have i:=eE a x (by simp at d;omega);have j:IntKind.i64.wrap ((X a.flatten:Int)+(X x:Int))=((X (a++[x]).flatten:Nat):Int):=by rw[show(X a.flatten:Int)+(X x:Int)=((X a.flatten+X x:Nat):Int)by omega,uc (by omega)];simp
 have g:decide (((X (a++[x]).flatten:Nat):Int)<0)=Z:=by simp;omega
 refine aD λR f=>?_;simp only[LK,ui,bC,l,i,j,g,VV,seval];refine⟨λ_=>⟨by simp;omega,?_⟩,λh=>by simp at h<;>omega⟩;refine f _ (bL ?_ (ih (a++[x]) (by simp) e));repeat' constructor
def W8(d:X U<2^40)(n:U.flatten.length<2^40):∀(a b:gf) (g:Nat),U=b++a ->(∀g,((fj 6 (fh (.own (X J) g) (fj 29 fo))) λl=>K (.exit 2) ⟨l,J++[.row 5 1 1 g Z (aC U.flatten)]⟩)) ->gF (X J) A LJ K (X a+1) ⟨(uu 6 (.own (X J) g::uu 18 (.sl 1 (yX U)::.I (X U)::.I (X b)::uu 8 []))),J++[.row 5 1 1 g Z (aC b.flatten)]⟩:=by
 intro a;induction a with
 |nil =>intro b g c e;have c:=dH c;subst c;refine aD λR f=>?_;simp only[LJ,VV,seval];exact⟨λh=>by simp at h,λ_=>e g ..⟩
 |cons x a ih =>
 intro b g c e;subst c;have k:=OK b x a;have m:=VJ (rfl:b++x::a=b++x::a);have i:=eE b x (by simp at d;omega);refine aD λR f=>?_;simp only[LJ,ui,bC,k,i,maxLen,VV,seval];refine⟨λ_=>⟨by simp;omega,?_⟩,λh=>by simp at h<;>omega⟩;refine⟨⟨by omega,by omega⟩,?_⟩;have j:aC b.flatten++aC x=aC (b++[x]).flatten:=by simp[aC]
 rw[j];refine f _ (bL ?_ (ih (b++[x]) (g+1) (by simp) e));repeat' constructor
def X9(a:X U<2^40)(h0:0<U.flatten.length)(b:U.flatten.length<2^40)(J:ai):bh A 256 [.sl 1 (yX U)] J (.sl 1 (aC U.flatten)):=by
 refine aT func256 amv.2 λc d=>an ?_;simp only[amv,SS,seval];simp only[ui,VV,seval];refine cD.wk (Wk.fG ?_) (cD.mM (X U+1) (W9 U a b U [] rfl ?_));.repeat' constructor
 simp only[JE];intros;simp only[ui,VV,seval];refine ak (afX U.flatten.length h0 b _) rfl ?_;simp only[ui,VV,seval];refine cD.wk (Wk.fG ?_) (cD.mM (X U+1) (W8 U a b U [] 0 rfl ?_));.repeat' constructor
 intro g;simp only[JE];intros;simp only[VV,seval];refine fB 0 c rfl rfl ?_ ?_;.simp only[aQ,bj,az,aq,fz,jR,cg,cw,aR,LW]
 simp only[aQ,bj,az,aq,fz,jR,cg,cw,aR];exact⟨rfl,trivial⟩
def SA(log p:aL)(f:X log<2^30)(c:X p<2^30)(J:ai):bh A 225 [.sl 1 (aC log),.sl 1 (aC p)] J (.iS [.sl 1 (aC (qt log p).1),.I (qt log p).2]):=by
 refine aT func225 amO.2 λd e=>an ?_;have a:IntKind.i64.wrap ((X log:Int)+8)=((X log+8:Nat):Int):=by rw[show(X log:Int)+8=((X log+8:Nat):Int)by omega,uc (by omega)]
 have b:IntKind.i64.wrap (((X log+8:Nat):Int)+(X p:Int))=((X log+8+X p:Nat):Int):=by rw[show((X log+8:Nat):Int)+(X p:Int)=((X log+8+X p:Nat):Int)by omega,uc (by omega)]
 simp only[amO,SS,seval];simp only[bC,a,b,VV,seval];refine⟨λh=>?_,λh=>?_⟩
 .have h:65536<X p\/4194304<X log+8+X p:=by simp at h;omega
  refine gT (xs':=[.sl 1 (aC (qt log p).1),.I (qt log p).2]) (.inr rfl) rfl (Wk.fG ?_) rfl ⟨rfl,rfl⟩;simp only[qt,aO h,aC,aq];exact .cons (.nil _) (.cons (.refl _) .nil)
 have h:¬(65536<X p\/4194304<X log+8+X p):=by simp at h;omega
 refine ak (GZ (IntKind.u32.wrap (X p:Int)) _) rfl ?_;simp only[VV,seval];refine ak (EI 2166136261 (np (IntKind.u32.wrap (X p:Int))) (by rw[kt];omega) _) rfl ?_;simp only[VV,seval];refine ak (EI _ p (by omega) _) rfl ?_;simp only[VV,seval];refine ak (GZ _ _) rfl ?_;simp only[V.pure,VV,seval];refine kh (zs:=[.sl 1 (yX [log,np (IntKind.u32.wrap (X p:Int)),Cz p,p])]) (.cons (.lit _ _) .nil) (X9 _ (by simp) (by simp[kt];omega) (by simp[kt,Cz];omega) _) ?_;simp only[VV,seval];refine gT (xs':=[.sl 1 (aC (qt log p).1),.I (qt log p).2]) (.inr rfl) rfl ?_ rfl ⟨rfl,rfl⟩;simp only[qt,ao h,BO,List.flatten_nil,bE,aJ];exact Wk.refl _ _
def VC(c:n<2^60):IntKind.i64.wrap ((IntKind.u64.wrap (n:Int)).fdiv (2^min 1 IntKind.u64.bits))=((n / 2:Nat):Int):=by
 have a:IntKind.u64.wrap (n:Int)=n:=by simp only[IntKind.wrap,IntKind.bits,IntKind.signed];simp only[dq,aI,bo];omega
 have b:(2:Int)^min 1 IntKind.u64.bits=2:=by decide
 rw[a,b,ic _ (by decide)];rw[show(n:Int) / 2=((n / 2:Nat):Int)by omega,uc (by omega)]
def aeB(c:ar)(a m:Nat)(x:a<2^40)(y:m<=a)(s:Gv A n=G) (u:∀k:Nat,k<a->bh A n (.I k::c) J (.b (decide (m<=k)))):∀(N i j:Nat),j - i<=N->i<=m->m<=j->j<=a ->((fj 5 (fh (.I m) (fj 20 fo))) λq=>K (.exit 0) ⟨q,J⟩) ->gF (X J) A F9 K (N+1) ⟨(uu 1 (.fn n c::uu 3 (.I i::.I j::uu 19 []))),J⟩:=by
 intro N;induction N with
 |zero =>
  intro i j r g o l e;obtain rfl:i=m:=by omega
  have d:decide ((i:Int)<(j:Int))=Z:=by simp;omega
  refine aD λR f=>?_;simp only[F9,d,VV,seval];exact e ..
 |succ N ih =>
 intro i j r g o l e;by_cases w:i<j
 .have d:decide ((i:Int)<(j:Int))=G:=by simp;omega
  have v:IntKind.i64.wrap ((i:Int)+(j:Int))=((i+j:Nat):Int):=by rw[show(i:Int)+(j:Int)=((i+j:Nat):Int)by omega,uc (by omega)]
  refine aD λR f=>?_;have t:=VC (i+j) (by omega);have p:IntKind.i64.wrap ((((i+j) / 2:Nat):Int)+1)=(((i+j) / 2+1:Nat):Int):=by rw[cT (by omega)]
  simp only[F9,d,v,t,p,VV,Int.reduceBEq,Int.reduceBNe,Nat.reduceAdd,Nat.reduceSub,Nat.reduceLeDiff,Nat.reduceEqDiff,Int.reduceToNat,reduceIte,reduceCtorEq];refine⟨by decide,?_⟩;refine sF rfl s (u ((i+j) / 2) (by omega)) rfl ?_;simp only[p,VV,seval];refine⟨λh=>?_,λh=>?_⟩
  .have h:¬m<=(i+j) / 2:=by simpa using h
   refine f _ (bL ?_ (ih ((i+j) / 2+1) j (by omega) (by omega) o l e));repeat' constructor
  have h:m<=(i+j) / 2:=by simpa using h
  refine f _ (bL ?_ (ih i ((i+j) / 2) (by omega) g h (by omega) e));repeat' constructor
 obtain rfl:i=m:=by omega
 have d:decide ((i:Int)<(j:Int))=Z:=by simp;omega
 refine aD λR f=>?_;simp only[F9,d,VV,seval];exact e ..
def Jt(c:ar)(a m:Nat)(g:a<2^40)(d:m<=a)(f:Gv A n=true) (e:∀k:Nat,k<a->bh A n (.I k::c) J (.b (decide (m<=k)))):bh A 223 [.I a,.fn n c] J (.I m):=by
 refine aT func223 amP.2 λh i=>an ?_;simp only[amP,SS,seval];simp only[VV,seval];refine cD.wk (Wk.fG ?_) (cD.mM (a+1) (aeB n c a m g d f e a 0 a (by omega) (by omega) d (aB _) ?_));.repeat' constructor
 simp only[JE];intros;simp only[VV,seval];exact bt rfl ⟨rfl,rfl⟩
def mw:Q.axV.length=13:=by simp[bf.axV,cz.axV,En.axV]
def sD:Q.axV.take 13=Q.axV:=by rw[<- mw Q,List.take_length]
def WN(a b:Nat)(l:List bf)(x:bf)(e:T[a]?=S (.box 53 [.sl 13 (l.map bf.axV)]))(f:T[b]?=S (.box 57 x.axV))(k:Nat)(y:bf)(c:l[k]?=S y): bh A 224 [.I k,.ptr a 0,.ptr b 0] T (.b (decide (0<=dS y x))):=by
 refine aT func224 ad3.2 λg h=>an ?_;have i:k<X l:=(ag.1 c).1;have d:(l.map bf.axV).getD k []=y.axV:=by simp[ax,c]
 simp only[ad3,SS,seval];simp only[e,f,d,ab,VV,seval];refine⟨⟨by omega,by omega⟩,by rw[mw];exact aB _,by rw[mw];exact aB _,?_⟩;refine ak (A6 y x _) (by simp only[sD,VV,seval]) ?_;simp only[VV,seval];exact bt rfl ⟨rfl,rfl⟩
def JV(m:Nat)(p:X a<2^39)(l:m<=X a)(h1:∀(k:Nat) (y:bf),a[k]?=some y->(0<=dS y Q<->m<=k))(J:ai):
  bh A 169 [.sl 13 (a.map bf.axV),.agg Q.axV] J (.iS [.I m,.b (match a[m]? with|some y=>dS y Q==0|none=>Z)]):=by
 refine aT func169 ad7.2 λg o=>an ?_;simp only[ad7,SS,seval];simp only[bf.axV,cz.axV,En.axV,ab,VV,seval];refine ak (Jt 224 [.ptr (X J) 0,.ptr (X J+1) 0] (X a) m (by omega) l (by kernel_rfl) (λk n=>?_)) rfl ?_;.obtain⟨y,d⟩:∃y,a[k]?=some y:=⟨_,aA n⟩;refine(WN _ (X J) (X J+1) a Q (by simp only[bf.axV,cz.axV,En.axV,VV,seval]) (by simp only[bf.axV,cz.axV,En.axV,VV,seval]) k y d).mono ?_;rintro r q ⟨rfl,rfl⟩;refine⟨?_,rfl⟩;simp only[decide_eq_decide.2 (h1 k y d)]
 simp only[ab,VV,seval];have i:((decide ((m:Int)<(X a:Int))==G)=G)<->m<X a:=by simp
 cases d:a[m]? with
 |some y =>
  have f:m<X a:=(ag.1 d).1;have j:(a.map bf.axV).getD m []=y.axV:=by simp[ax,d]
  have e:decide ((m:Int)<(X a:Int))=G:=by simp;omega
  rw[j,sD];refine⟨λ_=>⟨by omega,by omega⟩,.agg y.axV,λ_=>⟨rfl,by rw[mw];exact aB _⟩,?_⟩;refine cm (c:=G) (by simp only[e,VV,seval]<;>rfl) (λ_=>A6 y Q _) (by simp only[bf.axV,cz.axV,En.axV,VV,seval]) ?_;simp only[e,VV,seval];exact aS g (by simp only[RS,seval];rfl) (by simp[LW]) ⟨rfl,rfl⟩
 |none =>
 have f:¬m<X a:=by simpa using d
 have e:decide ((m:Int)<(X a:Int))=Z:=by simp;omega
 refine⟨λh=>absurd (i.1 h) f,.u,λh=>absurd (i.1 h) f,?_⟩;refine cm (c:=Z) (v:=.I 0) (by simp only[e,VV,seval]<;>rfl) (nofun) rfl ?_;simp only[e,VV,seval];exact aS g (by simp only[RS,seval];rfl) (by simp[LW]) ⟨rfl,rfl⟩
def aav(l:List bf)(t:bW (J++[N]))(f:X l<2^39):∀(a b:List bf) (c:fF),l=b++a ->((fj 3 (fh (.mp (X J+1)) (fj 50 fo))) λs=>K (.exit 0) ⟨s,J++[N,.map 99 172 (qY (a.foldl (λc o=>Eu c (mm o)) c))]⟩) ->gF (X J) A Pt K (X a+1) ⟨(uu 3 (.mp (X J+1)::uu 10 (.sl 13 (l.map bf.axV)::.I (X l)::.I (X b)::uu 37 []))),J++[N,.map 99 172 (qY c)]⟩:=by
 intro a;induction a with
 |nil =>intro b c m p;have m:=dH m;subst m;refine aD λR n=>?_;simp only[Pt,VV,seval];exact⟨λh=>by simp at h,λ_=>p ..⟩
 |cons x a ih =>
 intro b c m p;subst m;have r:=eE b x (by simp at f;omega);have next:∀{d:ai} {R:bU} {q:ar},(∀g,gF (X J) A Pt K (X a+1) g->R g) ->
   qP q (uu 3 (.mp (X J+1)::uu 10 (.sl 13 ((b++x::a).map bf.axV)::.I (X (b++x::a))::.I (X (b++[x]))::uu 37 [])))->R ⟨q,J++(N::.map 99 172 (qY (Eu c (mm x)))::d)⟩:=by
  intro d R q n u;refine n _ (dn [_,_] d ?_ u ?_ (ih (b++[x]) (Eu c (mm x)) (by simp) p));.have:=cx t (l:=[.map 99 172 (qY (Eu c (mm x)))]) (by simp);simpa using this
  simp only[LW,ah,aj,aP];omega
 refine aD λR n=>?_;simp only[Pt,bf.axV,cz.axV,En.axV,r,VV,seval];refine⟨λ_=>⟨by simp;omega,?_⟩,λh=>by simp at h<;>omega⟩;have k:ph [] (.agg [])=.agg []:=rfl;rcases ab9 c (mm x)with⟨_,e,j⟩|⟨_,i,e,j⟩;.simp only[kV,mm]at e j;simp only[e,j,k,V.Ea,r,VV,seval];refine next n ?_;repeat' constructor
 simp only[kV,mm]at e j;simp only[e,j,k,V.Ea,r,VV,seval];refine next n ?_;repeat' constructor
def jr:ar:=P.map λn=>.I n
def KG:iY n (jr P):=dO.2 λi x b=>by simp only[jr,bP,aH]at b;obtain⟨a,_,rfl⟩:=b;exact .i _ _
def aau(u:bW (J++[N]))(g:fF)(o:Nat)(w:o<8)(c:Nat)(E:c<2^40)(h1:∀j:Nat,j<c->((o:Int),(j:Int)+1)∈g)(x:((o:Int),(c:Int)+1) ∉ g): ∀(a j:Nat) (b:bH),j+a=c->X b=8->b[o]?=S (j:Int) ->(∀d e,X d=8->d[o]?=S (c:Int)->(∀q,q≠o->d[q]?=b[q]?)->((fj 3 (fh (.mp (X J+1)) (fj 2 (fh (.ptr (X J+2) 0) (fj 23 (fh (.I o) (fj 23 fo))))))) λz=>K (.exit 4) ⟨z,J++(N::.map 99 172 (qY g)::.box 173 (jr d)::e)⟩)) ->gF (X J) A Ps K (a+1) ⟨(uu 3 (.mp (X J+1)::uu 2 (.ptr (X J+2) 0::.I o::uu 22 (.I o::uu 23 [])))),J++[N,.map 99 172 (qY g),.box 173 (jr b)]⟩:=by
 intro a;induction a with
 |zero =>
  intro j b y h k p;obtain rfl:j=c:=by omega
  have r:(jr b)[o]?=S (.I (j:Int)):=by simp[jr,k]
  have f:=Hw (n:=0) x;simp only[kV]at f;have m:IntKind.i64.wrap ((j:Int)+1)=(j:Int)+1:=IntWalk.i64_in _ (by omega);refine aD λR t=>?_;simp only[Ps,m,r,NT,kg,f,VV,seval];exact⟨⟨by omega,by omega⟩,p b [_] h k (λ_ _=>rfl) ..⟩
 |succ a ih =>
 intro j b y h k p;have r:(jr b)[o]?=S (.I (j:Int)):=by simp[jr,k]
 obtain⟨i,f,_⟩:=Hv (n:=0) (h1 j (by omega));simp only[kV]at f;have m:IntKind.i64.wrap ((j:Int)+1)=(j:Int)+1:=IntWalk.i64_in _ (by omega);refine aD λR t=>?_;simp only[Ps,m,r,NT,kg,f,VV,seval];refine⟨⟨by omega,by omega⟩,⟨by omega,by omega⟩,⟨by omega,by omega⟩,by simp[jr];omega,?_⟩;have v:List.take o (jr b)++.I ((j:Int)+1)::List.drop (o+1) (jr b)=jr (b.set o ((j+1:Nat):Int)):=by
  have:jr (b.set o ((j+1:Nat):Int))=(jr b).set o (.I ((j:Int)+1)):=by simp[jr]
  rw[this,List.set_eq_take_append_cons_drop,aO (by simp[jr];omega)]
 rw[v];refine t _ (dn [_,_,_] [_] ?_ ?_ ?_ (ih (j+1) (b.set o ((j+1:Nat):Int)) (by omega) (by simpa using h) (by simp[h,w]) (λd e B D C=>p d e B D (λq s=>by rw[C q s];simp[BM s]))));.have:=cx u (l:=[.map 99 172 (qY g),.box 173 (jr (b.set o ((j+1:Nat):Int)))]) (by simp[KG]);simpa using this
 .repeat' constructor
 simp only[LW,ah,aj,aP];omega
def aat(r:bW (J++[N]))(d:fF)(c:Nat->Nat)(B:∀o:Nat,o<8->c o<2^40)(h1:∀o:Nat,o<8->∀j:Nat,j<c o->((o:Int),(j:Int)+1)∈d)(x:∀o:Nat,o<8->((o:Int),(c o:Int)+1) ∉ d): ∀(a o:Nat) (b:bH),o+a=8->X b=8->(∀q,q<o->b[q]?=S (c q:Int))->(∀q,o<=q->q<8->b[q]?=S 0) ->(((fj 6 (fh (.ptr (X J+2) 0) (fj 47 fo))) λy=>K (.exit 2) ⟨y,J++[N,.map 99 172 (qY d),.box 173 (jr ((List.range 8).map λq=>(c q:Int)))]⟩)) ->gF (X J) A Ur K (a+1) ⟨(uu 3 (.mp (X J+1)::uu 2 (.ptr (X J+2) 0::uu 23 (.I o::uu 23 [])))),J++[N,.map 99 172 (qY d),.box 173 (jr b)]⟩:=by
 intro a;induction a with
 |zero =>
  intro o b w s k m i;obtain rfl:o=8:=by omega
  have e:b=(List.range 8).map λq=>(c q:Int):=by
   apply jF;intro q;by_cases g:q<8;.rw[k q g];simp[g]
   rw[cp (by omega),cp (by simp;omega)]
  rw[e];refine aD λR t=>?_;simp only[Ur,VV,seval];exact⟨nofun,λ_=>i ..⟩
 |succ a ih =>
 intro o b w s k m i;have v:decide ((o:Int)<8)=true:=by simp;omega
 have p:IntKind.i64.wrap ((o:Int)+1)=((o+1:Nat):Int):=cT (by omega);refine aD λR t=>?_;simp only[Ur,v,p,VV,seval];refine cD.wk (Wk.fG ?_) (cD.mM (c o+1) (aau r d o (by omega) (c o) (B o (by omega)) (h1 o (by omega)) (x o (by omega)) (c o) 0 b (by omega) s (m o (aB _) (by omega)) ?_));.repeat' constructor
 intro f n z C u;simp only[JE];intros;simp only[p,VV,seval];refine t _ (dn [_,_,_] n ?_ ?_ ?_ (ih (o+1) f (by omega) z (λq g=>?_) (λq g h=>?_) i));.have:=cx r (l:=[.map 99 172 (qY d),.box 173 (jr f)]) (by simp[KG]);simpa using this
 .repeat' constructor
 .simp only[LW,ah,aj,aP];omega
 .by_cases e:q=o;.subst e;exact C
  rw[u q e];exact k q (by omega)
 rw[u q (by omega)];exact m q (by omega) h
structure qe (l:List bf) (c:Nat->Nat):Prop where
 lt:∀o:Nat,o<8->c o<2^40
 has:∀o:Nat,o<8->∀j:Nat,j<c o->∃x∈l,mm x=((o:Int),(j:Int)+1)
 no:∀o:Nat,o<8->∀x∈l,mm x≠((o:Int),(c o:Int)+1)
def jX(c:Nat->Nat):bH:=(List.range 8).map λq=>(c q:Int)
def Lc(o:bX)(y:o.axZ)(u:o.down=Z)(c:Nat->Nat)(l:qe o.axX c)(J:ai):bh A 87 [.agg o.axV] J (.sl 1 ((rY (jX c) []).map cG)):=by
 refine aT func87 p87.2 λp C=>?_;simp only[p87,SS,seval];refine cD.cutAt (.more (.more (.more (.more (.more (.cM _ _)))))) λR s=>?_;simp only[bX.axV,u,ab,VV,seval];have t:bW (J++[.box 61 [.I o.ax0,.I o.ax7,.sl 13 (o.axX.map bf.axV),.sl 1 (aC o.log),.I o.ayi,.b Z]]):=cx p (by simp only[bV,bM,dp,dF,dm,LW]);refine cD.wk (Wk.fG ?_) (cD.mM (X o.axX+1) (aav o.axX t (by have:=y.len;omega) o.axX [] [] rfl ?_));.repeat' constructor
 simp only[JE];intros;simp only[VV,seval];have g:=λq=>aaY o.axX [] q;generalize w:o.axX.foldl (λf o=>Eu f (mm o)) []=f at g |-;refine cD.wk (Wk.fG ?_) (cD.mM (8+1) (aat t f c l.lt (λq a j B=>?_) (λq a h=>?_) 8 0 [0,0,0,0,0,0,0,0] rfl rfl (λq a=>by omega) (λq _ a=>?_) ?_));.repeat' constructor
 .obtain⟨x,i,d⟩:=l.has q a j B;exact(g _).2 (.inr ⟨x,i,d⟩)
 .rcases(g _).1 h with h|⟨x,i,d⟩;.simp at h
  exact l.no q a x i d
 .rcases q with _|_|_|_|_|_|_|_|q<;>first|rfl|omega
 simp only[JE];intros;simp only[VV,seval];refine s _ (cD.wk ((Wk.fG (ys:=(uu 6 (.ptr (X J+2) 0::uu 47 []))) (by repeat' constructor)).trans (Wk.apM (T:=173) (cs:=jr (jX c)) (ys:=(uu 6 (.ep 8 [jr (jX c)] 0 0::uu 47 []))) 2 (aB _) p rfl ?_ ?_)) (an ?_));.intro x r;simp only[jr,cP]at r;obtain⟨n,_,rfl⟩:=r;rfl
 .have e:X (jr (jX c))=8:=by simp[jr,jX]
  have m:=Bv.ptr (n:=X J) (k:=2) (cs:=jr (jX c)) 0;rw[e]at m;repeat first|exact .nil|refine .cons (.forget _) ?_|refine .cons m ?_
 clear s R;have z:X (jr (jX c))=8:=by simp[jr,jX]
 have v:(jr (jX c)).map (λx=>[x])=(jX c).map cG:=by simp[jr,cG]
 simp only[z,v,VV,seval];refine ak (Oe (jX c) _) rfl ?_;simp only[VV,seval];exact bt rfl ⟨rfl,rfl⟩
set_option maxRecDepth 20000 in
def qS(a b:En)(J:ai):bh A 34 [.agg a.axV,.agg b.axV] J (.b (Eo a b)):=by
 refine aT func34 p34.2 λc e=>an ?_;simp only[p34,SS,seval];simp only[En.axV,VV,seval];refine ak (yf a.ax3 b.ax3 _) rfl ?_;simp only[VV,seval];have d:Eo a b=(iJ a.ax3 b.ax3&&(iJ a.ax4 b.ax4&&(a.cJ==b.cJ&&(a.next==b.next&&(a.dL==b.dL&&(a.dh==b.dh&&(a.ayd==b.ayd&&a.ayf==b.ayf))))))):=rfl;rw[d];refine cm (by simp only[VV,seval]<;>rfl) (λ_=>yf a.ax4 b.ax4 _) rfl ?_;simp only[VV,seval];cases iJ a.ax3 b.ax3<;>simp only[VV,seval];.exact gL c (by rfl) (by simp[LW])
 cases iJ a.ax4 b.ax4<;>simp only[VV,seval];.exact gL c (by rfl) (by simp[LW])
 cases a.cJ==b.cJ<;>simp only[VV,seval];.exact gL c (by rfl) (by simp[LW])
 cases a.next==b.next<;>simp only[VV,seval];.exact gL c (by rfl) (by simp[LW])
 cases a.dL==b.dL<;>simp only[VV,seval];.exact gL c (by rfl) (by simp[LW])
 cases a.dh==b.dh<;>simp only[VV,seval];.exact gL c (by rfl) (by simp[LW])
 cases a.ayd==b.ayd<;>simp only[VV,seval];.exact gL c (by rfl) (by simp[LW])
 exact gL c (by rfl) (by simp[LW])
def aiJ(i:X F<2^63)(o:X F=X E):∀(d a c f:List En),F=c++d->E=f++a->X c=X f ->(kG d a=G->((fj 27 fo) λn=>K (.exit 0) ⟨n,J⟩))->(kG d a=Z->((fj 4 (fh (.b Z) (fj 22 fo))) λn=>K .ret ⟨n,J⟩)) ->gF k A UK K (X d+1) ⟨(.sl 8 (F.map En.axV)::.sl 8 (E.map En.axV)::uu 10 (.I (X F)::.I (X c)::uu 13 [])),J⟩:=by
 intro d;induction d with
 |nil =>
  intro a c f g l p m j;have:a=[]:=by subst g;subst l;simp at o;exact bQ (by omega)
  subst this;have g:=dH g;subst g;refine aD λR r=>?_;simp only[UK,VV,seval];exact⟨λh=>by simp at h,λ_=>m rfl ..⟩
 |cons x d ih =>
 intro a c f g l p m j;cases a with
 |nil=>subst g;subst l;simp at o;omega
 |cons y a =>
 subst g;subst l;have s:(List.map En.axV (f++y::a)).getD (X c) []=y.axV:=by rw[p];exact gA
 have t:=eE c x (by simp at i;omega);refine aD λR r=>?_;simp only[UK,al,s,En.axV,VV,seval];have u:(0:Int)<=X c/\(X c:Int)<X (List.map En.axV (c++x::d)):=by simp;omega
 have q:(0:Int)<=X c/\(X c:Int)<X (List.map En.axV (f++y::a)):=by simp at o |-;omega
 refine⟨λ_=>⟨u,q,?_⟩,λh=>by simp at h<;>omega⟩;refine ak (qS x y _) rfl ?_;simp only[VV,seval];refine⟨λh=>?_,λh=>?_⟩
 .have h:Eo x y=Z:=by rw[dt]at h;exact h
  exact j (by simp[kG,h]) ..
 have h:Eo x y=G:=by rw[eI]at h;exact h
 have e:kG (x::d) (y::a)=kG d a:=by simp[kG,h]
 rw[e]at m j;refine r _ (bL ?_ (ih a (c++[x]) (f++[y]) (by simp) (by simp) (by simp[p]) m j));rw[t];repeat' constructor
def AV:bh A 28 [.sl 8 (F.map En.axV),.sl 8 (E.map En.axV)] T (.b (kG F E)):=by
 refine aT func28 p28.2 λg d=>an ?_;have a:=oI (d 0 _ rfl).1;rw[ab]at a;simp only[p28,SS,seval];simp only[ab,VV,seval];refine⟨λh=>?_,λh=>?_⟩
 .have h:X F≠X E:=by simp at h;omega
  have e:kG F E=Z:=by cases f:kG F E with|false=>rfl|true=>exact absurd (Ku f) h
  exact bt rfl ⟨by rw[e];rfl,rfl⟩
 have h:X F=X E:=by simp at h;omega
 refine cD.bL ?_ (X F+1) (aiJ F E a h F E [] [] rfl rfl rfl (λc=>?_) (λc=>?_));.repeat' constructor
 .simp only[JE];intros;simp only[VV,seval];exact bt rfl ⟨by rw[c];rfl,rfl⟩
 simp only[JE];intros;exact bt rfl ⟨by rw[c];rfl,rfl⟩
def Cv.iK(h:qP B y):Cv (.agg B) (.agg y):=.agg _ _ h.at.1 (λi x a c b=>h.at.2 i x a c b)
def zR(e:Ev)(i:e.axW=1\/e.axW=3\/e.axW=6\/e.axW=7)(J:ai):bh A 41 [.agg L.axV,.agg e.axV] J (.b (jz L e)):=by
 refine aT func41 p41.2 λf j=>an ?_;obtain⟨d,a,b,m,k⟩:=e;simp only at i;simp only[p41,SS,seval];rcases(show(d=1)\/(d=3\/d=7)\/(d=6)by omega)with h|h|h
 .subst h;all_goals
   simp only[Net.axV,Ev.axV,En.axV,ab,VV,seval];refine ak (nG a L.aM.length _) rfl ?_;simp only[VV,seval];exact aS f rfl (by simp[LW]) ⟨by simp[Pm.cM,jz],rfl⟩
 .rcases h with rfl|rfl;all_goals
   simp only[Net.axV,Ev.axV,En.axV,ab,VV,seval];refine ak (nG a L.aM.length _) rfl ?_;cases g:Nc a L.aM.length;.simp only[ab,VV,seval];refine cm (c:=Z) (v:=.u) (by simp only[VV,seval]<;>rfl) (λh=>by cases h) rfl ?_;simp only[VV,seval];exact aS f rfl (by simp[LW]) ⟨by simp[Pm.cM,jz,g],rfl⟩
   simp only[ab,VV,seval];refine cm (c:=G) (by simp only[VV,seval]<;>rfl) (λ_=>nG b L.aM.length _) rfl ?_;simp only[VV,seval];exact aS f rfl (by simp[LW]) ⟨by simp[Pm.cM,jz,g],rfl⟩
 subst h;all_goals
  simp only[Net.axV,Ev.axV,En.axV,ab,VV,seval];refine ak (nG a L.aM.length _) rfl ?_;simp only[ab,VV,seval];refine ak (nG m L.aW.length _) rfl ?_;simp only[VV,seval];exact aS f rfl (by simp[LW]) ⟨by simp[Pm.cM,jz],rfl⟩
def Sf(s b:Nat)(f:n*2^s<2^32)(e:s<=32)(d:b<2^s):IntKind.u32.wrap (((BitVec.ofInt IntKind.u32.bits ((n*2^s:Nat):Int) ||| BitVec.ofInt IntKind.u32.bits (b:Int)).toNat:Nat):Int)=((n*2^s+b:Nat):Int):=by
 have c:2^s<=2^32:=wc (by decide) e;have a:(BitVec.ofInt IntKind.u32.bits ((n*2^s:Nat):Int) ||| BitVec.ofInt IntKind.u32.bits (b:Int)).toNat=n*2^s+b:=by show(BitVec.ofInt 32 ((n*2^s:Nat):Int) ||| BitVec.ofInt 32 (b:Int)).toNat=n*2^s+b;rw[kn,kn,BitVec.toNat_or,lC,lC,iM f,iM (by omega),iB n];exact(ahA d n).symm
 have g:n*2^s+b<2^32:=by have:=(BitVec.ofInt IntKind.u32.bits ((n*2^s:Nat):Int) ||| BitVec.ofInt IntKind.u32.bits (b:Int)).isLt;rw[a]at this;exact this
 rw[a,qu];omega
def Oc(h:4<=X p)(J:ai):bh A 202 [.sl 1 (aC p)] J (.i .u32 (gM (p.take 4))):=by
 match p,h with
 |a::b::c::d::p,_ =>
 refine aT func202 amY.2 λt u=>an ?_;have y:=a.toNat_lt;have v:=b.toNat_lt;have z:=c.toNat_lt;have s:=d.toNat_lt;have w:∀k:Nat,k<2^32->IntKind.u32.wrap (k:Int)=k:=λk x=>by rw[qu];omega
 have r:gi (aC (a::b::c::d::p)) 0 0=S (.i .u8 a.toNat):=rfl;have l:gi (aC (a::b::c::d::p)) 1 0=S (.i .u8 b.toNat):=rfl;have g:gi (aC (a::b::c::d::p)) 2 0=S (.i .u8 c.toNat):=rfl;have j:gi (aC (a::b::c::d::p)) 3 0=S (.i .u8 d.toNat):=rfl;have m:X (aC (a::b::c::d::p))=X p+4:=by rw[bC];rfl
 have n:IntKind.u32.wrap ((a.toNat:Int)*2^min 24 IntKind.u32.bits)=((a.toNat*2^24:Nat):Int):=by rw[<- w (a.toNat*2^24) (by omega)];congr 1
 have q:IntKind.u32.wrap ((b.toNat:Int)*2^min 16 IntKind.u32.bits)=((b.toNat*2^16:Nat):Int):=by rw[<- w (b.toNat*2^16) (by omega)];congr 1
 have o:IntKind.u32.wrap ((c.toNat:Int)*2^min 8 IntKind.u32.bits)=((c.toNat*2^8:Nat):Int):=by rw[<- w (c.toNat*2^8) (by omega)];congr 1
 have o1:=Sf a.toNat 24 (b.toNat*2^16) (by omega) (by decide) (by omega);have o2:=Sf (a.toNat*2^8+b.toNat) 16 (c.toNat*2^8) (by omega) (by decide) (by omega);have f:=Sf (a.toNat*2^16+b.toNat*2^8+c.toNat) 8 d.toNat (by omega) (by decide) (by omega);rw[show(a.toNat*2^8+b.toNat)*2^16=a.toNat*2^24+b.toNat*2^16 by omega]at o2;rw[show(a.toNat*2^16+b.toNat*2^8+c.toNat)*2^8=a.toNat*2^24+b.toNat*2^16+c.toNat*2^8 by omega]at f;have e:gM ((a::b::c::d::p).take 4)=((a.toNat*2^24+b.toNat*2^16+c.toNat*2^8+d.toNat:Nat):Int):=by simp only[eZ,jM,gM,bT,gZ];omega
 rw[e];simp only[amY,SS,seval];simp only[m,r,l,g,j,w a.toNat (by omega),w b.toNat (by omega),w c.toNat (by omega),w d.toNat (by omega),n,q,o,o1,o2,f,VV,Int.reduceBEq,Int.reduceBNe,Nat.reduceAdd,Nat.reduceSub,Nat.reduceLeDiff,Nat.reduceEqDiff,Int.reduceToNat,reduceIte,reduceCtorEq];refine⟨by omega,by omega,by omega,by omega,by omega,by omega,by omega,?_⟩;exact bt (by simp only[RS,seval];rfl) ⟨rfl,rfl⟩
def Qs(m:X p<2^30)(J:ai):bh A 160 [.sl 1 (aC p)] J (.I (jq p:Nat)):=by
 refine aT func160 anx.2 λk l=>an ?_;simp only[anx,SS,seval];simp only[bC,VV,seval];refine⟨λh=>?_,λh=>?_⟩
 .have c:X p<8:=by have:=lW h;omega
  rw[jq,aO c];exact bt (by simp only[RS,seval];rfl) ⟨rfl,rfl⟩
 have c:¬X p<8:=by have:=oF h;omega
 obtain⟨n,f⟩:∃n:Nat,gM (p.take 4)=n:=⟨(gM (p.take 4)).toNat,by have:=xN (p.take 4) (by rw[aX];omega);omega⟩;have o:=xN (p.take 4) (by rw[aX];omega);have i:IntKind.i64.wrap (n:Int)=n:=IntWalk.i64_in _ (by omega);have j:IntKind.i64.wrap ((X p:Int) - 8)=((X p - 8:Nat):Int):=by rw[IntWalk.i64_in _ (by omega)];omega
 rw[jq,ao c,f];refine ak (Oc p (by omega) _) rfl ?_;simp only[f,i,j,bC,VV,seval];refine⟨λh=>?_,λh=>?_⟩;.rw[aO (by simpa using h)];exact bt (by simp only[RS,seval];rfl) ⟨rfl,rfl⟩
 have g:¬(65536<(n:Int)\/((X p - 8:Nat):Int)<n):=by simpa using h
 rw[ao g];have a:IntKind.i64.wrap (8+(n:Int))=((8+n:Nat):Int):=by rw[IntWalk.i64_in _ (by omega)];omega
 have e:(aC p).take 4=aC (p.take 4):=by simp[aC,fM]
 have b:((aC p).drop 8).take n=aC ((p.drop 8).take n):=by simp[aC,fM,kI]
 have d:((aC p).drop 4).take (X p - 4)=aC (p.drop 4):=by rw[cc (by simp[aC])];simp[aC,kI]
 simp only[a,e,b,d,al,dD,VV,seval];refine⟨by omega,⟨by omega,by omega⟩,⟨by omega,by omega⟩,?_⟩;refine ak (EI tF (p.take 4) (by rw[aX];omega) _) rfl ?_;simp only[a,e,b,d,al,dD,bC,VV,seval];refine⟨⟨⟨by omega,by omega⟩,by omega,by omega⟩,?_⟩;refine ak (EI (lH tF (p.take 4)) ((p.drop 8).take n) (by rw[aX,bN];omega) _) rfl ?_;simp only[a,e,b,d,al,dD,bC,VV,seval];refine⟨⟨by omega,by omega⟩,?_⟩;refine ak (Oc (p.drop 4) (by rw[bN];omega) _) rfl ?_;simp only[a,VV,seval];refine⟨λh=>?_,λh=>?_⟩;.rw[ao (by simpa using h)];exact bt (by simp only[RS,seval];rfl) ⟨rfl,rfl⟩
 rw[aO (by simpa using h)];exact bt (by simp only[RS,seval];rfl) ⟨rfl,rfl⟩
def Ht:∀a:gf,8*X a<=X (cW a)|[]=>iP _|p::a=>by have:=Ht a;simp only[cW,fc,ae,jh,ah]at this |-;omega
def YY:Ti A 59 1 24:=ng (by kernel_rfl)
def yO:ar:=[.sl 1 (aC p)]
def D2:Ob:=.row 59 1 24 n Z (U.map yO)
def afb(f:X (cW U++p)<2^30)(q:∀a∈U,X a<=65536)(m:jq p=0):∀(c b:gf) (g:Nat),U=b++c ->(∀g,((fj 2 (fh (.own (X J) g) (fh (.I (X (cW U))) (fj 23 fo)))) λo=>K .ret ⟨o,J++[D2 g U]⟩)) ->gF (X J) A Mw K (X c+1) ⟨(.sl 1 (aC (cW U++p))::uu 1 (.own (X J) g::.I (X (cW b))::uu 23 [])),J++[D2 g b]⟩:=by
 intro c;induction c with
 |nil =>
  intro b g d i;have d:=dH d;subst d;have h:((aC (cW U++p)).drop (X (cW U))).take (X (cW U++p) - X (cW U))=aC p:=by rw[cc (by simp[aC])];simp[aC]
  refine aD λR k=>?_;simp only[Mw,bC,al,h,VV,seval];refine⟨⟨by omega,by simp;omega⟩,?_⟩;refine ak (Qs p (by simp at f;omega) _) rfl ?_;simp only[m,VV,seval];exact i g ..
 |cons a c ih =>
 intro b g d i;have n:=q a (by rw[d];simp);have t:cW U=cW b++(pd a++cW c):=by rw[d];simp[cW]
 have e:cW U++p=cW b++(pd a++(cW c++p)):=by rw[t];simp
 have y:X (cW U++p)=X (cW b)+(8+X a+X (cW c++p)):=by rw[e,ae,ae,jh]
 have h:((aC (cW U++p)).drop (X (cW b))).take (X (cW U++p) - X (cW b))=aC (pd a++(cW c++p)):=by rw[cc (by simp[aC]),e];simp[aC]
 have u:IntKind.i64.wrap ((X (cW b):Int)+8)=((X (cW b)+8:Nat):Int):=by rw[IntWalk.i64_in _ (by omega)];omega
 have j:IntKind.i64.wrap ((X (cW b):Int)+((8+X a:Nat):Int))=((X (cW b)+(8+X a):Nat):Int):=by rw[IntWalk.i64_in _ (by omega)];omega
 have v:(((aC (cW U++p)).drop (X (cW b)+8)).take (X (cW b)+(8+X a) - (X (cW b)+8)))=aC a:=by
  have r:(cW U++p).drop (X (cW b)+8)=a++(cW c++p):=by rw[e,<- List.drop_drop,List.drop_left,AH a (by omega),aJ,aJ,<- List.append_assoc];exact Ib (by rw[ae,kt,kt])
  rw[show(cW b).length+(8+X a) - (X (cW b)+8)=X a by omega];simp only[aC,<- List.map_drop,<- List.map_take,r,ma]
 have x:(((8+X a:Nat):Int)==0)=Z:=by simp;omega
 have w:b.map yO++[[.sl 1 (aC a)]]=(b++[a]).map yO:=by simp[yO]
 have l:X (cW b)+(8+X a)=X (cW (b++[a])):=by simp[cW,jh]
 refine aD λR k=>?_;simp only[Mw,D2,bC,al,h,VV,seval];refine⟨⟨by omega,by omega⟩,?_⟩;refine ak (Qs (pd a++(cW c++p)) (by rw[ae,jh];omega) _) rfl ?_;simp only[Ks a (cW c++p) n,x,u,j,v,al,bC,VV,seval];refine⟨⟨by omega,by omega,by omega⟩,?_⟩;refine ak (tS a (by omega) _) rfl ?_;simp only[j,ab,V.pure,maxLen,VV,seval];have s:=Ht b;refine⟨by omega,?_⟩;rw[w];refine k _ (bL (fr':=(.sl 1 (aC (cW U++p))::uu 1 (.own (X J) (g+1)::.I (X (cW (b++[a])))::uu 23 []))) ?_ (ih (b++[a]) (g+1) (by rw[d];simp) i));rw[<- l];repeat' constructor
def TZ(a:gf)(b:aL)(c:X (cW a++b)<2^30)(d:∀p∈a,X p<=65536)(f:jq b=0)(J:ai): bh A 112 [.sl 1 (aC (cW a++b))] J (.iS [.sl 1 (a.map yO),.I (X (cW a))]):=by
 refine aT func112 aod.2 λe h=>an ?_;simp only[aod,SS,seval];simp only[VV,seval];refine cD.wk (((Wk.fG (ys:=(.sl 1 (aC (cW a++b))::uu 1 (.nil::.I (X (cW []))::uu 23 []))) (by repeat' constructor)).trans (Wk.jP (P:=A) (k:=2) YY rfl)).trans (Wk.fG (ys:=(.sl 1 (aC (cW a++b))::uu 1 (.own (X J) 0::.I (X (cW []))::uu 23 []))) ?_)) (cD.mM (X a+1) (afb a b c d f a [] 0 rfl ?_));.simp only[VV,seval];repeat' constructor
 intro g;simp only[JE];intros;simp only[D2,VV,seval];refine fB 0 e (by simp only[RS,seval];rfl) rfl ?_ ?_;.simp only[az,aq,Pm.fz,jR,cw,aR,cg,LW]
 simp only[az,aq,Pm.fz,jR,cw,aR,cg];exact⟨rfl,trivial⟩
def Ws(a:gf)(b:aL)(c:X (cW a++b)<2^30)(d:∀p∈a,X p<=65536)(f:jq b=0)(J:ai): bh A 111 [.sl 1 (aC (cW a++b))] J (.sl 1 (aC (cW a))):=by
 refine aT func111 aoe.2 λg h=>an ?_;have e:(aC (cW a++b)).take (X (cW a))=aC (cW a):=by simp[aC]
 have i:X (cW a++b)=X (cW a)+X b:=ae;simp only[aoe,SS,seval];simp only[VV,seval];refine ak (TZ a b c d f _) rfl ?_;simp only[bC,al,e,VV,seval];refine⟨⟨by omega,by omega⟩,?_⟩;refine ak (tS (cW a) (by omega) _) rfl ?_;simp only[VV,seval];exact bt (by simp only[RS,seval];rfl) ⟨rfl,rfl⟩
def o9{a:aL}{c d:Bool}(h:(Rb.mk w c).cI 4=(v,⟨a,d⟩))(f:X w<2^60):
  PC A 157 [.ptr (X J) 0,.I 4] (J++[.box 185 [.sl 1 (aC w),.b c]]) (λr e=>r=.I v/\e=J++[.box 185 [.sl 1 (aC a),.b d]]):=by have:=wC (J++[.dead]) (X J) (by simp) ⟨w,c⟩ f 4 (by decide);rw[h]at this;simpa[TU]using this
def aqP(r:V):Prop:=∃v,r=.iS [v,.b (decide (jq p≠0))]/\(jq p≠0->v=.sl 1 (aC ((p.drop 8).take (jq p - 8))))
def T0(B:X p<2^30)(J:ai):PC A 156 [.sl 1 (aC p)] J (λr w=>aqP p r/\w=J):=by
 refine aT func156 anC.2 λi z=>an ?_;simp only[anC,SS,seval];simp only[VV,seval];by_cases l:X p<4
 .have k:(Rb.mk p Z).cI 4=(0,⟨p,G⟩):=by simp only[Rb.cI,aO l]
  have g:(Rb.mk p G).cI 4=(0,⟨p,G⟩):=by simp only[Rb.cI,aO l]
  have b:jq p=0:=by rw[jq,aO (by omega)]
  refine ak (o9 k (by omega)) rfl ?_;simp only[VV,seval];refine ak (o9 g (by omega)) rfl ?_;simp only[VV,seval];exact aS i (by simp only[RS,seval];rfl) (by simp[LW]) ⟨⟨_,by simp[b,Pm.cM];rfl,λh=>absurd b h⟩,rfl⟩
 have k:(Rb.mk p Z).cI 4=(gM (p.take 4),⟨p.drop 4,Z⟩):=by simp only[Rb.cI,ao l]
 have e:X (p.drop 4)=X p - 4:=bN;refine ak (o9 k (by omega)) rfl ?_;simp only[VV,seval];by_cases m:X p<8
 .have g:(Rb.mk (p.drop 4) Z).cI 4=(0,⟨p.drop 4,G⟩):=by simp only[Rb.cI];rw[aO (by rw[e];omega)]
  have b:jq p=0:=by rw[jq,aO m]
  refine ak (o9 g (by omega)) rfl ?_;simp only[VV,seval];exact aS i (by simp only[RS,seval];rfl) (by simp[LW]) ⟨⟨_,by simp[b,Pm.cM];rfl,λh=>absurd b h⟩,rfl⟩
 have g:(Rb.mk (p.drop 4) Z).cI 4=(gM ((p.drop 4).take 4),⟨p.drop 8,Z⟩):=by simp only[Rb.cI];rw[ao (by rw[e];omega),Ah]
 refine ak (o9 g (by omega)) rfl ?_;obtain⟨n,o⟩:∃n:Nat,gM (p.take 4)=n:=⟨(gM (p.take 4)).toNat,by have:=xN (p.take 4) (by rw[aX];omega);omega⟩;have d:X (p.drop 8)=X p - 8:=bN;have b:jq p=if 65536<(n:Int)\/((X p - 8:Nat):Int)<n then 0 else if lH (lH tF (p.take 4)) ((p.drop 8).take n)=gM ((p.drop 4).take 4)then 8+n else 0:=by rw[jq,ao m,o,al]
 have v:(aC p).take 4=aC (p.take 4):=by simp[aC,fM]
 have t:(aC (p.take 4)).isEmpty=Z:=by
  have:X (aC (p.take 4))=4:=by rw[bC,aX];omega
  cases c:aC (p.take 4)with|nil=>rw[c]at this;simp at this|cons a r=>rfl
 have x:(aC (p.drop 8)).take n=aC ((p.drop 8).take n):=by simp[aC,fM]
 have f:X (p.take 4)=4:=by rw[aX];omega
 simp only[o,bC,d,v,t,x,f,vH,ae,aw,maxLen,al,aI,bo,VV,seval];refine⟨λh=>?_,λh=>?_⟩
 .have j:65536<(n:Int)\/((X p - 8:Nat):Int)<n:=by simpa using h
  rw[aO j]at b;exact aS i (by simp only[RS,seval];rfl) (by simp[LW]) ⟨⟨_,by simp[b,Pm.cM];rfl,λh=>absurd b h⟩,rfl⟩
 have j:¬(65536<(n:Int)\/((X p - 8:Nat):Int)<n):=by simpa using h
 rw[ao j]at b;have q:X ((p.drop 8).take n)=n:=by rw[aX,d];omega
 have s:lH tF (p.take 4++(p.drop 8).take n)=lH (lH tF (p.take 4)) ((p.drop 8).take n):=by simp only[lH,tX]
 simp only[q];refine⟨⟨by omega,by omega⟩,by omega,⟨by omega,by omega⟩,?_⟩;refine qq (X J+1) (by simp only[jE];rfl) (AM (p.take 4++(p.drop 8).take n) (by rw[ae,q,f];omega) _) (by simp[fz,jR,ev]) ?_;simp only[s,VV,seval];have u:(lH (lH tF (p.take 4)) ((p.drop 8).take n)==gM ((p.drop 4).take 4))=decide (jq p≠0):=by
  by_cases c:lH (lH tF (p.take 4)) ((p.drop 8).take n)=gM ((p.drop 4).take 4);.rw[aO c]at b;rw[b,c];simp
  rw[ao c]at b;rw[b];simpa using c
 rw[u];refine aS i (by simp only[RS,seval];rfl) (by simp[LW]) ⟨⟨_,rfl,λh=>?_⟩,rfl⟩;have c:lH (lH tF (p.take 4)) ((p.drop 8).take n)=gM ((p.drop 4).take 4):=bY λy=>h (by rw[b,ao y]);rw[aO c]at b;rw[b,dD]
def afe{J:ai}(T:bW J)(f:gf)(e:aL)(l:X (cW f++e)<2^30)(U:∀p∈f,X p<=65536)(L:jq e=0):∀(d c:gf) (g:Nat),f=c++d ->(∀g loc,((fj 2 (fh (.own (X J) g) (fh (.I (X (cW f))) (fj 26 fo)))) λM=>K .ret ⟨M,J++(D2 g f::loc)⟩)) ->gF (X J) prog Mz K (X d+1) ⟨(.sl 1 (aC (cW f++e))::uu 3 (.own (X J) g::.I (X (cW c))::uu 24 [])),J++[D2 g c]⟩:=by
 intro d;induction d with
 |nil =>
  intro c g j w;have j:=dH j;subst j;have t:((aC (cW f++e)).drop (X (cW f))).take (X (cW f++e) - X (cW f))=aC e:=by rw[cc (by simp[aC])];simp[aC]
  refine aD λR D=>?_;simp only[Mz,bC,al,t,VV,seval];refine⟨⟨by omega,by simp;omega⟩,?_⟩;refine dV (T0 e (by simp at l;omega) _) rfl ?_;rintro _ _ ⟨⟨v,rfl,_⟩,rfl⟩;have Q:decide (jq e≠0)=Z:=by simp[L]
  simp only[Q,VV,seval];exact w g [] ..
 |cons p d ih =>
 intro c g j w;have H:=U p (by rw[j];simp);have vv:cW f=cW c++(pd p++cW d):=by rw[j];simp[cW]
 have m:cW f++e=cW c++(pd p++(cW d++e)):=by rw[vv];simp
 have Vz:X (cW f++e)=X (cW c)+(8+X p+X (cW d++e)):=by rw[m,ae,ae,jh]
 have t:((aC (cW f++e)).drop (X (cW c))).take (X (cW f++e) - X (cW c))=aC (pd p++(cW d++e)):=by rw[cc (by simp[aC]),m];simp[aC]
 have e1:IntKind.i64.wrap (8+(X p:Int))=((8+X p:Nat):Int):=by rw[IntWalk.i64_in _ (by omega)];omega
 have O:IntKind.i64.wrap ((X (cW c):Int)+((8+X p:Nat):Int))=((X (cW c)+(8+X p):Nat):Int):=by rw[IntWalk.i64_in _ (by omega)];omega
 have e3:((pd p++(cW d++e)).drop 8).take (8+X p - 8)=p:=by rw[AH p (by omega),aJ,aJ,<- List.append_assoc,Ib (by rw[ae,kt,kt]),dD];exact ma rfl
 have F:X (cW c)+(8+X p)=X (cW (c++[p])):=by simp[cW,jh]
 have x:=Ks p (cW d++e) H;have N:decide (jq (pd p++(cW d++e))≠0)=true:=by rw[x];simp
 have e4:c.map yO++[[.sl 1 (aC p)]]=(c++[p]).map yO:=by simp[yO]
 have ac:=Ht c;refine B3 λR D=>?_;simp only[Mz];refine cD.l9 ?_;refine cD.cut λo k=>?_;simp only[D2,bC,al,t,VV,seval];refine⟨⟨by omega,by omega⟩,?_⟩;refine dV (T0 (pd p++(cW d++e)) (by rw[ae,jh];omega) _) rfl ?_;rintro _ _ ⟨⟨v,rfl,q⟩,rfl⟩;have q:=q (by rw[x];omega);rw[x,e3]at q;subst q;simp only[N,VV,seval];refine k _ (cD.fG (fr':=(.sl 1 (aC (cW f++e))::uu 3 (.own (X J) g::.I (X (cW c))::.sl 1 (aC p)::.b true::uu 22 []))) ?_ (by repeat' constructor));clear k o;refine cD.cut λo k=>?_;simp only[VV,seval];refine k _ (cD.fG (fr':=(.sl 1 (aC (cW f++e))::uu 3 (.own (X J) g::.I (X (cW c))::.sl 1 (aC p)::.b true::uu 22 []))) ?_ (by repeat' constructor));clear k o;refine cD.aco λo k=>?_;refine cD.aqM 4 (by simp[z,zm]) λR4 i=>?_;have h:∀{y:ar} {s:ai},Wk prog (X J) y s (.sl 1 (aC (cW f++e))::uu 3 (.own (X J) g::.I (X (cW c))::.sl 1 (aC p)::uu 12 (.own (X J) g::uu 2 (.sl 1 (aC p)::uu 7 [])))) (J++[D2 g c])->R4 ⟨y,s⟩:=by intro y s C;refine i _ _ _ _ C ?_;clear i C;simp only[mi,qg,D2,ab,V.pure,maxLen,VV,seval];refine⟨⟨by omega,by omega⟩,?_⟩;rw[e4];refine k _ (cD.fG (fr':=(.sl 1 (aC (cW f++e))::uu 3 (.own (X J) (g+1)::.I (X (cW c))::.sl 1 (aC p)::uu 23 []))) (an ?_) (by repeat' constructor));simp only[bC,e1,O,VV,seval];refine D _ (bL (fr':=(.sl 1 (aC (cW f++e))::uu 3 (.own (X J) (g+1)::.I (X (cW (c++[p])))::uu 24 []))) ?_ (ih (c++[p]) (g+1) (by rw[j];simp) w));rw[<- F];repeat' constructor
 clear i;by_cases B:p=[];.subst B;have u:aC []=[]:=rfl;simp only[eZ,jM,u,ju,aw,aR,maxLen,VV,seval];exact h (Wk.fG (by repeat first|exact .nil|refine .cons (.refl _) ?_|refine .cons (.lit _ _) ?_|refine .cons (.forget _) ?_))
 have u:(aC p).isEmpty=Z:=by cases p with|nil=>exact absurd rfl B|cons a r=>rfl
 simp only[eZ,jM,u,aw,bC,aI,bo,maxLen,VV,seval];refine⟨⟨by omega,by omega⟩,h ((Wk.fz (X J+1) (E:=5) (sz:=1) (by':=1) (g:=0) (sh:=Z) (rows:=aC p) (by rw[jE];rfl)).trans ((Wk.fG (ys:=(.sl 1 (aC (cW f++e))::uu 3 (.own (X J) g::.I (X (cW c))::.sl 1 (aC p)::uu 12 (.own (X J) g::uu 2 (.sl 1 (aC p)::uu 7 []))))) ?_).trans ?_))⟩
 .simp only[az,aq,Pm.fz,jR,cw,aR];have W:(X J=X J+1/\g=0)=False:=by simp
  simp only[W,bo];repeat' constructor
 rw[ji];have:=Wk.lA (P:=prog) (n:=X J) (xs:=(.sl 1 (aC (cW f++e))::uu 3 (.own (X J) g::.I (X (cW c))::.sl 1 (aC p)::uu 12 (.own (X J) g::uu 2 (.sl 1 (aC p)::uu 7 []))))) (J:=J++[D2 g c]) (loc:=[.row 5 1 1 0 true (aC p)]) (by simp) (cx T (by simp[D2])) (dO.1 (by rw[ae];simp only[ah,aj,aP,LW];omega));rw[aJ]at this;exact this
def OT(a:gf)(b:aL)(c:X (cW a++b)<2^30)(e:∀p∈a,X p<=65536)(f:jq b=0)(J:ai): bh A 108 [.sl 1 (aC (cW a++b))] J (.iS [.sl 1 (a.map yO),.I (X (cW a))]):=by
 refine aT func108 aoh.2 λd i=>an ?_;simp only[aoh,SS,seval];simp only[VV,seval];refine cD.wk (((Wk.fG (ys:=(.sl 1 (aC (cW a++b))::uu 3 (.nil::.I (X (cW []))::uu 24 []))) (by repeat' constructor)).trans (Wk.jP (P:=A) (k:=4) YY rfl)).trans (Wk.fG (ys:=(.sl 1 (aC (cW a++b))::uu 3 (.own (X J) 0::.I (X (cW []))::uu 24 []))) ?_)) (cD.mM (X a+1) (afe d a b c e f a [] 0 rfl ?_));.simp only[VV,seval];repeat' constructor
 intro g h;simp only[JE];intros;simp only[D2,VV,seval];refine fB 0 d (by simp only[RS,seval];rfl) rfl ?_ ?_;.simp only[az,aq,Pm.fz,jR,cw,aR,cg,LW]
 simp only[az,aq,Pm.fz,jR,cw,aR,cg];exact⟨rfl,trivial⟩
def R7(b:gf)(c:aL)(d:X (cW b++c)<2^30)(g:∀p∈b,X p<=65536)(k:jq c=0)(J:ai): bh A 107 [.sl 1 (aC (cW b++c))] J (.sl 1 (aC (cW b))):=by
 refine aT func107 aoi.2 λh m=>an ?_;have e:(aC (cW b++c)).take (X (cW b))=aC (cW b):=by simp[aC]
 have n:X (cW b++c)=X (cW b)+X c:=ae;simp only[aoi,SS,seval];simp only[VV,seval];refine ak (OT b c d g k _) rfl ?_;by_cases f:cW b=[];.have j:aC []=[]:=rfl;simp only[f,j,aj]at e |-;simp only[bC,e,ju,aR,maxLen,VV,seval];exact⟨by omega,fp (by simp only[RS,seval]) (Wk.fG (.cons (.lit 1 []) .nil)) rfl ⟨rfl,rfl⟩⟩
 have l:(aC (cW b)).isEmpty=Z:=by cases i:cW b with|nil=>exact absurd i f|cons a r=>rfl
 simp only[bC,al,e,l,aw,aI,bo,maxLen,VV,seval];refine⟨⟨by omega,by omega⟩,⟨by omega,by omega⟩,fB 0 h (by simp only[RS,seval];rfl) rfl ?_ ?_⟩;.simp only[az,aq,Pm.fz,jR,cw,aR,cg,LW]
 simp only[az,aq,Pm.fz,jR,cw,aR,cg];exact⟨rfl,trivial⟩
def vg(b:bf)(J:ai):bh A 58 [.agg Q.axV,.agg b.axV] J (.b (MG Q b)):=by refine aT func58 p58.2 λa c=>an ?_;simp only[p58,SS,seval];simp only[bf.axV,cz.axV,En.axV,ix,ez,VV,seval];refine cm (by simp only[VV,seval]<;>rfl) (λ_=>qS Q.axY b.axY _) rfl ?_;simp only[VV,seval];refine cm (by simp only[VV,seval]<;>rfl) (λ_=>za Q.ax5 b.ax5 _) rfl ?_;simp only[VV,seval];refine aS a (by simp only[RS,seval];rfl) (by simp[LW]) ⟨?_,rfl⟩;simp only[Pm.cM,MG,adA,db,aQ]
def aiK(j:X a<2^63)(p:X a=X D):∀(f c d g:List bf),a=d++f->D=g++c->X d=X g ->(qD f c=G->((fj 27 fo) λo=>K (.exit 0) ⟨o,J⟩))->(qD f c=Z->((fj 4 (fh (.b Z) (fj 22 fo))) λo=>K .ret ⟨o,J⟩)) ->gF k A UM K (X f+1) ⟨(.sl 13 (a.map bf.axV)::.sl 13 (D.map bf.axV)::uu 10 (.I (X a)::.I (X d)::uu 13 [])),J⟩:=by
 intro f;induction f with
 |nil =>
  intro c d g i m q n l;have:c=[]:=by subst i;subst m;simp at p;exact bQ (by omega)
  subst this;have i:=dH i;subst i;refine aD λR s=>?_;simp only[UM,VV,seval];exact⟨λh=>by simp at h,λ_=>n rfl ..⟩
 |cons x f ih =>
 intro c d g i m q n l;cases c with
 |nil=>subst i;subst m;simp at p;omega
 |cons y c =>
 subst i;subst m;have t:(List.map bf.axV (g++y::c)).getD (X d) []=y.axV:=by rw[q];exact gA
 have u:=eE d x (by simp at j;omega);refine aD λR s=>?_;simp only[UM,al,t,bf.axV,cz.axV,En.axV,VV,seval];have v:(0:Int)<=X d/\(X d:Int)<X (List.map bf.axV (d++x::f)):=by simp;omega
 have r:(0:Int)<=X d/\(X d:Int)<X (List.map bf.axV (g++y::c)):=by simp at p |-;omega
 refine⟨λ_=>⟨v,r,?_⟩,λh=>by simp at h<;>omega⟩;refine ak (vg x y _) rfl ?_;simp only[VV,seval];refine⟨λh=>?_,λh=>?_⟩
 .have h:MG x y=Z:=by rw[dt]at h;exact h
  exact l (by simp[qD,h]) ..
 have h:MG x y=G:=by rw[eI]at h;exact h
 have e:qD (x::f) (y::c)=qD f c:=by simp[qD,h]
 rw[e]at n l;refine s _ (bL ?_ (ih c (d++[x]) (g++[y]) (by simp) (by simp) (by simp[q]) n l));rw[u];repeat' constructor
def IB:bh A 26 [.sl 13 (a.map bf.axV),.sl 13 (D.map bf.axV)] T (.b (qD a D)):=by
 refine aT func26 p26.2 λi f=>an ?_;have c:=oI (f 0 _ rfl).1;rw[ab]at c;simp only[p26,SS,seval];simp only[ab,VV,seval];refine⟨λh=>?_,λh=>?_⟩
 .have h:X a≠X D:=by simp at h;omega
  have e:qD a D=Z:=by cases g:qD a D with|false=>rfl|true=>exact absurd (WU g) h
  exact bt rfl ⟨by rw[e];rfl,rfl⟩
 have h:X a=X D:=by simp at h;omega
 refine cD.bL ?_ (X a+1) (aiK a D c h a D [] [] rfl rfl rfl (λd=>?_) (λd=>?_));.repeat' constructor
 .simp only[JE];intros;simp only[VV,seval];exact bt rfl ⟨by rw[d];rfl,rfl⟩
 simp only[JE];intros;exact bt rfl ⟨by rw[d];rfl,rfl⟩
def acE(p:Int×Int)(f c g:Nat)(J:ai)(i:J[c]?=some (fm g [])):bh A 89 [.own c g,.agg (ct p),.fn f []] J (.iS [.I 0,.b Z]):=by
 refine aT func89 p89.2 λj k=>an ?_;have a:∀d:ai,(J++d)[c]?=some (.row 99 2 16 g Z []):=λd=>by rw[bc (ag.1 i).1];exact i
 simp only[p89,SS,seval];simp only[ct,a,aj,VV,seval];refine cD.mM 1 (aD λR l=>?_);have e:(Z==G)=Z:=rfl;simp only[JW,a,dZ,e,VV,seval];refine⟨.u,yB (c:=Z) (v:=.I 0) (by simp only[e,VV,seval]<;>rfl) (λh=>by cases h) ?_⟩;simp only[e,VV,seval];exact aS j rfl (by simp[LW]) ⟨rfl,rfl⟩
def Kb(l:fF)(p:Int×Int)(c g a d:Nat)(b:Bool)(m:X l<2^30)(J:ai)(f:J[c]?=S (fm g l))(h:J[a]?=S (.row 99 2 16 d b [ct p])):PC A 94 [.own c g,.I (X l),.own a d] J (λr e=>r=.own c (g+1)/\e=J.set c (fm (g+1) (l++[p]))):=by refine aT func94 p94.2 λj k=>an ?_;have i:J[c]?=S (.row 99 2 16 g Z (l.map ct)):=f;simp only[p94,SS,seval];simp only[i,h,ab,VV,Int.reduceBEq,Int.reduceBNe,Nat.reduceAdd,Nat.reduceSub,Nat.reduceLeDiff,Nat.reduceEqDiff,Int.reduceToNat,reduceIte,reduceCtorEq];refine⟨⟨by omega,by omega⟩,nofun,λ_=>⟨⟨by omega,by unfold maxLen;omega⟩,?_⟩⟩;exact fp rfl (Wk.refl _ _) rfl ⟨rfl,by simp[fm]⟩
def MR{k a b c ga gb gc:Nat}(h:uV J k a b c)(d B:Ob)(o:mK (X J) d)(n:mK (X J) B)(e:Ev)(i:e.axW=7)(j:e.a≠e.b): PC A 44 [.ptr k 0,.agg e.axV] (jZ J k a b c (eW (.own a ga) (.own b gb) (.own c gc)) d B (fm gc [])) (λr m=>r=.I 0/\m=jZ J k a b c (eW (.own a ga) (.own b gb) (.own c (gc+1))) d B (fm (gc+1) [fx e.a e.b])):=by
 obtain⟨p,f,g,s,u⟩:=e;simp only at i j;subst i;refine aT func44 p44.2 λl t=>an ?_;have q:(f==g)=Z:=by simpa using j
 simp only[p44,SS,seval];simp only[Ev.axV,En.axV,eW,fm,h.all,VV,seval];refine ak (EG f g _) rfl ?_;simp only[ct,h.all,VV,seval];refine ak (acE (fx f g) 90 c gc _ (by simp only[h.all,fm,aq])) (by simp only[ct,VV,seval]) ?_;simp only[h.all,q,VV,seval];refine ak (Kb [] (fx f g) c gc (X J+2) 0 Z (by simp) _ (by simp only[h.all,fm,aq]) (by simp only[h.all,ct,cA,aG])) (by simp only[ct,aj,VV,seval]) ?_;simp only[h.all,fm,ct,aw,az,aq,VV,seval];exact kc l (kE h.la h.lb h.lc) o n trivial (.inr rfl) rfl (by simp[LW]) ⟨rfl,rfl⟩
def kinds:(h=1\/h=2\/h=9\/h=10\/h=11)\/(h=3\/h=7\/h=8)\/(h=4\/h=5\/h=6)\/(h<1\/11<h):=by omega
def noK(h:v<1\/11<v):(v==1)=Z/\(v==2)=Z/\(v==3)=Z/\(v==4)=Z/\(v==5)=Z/\(v==6)=Z/\(v==7)=Z/\(v==8)=Z/\(v==9)=Z/\(v==10)=Z/\(v==11)=Z:=by simp only[fW,gj];omega
def EO{n:Net}{e:Ev}(h:e.axW<1\/11<e.axW):jz n e=Z:=by rw[jz,ao (by omega),ao (by omega),ao (by omega)]
def Dl(e:Ev)(J:ai):bh A 41 [.agg L.axV,.agg e.axV] J (.b (jz L e)):=by
 refine aT func41 p41.2 λd k=>?_;have g:=@EO L e;obtain⟨f,a,b,m,l⟩:=e;simp only at g;simp only[p41,SS,seval];refine cD.cutAt (.more (.cM _ _)) λR i=>?_;simp only[Net.axV,Ev.axV,En.axV,ab,↓IT,VV,seval];refine ak (nG a L.aM.length _) rfl ?_;simp only[↓IT,VV,seval];refine i _ (cD.fG (fr':=(uu 2 (.ptr (X J) 0::.ptr (X J+1) 0::uu 1 (.b (Nc a L.aM.length)::uu 38 [])))) ?_ (by repeat' constructor));clear i R;refine an ?_;rcases kinds f with h|h|h|h
 .rcases h with rfl|rfl|rfl|rfl|rfl;all_goals
   simp only[↓IT,VV,seval];exact aS d rfl (by simp[LW]) ⟨by simp[Pm.cM,jz],rfl⟩
 .rcases h with rfl|rfl|rfl;all_goals
   cases j:Nc a L.aM.length;.simp only[ab,↓IT,VV,seval];refine cm (c:=Z) (v:=.u) (by simp only[↓IT,VV,seval]<;>rfl) (λh=>by cases h) rfl ?_;simp only[↓IT,VV,seval];exact aS d rfl (by simp[LW]) ⟨by simp[Pm.cM,jz,j],rfl⟩
   simp only[ab,↓IT,VV,seval];refine cm (c:=true) (by simp only[↓IT,VV,seval]<;>rfl) (λ_=>nG b L.aM.length _) rfl ?_;simp only[↓IT,VV,seval];exact aS d rfl (by simp[LW]) ⟨by simp[Pm.cM,jz,j],rfl⟩
 .rcases h with rfl|rfl|rfl;all_goals
   simp only[ab,↓IT,VV,seval];refine ak (nG m L.aW.length _) rfl ?_;simp only[↓IT,VV,seval];exact aS d rfl (by simp[LW]) ⟨by simp[Pm.cM,jz],rfl⟩
 simp only[noK h,↓IT,VV,seval];exact aS d rfl (by simp[LW]) ⟨by rw[g h];rfl,rfl⟩
def ue:Bool×Bool×Bool×Bool :=if h=1\/h=2\/h=9\/h=10\/h=11 then(G,Z,Z,G)else if h=3\/h=7\/h=8 then(G,G,Z,G)
 else if h=4\/h=5\/h=6 then(Z,Z,G,G)else(Z,Z,Z,Z)
def Zz:bh A 99 [.I h] T (.iS [.b (ue h).1,.b (ue h).2.1,.b (ue h).2.2.1,.b (ue h).2.2.2]):=by
 refine aT func99 p99.2 λc d=>an ?_;simp only[p99,SS,seval];rcases kinds h with a|a|a|a
 .rcases a with rfl|rfl|rfl|rfl|rfl;all_goals
   simp only[↓IT,VV,seval];exact bt rfl ⟨rfl,rfl⟩
 .rcases a with rfl|rfl|rfl;all_goals
   simp only[↓IT,VV,seval];exact bt rfl ⟨rfl,rfl⟩
 .rcases a with rfl|rfl|rfl;all_goals
   simp only[↓IT,VV,seval];exact bt rfl ⟨rfl,rfl⟩
 have e:ue h=(Z,Z,Z,Z):=by rw[ue,ao (by omega),ao (by omega),ao (by omega)]
 simp only[noK a,e,↓IT,VV,seval];exact bt rfl ⟨rfl,rfl⟩
set_option maxRecDepth 4000 in
def JD(e:Ev)(J:ai):bh A 47 [.agg L.axV,.agg e.axV] J (.b (!jz L e)):=by
 refine aT func47 p47.2 λg u=>?_;have n:=@EO L e;obtain⟨c,a,b,m,s⟩:=e;simp only at n;simp only[p47,SS,seval];refine cD.cutAt (.more (.cM _ _)) λR q=>?_;simp only[Net.axV,Ev.axV,En.axV,ab,↓IT,VV,seval];refine ak (Zz c _) rfl ?_;simp only[↓IT,VV,seval];refine q _ (cD.fG (fr':=(uu 2 (.ptr (X J) 0::.ptr (X J+1) 0::uu 1 (.b (ue c).1::.b (ue c).2.1::.b (ue c).2.2.1::.b (ue c).2.2.2::uu 58 [])))) ?_ (by repeat' constructor));clear q R;refine an ?_;have k:∀(i:Int) (l:Nat),Nc i l=!(decide (i<0)||decide ((l:Int)<=i)):=λi l=>by simp only[Nc];by_cases f:i<0<;>by_cases d:(l:Int)<=i<;>simp[f,d]<;>omega
 have e:=@ue.eq_1 c;have j:=@jz.eq_1 L ⟨c,a,b,m,s⟩;simp only[k]at j;rcases kinds c with h|h|h|h
 .rw[aO h]at e j;rw[e,j];clear n e j h k;cases f:decide (a<0)
  .cases d:decide ((L.aM.length:Int)<=a);.simp only[f,d,↓IT,ab,VV,seval];exact aS g rfl (by simp[LW]) ⟨rfl,rfl⟩
   simp only[f,d,↓IT,ab,VV,seval];exact aS g rfl (by simp[LW]) ⟨rfl,rfl⟩
  simp only[f,↓IT,ab,VV,seval];exact aS g rfl (by simp[LW]) ⟨rfl,rfl⟩
 .have o:¬(c=1\/c=2\/c=9\/c=10\/c=11):=by omega
  rw[ao o,aO h]at e j;rw[e,j];clear n e j h o k;cases f:decide (a<0)
  .cases d:decide ((L.aM.length:Int)<=a)
   .cases p:decide (b<0)
    .cases r:decide ((L.aM.length:Int)<=b);.simp only[f,d,p,r,↓IT,ab,VV,seval];exact aS g rfl (by simp[LW]) ⟨rfl,rfl⟩
     simp only[f,d,p,r,↓IT,ab,VV,seval];exact aS g rfl (by simp[LW]) ⟨rfl,rfl⟩
    simp only[f,d,p,↓IT,ab,VV,seval];exact aS g rfl (by simp[LW]) ⟨rfl,rfl⟩
   simp only[f,d,↓IT,ab,VV,seval];exact aS g rfl (by simp[LW]) ⟨rfl,rfl⟩
  simp only[f,↓IT,ab,VV,seval];exact aS g rfl (by simp[LW]) ⟨rfl,rfl⟩
 .have o:¬(c=1\/c=2\/c=9\/c=10\/c=11):=by omega
  have d:¬(c=3\/c=7\/c=8):=by omega
  rw[ao o,ao d,aO h]at e j;rw[e,j];clear n e j h o d k;cases f:decide (m<0)
  .cases d:decide ((L.aW.length:Int)<=m);.simp only[f,d,↓IT,ab,VV,seval];exact aS g rfl (by simp[LW]) ⟨rfl,rfl⟩
   simp only[f,d,↓IT,ab,VV,seval];exact aS g rfl (by simp[LW]) ⟨rfl,rfl⟩
  simp only[f,↓IT,ab,VV,seval];exact aS g rfl (by simp[LW]) ⟨rfl,rfl⟩
 have t:ue c=(Z,Z,Z,Z):=by rw[ue,ao (by omega),ao (by omega),ao (by omega)]
 rw[t,n h];simp only[↓IT,VV,seval];exact aS g rfl (by simp[LW]) ⟨rfl,rfl⟩
def agk:PC A 14 [.sl 1 (P.map cG)] T (λr a=>r=.ptr (X T) 0/\a=T++[.box 84 [.sl 1 (P.map cG),.I ((0:Nat):Int)]]):=by refine aT func14 p14.2 λb c=>an ?_;simp only[p14,SS,seval];simp only[V.pure,VV,seval];exact fp rfl (Wk.refl _ _) rfl ⟨rfl,rfl⟩
def aoC:Int:=R.foldl (λa l=>IntKind.i64.wrap (a+X l)) 0
def PR:ar:=[.sl 1 (P.map cG)]
def aoA(f:X R<2^63):∀(c d:List (bH)) (a:Int),R=d++c ->((fj 3 (fh (.I (c.foldl (λa l=>IntKind.i64.wrap (a+X l)) a)) (fj 15 fo))) λn=>K (.exit 0) ⟨n,J⟩) ->gF k A ad1 K (X c+1) ⟨(uu 3 (.I a::uu 2 (.sl 1 (R.map PR)::.I (X R)::.I (X d)::uu 10 []))),J⟩:=by
 intro c;induction c with
 |nil =>intro d a e g;have e:=dH e;subst e;refine aD λb i=>?_;simp only[ad1,VV,seval];exact⟨λh=>by simp at h,λ_=>g ..⟩
 |cons x c ih =>intro d a e g;subst e;have j:=eE d x (by simp at f;omega);have m:gi (List.map PR (d++x::c)) (X d) 0=S (.sl 1 (x.map cG)):=oE;refine aD λb i=>?_;simp only[ad1,al,m,j,ab,VV,seval];refine⟨λ_=>⟨by simp;omega,?_⟩,λh=>by simp at h<;>omega⟩;refine i _ (bL ?_ (ih (d++[x]) (IntKind.i64.wrap (a+X x)) (by simp) g));repeat' constructor
def Vk:bh A 9 [.sl 1 (R.map PR)] T (.b (decide (160<aoC R))):=by
 refine aT func9 p9.2 λd c=>an ?_;have a:=oI (c 0 _ rfl).1;rw[ab]at a;simp only[p9,SS,seval];simp only[ab,VV,seval];refine cD.bL ?_ (X R+1) (aoA R a R [] 0 rfl ?_);.repeat' constructor
 simp only[JE];intros;simp only[VV,seval];exact bt rfl ⟨rfl,rfl⟩
