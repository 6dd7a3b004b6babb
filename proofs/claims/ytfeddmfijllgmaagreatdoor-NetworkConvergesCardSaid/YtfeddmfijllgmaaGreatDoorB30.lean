/- A part of a proof; the claim's last text says of what. -/
import Derived.Test.YtfeddmfijllgmaaGreatDoorB28
import Derived.Test.YtfeddmfijllgmaaGreatDoorB29
set_option linter.all false
set_option maxHeartbeats 1000000
open Option renaming some->S,none->Z
open Bool renaming true->θ,false->G
open Go.Proofs.Tryz renaming prog->κ
open List renaming length->Y

namespace Go.Proofs.Tryz
open Go Go.Pm Go.Bt Go.RowKit Go.Maps Go.Sort Go.Shelf
variable(a:aV)(l:List aV)(X:List (aR×aV))(m:List En){o U:aV}{J:aj}{K:bL}
def ahm:(prog.info? 9).map (λi=>(i.zero.map (λz=>z.cells.size),i.size,i.bytes))=S (S 1,1,16):=by kernel_rfl
def Sz(id:Nat)(J:aj):PC κ 231 [.mp id] J (λr s=>r=.fn 263 [.ptr J.length 0]/\s=J++[.box 230 [.mp id]]):=by
 intro B t w q c g k;have d:=k.2 0 _ rfl;have e:c=#[c.getD 0 undef]:=vs1 k.1;obtain⟨r,l,f⟩:∃r,q id=.map (S r)/\c.getD 0 undef=.map (S r):=by generalize c.getD 0 undef=v at d;cases d with|mp _ r h l=>exact⟨r,l,rfl⟩
 rw[f]at d;rw[e,f];refine((callsIn_wide (n:=5)).1 (AnyZ.keys_in Tryz.ac3 Fence.wide 5 trivial rfl (S r) w)).mono ?_;rintro e w' ⟨rfl,rfl⟩;have m:=g.Aw (w':=w.alloc (.cells #[.map (S r)] 230)) (.box 230 [.mp id]) (.pointer (S ⟨w.heap.size,0,Z⟩)) (om ((Below.refl _ w).alloc (aM _) _))
  (λb o=>by simp only[nQ,ab]at o;omega)
  (λp=>⟨w.heap.size,#[.map (S r)],rfl,g.base,(show(w.heap.push (Obj.cells #[.map (S r)] 230))[w.heap.size]?=_ by simp),rfl,λj x a=>by
   cases j with
   |zero=>simp only[aC,ab]at a;subst a;exact⟨_,rfl,d.mono p⟩
   |succ j=>simp at a⟩);refine⟨_,_,_,_,rfl,⟨rfl,rfl⟩,m.1,?_,m.2.eY⟩;refine .fn _ _ _ rfl λi x a=>?_;cases i with
 |zero =>simp only[aC,ab]at a;subst a;exact .ptr _ _ w.heap.size ⟨230,[.mp id],by simp⟩ (by rw[iy])
 |succ i=>simp at a
def Il{β:Type}{ve:β->V}{id k E:Nat}{l:List (aR×β)}{J:aj}(hk:J[k]?=S (.box 230 [.mp id]))(M:J[id]?=S (.map 9 E (emap keS ve l))) (hd:(l.map (·.1)).Nodup) (hl:Y l<2^40) : PC κ 230 [.fn 263 [.ptr k 0]] J (λr J'=>r=.own J.length 0/\J'=J++[.row 9 1 16 0 G (((l.map (·.1)).mergeSort Bt.leB).map sq)]):=by
 obtain⟨i,z,hi,hz,h1,h2,h3⟩:=tq ahm;refine PC.ofRow ⟨by decide,i,z,hi,hz,h1,h2,h3⟩ λB w0 w μ A U P=>?_;have f:prog.underlying 9=S .string:=by kernel_rfl
 obtain⟨b,D,F,X,Q,GB⟩:=acD U M f hd (by simp only[maxLen];omega);have h0:=P.2 0 _ rfl;have e:A=#[A.getD 0 undef]:=vs1 P.1;obtain⟨a,K,AK⟩:∃a,μ k=.pointer (S ⟨a,0,Z⟩)/\A.getD 0 undef=.func (.func 263) #[] #[.pointer (S ⟨a,0,Z⟩)]:=by
  generalize A.getD 0 undef=v at h0;cases h0 with
  |fn _ _ L hl hu =>have h4:=hu 0 _ rfl;have W:L=#[L.getD 0 undef]:=vs1 (by simpa using hl.symm);generalize g:L.getD 0 undef=u at h4 W;cases h4 with|ptr _ _ a h F=>exact⟨a,F,by rw[W]⟩
 rw[e,AK];obtain⟨b',cs,d,hB,hh,qF,C⟩:=U.TI hk;rw[K]at d;simp only[Value.pointer.injEq,ab,Addr.mk.injEq,cK]at d;subst d;have nV:w.cell? ⟨a,0,Z⟩=S (.map (S b)):=by
  obtain⟨u,m,O⟩:=C 0 _ rfl;have:u=.map (S b):=by cases O with|mp _ r h p=>rw[F]at p;exact p.symm
  rw[this]at m;exact m
 have I:a<w.heap.size:=(cY.1 hh).1;have N:SeqGives Fence.wide 2 κ 263 #[.pointer (S ⟨a,0,Z⟩)] encStr (λo=>o.Perm (strKeys D)) (Maps.size D) w :=
  AnyZ.keys_gives (ρ:=Tryz.JQ) { Tryz.ac3 with } Fence.wide _ trivial rfl (by omega) a b _ D w I nV X;have QG:=AnyZ.sorted_in Tryz.abf Fence.wide 5 trivial trivial trivial trivial rfl (by omega) (Tryz.afw _) (enters_of func262 (by kernel_rfl) rfl) 263 #[.pointer (S ⟨a,0,Z⟩)] trivial (enters_of func263 (by kernel_rfl) rfl) _ _
  (by rw[Q];simp only[maxLen];omega) (by rw[Q];omega) w N;refine((callsIn_wide (n:=5)).1 QG).mono ?_;rintro e w' ⟨v,o,rfl,hp,T,_,hb⟩;have q:o.Perm (l.map (·.1)):=hp.trans GB;have H:(o.mergeSort λx y=>decide (x<=y))=(l.map (·.1)).mergeSort Bt.leB:=mergeSort_of_perm q;rw[H]at T;have t:Y (((l.map (·.1)).mergeSort Bt.leB).map sq)=Y o:=by rw[aa,List.length_mergeSort,q.length_eq]
 refine⟨v,_,rfl,by rw[t];exact T,hb,?_,?_⟩;.intro r R;rw[cv]at R;obtain⟨s,_,rfl⟩:=R;rfl
 intro i j x c;simp only[gv,bR]at c;cases g:((l.map (·.1)).mergeSort Bt.leB)[i]? with
 |none=>rw[g]at c;simp at c
 |some s =>rw[g]at c;simp only[dV,kz,sq]at c;cases j with|zero =>simp only[aC,ab]at c;subst c;refine⟨rfl,encStr s,by rw[QD,cu,bR,g];rfl,.s s _ (by simp) ?_⟩;have LN:s∈l.map (·.1):=(uq _ _).mem_iff.1 (aS g);exact strKeys_le X f s (GB.mem_iff.2 LN)|succ j=>simp at c
def Jr(h:wj [gJ o.aY.bS U.aY.bS,gJ o.aY.azW U.aY.azW,gJ o.aY.time U.aY.time,gJ o.azT U.azT]=0):iq o U=jN (az6 o).1 (az6 U).1:=by simp only[iq,h,gA,gu,bw]
def Js(h:wj [gJ o.aY.bS U.aY.bS,gJ o.aY.azW U.aY.azW,gJ o.aY.time U.aY.time,gJ o.azT U.azT]≠0): iq o U=wj [gJ o.aY.bS U.aY.bS,gJ o.aY.azW U.aY.azW,gJ o.aY.time U.aY.time,gJ o.azT U.azT]:=by simp only[iq,aQ h]
def uD(b:aV)(e:a.azU)(d:b.azU)(J:aj):bh κ 117 [.agg a.azR,.agg b.azR] J (.I (iq a b)):=by
 refine aW func117 ap9.2 λc f=>aq ?_;simp only[ap9,SS,seval];simp only[aV.azR,cL.azR,En.azR,VV,seval];refine⟨?_,?_⟩;all_goals
  refine al (sd _ _ _) rfl ?_;simp only[VV,seval];refine al (sd _ _ _) rfl ?_;simp only[VV,seval];refine al (sd _ _ _) rfl ?_;simp only[VV,seval];refine al (sd _ _ _) rfl ?_;simp only[VV,seval];refine iN (zs:=[.sl 1 ([gJ a.aY.bS b.aY.bS,gJ a.aY.azW b.aY.azW,gJ a.aY.time b.aY.time,gJ a.azT b.azT].map cN)]) (.cons (.lit _ _) .nil) (Py _ _) ?_;simp only[VV,seval];refine⟨λh=>?_,λh=>?_⟩
  .have h:wj [gJ a.aY.bS b.aY.bS,gJ a.aY.azW b.aY.azW,gJ a.aY.time b.aY.time,gJ a.azT b.azT]≠0:=by simpa using h
   rw[Js h];exact gm c (by rfl) (by simp[LW])
  have h:wj [gJ a.aY.bS b.aY.bS,gJ a.aY.azW b.aY.azW,gJ a.aY.time b.aY.time,gJ a.azT b.azT]=0:=by simpa using h
  rw[Jr h];refine al (BH a e _) rfl ?_;simp only[VV,seval];refine al (BH b d _) rfl ?_;simp only[VV,seval];refine al (Hz (az6 a).1 (az6 b).1 _) rfl ?_;simp only[VV,seval];exact gm c (by rfl) (by simp[LW])
def Y9(b:aV)(d:a.azU)(c:b.azU)(J:aj):bh κ 260 [.agg a.azR,.agg b.azR] J (.b (lp a b)):=by refine aW func260 aos.2 λf h=>aq ?_;simp only[aos,SS,seval];simp only[aV.azR,cL.azR,En.azR,VV,seval];refine al (G9 a.aY b.aY _) rfl ?_;simp only[VV,seval];refine bV (by simp only[VV,seval]<;>rfl) (λ_=>uD a b d c _) rfl ?_;simp only[VV,seval];refine bA f (.inr rfl) (by simp only[RS,seval];rfl) (by simp[LW]) ⟨?_,rfl⟩;simp only[Pm.one,aX,bB,lp,V.b.injEq];by_cases e:0<jH a.aY b.aY<;>by_cases g:jH a.aY b.aY=0<;>simp[e,g]
def ag2{n:Nat}(m k:V)(l:bU)(f:Y l<2^62):∀(a b:bU),l=b++a ->(wj a=0->((fj 2 (fh (m) (fh (k) (fj 63 fo)))) λj=>K (.exit 0) ⟨j,J⟩))->(wj a≠0->((fj 4 (fh (.I (wj a)) (fj 62 fo))) λj=>K .ret ⟨j,J⟩)) ->gw n κ Pj K (Y a+1) ⟨(uu 2 (m::k::uu 33 (.sl 1 (l.map cN)::.I (Y l)::.I (Y b)::uu 27 []))),J⟩:=by
 intro a;induction a with
 |nil =>intro b d g _;have d:=dL d;subst d;refine az λR o=>?_;simp only[Pj,VV,seval];exact⟨λh=>by simp at h,λ_=>g rfl ..⟩
 |cons c a ih =>
 intro b d g i;subst d;have p:gv (List.map cN (b++c::a)) b.length 0=S (.I c):=qK;have q:=dD b c (by simp at f;omega);refine az λR o=>?_;simp only[Pj,ak,p,q,aa,VV,seval];refine⟨λ_=>⟨by simp;omega,λh=>?_,λh=>?_⟩,λh=>by simp at h<;>omega⟩
 .have h:c≠0:=by simpa using h
  have e:wj (c::a)=c:=by simp only[wj,aQ h]
  rw[e]at i;exact i h ..
 have h:c=0:=by simpa using h
 have e:wj (c::a)=wj a:=by simp only[wj,h,gA,gu,bw]
 rw[e]at g i;refine o _ (bX ?_ (ih (b++[c]) (by simp) g i));repeat' constructor
def xG(a b:aV)(k:a.azU)(i:b.azU)(J:aj):bh κ 123 [.agg a.azR,.agg b.azR] J (.I (iq a b)):=by
 refine aW func123 ap2.2 λf l=>aq ?_;simp only[ap2,SS,seval];simp only[aV.azR,cL.azR,En.azR,VV,seval];refine al (pg _ _ _) rfl ?_;simp only[VV,seval];refine al (pg _ _ _) rfl ?_;simp only[VV,seval];refine al (pg _ _ _) rfl ?_;simp only[VV,seval];refine al (pg _ _ _) rfl ?_;simp only[V.pure,VV,seval];refine cB.bX (fr':=(uu 2 (.ptr J.length 0::.ptr (J.length+1) 0::uu 33 (.sl 1 ([gJ a.aY.bS b.aY.bS,gJ a.aY.azW b.aY.azW,gJ a.aY.time b.aY.time,gJ a.azT b.azT].map cN)::.I (4:Nat)::.I (([]:bU).length:Nat)::uu 27 [])))) ?_ 5 (ag2 (.ptr J.length 0) (.ptr (J.length+1) 0) [gJ a.aY.bS b.aY.bS,gJ a.aY.azW b.aY.azW,gJ a.aY.time b.aY.time,gJ a.azT b.azT] (by simp) _ [] rfl (λh=>?_) (λh=>?_));.repeat first|exact .nil|refine .cons (.refl _) ?_|refine .cons (.lit _ _) ?_|refine .cons (.forget _) ?_
 .simp only[JE];intros;simp only[VV,seval];refine al (uC a k _) rfl ?_;simp only[VV,seval];refine al (uC b i _) rfl ?_;simp only[iB,kN,VV,seval];rw[Jr h];have m:=NB (az6 a).1 (az6 b).1;have g:=oS (a:=(az6 a).1) (b:=(az6 b).1);refine⟨λd=>?_,λd=>⟨λc=>?_,λc=>?_⟩⟩
  .have e:jN (az6 a).1 (az6 b).1 = -1:=by have:=ic d;omega
   rw[e];exact gm f (by rfl) (by simp[LW])
  .have n1:=qM d;have n2:jN (az6 a).1 (az6 b).1≠0:=λj=>by rw[g.1 j]at c;simp at c
   have e:jN (az6 a).1 (az6 b).1=1:=by omega
   rw[e];exact gm f (by rfl) (by simp[LW])
  have e:jN (az6 a).1 (az6 b).1=0:=by rw[d]at c;exact g.2 (by simpa using c)
  rw[e];exact gm f (by rfl) (by simp[LW])
 simp only[JE];intros;rw[Js h];exact gm f (by rfl) (by simp[LW])
def UM(b:aV)(d:a.azU)(c:b.azU)(J:aj):bh κ 69 [.agg a.azR,.agg b.azR] J (.b (lp a b)):=by refine aW func69 p69.2 λf h=>aq ?_;simp only[p69,SS,seval];simp only[aV.azR,cL.azR,En.azR,VV,seval];refine al (BS a.aY b.aY _) rfl ?_;simp only[VV,seval];refine bV (by simp only[VV,seval]<;>rfl) (λ_=>xG a b d c _) rfl ?_;simp only[VV,seval];refine bA f (.inr rfl) (by simp only[RS,seval];rfl) (by simp[LW]) ⟨?_,rfl⟩;simp only[Pm.one,aX,bB,lp,V.b.injEq];by_cases e:0<jH a.aY b.aY<;>by_cases g:jH a.aY b.aY=0<;>simp[e,g]
def acQ(m:Y l<=1024)(r:∀o∈l,o.azU)(x:aV)(a:fx)(n i:Int)(g:Nat):∀(b d:List aV),l=d++b ->((fj 3 (fh (.own J.length g) (fj 1 (fh (.ptr (Y J+1) 0) (fh (.s (cX x)) (fh (.I (Y d+oH (cX x) b:Nat)) (fj 3 (fh (.sl 13 a) (fh (.I n) (fh (.I i) (fj 59 fo))))))))))) λq=>K (.exit 2) ⟨q,J++[gl g G l,.box 57 x.azR]⟩) ->gw (Y J) κ Sj K (Y b+1) ⟨(uu 3 (.own J.length g::uu 1 (.ptr (Y J+1) 0::.s (cX x)::.I (Y d)::uu 3 (.sl 13 a::.I n::.I i::uu 59 [])))),J++[gl g G l,.box 57 x.azR]⟩:=by
 intro b;induction b with
 |nil =>
  intro d j f;have j:=dL j;subst j;have k:decide ((Y l:Int)<(Y l:Int))=G:=by simp
  simp only[oH,cu]at f;refine az λR p=>?_;simp only[Sj,gl,k,aa,V.pure,VV,seval];refine⟨by simp,.u,by simp,?_⟩;refine bV (c:=G) (v:=.s []) (by simp only[VV,seval]<;>rfl) (λh=>by simp at h) rfl ?_;simp only[VV,seval];exact f ..
 |cons y b ih =>
 intro d j f;have z:=r y (by rw[j];simp);have A:=gY j;have w:=dD d y (by omega);have t:(List.map aV.azR l).getD d.length []=y.azR:=by rw[j];exact dR
 have k:decide ((Y d:Int)<(Y l:Int))=θ:=by simp;omega
 refine az λR p=>?_;simp only[Sj,gl,ak,t,k,aV.azR,cL.azR,En.azR,aa,V.pure,VV,seval];refine⟨by omega,_,rfl,?_⟩;refine bV (by simp only[VV,seval]<;>rfl) (λ_=>An y z _) rfl ?_;simp only[w,VV,seval];simp only[oH]at f;refine⟨λh=>?_,λh=>?_⟩
 .rw[aQ h]at f;have e:Y d+(oH (cX x) b+1)=Y (d++[y])+oH (cX x) b:=by simp;omega
  rw[e]at f;refine p _ (bX ?_ (ih (d++[y]) (by rw[j];simp) f));repeat' constructor
 rw[h]at f;simp only[aP,bw,cu]at f;exact f ..
def acP(bc:bT J)(l:List aV)(ad:l.length<=1024)(hs:∀o∈l,o.azU):∀(f d a:List aV) (g:Nat),l=d++f->a.length<=d.length->(∀o∈a,o∈l) ->(∀g,((fj 3 (fh (.own J.length g) (fj 69 fo))) λZZ=>K (.exit 0) ⟨ZZ,J++[gl g G (f.foldl wx a)]⟩)) ->gw J.length κ Xo K (f.length+1) ⟨(uu 3 (.own J.length g::uu 7 (.sl 13 (l.map aV.azR)::.I l.length::.I d.length::uu 59 []))),J++[gl g G a]⟩:=by
 intro f;induction f with
 |nil =>intro d a g B C T h1;have B:=dL B;subst B;refine az λR hR=>?_;simp only[Xo,VV,seval];exact⟨λh=>by simp at h,λ_=>h1 g ..⟩
 |cons x f ih =>
 intro d a g B C T h1;have hx:x∈l:=by rw[B];simp
 have sx:=hs x hx;have EI:=gY B;have hw:=dD d x (by omega);have dz:(List.map aV.azR l).getD d.length []=x.azR:=by rw[B];exact dR
 have hd:decide ((d.length:Int)<(l.length:Int))=θ:=by simp;omega
 refine E7 λR hR=>?_;simp only[Xo];refine cB.cut λN D=>?_;simp only[hd,VV,seval];refine D _ (cB.fw (fr':=(uu 3 (.own J.length g::uu 7 (.sl 13 (l.map aV.azR)::.I l.length::.I d.length::.b θ::uu 58 [])))) ?_ (by repeat' constructor));clear D N;refine cB.cut λN D=>?_;simp only[VV,seval];refine D _ ?_;clear D N;refine cB.aep λN D=>?_;have next:∀(m:List aV) (k P:Nat) {F:aj} {q:aB},wx a x=m->F[k]?=S (gl P G m) ->
   rk q (uu 3 (.own (J.length+k) P::uu 7 (.sl 13 (l.map aV.azR)::.I l.length::.I d.length::uu 59 [])))->N ⟨q,J++F⟩:=by
  intro m k P F q U M O;have hl:=YO a x;refine D _ (cB.wk ((Wk.fw O).trans (Wk.SI (ys:=(uu 3 (.own J.length 0::uu 7 (.sl 13 (l.map aV.azR)::.I l.length::.I d.length::uu 59 [])))) (os:=[gl 0 G m]) [k] bc (by simp) rfl (λi k' H=>?_) ?_)) (aq ?_))
  .rcases i with _|i;.simp only[aC,ab]at H;subst H;exact⟨_,M,rfl,rfl⟩
   simp at H
  .repeat first|exact .nil|refine .cons (.eY _ (by constructor)) ?_|refine .cons (.own 0 k _ _ _ P _ _ rfl M) ?_
  simp only[hw,VV,seval];refine hR _ (bX ?_ (ih (d++[x]) m 0 (by rw[B];simp) (by rw[<- U];simp;omega) (λo C=>?_) ?_));.repeat' constructor
  .rw[<- U]at C;rcases YN C with rfl|C;.exact hx
   exact T o C
  rw[<- U];exact h1
 clear D;refine cB.nQ ?_;refine cB.cut λp j=>?_;simp only[gl,ak,dz,hd,aV.azR,cL.azR,En.azR,aa,V.pure,VV,seval];refine⟨⟨by omega,by omega⟩,?_⟩;refine j _ (cB.fw (fr':=(uu 3 (.own J.length g::uu 1 (.ptr (J.length+1) 0::uu 5 (.sl 13 (l.map aV.azR)::.I l.length::.I d.length::uu 59 []))))) ?_ (by repeat' constructor));clear j p;refine cB.cut λp j=>?_;simp only[V.pure,VV,seval];refine al (An x sx _) rfl ?_;simp only[VV,seval];refine j _ (cB.fw (fr':=(uu 3 (.own J.length g::uu 1 (.ptr (J.length+1) 0::.s (cX x)::uu 4 (.sl 13 (l.map aV.azR)::.I l.length::.I d.length::uu 59 []))))) ?_ (by repeat' constructor));clear j p;refine cB.cut λp j=>?_;simp only[VV,seval];refine⟨λh=>next a 0 g (by simp only[wx,aQ (show cX x=[]by simpa using h)]) rfl (by repeat' constructor),λh=>?_⟩;have jw:¬cX x=[]:=by simpa using h
 refine j _ ?_;clear j p;refine cB.cut λp j=>?_;simp only[VV,seval];refine j _ (cB.fw (fr':=(uu 3 (.own J.length g::uu 1 (.ptr (J.length+1) 0::.s (cX x)::.I (([]:List aV).length:Nat)::uu 3 (.sl 13 (l.map aV.azR)::.I l.length::.I d.length::uu 59 []))))) ?_ (by repeat' constructor));clear j p;have W:∀o∈a,o.azU:=λo C=>hs o (T o C);have ac:=M3 (cX x) a;refine cB.aep λp j=>?_;refine cB.nQ (cB.kT (a.length+1) (acQ a (by omega) W x (l.map aV.azR) l.length d.length g a [] rfl ?_));simp only[JE];intros;simp only[ai,aG,VV,seval];refine j _ (cB.fw (fr':=(uu 3 (.own J.length g::uu 1 (.ptr (J.length+1) 0::.s (cX x)::.I (oH (cX x) a:Nat)::uu 3 (.sl 13 (l.map aV.azR)::.I l.length::.I d.length::uu 59 []))))) ?_ (by repeat' constructor));clear j p;have oP:=SQ (o:=x) (l:=a);have A:=λy=>SP (o:=x) (l:=a) (y:=y);have XW:wx a x=xW x a:=by simp only[wx,aw jw]
 generalize oH (cX x) a=k at ac oP A |-;refine cB.cut λp j=>?_;have E:(∀y,a[k]?=S y->cX y≠cX x)->∀{q:aB},rk q (uu 3 (.own J.length g::uu 1 (.ptr (J.length+1) 0::.s (cX x)::.I k::uu 3 (.sl 13 (l.map aV.azR)::.I l.length::.I d.length::uu 34 (.b θ::uu 24 [])))))->p ⟨q,J++[gl g G a,.box 57 x.azR]⟩:=by
  intro r q O;have r:=oP r;rw[<- XW]at r;refine j _ (cB.fw (cB.atP rfl (aq ?_)) O);have ht:(a.map aV.azR).take k=(a.take k).map aV.azR:=gD.symm;have S9:((a.map aV.azR).drop k).take (a.length - k)=(a.drop k).map aV.azR:=by rw[<- List.map_drop];exact cx (by simp)
  have eW:(a.take k).length=k:=by simp;omega
  cases L:((a.take k).map aV.azR).isEmpty with
  |true =>
   have S3:a.take k=[]:=by simpa using L
   simp only[gl,ht,L,ak,aV.azR,cL.azR,En.azR,aa,gq,aP,bw,V.pure,maxLen,VV,Int.reduceBEq,Int.reduceBNe,Nat.reduceAdd,Nat.reduceSub,Nat.reduceLeDiff,Nat.reduceEqDiff,Int.reduceToNat,reduceIte,reduceCtorEq];simp only[S9,eW,ah,aa,ca,VV,Int.reduceBEq,Int.reduceBNe,Nat.reduceAdd,Nat.reduceSub,Nat.reduceLeDiff,Nat.reduceEqDiff,Int.reduceToNat,reduceIte,reduceCtorEq];refine⟨by omega,by omega,by omega,by omega,by omega,by omega,by omega,?_⟩;rw[S3]at r;exact next _ 2 1 r (by simp[gl,aV.azR,cL.azR,En.azR]) (by repeat' constructor)
  |false =>simp only[gl,ht,L,ak,aV.azR,cL.azR,En.azR,aa,aP,bw,V.pure,maxLen,VV,seval];simp only[S9,eW,ah,aa,ca,VV,seval];refine⟨by omega,by omega,by omega,by omega,by omega,by omega,by omega,?_⟩;exact next _ 2 2 r (by simp[gl,aV.azR,cL.azR,En.azR]) (by repeat' constructor)
 have Q:∀y,a[k]?=S y->cX y=cX x->∀{q:aB},rk q (uu 3 (.own J.length g::uu 1 (.ptr (J.length+1) 0::.s (cX x)::.I k::uu 3 (.sl 13 (l.map aV.azR)::.I l.length::.I d.length::uu 34 (.b G::uu 24 [])))))->p ⟨q,J++[gl g G a,.box 57 x.azR]⟩:=by
  intro y w n q O;have r:=A y w n;rw[<- XW]at r;refine j _ (cB.fw (cB.atQ rfl (aq ?_)) O);have vO:=(ag.1 w).1;have t:(List.map aV.azR a).getD k []=y.azR:=by rw[aA,bR,w];rfl
  simp only[gl,ak,t,aV.azR,cL.azR,En.azR,aa,V.pure,maxLen,VV,seval];refine⟨by omega,?_⟩;refine al (UM x y sx (W y (aS w)) _) rfl ?_;simp only[gl,ak,t,aV.azR,cL.azR,En.azR,aa,V.pure,maxLen,VV,seval];refine⟨λh=>⟨by omega,vO,next (a.set k x) 0 g (by rw[r,aQ h]) ?_ (by repeat' constructor)⟩,λh=>next a 0 g (by rw[r,aw (by rw[h];simp)]) rfl (by repeat' constructor)⟩;simp[gl,aaH,aV.azR,cL.azR,En.azR]
 clear j;by_cases M:k=a.length;.simp only[M]at E;simp only[M,gl,ak,aa,V.pure,maxLen,VV,seval];refine⟨by simp,.u,by simp,?_⟩;refine bV (c:=G) (v:=.s []) (by simp only[VV,seval]<;>rfl) (λh=>by simp at h) rfl ?_;simp only[VV,seval];exact E (by simp) (by repeat' constructor)
 have vO:k<a.length:=by omega
 obtain⟨y,w⟩:∃y,a[k]?=S y:=⟨_,aD vO⟩;have t:(List.map aV.azR a).getD k []=y.azR:=by rw[aA,bR,w];rfl
 have Ft:((k:Int)==(a.length:Int))=G:=by simp;omega
 simp only[Ft,t,gl,ak,aV.azR,cL.azR,En.azR,aa,V.pure,maxLen,VV,seval];refine⟨by omega,_,rfl,?_⟩;refine bV (by simp only[VV,seval]<;>rfl) (λ_=>An y (W y (aS w)) _) rfl ?_;simp only[VV,seval];by_cases n:cX y=cX x
 .have e:(!cX y==cX x)=G:=by simp[n]
  simp only[e];exact Q y w n (by repeat' constructor)
 have e:(!cX y==cX x)=θ:=by simp[n]
 simp only[e];refine E (λz X=>?_) (by repeat' constructor);rw[w]at X;simp only[ab]at X;rw[<- X];exact n
def w9(b:∀o∈l,o.azU)(J:aj):bh κ 27 [.sl 13 (l.map aV.azR)] J (.sl 13 ((current l).map aV.azR)):=by
 refine aW func27 p27.2 λa c=>aq ?_;rw[<- Rv];simp only[p27,SS,seval];simp only[aa,VV,seval];refine⟨λh=>?_,λh=>?_⟩
 .have h:1024<Y l:=by simp at h;omega
  refine dS (xs':=[.sl 13 []]) (.inr rfl) (by simp only[mS,yy,VV,seval]) (Wk.fw (.cons (.nil _) .nil)) rfl ?_;simp only[Aa,aQ h];exact⟨rfl,by trivial⟩
 have h:¬1024<Y l:=by simp at h;omega
 refine cB.wk ((Wk.k9 (P:=κ) (J:=J) (k:=3) NT rfl).trans (Wk.fw ?_)) (cB.kT (Y l+1) (acP a l (by omega) b l [] [] 0 rfl (by simp) (by simp) ?_));.simp only[VV,seval];repeat' constructor
 intro g;simp only[JE];intros;simp only[VV,seval];refine iw 0 a (.inr rfl) (by simp only[RS,seval];rfl) rfl ?_ ?_;.simp only[aI,ar,cu,fz,kE,cG,aU,LW]
 simp only[aI,ar,cu,fz,kE,cG,aU,Aa,aw h];exact⟨rfl,trivial⟩
def akA(w:bT J)(e:Y l<=1024):∀(a c:List aV) (b:List En) (g:Nat),l=c++a->Y b+Y a<=Y l ->(∀g,((fj 3 (fh (.own J.length g) (fj 19 fo))) λt=>K (.exit 0) ⟨t,J++[.row 36 8 128 g G ((b++(a.filter λo=>o.azT==1).map (·.azV)).map En.azR)]⟩)) ->gw (Y J) κ Si K (Y a+1) ⟨(uu 3 (.own J.length g::uu 3 (.sl 13 (l.map aV.azR)::.I (Y l)::.I (Y c)::uu 13 []))),J++[.row 36 8 128 g G (b.map En.azR)]⟩:=by
 intro a;induction a with
 |nil =>intro c b g i q j;have i:=dL i;subst i;refine az λR k=>?_;simp only[Si,VV,seval];simp only[u7,ar,bI]at j;exact⟨λh=>by simp at h,λ_=>j g ..⟩
 |cons x a ih =>
 intro c b g i q j;subst i;simp only[ae]at q;have next:∀(d:List En) (n:Nat) {f:aj},Y d<=Y b+1->b++((x::a).filter λo=>o.azT==1).map (·.azV)=d++(a.filter λo=>o.azT==1).map (·.azV)->∀{R:ck} {p:aB},(∀m,gw (Y J) κ Si K (Y a+1) m->R m) ->
   rk p (uu 3 (.own J.length n::uu 3 (.sl 13 ((c++x::a).map aV.azR)::.I (Y (c++x::a))::.I (IntKind.i64.wrap ((Y c:Int)+1))::uu 13 [])))->R ⟨p,J++(.row 36 8 128 n G (d.map En.azR)::f)⟩:=by intro d n f z y R p k r;have u:=dD c x (by simp at e;omega);rw[u]at r;rw[y]at j;refine k _ (cn [_] f (cj w (by simp)) r ?_ (ih (c++[x]) d n (by simp) (by omega) j));simp only[LW,ae,ai,aG];omega
 refine az λR k=>?_;simp only[Si,aV.azR,cL.azR,En.azR,VV,seval];refine⟨λ_=>⟨by simp;omega,?_⟩,λh=>by simp at h<;>omega⟩;refine⟨λh=>?_,λh=>?_⟩
 .simp only[aa,maxLen,V.pure,VV,seval];refine⟨by simp at q e;omega,?_⟩;have v:(b.map En.azR++[[.sl 3 (x.azV.azZ.map It.azR),.sl 3 (x.azV.az0.map It.azR),.s x.azV.cM,.s x.azV.next,.s x.azV.eu,.s x.azV.dC,.I x.azV.aAb,.I x.azV.aAc]])=(b++[x.azV]).map En.azR:=by simp[En.azR]
  rw[v];refine next (b++[x.azV]) (g+1) (by simp) (by simp[h]) k ?_;repeat' constructor
 refine next b g (by omega) (by simp[h]) k ?_;repeat' constructor
def vo(c:∀o∈l,o.azU)(J:aj):bh κ 29 [.sl 13 (l.map aV.azR)] J (.sl 8 ((dw l).map En.azR)):=by
 refine aW func29 p29.2 λa d=>aq ?_;simp only[p29,SS,seval];simp only[VV,seval];refine al (w9 l c _) rfl ?_;simp only[aa,VV,seval];have b:=AZ l;refine cB.wk ((Wk.k9 (J:=J) (k:=3) (P:=κ) (E:=36) (o8 (by kernel_rfl)) rfl).trans (Wk.fw ?_)) (cB.kT (Y (current l)+1) (akA (current l) a (by omega) (current l) [] [] 0 rfl (by simp) ?_));.simp only[W,seval];repeat' constructor
 intro g;simp only[JE];intros;simp only[VV,seval];refine iw 0 a (.inr rfl) rfl rfl ?_ ?_;.simp only[aX,bB,aI,ar,cu,fz,kE,cG,aU,LW]
 simp only[aX,bB,aI,ar,cu,fz,kE,cG,aU];exact⟨rfl,trivial⟩
def arX{x:ByteArray}{l:aR}(h:x.data.toList=l):x=⟨l.toArray⟩:=by subst h;simp
def E0(c:gW)(C:KA c)(hl:Y c<2^40)(k:aR)(J:aj):bh κ 200 [.sl 1 (c.map sq),.s k] J (.I (nB k c)):=by
 refine PC.acq λB X w μ z hB t=>?_;have V:=t.2 0 _ rfl;have U:=t.2 1 _ rfl;have e:z=#[z.getD 0 undef,z.getD 1 undef]:=vs2 t.1;obtain⟨x,O,N,_⟩:=U.sG;rw[e,O];refine⟨.int .i64 (nB k c:Nat),?_,λr=>.i _ _⟩;have Z:∀(a:Option Addr) (l:Nat),c=[]->Calls κ 200 #[.slice a 0 l,.string x] w λe r=>e=.returned (.int .i64 (nB k c:Nat))/\w.grownBy r Option.none:=by intro a l h;subst h;refine(Any.sort_SearchStrings_none Tryz.Rl a l x w).mono ?_;rintro e r ⟨rfl,v⟩;exact⟨rfl,om v⟩
 rcases V.JX with⟨Q,a,q⟩|⟨b,o,l,f,q,hc,W,L⟩;.rw[q];exact Z a 0 (by simpa using Q)
 by_cases m:c=[];.rw[q,m];have:=Z (S ⟨b,o,Option.none⟩) l m;rw[m]at this;exact this
 have M:∀i (g:i<Y c),w.cell? ⟨b,o+i,Option.none⟩=S (.string ⟨c[i].toArray⟩):=by
  intro i g;have K:gv (c.map sq) i 0=S (.s c[i]):=by simp[gv,sq,g]
  have H:=(L.2.1 i 0 _ K).1;obtain⟨y,R,D,_⟩:=(L.2.2 i 0 _ K).sG;rw[R,arX D]at H;simpa using H
 have p:0<Y c:=fJ.2 m;have n:b<w.heap.size:=by
  have:=M 0 p;simp only[World.cell?]at this;split at this;.rename_i h;exact(cY.1 h).1
  simp at this
 let d:Array ByteArray:=(c.map λk=>ByteArray.mk k.toArray).toArray;have F:d.size=Y c:=by simp[d]
 have E:∀i (g:i<Y c),d[i]! = ⟨c[i].toArray⟩:=by intro i g;rw[getElem!_pos d i (by omega)];simp[d]
 have P:=Any.sort_SearchStrings Tryz.Rl b o l d x w (λi g=>by
  rw[F]at g;rw[M i g,E i g]) n (by omega) (λi j wP u g=>by
  rw[F]at u;rw[E i (by omega)]at g;rw[E j u];simp only[dG,iX,N,wI]at g |-;by_cases T:i=j;.subst T;exact g
  have:=iC.1 C i j (by omega) u (by omega);intro h;exact g (mA this h));have A:d.toList.countP (λy=>!!decide (y.data.toList<x.data.toList))=nB k c:=by simp only[d,List.countP_map,nB,N];exact List.countP_congr λy _=>by simp
 rw[q,aa,<- F];refine P.mono ?_;rintro e r ⟨rfl,v⟩;rw[A];exact⟨rfl,om v⟩
def ajI:Ti κ 9 1 16:=o8 (by kernel_rfl)
def agA(C:bT J)(m:List En)(t:Y m<=1024)(A:∀e∈m,e.azU):∀(d a:List En) (c:gW) (g:Nat),m=a++d->Y c=Y a ->((mW d c).2=θ->∀g,((fj 4 (fh (.own J.length g) (fj 36 fo))) λp=>K (.exit 0) ⟨p,J++[.row 9 1 16 g G ((mW d c).1.map sq)]⟩)) ->((mW d c).2=G->∀(q:aj),((fj 2 (fh (.nil) (fh (.b G) (fj 37 fo)))) λp=>K .ret ⟨p,J++q⟩)) ->gw (Y J) κ ON K (Y d+1) ⟨(uu 4 (.own J.length g::uu 5 (.sl 8 (m.map En.azR)::.I (Y m)::.I (Y a)::uu 28 []))),J++[.row 9 1 16 g G (c.map sq)]⟩:=by
 intro d;induction d with
 |nil =>intro a c g j i n k;have j:=dL j;subst j;refine az λR u=>?_;simp only[ON,VV,seval];exact⟨λh=>by simp at h,λ_=>n rfl g ..⟩
 |cons x d ih =>
 intro a c g j i n k;have z:x∈m:=by rw[j];simp
 have r:=A x z;have M:=gY j;have D:=dD a x (by omega);have B:(List.map En.azR m).getD a.length []=x.azR:=by rw[j];exact dR
 have F:decide ((Y a:Int)<(Y m:Int))=θ:=by simp;omega
 refine az λR u=>?_;simp only[ON,ak,B,F,En.azR,aa,V.pure,VV,seval];refine⟨⟨by omega,by omega⟩,?_⟩;refine al (lQ x r _) rfl ?_;simp only[V.pure,VV,seval];refine⟨λh=>?_,λh=>?_⟩
 .have h:dx x≠0:=by simpa using h
  exact k (by simp only[mW,aQ h]) _ ..
 have h:¬dx x≠0:=by simpa using h
 refine al (JJ x r _) rfl ?_;simp only[mW,aw h]at n k;have H:c.map sq++[[V.s (dO x)]]=(c++[dO x]).map sq:=by simp[sq]
 have E:0<Y a->gv ((c++[dO x]).map sq) (Y a - 1) 0=S (.s (c.getLast?.getD [])):=by
  intro h;rcases gE c with rfl|⟨o,y,rfl⟩;.simp at i;omega
  simp only[fU,ah,ae,ai]at i |-;rw[<- i];simp[gv,sq]
 have w:gv ((c++[dO x]).map sq) a.length 0=S (.s (dO x)):=by rw[<- i];simp[gv,sq]
 have L:(Y ((c++[dO x]).map sq):Int)=Y a+1:=by simp[i]
 have l:0<Y a->IntKind.i64.wrap ((Y a:Int) - 1)=((Y a - 1:Nat):Int):=λh=>by rw[IntWalk.i64_in _ (by omega)];omega
 simp only[H,aa,V.pure,maxLen,VV,seval];refine⟨⟨by omega,by omega⟩,λh=>?_,.s (c.getLast?.getD []),λh=>⟨True,?_,trivial⟩,?_⟩
 .have h:0<Y a:=by simpa using h
  rw[l h,<- List.length_map (f:=sq),L];omega
 .have h:0<Y a:=by simpa using h
  rw[l h,ak,E h]
 simp only[ak,w,aa,V.pure,maxLen,VV,seval];refine⟨λ_=>by simp;omega,_,λ_=>rfl,?_⟩;have v:(decide ((0:Int)<(Y a:Int))&&!Op.bytesLess (c.getLast?.getD []) (dO x))=AB c (dO x):=by
  rcases gE c with rfl|⟨o,y,rfl⟩
  .have:Y a=0:=by simpa using i.symm
   simp[AB,this]
  have:0<Y a:=by simp at i;omega
  simp[AB,this]
 simp only[D,v,VV,seval];refine⟨λh=>?_,λh=>?_⟩;.exact k (by rw[aQ h]) (_::_) ..
 have h:¬AB c (dO x)=θ:=by rw[h];simp
 simp only[aw h]at n k;refine u _ (cn (fr':=(uu 4 (.own J.length (g+1)::uu 5 (.sl 8 (m.map En.azR)::.I (Y m)::.I (Y (a++[x]))::uu 28 [])))) [_] _ (cj C (by simp)) (by repeat' constructor) ?_ (ih (a++[x]) (c++[dO x]) (g+1) (by rw[j];simp) (by simp[i]) n k));simp only[ae,ai,Nat.lt_add_right_iff_pos,Nat.zero_lt_succ,LW]
def U1(n:∀e∈m,e.azU)(J:aj):bh κ 199 [.sl 8 (m.map En.azR)] J (.jg [.sl 1 ((keysOf m).1.map sq),.b (keysOf m).2]):=by
 refine aW func199 aoZ.2 λf o=>aq ?_;simp only[aoZ,SS,seval];simp only[aa,VV,seval];refine⟨λh=>?_,λh=>?_⟩
 .have h:1024<Y m:=by simp at h;omega
  refine dS (xs':=[.sl 1 [],.b G]) (.inr rfl) (by simp only[mS,yy,VV,seval]) (Wk.fw (.cons (.nil _) (.cons (.refl _) .nil))) rfl ?_;simp only[keysOf,aQ h];exact⟨rfl,by trivial⟩
 have h:¬1024<Y m:=by simp at h;omega
 refine cB.wk ((Wk.k9 (P:=κ) (J:=J) (k:=4) ajI rfl).trans (Wk.fw ?_)) (cB.kT (Y m+1) (agA f m (by omega) n m [] [] 0 rfl rfl (λd=>?_) (λd=>?_)));.simp only[VV,seval];repeat' constructor
 .intro g;simp only[JE];intros;simp only[VV,seval];refine iw 0 f (.inr rfl) (by simp only[RS,seval];rfl) rfl ?_ ?_;.simp only[aI,ar,cu,fz,kE,cG,aU,LW]
  simp only[aI,ar,cu,fz,kE,cG,aU,keysOf,aw h,d];exact⟨rfl,trivial⟩
 intro j;simp only[JE];intros;refine gx (ys:=[.sl 1 [],.b G]) f (.inr rfl) (by simp only[RS,seval];rfl) ?_ (by simp[LW]) ?_;.exact .cons (.nil _) (.cons (.refl _) .nil)
 have e:mW m []=([],G):=by
  have c:∀(m:List En) (a:gW),(mW m a).2=G->mW m a=([],G):=by
   intro m;induction m with
   |nil=>intro a h;simp[mW]at h
   |cons x m ih =>
   intro a h;simp only[mW]at h |-;split;.rfl
   rename_i i;rw[aw i]at h;split;.rfl
   rename_i l;rw[aw l]at h;exact ih _ h
  exact c m [] d
 simp only[keysOf,aw h,e];exact⟨rfl,by trivial⟩
def U2(d:∀e∈m,e.azU)(k:aR)(J:aj):bh κ 151 [.sl 8 (m.map En.azR),.s k] J (.I (find m k)):=by
 refine aW func151 apF.2 λj i=>aq ?_;simp only[apF,SS,seval];simp only[VV,seval];refine al (U1 m d _) rfl ?_;simp only[VV,seval];have g:=(Va m).1;refine al (E0 (keysOf m).1 (Vb m) (by omega) k _) rfl ?_;have b:=KD k (keysOf m).1;simp only[find];generalize (keysOf m).1=ks at g b;generalize (keysOf m).2=ok;generalize nB k ks=c at b;simp only[aa,VV,seval];have a:((!ok||(c:Int)==(Y ks:Int))==G)=θ->c<Y ks:=by
  intro h;have h:ok=θ/\¬(c:Int)=Y ks:=by simpa using h
  omega
 refine⟨λh=>by have:=a h;omega,.s (ks.getD c []),λh=>⟨True,?_,trivial⟩,?_⟩;.have:=a h;simp[gv,sq,this]
 simp only[VV,seval];have f:((!ok||(c:Int)==(Y ks:Int))||!ks.getD c []==k)=decide (ok=G\/c=Y ks\/ks.getD c []≠k):=by rw[eD];simp[or_assoc,Int.ofNat_inj]
 rw[f];refine⟨λh=>?_,λh=>?_⟩;.have h:=ic h;rw[aQ h];exact bK (.inr rfl) (by simp only[RS,seval];rfl) ⟨rfl,rfl⟩
 have h:=qM h;rw[aw h];exact bK (.inr rfl) (by simp only[RS,seval];rfl) ⟨rfl,rfl⟩
def opV:V:=.agg a.azR
def sF:List (V×V):=emap keS opV X
def Gw(a:aR): (jM a X=Z/\kL 1 (.s a) (sF X) 0=S Z/\∀b:aV,sF X++[(V.s a,opV b)]=sF (oN X a b)) \/(∃i c,jM a X=S c/\kL 1 (.s a) (sF X) 0=S (S (i,opV c))/\∀b:aV,(sF X).set i (V.s a,opV b)=sF (oN X a b)):=C5 akL X a
def Tb{c d:Type}[DecidableEq c]{a:c}{b:d}:∀{l:List (c×d)},jM a l=S b->(a,b)∈l:=by
 intro l;induction l with
 |nil=>intro h;simp[r6]at h
 |cons p l ih =>
 intro h;rw[rf]at h;split at h;.rename_i e;simp only[ab]at h;subst e;subst h;exact cU ..
 exact bJ _ (ih h)
def Q2{c d:Type}[DecidableEq c]{a:c}{b:d}{p:c×d}:∀{l:List (c×d)},p∈oN l a b->p=(a,b)\/p∈l:=by
 intro l;induction l with
 |nil=>intro h;simp[oN]at h;exact .inl h
 |cons q l ih =>
 intro h;simp only[oN]at h;split at h
 .rcases bd.1 h with h|h;.exact .inl h
  exact .inr (bJ _ h)
 rcases bd.1 h with h|h;.exact .inr (h▸cU ..)
 rcases ih h with h|h;.exact .inl h
 exact .inr (bJ _ h)
def QQ{m:List (aR×aV)}{p:aR×aV}(h:p∈jO m o):p=(cX o,o)\/p∈m:=by
 simp only[jO]at h;split at h;.exact .inr h
 split at h;.exact Q2 h
 split at h;.exact Q2 h
 exact .inr h
def agv(N:bT J)(r:Y l<2^63)(M:∀o∈l,o.azU):∀(a d:List aV) (m:List (aR×aV)),l=d++a->(∀p∈m,p.2.azU) ->((fj 3 (fh (.mp (Y J)) (fj 38 fo))) λL=>K (.exit 0) ⟨L,J++[.map 9 57 (sF (a.foldl jO m))]⟩) ->gw (Y J) κ Jb K (Y a+1) ⟨(uu 3 (.mp (Y J)::uu 10 (.sl 13 (l.map aV.azR)::.I (Y l)::.I (Y d)::uu 25 []))),J++[.map 9 57 (sF m)]⟩:=by
 intro a;induction a with
 |nil =>intro d m q B D;have q:=dL q;subst q;refine az λR f=>?_;simp only[Jb,VV,seval];exact⟨λh=>by simp at h,λ_=>D ..⟩
 |cons x a ih =>
 intro d m q B D;subst q;have A:=M x (by simp);have next:∀(y:List (aR×aV)) {g:aj},jO m x=y->∀{R:ck} {z:aB},(∀u,gw (Y J) κ Jb K (Y a+1) u->R u) ->
   rk z (uu 3 (.mp (Y J)::uu 10 (.sl 13 ((d++x::a).map aV.azR)::.I (Y (d++x::a))::.I (IntKind.i64.wrap ((Y d:Int)+1))::uu 25 [])))->R ⟨z,J++(.map 9 57 (sF y)::g)⟩:=by
  intro y g j R z f H;have O:=dD d x (by simp at r;omega);rw[O]at H;refine f _ (cn [_] g (cj N (by simp)) H ?_ (ih (d++[x]) y (by simp) ?_ ?_));.simp only[LW,ae,ai,aG];omega
  .intro p w;rw[<- j]at w;rcases QQ w with rfl|w;.exact A
   exact B p w
  rw[<- j];exact D
 refine az λR f=>?_;simp only[Jb,aV.azR,cL.azR,En.azR,VV,seval];refine⟨λ_=>⟨by simp;omega,?_⟩,λh=>by simp at h<;>omega⟩;refine al (acj x A _) rfl ?_;simp only[VV,seval];refine⟨λh=>?_,λh=>?_⟩
 .have h:cX x=[]:=by simpa using h
  refine next m (by simp only[jO,h,aU]) f ?_;repeat' constructor
 have h:¬cX x=[]:=by simpa using h
 have F:∀t,lH (J++(.map 9 57 (sF m))::t) 1 (.mp (Y J)) (.s (cX x))=kL 1 (.s (cX x)) (sF m) 0:=λt=>by simp only[lH,jD,aC]
 rcases Gw m (cX x)with⟨n,i,E⟩|⟨k,C,n,i,E⟩;.simp only[F,i,V.vC,VV,seval];refine bV (c:=G) (v:=.b G) (by simp only[VV,seval]<;>rfl) (λh=>by simp at h) rfl ?_;have e:=E x;simp only[opV,aV.azR,cL.azR,En.azR,aF,ay]at e;simp only[i,e,rI,V.vC,V.Hm,VV,seval];refine next (oN m (cX x) x) (by simp only[jO,aw h,n]) f ?_;repeat' constructor
 simp only[F,i,V.vC,opV,aV.azR,cL.azR,En.azR,VV,seval];refine bV (by simp only[VV,seval]<;>rfl) (λ_=>Y9 x C A (B _ (Tb n)) _) rfl ?_;simp only[VV,seval];refine⟨λj=>?_,λj=>?_⟩;.have e:=E x;simp only[opV,aV.azR,cL.azR,En.azR,aF,ay]at i e;simp only[i,e,rI,V.vC,V.Hm,VV,seval];refine next (oN m (cX x) x) (by simp only[jO,aw h,n,aQ j]) f ?_;repeat' constructor
 refine next m (by simp only[jO,aw h,n,j];rfl) f ?_;repeat' constructor
def Hf(c:∀o∈l,o.azU)(J:aj):PC κ 229 [.sl 13 (l.map aV.azR)] J (λr e=>r=.mp (Y J)/\e=J++[.map 9 57 (sF (iE l))]):=by
 refine aW func229 aoK.2 λb d=>aq ?_;have a:=qP (d 0 _ rfl).1;rw[aa]at a;simp only[aoK,SS,seval];simp only[aa,VV,seval];refine⟨λh=>?_,λh=>?_⟩
 .have h:1024<Y l:=by simp at h;omega
  refine dS (.inr rfl) rfl (Wk.refl _ _) rfl ⟨rfl,?_⟩;simp only[iE,aQ h];rfl
 have h:¬1024<Y l:=by simp at h;omega
 refine cB.bX ?_ (Y l+1) (agv l b a c l [] [] rfl (by simp) ?_);.repeat' constructor
 simp only[JE];intros;simp only[VV,seval];refine dS (.inr rfl) rfl (Wk.refl _ _) rfl ⟨rfl,?_⟩;simp only[iE,aw h]
end Go.Proofs.Tryz
