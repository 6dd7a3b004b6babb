/- Part of a proof. -/
import Derived.Test.YtfeddmfijllgmaaGreatDoorZ22
set_option linter.all false
set_option maxHeartbeats 1000000
open Option renaming some->S,none->Y
open Bool renaming true->G,false->Z
open Go.Proofs.Tryz renaming prog->A
open List renaming length->X
namespace Go.Proofs.Tryz
open Go Go.Pm Go.Bt Go.RowKit Go.Maps Go.Sort Go.Shelf
variable(U:fF)(x:Int×Int)(g:Nat)(a:bf)(n:Int)(P:List bX)(b:bf)(C:gf)(m:List (aL×bf))(l:List bf)(R:ai)(M:List En)(L:bX)(H:Nat)(D:Net)(y:aL){T:List (aL×bf)}{B:Nat}{Q N:Ob}{k:aL}{J:ai}{K:bG}{o v:bf}{E:fF}
def afr:(prog.info? 9).map (λi=>(i.zero.map (λz=>z.cells.size),i.size,i.bytes))=S (S 1,1,16):=by kernel_rfl
def PM(id:Nat)(J:ai):PC A 231 [.mp id] J (λr q=>r=.fn 263 [.ptr J.length 0]/\q=J++[.box 230 [.mp id]]):=by
 intro B t w o d m l;have c:=l.2 0 _ rfl;have e:d=#[d.getD 0 undef]:=vs1 l.1;obtain⟨r,k,f⟩:∃r,o id=.map (S r)/\d.getD 0 undef=.map (S r):=by generalize d.getD 0 undef=v at c;cases c with|mp _ r h k=>exact⟨r,k,rfl⟩
 rw[f]at c;rw[e,f];refine((callsIn_wide (n:=5)).1 (AnyZ.keys_in Tryz.aaZ Fence.wide 5 trivial rfl (S r) w)).mono ?_;rintro e w' ⟨rfl,rfl⟩;have g:=m.w7 (w':=w.alloc (.cells #[.map (S r)] 230)) (.box 230 [.mp id]) (.pointer (S ⟨w.heap.size,0,Y⟩)) (mo ((Below.refl _ w).alloc (aB _) _))
  (λb p=>by simp only[l9,aa]at p;omega)
  (λs=>⟨w.heap.size,#[.map (S r)],rfl,m.base,(show(w.heap.push (Obj.cells #[.map (S r)] 230))[w.heap.size]?=_ by simp),rfl,λj x a=>by
   cases j with
   |zero=>simp only[aG,aa]at a;subst a;exact⟨_,rfl,c.mono s⟩
   |succ j=>simp at a⟩);refine⟨_,_,_,_,rfl,⟨rfl,rfl⟩,g.1,?_,g.2.dX⟩;refine .fn _ _ _ rfl λi x a=>?_;cases i with
 |zero =>simp only[aG,aa]at a;subst a;exact .ptr _ _ w.heap.size ⟨230,[.mp id],by simp⟩ (by rw[gy])
 |succ i=>simp at a
def Fa{β:Type}{ve:β->V}{id k E:Nat}{l:List (aL×β)}{J:ai}(hk:J[k]?=S (.box 230 [.mp id]))(L:J[id]?=S (.map 9 E (emap keS ve l))) (hd:(l.map (·.1)).Nodup) (hl:X l<2^40) : PC A 230 [.fn 263 [.ptr k 0]] J (λr J'=>r=.own (X J) 0/\J'=J++[.row 9 1 16 0 Z (((l.map (·.1)).mergeSort Bt.leB).map pE)]):=by
 obtain⟨i,z,hi,hz,h1,h2,h3⟩:=ql afr;refine PC.ofRow ⟨by decide,i,z,hi,hz,h1,h2,h3⟩ λB w0 w μ C hS hv=>?_;have m:prog.underlying 9=S .string:=by kernel_rfl
 obtain⟨b,D,O,R,W,Dv⟩:=aap hS L m hd (by simp only[maxLen];omega);have h0:=hv.2 0 _ rfl;have e:C=#[C.getD 0 undef]:=vs1 hv.1;obtain⟨a,N,Ec⟩:∃a,μ k=.pointer (S ⟨a,0,Y⟩)/\C.getD 0 undef=.func (.func 263) #[] #[.pointer (S ⟨a,0,Y⟩)]:=by
  generalize C.getD 0 undef=v at h0;cases h0 with
  |fn _ _ K hl hu =>have T:=hu 0 _ rfl;have U:K=#[K.getD 0 undef]:=vs1 (by simpa using hl.symm);generalize p:K.getD 0 undef=u at T U;cases T with|ptr _ _ a h O=>exact⟨a,O,by rw[U]⟩
 rw[e,Ec];obtain⟨b',cs,d,hB,hh,oA,P⟩:=hS.QQ hk;rw[N]at d;simp only[Value.pointer.injEq,aa,Addr.mk.injEq,dm]at d;subst d;have mD:w.cell? ⟨a,0,Y⟩=S (.map (S b)):=by
  obtain⟨u,o,H⟩:=P 0 _ rfl;have:u=.map (S b):=by cases H with|mp _ r h q=>rw[O]at q;exact q.symm
  rw[this]at o;exact o
 have F:a<w.heap.size:=(cB.1 hh).1;have Q:SeqGives Fence.wide 2 A 263 #[.pointer (S ⟨a,0,Y⟩)] encStr (λf=>f.Perm (strKeys D)) (Maps.size D) w :=
  AnyZ.keys_gives (ρ:=Tryz.GW) { Tryz.aaZ with } Fence.wide _ trivial rfl (by omega) a b _ D w F mD R;have I:=AnyZ.sorted_in Tryz.Y7 Fence.wide 5 trivial trivial trivial trivial rfl (by omega) (Tryz.adD _) (enters_of func262 (by kernel_rfl) rfl) 263 #[.pointer (S ⟨a,0,Y⟩)] trivial (enters_of func263 (by kernel_rfl) rfl) _ _
  (by rw[W];simp only[maxLen];omega) (by rw[W];omega) w Q;refine((callsIn_wide (n:=5)).1 I).mono ?_;rintro e w' ⟨v,f,rfl,hp,dJ,_,hb⟩;have t:f.Perm (l.map (·.1)):=hp.trans Dv;have M:(f.mergeSort λx y=>decide (x<=y))=(l.map (·.1)).mergeSort Bt.leB:=mergeSort_of_perm t;rw[M]at dJ;have g:X (((l.map (·.1)).mergeSort Bt.leB).map pE)=X f:=by rw[ab,List.length_mergeSort,t.length_eq]
 refine⟨v,_,rfl,by rw[g];exact dJ,hb,?_,?_⟩;.intro r hr;rw[cP]at hr;obtain⟨s,_,rfl⟩:=hr;rfl
 intro i j x c;simp only[gi,bP]at c;cases p:((l.map (·.1)).mergeSort Bt.leB)[i]? with
 |none=>rw[p]at c;simp at c
 |some s =>rw[p]at c;simp only[dA,js,pE]at c;cases j with|zero =>simp only[aG,aa]at c;subst c;refine⟨rfl,encStr s,by rw[NT,cg,bP,p];rfl,.s s _ (by simp) ?_⟩;have Qc:s∈l.map (·.1):=(q7 _ _).mem_iff.1 (bn p);exact strKeys_le R m s (Dv.mem_iff.2 Qc)|succ j=>simp at c
def Gp(h:sP [gp o.aZ.bR v.aZ.bR,gp o.aZ.ax0 v.aZ.ax0,gp o.aZ.time v.aZ.time,gp o.axW v.axW]=0):kr o v=iR (aya o).1 (aya v).1:=by simp only[kr,h,gj,fU,bo]
def Gq(h:sP [gp o.aZ.bR v.aZ.bR,gp o.aZ.ax0 v.aZ.ax0,gp o.aZ.time v.aZ.time,gp o.axW v.axW]≠0): kr o v=sP [gp o.aZ.bR v.aZ.bR,gp o.aZ.ax0 v.aZ.ax0,gp o.aZ.time v.aZ.time,gp o.axW v.axW]:=by simp only[kr,aO h]
def ru(e:a.axZ)(d:b.axZ)(J:ai):bh A 117 [.agg a.axV,.agg b.axV] J (.I (kr a b)):=by
 refine aT func117 aoa.2 λc f=>an ?_;simp only[aoa,SS,seval];simp only[bf.axV,cz.axV,En.axV,VV,seval];refine⟨?_,?_⟩;all_goals
  refine ak (py _ _ _) rfl ?_;simp only[VV,seval];refine ak (py _ _ _) rfl ?_;simp only[VV,seval];refine ak (py _ _ _) rfl ?_;simp only[VV,seval];refine ak (py _ _ _) rfl ?_;simp only[VV,seval];refine kh (zs:=[.sl 1 ([gp a.aZ.bR b.aZ.bR,gp a.aZ.ax0 b.aZ.ax0,gp a.aZ.time b.aZ.time,gp a.axW b.axW].map cG)]) (.cons (.lit _ _) .nil) (MF _ _) ?_;simp only[VV,seval];refine⟨λh=>?_,λh=>?_⟩
  .have h:sP [gp a.aZ.bR b.aZ.bR,gp a.aZ.ax0 b.aZ.ax0,gp a.aZ.time b.aZ.time,gp a.axW b.axW]≠0:=by simpa using h
   rw[Gq h];exact gL c (by rfl) (by simp[LW])
  have h:sP [gp a.aZ.bR b.aZ.bR,gp a.aZ.ax0 b.aZ.ax0,gp a.aZ.time b.aZ.time,gp a.axW b.axW]=0:=by simpa using h
  rw[Gp h];refine ak (yx a e _) rfl ?_;simp only[VV,seval];refine ak (yx b d _) rfl ?_;simp only[VV,seval];refine ak (Et (aya a).1 (aya b).1 _) rfl ?_;simp only[VV,seval];exact gL c (by rfl) (by simp[LW])
def WW(a b:bf)(d:a.axZ)(g:b.axZ)(J:ai):bh A 260 [.agg a.axV,.agg b.axV] J (.b (nz a b)):=by refine aT func260 amt.2 λc h=>an ?_;simp only[amt,SS,seval];simp only[bf.axV,cz.axV,En.axV,VV,seval];refine ak (DX a.aZ b.aZ _) rfl ?_;simp only[VV,seval];refine cm (by simp only[VV,seval]<;>rfl) (λ_=>ru a b d g _) rfl ?_;simp only[VV,seval];refine aS c (by simp only[RS,seval];rfl) (by simp[LW]) ⟨?_,rfl⟩;simp only[Pm.cM,aQ,bj,nz,V.b.injEq];by_cases f:0<jU a.aZ b.aZ<;>by_cases e:jU a.aZ b.aZ=0<;>simp[f,e]
def ae7(n m:V)(l:bH)(f:X l<2^62):∀(a b:bH),l=b++a ->(sP a=0->((fj 2 (fh (n) (fh (m) (fj 63 fo)))) λj=>K (.exit 0) ⟨j,J⟩))->(sP a≠0->((fj 4 (fh (.I (sP a)) (fj 62 fo))) λj=>K .ret ⟨j,J⟩)) ->gF B A Mq K (X a+1) ⟨(uu 2 (n::m::uu 33 (.sl 1 (l.map cG)::.I (X l)::.I (X b)::uu 27 []))),J⟩:=by
 intro a;induction a with
 |nil =>intro b d i _;have d:=dH d;subst d;refine aD λR k=>?_;simp only[Mq,VV,seval];exact⟨λh=>by simp at h,λ_=>i rfl ..⟩
 |cons c a ih =>
 intro b d i g;subst d;have p:gi (List.map cG (b++c::a)) (X b) 0=S (.I c):=oE;have o:=eE b c (by simp at f;omega);refine aD λR k=>?_;simp only[Mq,al,p,o,ab,VV,seval];refine⟨λ_=>⟨by simp;omega,λh=>?_,λh=>?_⟩,λh=>by simp at h<;>omega⟩
 .have h:c≠0:=by simpa using h
  have e:sP (c::a)=c:=by simp only[sP,aO h]
  rw[e]at g;exact g h ..
 have h:c=0:=by simpa using h
 have e:sP (c::a)=sP a:=by simp only[sP,h,gj,fU,bo]
 rw[e]at i g;refine k _ (bL ?_ (ih (b++[c]) (by simp) i g));repeat' constructor
def ur(a b:bf)(k:a.axZ)(j:b.axZ)(J:ai):bh A 123 [.agg a.axV,.agg b.axV] J (.I (kr a b)):=by
 refine aT func123 an4.2 λd l=>an ?_;simp only[an4,SS,seval];simp only[bf.axV,cz.axV,En.axV,VV,seval];refine ak (nn _ _ _) rfl ?_;simp only[VV,seval];refine ak (nn _ _ _) rfl ?_;simp only[VV,seval];refine ak (nn _ _ _) rfl ?_;simp only[VV,seval];refine ak (nn _ _ _) rfl ?_;simp only[V.pure,VV,seval];refine cD.bL (fr':=(uu 2 (.ptr (X J) 0::.ptr (X J+1) 0::uu 33 (.sl 1 ([gp a.aZ.bR b.aZ.bR,gp a.aZ.ax0 b.aZ.ax0,gp a.aZ.time b.aZ.time,gp a.axW b.axW].map cG)::.I (4:Nat)::.I (X ([]:bH):Nat)::uu 27 [])))) ?_ 5 (ae7 (.ptr (X J) 0) (.ptr (X J+1) 0) [gp a.aZ.bR b.aZ.bR,gp a.aZ.ax0 b.aZ.ax0,gp a.aZ.time b.aZ.time,gp a.axW b.axW] (by simp) _ [] rfl (λh=>?_) (λh=>?_));.repeat first|exact .nil|refine .cons (.refl _) ?_|refine .cons (.lit _ _) ?_|refine .cons (.forget _) ?_
 .simp only[JE];intros;simp only[VV,seval];refine ak (rq a k _) rfl ?_;simp only[VV,seval];refine ak (rq b j _) rfl ?_;simp only[jC,jD,VV,seval];rw[Gp h];have m:=KF (aya a).1 (aya b).1;have g:=nK (a:=(aya a).1) (b:=(aya b).1);refine⟨λf=>?_,λf=>⟨λc=>?_,λc=>?_⟩⟩
  .have e:iR (aya a).1 (aya b).1 = -1:=by have:=lW f;omega
   rw[e];exact gL d (by rfl) (by simp[LW])
  .have n1:=oF f;have n2:iR (aya a).1 (aya b).1≠0:=λi=>by rw[g.1 i]at c;simp at c
   have e:iR (aya a).1 (aya b).1=1:=by omega
   rw[e];exact gL d (by rfl) (by simp[LW])
  have e:iR (aya a).1 (aya b).1=0:=by rw[f]at c;exact g.2 (by simpa using c)
  rw[e];exact gL d (by rfl) (by simp[LW])
 simp only[JE];intros;rw[Gq h];exact gL d (by rfl) (by simp[LW])
def Sc(a b:bf)(d:a.axZ)(g:b.axZ)(J:ai):bh A 69 [.agg a.axV,.agg b.axV] J (.b (nz a b)):=by refine aT func69 p69.2 λc h=>an ?_;simp only[p69,SS,seval];simp only[bf.axV,cz.axV,En.axV,VV,seval];refine ak (yG a.aZ b.aZ _) rfl ?_;simp only[VV,seval];refine cm (by simp only[VV,seval]<;>rfl) (λ_=>ur a b d g _) rfl ?_;simp only[VV,seval];refine aS c (by simp only[RS,seval];rfl) (by simp[LW]) ⟨?_,rfl⟩;simp only[Pm.cM,aQ,bj,nz,V.b.injEq];by_cases f:0<jU a.aZ b.aZ<;>by_cases e:jU a.aZ b.aZ=0<;>simp[f,e]
def aaC(p:X l<=1024)(t:∀o∈l,o.axZ)(x:bf)(a:eJ)(n i:Int)(g:Nat):∀(b d:List bf),l=d++b ->((fj 3 (fh (.own (X J) g) (fj 1 (fh (.ptr (X J+1) 0) (fh (.s (cF x)) (fh (.I (X d+mJ (cF x) b:Nat)) (fj 3 (fh (.sl 13 a) (fh (.I n) (fh (.I i) (fj 59 fo))))))))))) λz=>K (.exit 2) ⟨z,J++[fy g Z l,.box 57 x.axV]⟩) ->gF (X J) A Pv K (X b+1) ⟨(uu 3 (.own (X J) g::uu 1 (.ptr (X J+1) 0::.s (cF x)::.I (X d)::uu 3 (.sl 13 a::.I n::.I i::uu 59 [])))),J++[fy g Z l,.box 57 x.axV]⟩:=by
 intro b;induction b with
 |nil =>
  intro d j f;have j:=dH j;subst j;have k:decide ((X l:Int)<(X l:Int))=Z:=by simp
  simp only[mJ,cg]at f;refine aD λR m=>?_;simp only[Pv,fy,k,ab,V.pure,VV,seval];refine⟨by simp,.u,by simp,?_⟩;refine cm (c:=Z) (v:=.s []) (by simp only[VV,seval]<;>rfl) (nofun) rfl ?_;simp only[VV,seval];exact f ..
 |cons y b ih =>
 intro d j f;have r:=t y (by rw[j];simp);have B:=ko j;have q:=eE d y (by omega);have w:(List.map bf.axV l).getD (X d) []=y.axV:=by rw[j];exact gA
 have k:decide ((X d:Int)<(X l:Int))=G:=by simp;omega
 refine aD λR m=>?_;simp only[Pv,fy,al,w,k,bf.axV,cz.axV,En.axV,ab,V.pure,VV,seval];refine⟨by omega,_,rfl,?_⟩;refine cm (by simp only[VV,seval]<;>rfl) (λ_=>wT y r _) rfl ?_;simp only[q,VV,seval];simp only[mJ]at f;refine⟨λh=>?_,λh=>?_⟩
 .rw[aO h]at f;have e:X d+(mJ (cF x) b+1)=X (d++[y])+mJ (cF x) b:=by simp;omega
  rw[e]at f;refine m _ (bL ?_ (ih (d++[y]) (by rw[j];simp) f));repeat' constructor
 rw[h]at f;simp only[aI,bo,cg]at f;exact f ..
def aaB(bd:bW J)(l:List bf)(ad:l.length<=1024)(hs:∀o∈l,o.axZ):∀(f d a:List bf) (g:Nat),l=d++f->a.length<=d.length->(∀o∈a,o∈l) ->(∀g,((fj 3 (fh (.own J.length g) (fj 69 fo))) λZZ=>K (.exit 0) ⟨ZZ,J++[fy g Z (f.foldl sW a)]⟩)) ->gF J.length A UL K (f.length+1) ⟨(uu 3 (.own J.length g::uu 7 (.sl 13 (l.map bf.axV)::.I l.length::.I d.length::uu 59 []))),J++[fy g Z a]⟩:=by
 intro f;induction f with
 |nil =>intro d a g C B hm h1;have C:=dH C;subst C;refine aD λR hR=>?_;simp only[UL,VV,seval];exact⟨λh=>by simp at h,λ_=>h1 g ..⟩
 |cons x f ih =>
 intro d a g C B hm h1;have hx:x∈l:=by rw[C];simp
 have sx:=hs x hx;have IV:=ko C;have hw:=eE d x (by omega);have dP:(List.map bf.axV l).getD d.length []=x.axV:=by rw[C];exact gA
 have hd:decide ((d.length:Int)<(l.length:Int))=true:=by simp;omega
 refine B3 λR hR=>?_;simp only[UL];refine cD.cut λO E=>?_;simp only[hd,VV,seval];refine E _ (cD.fG (fr':=(uu 3 (.own J.length g::uu 7 (.sl 13 (l.map bf.axV)::.I l.length::.I d.length::.b true::uu 58 [])))) ?_ (by repeat' constructor));clear E O;refine cD.cut λO E=>?_;simp only[VV,seval];refine E _ ?_;clear E O;refine cD.aco λO E=>?_;have next:∀(m:List bf) (k T:Nat) {N:ai} {q:ar},sW a x=m->N[k]?=S (fy T Z m) ->
   qP q (uu 3 (.own (J.length+k) T::uu 7 (.sl 13 (l.map bf.axV)::.I l.length::.I d.length::uu 59 [])))->O ⟨q,J++N⟩:=by
  intro m k T N q hr Q P;have hl:=Wx a x;refine E _ (cD.wk ((Wk.fG P).trans (Wk.PT (ys:=(uu 3 (.own J.length 0::uu 7 (.sl 13 (l.map bf.axV)::.I l.length::.I d.length::uu 59 [])))) (os:=[fy 0 Z m]) [k] bd (by simp) rfl (λi k' H=>?_) ?_)) (an ?_))
  .rcases i with _|i;.simp only[aG,aa]at H;subst H;exact⟨_,Q,rfl,rfl⟩
   simp at H
  .repeat first|exact .nil|refine .cons (.dX _ (by constructor)) ?_|refine .cons (.own 0 k _ _ _ T _ _ rfl Q) ?_
  simp only[hw,VV,seval];refine hR _ (bL ?_ (ih (d++[x]) m 0 (by rw[C];simp) (by rw[<- hr];simp;omega) (λo B=>?_) ?_));.repeat' constructor
  .rw[<- hr]at B;rcases Ww B with rfl|B;.exact hx
   exact hm o B
  rw[<- hr];exact h1
 clear E;refine cD.l9 ?_;refine cD.cut λp j=>?_;simp only[fy,al,dP,hd,bf.axV,cz.axV,En.axV,ab,V.pure,VV,seval];refine⟨⟨by omega,by omega⟩,?_⟩;refine j _ (cD.fG (fr':=(uu 3 (.own J.length g::uu 1 (.ptr (J.length+1) 0::uu 5 (.sl 13 (l.map bf.axV)::.I l.length::.I d.length::uu 59 []))))) ?_ (by repeat' constructor));clear j p;refine cD.cut λp j=>?_;simp only[V.pure,VV,seval];refine ak (wT x sx _) rfl ?_;simp only[VV,seval];refine j _ (cD.fG (fr':=(uu 3 (.own J.length g::uu 1 (.ptr (J.length+1) 0::.s (cF x)::uu 4 (.sl 13 (l.map bf.axV)::.I l.length::.I d.length::uu 59 []))))) ?_ (by repeat' constructor));clear j p;refine cD.cut λp j=>?_;simp only[VV,seval];refine⟨λh=>next a 0 g (by simp only[sW,aO (show cF x=[]by simpa using h)]) rfl (by repeat' constructor),λh=>?_⟩;have iV:¬cF x=[]:=by simpa using h
 refine j _ ?_;clear j p;refine cD.cut λp j=>?_;simp only[VV,seval];refine j _ (cD.fG (fr':=(uu 3 (.own J.length g::uu 1 (.ptr (J.length+1) 0::.s (cF x)::.I (([]:List bf).length:Nat)::uu 3 (.sl 13 (l.map bf.axV)::.I l.length::.I d.length::uu 59 []))))) ?_ (by repeat' constructor));clear j p;have L:∀o∈a,o.axZ:=λo B=>hs o (hm o B);have W:=J8 (cF x) a;refine cD.aco λp j=>?_;refine cD.l9 (cD.mM (a.length+1) (aaC a (by omega) L x (l.map bf.axV) l.length d.length g a [] rfl ?_));simp only[JE];intros;simp only[aj,aP,VV,seval];refine j _ (cD.fG (fr':=(uu 3 (.own J.length g::uu 1 (.ptr (J.length+1) 0::.s (cF x)::.I (mJ (cF x) a:Nat)::uu 3 (.sl 13 (l.map bf.axV)::.I l.length::.I d.length::uu 59 []))))) ?_ (by repeat' constructor));clear j p;have mP:=P4 (o:=x) (l:=a);have D:=λy=>P3 (o:=x) (l:=a) (y:=y);have Vu:sW a x=uJ x a:=by simp only[sW,ao iV]
 generalize mJ (cF x) a=k at W mP D |-;refine cD.cut λp j=>?_;have F:(∀y,a[k]?=S y->cF y≠cF x)->∀{q:ar},qP q (uu 3 (.own J.length g::uu 1 (.ptr (J.length+1) 0::.s (cF x)::.I k::uu 3 (.sl 13 (l.map bf.axV)::.I l.length::.I d.length::uu 34 (.b true::uu 24 [])))))->p ⟨q,J++[fy g Z a,.box 57 x.axV]⟩:=by
  intro r q P;have r:=mP r;rw[<- Vu]at r;refine j _ (cD.fG (cD.arD rfl (an ?_)) P);have ht:(a.map bf.axV).take k=(a.take k).map bf.axV:=fM.symm;have Qi:((a.map bf.axV).drop k).take (a.length - k)=(a.drop k).map bf.axV:=by rw[<- List.map_drop];exact cc (by simp)
  have eX:(a.take k).length=k:=by simp;omega
  cases M:((a.take k).map bf.axV).isEmpty with
  |true =>
   have SO:a.take k=[]:=by simpa using M
   simp only[fy,ht,M,al,bf.axV,cz.axV,En.axV,ab,gm,aI,bo,V.pure,maxLen,VV,Int.reduceBEq,Int.reduceBNe,Nat.reduceAdd,Nat.reduceSub,Nat.reduceLeDiff,Nat.reduceEqDiff,Int.reduceToNat,reduceIte,reduceCtorEq];simp only[Qi,eX,ae,ab,bN,VV,Int.reduceBEq,Int.reduceBNe,Nat.reduceAdd,Nat.reduceSub,Nat.reduceLeDiff,Nat.reduceEqDiff,Int.reduceToNat,reduceIte,reduceCtorEq];refine⟨by omega,by omega,by omega,by omega,by omega,by omega,by omega,?_⟩;rw[SO]at r;exact next _ 2 1 r (by simp[fy,bf.axV,cz.axV,En.axV]) (by repeat' constructor)
  |false =>simp only[fy,ht,M,al,bf.axV,cz.axV,En.axV,ab,aI,bo,V.pure,maxLen,VV,seval];simp only[Qi,eX,ae,ab,bN,VV,seval];refine⟨by omega,by omega,by omega,by omega,by omega,by omega,by omega,?_⟩;exact next _ 2 2 r (by simp[fy,bf.axV,cz.axV,En.axV]) (by repeat' constructor)
 have ac:∀y,a[k]?=S y->cF y=cF x->∀{q:ar},qP q (uu 3 (.own J.length g::uu 1 (.ptr (J.length+1) 0::.s (cF x)::.I k::uu 3 (.sl 13 (l.map bf.axV)::.I l.length::.I d.length::uu 34 (.b Z::uu 24 [])))))->p ⟨q,J++[fy g Z a,.box 57 x.axV]⟩:=by
  intro y w n q P;have r:=D y w n;rw[<- Vu]at r;refine j _ (cD.fG (cD.arE rfl (an ?_)) P);have tN:=(ag.1 w).1;have t:(List.map bf.axV a).getD k []=y.axV:=by rw[ax,bP,w];rfl
  simp only[fy,al,t,bf.axV,cz.axV,En.axV,ab,V.pure,maxLen,VV,seval];refine⟨by omega,?_⟩;refine ak (Sc x y sx (L y (bn w)) _) rfl ?_;simp only[fy,al,t,bf.axV,cz.axV,En.axV,ab,V.pure,maxLen,VV,seval];refine⟨λh=>⟨by omega,tN,next (a.set k x) 0 g (by rw[r,aO h]) ?_ (by repeat' constructor)⟩,λh=>next a 0 g (by rw[r,ao (by rw[h];simp)]) rfl (by repeat' constructor)⟩;simp[fy,Yt,bf.axV,cz.axV,En.axV]
 clear j;by_cases Q:k=a.length;.simp only[Q]at F;simp only[Q,fy,al,ab,V.pure,maxLen,VV,seval];refine⟨by simp,.u,by simp,?_⟩;refine cm (c:=Z) (v:=.s []) (by simp only[VV,seval]<;>rfl) (nofun) rfl ?_;simp only[VV,seval];exact F (by simp) (by repeat' constructor)
 have tN:k<a.length:=by omega
 obtain⟨y,w⟩:∃y,a[k]?=S y:=⟨_,aA tN⟩;have t:(List.map bf.axV a).getD k []=y.axV:=by rw[ax,bP,w];rfl
 have Cm:((k:Int)==(a.length:Int))=Z:=by simp;omega
 simp only[Cm,t,fy,al,bf.axV,cz.axV,En.axV,ab,V.pure,maxLen,VV,seval];refine⟨by omega,_,rfl,?_⟩;refine cm (by simp only[VV,seval]<;>rfl) (λ_=>wT y (L y (bn w)) _) rfl ?_;simp only[VV,seval];by_cases n:cF y=cF x
 .have e:(!cF y==cF x)=Z:=by simp[n]
  simp only[e];exact ac y w n (by repeat' constructor)
 have e:(!cF y==cF x)=true:=by simp[n]
 simp only[e];refine F (λz U=>?_) (by repeat' constructor);rw[w]at U;simp only[aa]at U;rw[<- U];exact n
def IC(b:∀o∈l,o.axZ)(J:ai):bh A 27 [.sl 13 (l.map bf.axV)] J (.sl 13 ((current l).map bf.axV)):=by
 refine aT func27 p27.2 λa c=>an ?_;rw[<- OQ];simp only[p27,SS,seval];simp only[ab,VV,seval];refine⟨λh=>?_,λh=>?_⟩
 .have h:1024<X l:=by simp at h;omega
  refine gT (xs':=[.sl 13 []]) (.inr rfl) (by simp only[lG,vf,VV,seval]) (Wk.fG (.cons (.nil _) .nil)) rfl ?_;simp only[wH,aO h];exact⟨rfl,by trivial⟩
 have h:¬1024<X l:=by simp at h;omega
 refine cD.wk ((Wk.jP (P:=A) (J:=J) (k:=3) K3 rfl).trans (Wk.fG ?_)) (cD.mM (X l+1) (aaB a l (by omega) b l [] [] 0 rfl (by simp) (by simp) ?_));.simp only[VV,seval];repeat' constructor
 intro g;simp only[JE];intros;simp only[VV,seval];refine fB 0 a (by simp only[RS,seval];rfl) rfl ?_ ?_;.simp only[az,aq,cg,fz,jR,cw,aR,LW]
 simp only[az,aq,cg,fz,jR,cw,aR,wH,ao h];exact⟨rfl,trivial⟩
def aiI(u:bW J)(e:X l<=1024):∀(a c:List bf) (b:List En) (g:Nat),l=c++a->X b+X a<=X l ->(∀g,((fj 3 (fh (.own (X J) g) (fj 19 fo))) λy=>K (.exit 0) ⟨y,J++[.row 36 8 128 g Z ((b++(a.filter λo=>o.axW==1).map (·.axY)).map En.axV)]⟩)) ->gF (X J) A Pu K (X a+1) ⟨(uu 3 (.own (X J) g::uu 3 (.sl 13 (l.map bf.axV)::.I (X l)::.I (X c)::uu 13 []))),J++[.row 36 8 128 g Z (b.map En.axV)]⟩:=by
 intro a;induction a with
 |nil =>intro c b g j p m;have j:=dH j;subst j;refine aD λR k=>?_;simp only[Pu,VV,seval];simp only[rV,aq,bE]at m;exact⟨λh=>by simp at h,λ_=>m g ..⟩
 |cons x a ih =>
 intro c b g j p m;subst j;simp only[ah]at p;have next:∀(d:List En) (n:Nat) {f:ai},X d<=X b+1->b++((x::a).filter λo=>o.axW==1).map (·.axY)=d++(a.filter λo=>o.axW==1).map (·.axY)->∀{R:bU} {q:ar},(∀i,gF (X J) A Pu K (X a+1) i->R i) ->
   qP q (uu 3 (.own (X J) n::uu 3 (.sl 13 ((c++x::a).map bf.axV)::.I (X (c++x::a))::.I (IntKind.i64.wrap ((X c:Int)+1))::uu 13 [])))->R ⟨q,J++(.row 36 8 128 n Z (d.map En.axV)::f)⟩:=by intro d n f z t R q k r;have w:=eE c x (by simp at e;omega);rw[w]at r;rw[t]at m;refine k _ (dn [_] f (cx u (by simp)) r ?_ (ih (c++[x]) d n (by simp) (by omega) m));simp only[LW,ah,aj,aP];omega
 refine aD λR k=>?_;simp only[Pu,bf.axV,cz.axV,En.axV,VV,seval];refine⟨λ_=>⟨by simp;omega,?_⟩,λh=>by simp at h<;>omega⟩;refine⟨λh=>?_,λh=>?_⟩
 .simp only[ab,maxLen,V.pure,VV,seval];refine⟨by simp at p e;omega,?_⟩;have v:(b.map En.axV++[[.sl 3 (x.axY.ax3.map It.axV),.sl 3 (x.axY.ax4.map It.axV),.s x.axY.cJ,.s x.axY.next,.s x.axY.dL,.s x.axY.dh,.I x.axY.ayd,.I x.axY.ayf]])=(b++[x.axY]).map En.axV:=by simp[En.axV]
  rw[v];refine next (b++[x.axY]) (g+1) (by simp) (by simp[h]) k ?_;repeat' constructor
 refine next b g (by omega) (by simp[h]) k ?_;repeat' constructor
def wS(c:∀o∈l,o.axZ)(J:ai):bh A 29 [.sl 13 (l.map bf.axV)] J (.sl 8 ((dC l).map En.axV)):=by
 refine aT func29 p29.2 λa d=>an ?_;simp only[p29,SS,seval];simp only[VV,seval];refine ak (IC l c _) rfl ?_;simp only[ab,VV,seval];have b:=xF l;refine cD.wk ((Wk.jP (J:=J) (k:=3) (P:=A) (E:=36) (ng (by kernel_rfl)) rfl).trans (Wk.fG ?_)) (cD.mM (X (current l)+1) (aiI (current l) a (by omega) (current l) [] [] 0 rfl (by simp) ?_));.simp only[W,seval];repeat' constructor
 intro g;simp only[JE];intros;simp only[VV,seval];refine fB 0 a rfl rfl ?_ ?_;.simp only[aQ,bj,az,aq,cg,fz,jR,cw,aR,LW]
 simp only[aQ,bj,az,aq,cg,fz,jR,cw,aR];exact⟨rfl,trivial⟩
def apN{x:ByteArray}(h:x.data.toList=k):x=⟨k.toArray⟩:=by subst h;simp
def BW(v:KA C)(hl:X C<2^40)(k:aL)(J:ai):bh A 200 [.sl 1 (C.map pE),.s k] J (.I (lS k C)):=by
 refine PC.aad λB w0 w μ u hB z=>?_;have T:=z.2 0 _ rfl;have U:=z.2 1 _ rfl;have e:u=#[u.getD 0 undef,u.getD 1 undef]:=vs2 z.1;obtain⟨x,Q,M,_⟩:=U.pT;rw[e,Q];refine⟨.int .i64 (lS k C:Nat),?_,λq=>.i _ _⟩;have Y:∀(a:Option Addr) (g:Nat),C=[]->Calls A 200 #[.slice a 0 g,.string x] w λe q=>e=.returned (.int .i64 (lS k C:Nat))/\w.grownBy q Option.none:=by intro a g h;subst h;refine(Any.sort_SearchStrings_none Tryz.OH a g x w).mono ?_;rintro e q ⟨rfl,r⟩;exact⟨rfl,mo r⟩
 rcases T.G2 with⟨P,a,p⟩|⟨b,o,g,f,p,hc,hm,O⟩;.rw[p];exact Y a 0 (by simpa using P)
 by_cases l:C=[];.rw[p,l];have:=Y (S ⟨b,o,Option.none⟩) g l;rw[l]at this;exact this
 have N:∀i (c:i<X C),w.cell? ⟨b,o+i,Option.none⟩=S (.string ⟨C[i].toArray⟩):=by
  intro i c;have K:gi (C.map pE) i 0=S (.s C[i]):=by simp[gi,pE,c]
  have L:=(O.2.1 i 0 _ K).1;obtain⟨y,V,F,_⟩:=(O.2.2 i 0 _ K).pT;rw[V,apN F]at L;simpa using L
 have m:0<X C:=fb.2 l;have n:b<w.heap.size:=by
  have:=N 0 m;simp only[World.cell?]at this;split at this;.rename_i h;exact(cB.1 h).1
  simp at this
 let d:Array ByteArray:=(C.map λk=>ByteArray.mk k.toArray).toArray;have E:d.size=X C:=by simp[d]
 have H:∀i (c:i<X C),d[i]! = ⟨C[i].toArray⟩:=by intro i c;rw[getElem!_pos d i (by omega)];simp[d]
 have W:=Any.sort_SearchStrings Tryz.OH b o g d x w (λi c=>by
  rw[E]at c;rw[N i c,H i c]) n (by omega) (λi j tr D c=>by
  rw[E]at D;rw[H i (by omega)]at c;rw[H j D];simp only[dt,gW,M,tc]at c |-;by_cases R:i=j;.subst R;exact c
  have:=gD.1 v i j (by omega) D (by omega);intro h;exact c (lj this h));have t:d.toList.countP (λy=>!!decide (y.data.toList<x.data.toList))=lS k C:=by simp only[d,List.countP_map,lS,M];exact List.countP_congr λy _=>by simp
 rw[p,ab,<- E];refine W.mono ?_;rintro e q ⟨rfl,r⟩;rw[t];exact⟨rfl,mo r⟩
def ahP:Ti A 9 1 16:=ng (by kernel_rfl)
def aeF(D:bW J)(m:List En)(r:X m<=1024)(L:∀e∈m,e.axZ):∀(d a:List En) (c:gf) (g:Nat),m=a++d->X c=X a ->((lJ d c).2=G->∀g,((fj 4 (fh (.own (X J) g) (fj 36 fo))) λp=>K (.exit 0) ⟨p,J++[.row 9 1 16 g Z ((lJ d c).1.map pE)]⟩)) ->((lJ d c).2=Z->∀(q:ai),((fj 2 (fh (.nil) (fh (.b Z) (fj 37 fo)))) λp=>K .ret ⟨p,J++q⟩)) ->gF (X J) A LU K (X d+1) ⟨(uu 4 (.own (X J) g::uu 5 (.sl 8 (m.map En.axV)::.I (X m)::.I (X a)::uu 28 []))),J++[.row 9 1 16 g Z (c.map pE)]⟩:=by
 intro d;induction d with
 |nil =>intro a c g j i n k;have j:=dH j;subst j;refine aD λR u=>?_;simp only[LU,VV,seval];exact⟨λh=>by simp at h,λ_=>n rfl g ..⟩
 |cons x d ih =>
 intro a c g j i n k;have M:x∈m:=by rw[j];simp
 have t:=L x M;have N:=ko j;have C:=eE a x (by omega);have z:(List.map En.axV m).getD (X a) []=x.axV:=by rw[j];exact gA
 have v:decide ((X a:Int)<(X m:Int))=G:=by simp;omega
 refine aD λR u=>?_;simp only[LU,al,z,v,En.axV,ab,V.pure,VV,seval];refine⟨⟨by omega,by omega⟩,?_⟩;refine ak (kx x t _) rfl ?_;simp only[V.pure,VV,seval];refine⟨λh=>?_,λh=>?_⟩
 .have h:cY x≠0:=by simpa using h
  exact k (by simp only[lJ,aO h]) _ ..
 have h:¬cY x≠0:=by simpa using h
 refine ak (GM x t _) rfl ?_;simp only[lJ,ao h]at n k;have w:c.map pE++[[V.s (dw x)]]=(c++[dw x]).map pE:=by simp[pE]
 have H:0<X a->gi ((c++[dw x]).map pE) (X a - 1) 0=S (.s (c.getLast?.getD [])):=by
  intro h;rcases fN c with rfl|⟨o,y,rfl⟩;.simp at i;omega
  simp only[fk,ae,ah,aj]at i |-;rw[<- i];simp[gi,pE]
 have B:gi ((c++[dw x]).map pE) (X a) 0=S (.s (dw x)):=by rw[<- i];simp[gi,pE]
 have F:(X ((c++[dw x]).map pE):Int)=X a+1:=by simp[i]
 have l:0<X a->IntKind.i64.wrap ((X a:Int) - 1)=((X a - 1:Nat):Int):=λh=>by rw[IntWalk.i64_in _ (by omega)];omega
 simp only[w,ab,V.pure,maxLen,VV,seval];refine⟨⟨by omega,by omega⟩,λh=>?_,.s (c.getLast?.getD []),λh=>⟨True,?_,trivial⟩,?_⟩
 .have h:0<X a:=by simpa using h
  rw[l h,<- List.length_map (f:=pE),F];omega
 .have h:0<X a:=by simpa using h
  rw[l h,al,H h]
 simp only[al,B,ab,V.pure,maxLen,VV,seval];refine⟨λ_=>by simp;omega,_,λ_=>rfl,?_⟩;have E:(decide ((0:Int)<(X a:Int))&&!Op.bytesLess (c.getLast?.getD []) (dw x))=xc c (dw x):=by
  rcases fN c with rfl|⟨o,y,rfl⟩
  .have:X a=0:=by simpa using i.symm
   simp[xc,this]
  have:0<X a:=by simp at i;omega
  simp[xc,this]
 simp only[C,E,VV,seval];refine⟨λh=>?_,λh=>?_⟩;.exact k (by rw[aO h]) (_::_) ..
 have h:¬xc c (dw x)=G:=by rw[h];simp
 simp only[ao h]at n k;refine u _ (dn (fr':=(uu 4 (.own (X J) (g+1)::uu 5 (.sl 8 (m.map En.axV)::.I (X m)::.I (X (a++[x]))::uu 28 [])))) [_] _ (cx D (by simp)) (by repeat' constructor) ?_ (ih (a++[x]) (c++[dw x]) (g+1) (by rw[j];simp) (by simp[i]) n k));simp only[ah,aj,Nat.lt_add_right_iff_pos,Nat.zero_lt_succ,LW]
def Sp(l:∀e∈M,e.axZ)(J:ai):bh A 199 [.sl 8 (M.map En.axV)] J (.iS [.sl 1 ((keysOf M).1.map pE),.b (keysOf M).2]):=by
 refine aT func199 am0.2 λd n=>an ?_;simp only[am0,SS,seval];simp only[ab,VV,seval];refine⟨λh=>?_,λh=>?_⟩
 .have h:1024<X M:=by simp at h;omega
  refine gT (xs':=[.sl 1 [],.b Z]) (.inr rfl) (by simp only[lG,vf,VV,seval]) (Wk.fG (.cons (.nil _) (.cons (.refl _) .nil))) rfl ?_;simp only[keysOf,aO h];exact⟨rfl,by trivial⟩
 have h:¬1024<X M:=by simp at h;omega
 refine cD.wk ((Wk.jP (P:=A) (J:=J) (k:=4) ahP rfl).trans (Wk.fG ?_)) (cD.mM (X M+1) (aeF d M (by omega) l M [] [] 0 rfl rfl (λf=>?_) (λf=>?_)));.simp only[VV,seval];repeat' constructor
 .intro g;simp only[JE];intros;simp only[VV,seval];refine fB 0 d (by simp only[RS,seval];rfl) rfl ?_ ?_;.simp only[az,aq,cg,fz,jR,cw,aR,LW]
  simp only[az,aq,cg,fz,jR,cw,aR,keysOf,ao h,f];exact⟨rfl,trivial⟩
 intro m;simp only[JE];intros;refine lE (ys:=[.sl 1 [],.b Z]) d (.inr rfl) (by simp only[RS,seval];rfl) ?_ (by simp[LW]) ?_;.exact .cons (.nil _) (.cons (.refl _) .nil)
 have e:lJ M []=([],Z):=by
  have c:∀(M:List En) (a:gf),(lJ M a).2=Z->lJ M a=([],Z):=by
   intro M;induction M with
   |nil=>intro a h;simp[lJ]at h
   |cons x M ih =>
   intro a h;simp only[lJ]at h |-;split;.rfl
   rename_i j;rw[ao j]at h;split;.rfl
   rename_i i;rw[ao i]at h;exact ih _ h
  exact c M [] f
 simp only[keysOf,ao h,e];exact⟨rfl,by trivial⟩
def Sq(g:∀e∈M,e.axZ)(k:aL)(J:ai):bh A 151 [.sl 8 (M.map En.axV),.s k] J (.I (find M k)):=by
 refine aT func151 anH.2 λi j=>an ?_;simp only[anH,SS,seval];simp only[VV,seval];refine ak (Sp M g _) rfl ?_;simp only[VV,seval];have f:=(Sy M).1;refine ak (BW (keysOf M).1 (Sz M) (by omega) k _) rfl ?_;have b:=HG k (keysOf M).1;simp only[find];generalize (keysOf M).1=ks at f b;generalize (keysOf M).2=ok;generalize lS k ks=c at b;simp only[ab,VV,seval];have a:((!ok||(c:Int)==(X ks:Int))==Z)=G->c<X ks:=by
  intro h;have h:ok=G/\¬(c:Int)=X ks:=by simpa using h
  omega
 refine⟨λh=>by have:=a h;omega,.s (ks.getD c []),λh=>⟨True,?_,trivial⟩,?_⟩;.have:=a h;simp[gi,pE,this]
 simp only[VV,seval];have d:((!ok||(c:Int)==(X ks:Int))||!ks.getD c []==k)=decide (ok=Z\/c=X ks\/ks.getD c []≠k):=by rw[ei];simp[or_assoc,Int.ofNat_inj]
 rw[d];refine⟨λh=>?_,λh=>?_⟩;.have h:=lW h;rw[aO h];exact bt (by simp only[RS,seval];rfl) ⟨rfl,rfl⟩
 have h:=oF h;rw[ao h];exact bt (by simp only[RS,seval];rfl) ⟨rfl,rfl⟩
def Z6:V:=.agg a.axV
def pS:List (V×V):=emap keS Z6 m
def Dn: (jo y m=Y/\jA 1 (.s y) (pS m) 0=S Y/\∀b:bf,pS m++[(V.s y,Z6 b)]=pS (mN m y b)) \/(∃i a,jo y m=S a/\jA 1 (.s y) (pS m) 0=S (S (i,Z6 a))/\∀b:bf,(pS m).set i (V.s y,Z6 b)=pS (mN m y b)):=zZ aiS m y
def Qj{c d:Type}[DecidableEq c]{a:c}{b:d}:∀{l:List (c×d)},jo a l=S b->(a,b)∈l:=by
 intro l;induction l with
 |nil=>intro h;simp[pw]at h
 |cons p l ih =>
 intro h;rw[oU]at h;split at h;.rename_i e;simp only[aa]at h;subst e;subst h;exact dN ..
 exact cd _ (ih h)
def Oj{c d:Type}[DecidableEq c]{a:c}{b:d}{p:c×d}:∀{l:List (c×d)},p∈mN l a b->p=(a,b)\/p∈l:=by
 intro l;induction l with
 |nil=>intro h;simp[mN]at h;exact .inl h
 |cons q l ih =>
 intro h;simp only[mN]at h;split at h
 .rcases bw.1 h with h|h;.exact .inl h
  exact .inr (cd _ h)
 rcases bw.1 h with h|h;.exact .inr (h▸dN ..)
 rcases ih h with h|h;.exact .inl h
 exact .inr (cd _ h)
def N7{p:aL×bf}(h:p∈jj T o):p=(cF o,o)\/p∈T:=by
 simp only[jj]at h;split at h;.exact .inr h
 split at h;.exact Oj h
 split at h;.exact Oj h
 exact .inr h
def aeA(N:bW J)(q:X l<2^63)(O:∀o∈l,o.axZ):∀(a d:List bf) (m:List (aL×bf)),l=d++a->(∀p∈m,p.2.axZ) ->((fj 3 (fh (.mp (X J)) (fj 38 fo))) λM=>K (.exit 0) ⟨M,J++[.map 9 57 (pS (a.foldl jj m))]⟩) ->gF (X J) A F8 K (X a+1) ⟨(uu 3 (.mp (X J)::uu 10 (.sl 13 (l.map bf.axV)::.I (X l)::.I (X d)::uu 25 []))),J++[.map 9 57 (pS m)]⟩:=by
 intro a;induction a with
 |nil =>intro d m u F B;have u:=dH u;subst u;refine aD λR f=>?_;simp only[F8,VV,seval];exact⟨λh=>by simp at h,λ_=>B ..⟩
 |cons x a ih =>
 intro d m u F B;subst u;have E:=O x (by simp);have next:∀(y:List (aL×bf)) {g:ai},jj m x=y->∀{R:bU} {C:ar},(∀r,gF (X J) A F8 K (X a+1) r->R r) ->
   qP C (uu 3 (.mp (X J)::uu 10 (.sl 13 ((d++x::a).map bf.axV)::.I (X (d++x::a))::.I (IntKind.i64.wrap ((X d:Int)+1))::uu 25 [])))->R ⟨C,J++(.map 9 57 (pS y)::g)⟩:=by
  intro y g i R C f L;have P:=eE d x (by simp at q;omega);rw[P]at L;refine f _ (dn [_] g (cx N (by simp)) L ?_ (ih (d++[x]) y (by simp) ?_ ?_));.simp only[LW,ah,aj,aP];omega
  .intro p w;rw[<- i]at w;rcases N7 w with rfl|w;.exact E
   exact F p w
  rw[<- i];exact B
 refine aD λR f=>?_;simp only[F8,bf.axV,cz.axV,En.axV,VV,seval];refine⟨λ_=>⟨by simp;omega,?_⟩,λh=>by simp at h<;>omega⟩;refine ak (Z7 x E _) rfl ?_;simp only[VV,seval];refine⟨λh=>?_,λh=>?_⟩
 .have h:cF x=[]:=by simpa using h
  refine next m (by simp only[jj,h,aR]) f ?_;repeat' constructor
 have h:¬cF x=[]:=by simpa using h
 have H:∀t,kg (J++(.map 9 57 (pS m))::t) 1 (.mp (X J)) (.s (cF x))=jA 1 (.s (cF x)) (pS m) 0:=λt=>by simp only[kg,iF,aG]
 rcases Dn m (cF x)with⟨n,j,z⟩|⟨k,D,n,j,z⟩;.simp only[H,j,V.sj,VV,seval];refine cm (c:=Z) (v:=.b Z) (by simp only[VV,seval]<;>rfl) (nofun) rfl ?_;have e:=z x;simp only[Z6,bf.axV,cz.axV,En.axV,aF,aw]at e;simp only[j,e,ph,V.sj,V.Ea,VV,seval];refine next (mN m (cF x) x) (by simp only[jj,ao h,n]) f ?_;repeat' constructor
 simp only[H,j,V.sj,Z6,bf.axV,cz.axV,En.axV,VV,seval];refine cm (by simp only[VV,seval]<;>rfl) (λ_=>WW x D E (F _ (Qj n)) _) rfl ?_;simp only[VV,seval];refine⟨λi=>?_,λi=>?_⟩;.have e:=z x;simp only[Z6,bf.axV,cz.axV,En.axV,aF,aw]at j e;simp only[j,e,ph,V.sj,V.Ea,VV,seval];refine next (mN m (cF x) x) (by simp only[jj,ao h,n,aO i]) f ?_;repeat' constructor
 refine next m (by simp only[jj,ao h,n,i];rfl) f ?_;repeat' constructor
def D4(e:∀o∈l,o.axZ)(J:ai):PC A 229 [.sl 13 (l.map bf.axV)] J (λr c=>r=.mp (X J)/\c=J++[.map 9 57 (pS (iw l))]):=by
 refine aT func229 amL.2 λb d=>an ?_;have a:=oI (d 0 _ rfl).1;rw[ab]at a;simp only[amL,SS,seval];simp only[ab,VV,seval];refine⟨λh=>?_,λh=>?_⟩
 .have h:1024<X l:=by simp at h;omega
  refine fp rfl (Wk.refl _ _) rfl ⟨rfl,?_⟩;simp only[iw,aO h];rfl
 have h:¬1024<X l:=by simp at h;omega
 refine cD.bL ?_ (X l+1) (aeA l b a e l [] [] rfl (by simp) ?_);.repeat' constructor
 simp only[JE];intros;simp only[VV,seval];refine fp rfl (Wk.refl _ _) rfl ⟨rfl,?_⟩;simp only[iw,ao h]
def YZ:Ti A 57 13 184:=ng (by kernel_rfl)
def Y1:Ti A 36 8 128:=ng (by kernel_rfl)
def Sr(h:jo k T=S o):∃i,jA 1 (.s k) (pS T) 0=S (S (i,Z6 o)):=by
 rcases Dn T k with⟨a,_,_⟩|⟨i,b,a,c,_⟩;.rw[h]at a;simp at a
 rw[h]at a;simp only[aa]at a;subst a;exact⟨i,c⟩
def aeO{o2:Ob}(d:X C<2^39)(y:∀p∈m,p.2.axZ)(l:∀k∈C,∃o,jo k m=S o): ∀(a c:gf) (b:List bf) (g:Nat),C=c++a->X b+X a<=X C ->(∀g,((fj 3 (fh (.mp (X J)) (fh (.own (X J+3) g) (fj 6 (fh (.own (X J+2) 0) (fj 14 fo)))))) λv=>K (.exit 0) ⟨v,J++[.map 9 57 (pS m),o2,.row 9 1 16 0 false (C.map pE),.row 57 13 184 g false ((b++a.filterMap λk=>jo k m).map bf.axV)]⟩)) ->gF B A L8 K (X a+1) ⟨(uu 3 (.mp (X J)::.own (X J+3) g::uu 6 (.own (X J+2) 0::.I (X C)::.I (X c)::uu 12 []))),J++[.map 9 57 (pS m),o2,.row 9 1 16 0 false (C.map pE),.row 57 13 184 g false (b.map bf.axV)]⟩:=by
 intro a;induction a with
 |nil =>intro c b g f j e;have f:=dH f;subst f;refine aD λR r=>?_;simp only[L8,VV,seval];simp only[List.filterMap_nil,bE]at e;exact⟨λh=>by simp at h,λ_=>e g ..⟩
 |cons x a ih =>
 intro c b g f j e;subst f;obtain⟨o,q⟩:=l x (by simp);have z:=y _ (Qj q);obtain⟨i,n⟩:=Sr q;have w:∀t,kg (J++(.map 9 57 (pS m))::t) 1 (.mp (X J)) (.s x)=S (S (i,Z6 o)):=λt=>by simp only[kg,iF,aG,n]
 refine aD λR r=>?_;simp only[L8,pE,w,Z6,V.sj,ab,VV,seval];refine⟨λ_=>⟨by simp;omega,?_⟩,λh=>by simp at h<;>omega⟩;refine ak (pV o z _) rfl ?_;simp only[ah]at j;simp only[ab,bf.axV,cz.axV,En.axV,maxLen,V.pure,VV,seval];refine⟨by simp at j d;omega,?_⟩;have u:(b.map bf.axV++[[.I o.aZ.time,.I o.aZ.bR,.I o.aZ.ax0,.I o.axW,.sl 3 (o.axY.ax3.map It.axV),.sl 3 (o.axY.ax4.map It.axV),.s o.axY.cJ,.s o.axY.next,.s o.axY.dL,.s o.axY.dh,.I o.axY.ayd,.I o.axY.ayf,.sl 1 (o.ax5.map cG)]])=(b++[o]).map bf.axV:=by simp[bf.axV,cz.axV,En.axV]
 rw[u];refine r _ (bL ?_ (ih (c++[x]) (b++[o]) (g+1) (by simp) (by simp at j |-;omega) ?_));.rw[cT (by simp at d;omega)];simp only[ae,ah,aj];repeat' constructor
 simp only[mh,q]at e;simpa using e
def MH(l:List bf)(c:∀o∈l,o.axZ)(J:ai):bh A 180 [.sl 13 (l.map bf.axV)] J (.sl 13 ((current l).map bf.axV)):=by
 refine aT func180 anh.2 λf i=>an ?_;simp only[anh,SS,seval];simp only[VV,seval];refine ak (D4 l c _) rfl ?_;simp only[VV,seval];have a:=PM (X J) (J++[.map 9 57 (pS (iw l))]);simp only[ae,ah,aj,aP,aJ,aF,aw]at a;refine ak a rfl ?_;simp only[VV,seval];have d:=wy l;have h:=CK l;have b:=Fa (β:=bf) (ve:=Z6) (id:=X J) (k:=X J+1) (E:=57) (l:=iw l) (J:=J++[.map 9 57 (pS (iw l)),.box 230 [.mp (X J)]])
  (by simp only[jE,cA,aG]) (by simp only[iF,aG];rfl) (yR l) (by omega);simp only[ae,ah,aj,aP,Nat.reduceAdd,aJ,aF,aw]at b;refine ak b rfl ?_;simp only[ab,VV,seval];refine cD.wk ((Wk.ov (J:=J) [_,_,_] (k:=4) YZ rfl).trans (Wk.fG ?_)) (cD.mM (X (kK l)+1) (aeO (kK l) (iw l) (by omega)
  (λp e=>c _ (wg e).2) (λk a=>vO a) (kK l) [] [] 0 rfl (by simp) ?_));.simp only[W,seval];repeat' constructor
 intro g;simp only[JE];intros;simp only[VV,seval];refine fB 3 f rfl rfl ?_ ?_;.simp only[aQ,bj,az,aq,fz,jR,cw,aR,LW]
 simp only[aQ,bj,az,aq,fz,jR,cw,aR];exact⟨rfl,trivial⟩
def ae5(u:bW J)(e:X l<2^39):∀(a c:List bf) (b:List En) (g:Nat),l=c++a->X b+X a<=X l ->(∀g,((fj 3 (fh (.own (X J) g) (fj 19 fo))) λy=>K (.exit 0) ⟨y,J++[.row 36 8 128 g Z ((b++(a.filter λo=>o.axW==1).map (·.axY)).map En.axV)]⟩)) ->gF (X J) A Gk K (X a+1) ⟨(uu 3 (.own (X J) g::uu 3 (.sl 13 (l.map bf.axV)::.I (X l)::.I (X c)::uu 13 []))),J++[.row 36 8 128 g Z (b.map En.axV)]⟩:=by
 intro a;induction a with
 |nil =>intro c b g j p m;have j:=dH j;subst j;refine aD λR k=>?_;simp only[Gk,VV,seval];simp only[rV,aq,bE]at m;exact⟨λh=>by simp at h,λ_=>m g ..⟩
 |cons x a ih =>
 intro c b g j p m;subst j;simp only[ah]at p;have next:∀(d:List En) (n:Nat) {f:ai},X d<=X b+1->b++((x::a).filter λo=>o.axW==1).map (·.axY)=d++(a.filter λo=>o.axW==1).map (·.axY)->∀{R:bU} {q:ar},(∀i,gF (X J) A Gk K (X a+1) i->R i) ->
   qP q (uu 3 (.own (X J) n::uu 3 (.sl 13 ((c++x::a).map bf.axV)::.I (X (c++x::a))::.I (IntKind.i64.wrap ((X c:Int)+1))::uu 13 [])))->R ⟨q,J++(.row 36 8 128 n Z (d.map En.axV)::f)⟩:=by intro d n f z t R q k r;have w:=eE c x (by simp at e;omega);rw[w]at r;rw[t]at m;refine k _ (dn [_] f (cx u (by simp)) r ?_ (ih (c++[x]) d n (by simp) (by omega) m));simp only[LW,ah,aj,aP];omega
 refine aD λR k=>?_;simp only[Gk,bf.axV,cz.axV,En.axV,VV,seval];refine⟨λ_=>⟨by simp;omega,?_⟩,λh=>by simp at h<;>omega⟩;refine⟨λh=>?_,λh=>?_⟩
 .simp only[ab,maxLen,V.pure,VV,seval];refine⟨by simp at p e;omega,?_⟩;have v:(b.map En.axV++[[.sl 3 (x.axY.ax3.map It.axV),.sl 3 (x.axY.ax4.map It.axV),.s x.axY.cJ,.s x.axY.next,.s x.axY.dL,.s x.axY.dh,.I x.axY.ayd,.I x.axY.ayf]])=(b++[x.axY]).map En.axV:=by simp[En.axV]
  rw[v];refine next (b++[x.axY]) (g+1) (by simp) (by simp[h]) k ?_;repeat' constructor
 refine next b g (by omega) (by simp[h]) k ?_;repeat' constructor
def PA(c:∀o∈l,o.axZ)(J:ai):bh A 126 [.sl 13 (l.map bf.axV)] J (.sl 8 ((dC l).map En.axV)):=by
 refine aT func126 an1.2 λa d=>an ?_;simp only[an1,SS,seval];simp only[VV,seval];refine ak (MH l c _) rfl ?_;simp only[ab,VV,seval];have b:=xF l;refine cD.wk ((Wk.jP (J:=J) (k:=3) Y1 rfl).trans (Wk.fG ?_)) (cD.mM (X (current l)+1) (ae5 (current l) a (by omega) (current l) [] [] 0 rfl (by simp) ?_));.simp only[W,seval];repeat' constructor
 intro g;simp only[JE];intros;simp only[VV,seval];refine fB 0 a rfl rfl ?_ ?_;.simp only[aQ,bj,az,aq,cg,fz,jR,cw,aR,LW]
 simp only[aQ,bj,az,aq,cg,fz,jR,cw,aR];exact⟨rfl,trivial⟩
def vY:qP [.I n,.I 0,.nil,.nil,.I 0,.b Z] (bX.axV ⟨n,0,[],[],0,Z⟩):=by simp only[bX.axV,aC,aq];repeat first|exact .nil|refine .cons (.refl _) ?_|refine .cons (.nil _) ?_
def aih:bh A 39 [.I n] R (.iS [.agg (Cc n).1.axV,.I (Cc n).2]):=by
 refine aT func39 p39.2 λa b=>an ?_;simp only[p39,SS,seval];simp only[VV,seval];refine⟨λh=>?_,λh=>?_⟩
 .have h:n<0\/8<=n:=by simpa using h
  refine lE (ys:=[.agg (bX.axV ⟨0,0,[],[],0,Z⟩),.I 1]) a (.inr rfl) (by simp only[lG,vf,VV,seval]) (.cons (Cv.iK (vY 0)) (.cons (.refl _) .nil)) (by simp only[bX.axV,aC,aq,LW]) ⟨by simp only[Cc,aO h,bX.zero];rfl,rfl⟩
 have h:¬(n<0\/8<=n):=by simpa using h
 refine lE (ys:=[.agg (bX.axV ⟨n,0,[],[],0,Z⟩),.I 0]) a (.inr rfl) (by simp only[lG,vf,VV,seval]) (.cons (Cv.iK (vY n)) (.cons (.refl _) .nil)) (by simp only[bX.axV,aC,aq,LW]) ⟨by simp only[Cc,ao h];rfl,rfl⟩
def A6:bh A 115 [.agg a.axV,.agg b.axV] R (.I (dS a b)):=by refine aT func115 aob.2 λc d=>an ?_;simp only[aob,SS,seval];simp only[bf.axV,cz.axV,En.axV,VV,seval];refine ak (py _ _ _) rfl ?_;simp only[VV,seval];refine ak (py _ _ _) rfl ?_;simp only[VV,seval];refine kh (zs:=[.sl 1 ([gp a.aZ.bR b.aZ.bR,gp a.aZ.ax0 b.aZ.ax0].map cG)]) (.cons (.lit _ _) .nil) (MF _ _) ?_;simp only[VV,seval];exact gL c (by rfl) (by simp[LW])
def SF:(prog.info? 5).map (λi=>(i.zero.map (λz=>z.cells.size),i.size,i.bytes))=S (S 1,1,1):=by kernel_rfl
def tS(l:X y<2^40)(J:ai):bh A 141 [.sl 1 (aC y)] J (.sl 1 (aC y)) :=HN (by decide) SF (by rw[bC];omega) (λw=>AnyE.slices_Clone_nil Tryz.To 0 0 w) (λa w=>by
   obtain⟨i,z,e,k,f,g,j⟩:=ql SF;exact tz Tryz.To i z 1 1 e k f g j (by decide) (show ∀w,(Go.sizeOf 5).run A w=.ok 1 w from λw=>by simp[sizeOf,run_typeInfo w e,f]) a w)
  (λi z e k f g j q b o n c d w m r p s h=>AnyE.slices_Clone Tryz.To i z 1 1 e k f g j (by decide) q b o n c d w m r p s h) J
def zP:Ob:=.row 57 13 184 g Z (l.map bf.axV)
def aeW(i:bW J)(c:X l<2^39)(m:∀o∈l,o.axZ):∀(b a:List bf) (g:Nat),l=a++b ->(∀g,((fj 3 (fh (.own (X J) g) (fj 15 fo))) λn=>K (.exit 0) ⟨n,J++[.row 57 13 184 g false (l.map bf.axV)]⟩)) ->gF (X J) A Mh K (X b+1) ⟨(uu 3 (.own (X J) g::uu 2 (.sl 13 (l.map bf.axV)::.I (X l)::.I (X a)::uu 10 []))),J++[.row 57 13 184 g false (a.map bf.axV)]⟩:=by
 intro b;induction b with
 |nil =>intro a g d e;have d:=dH d;subst d;refine aD λR f=>?_;simp only[Mh,VV,seval];exact⟨λh=>by simp at h,λ_=>e g ..⟩
 |cons x b ih =>
 intro a g d e;subst d;have k:=m x (by simp);refine aD λR f=>?_;simp only[Mh,bf.axV,cz.axV,En.axV,VV,seval];refine⟨λ_=>⟨by simp;omega,?_⟩,λh=>by simp at h<;>omega⟩;refine ak (pV x k _) rfl ?_;simp only[ab,bf.axV,cz.axV,En.axV,maxLen,V.pure,VV,seval];refine⟨by simp at c;omega,?_⟩;have j:(a.map bf.axV++[[.I x.aZ.time,.I x.aZ.bR,.I x.aZ.ax0,.I x.axW,.sl 3 (x.axY.ax3.map It.axV),.sl 3 (x.axY.ax4.map It.axV),.s x.axY.cJ,.s x.axY.next,.s x.axY.dL,.s x.axY.dh,.I x.axY.ayd,.I x.axY.ayf,.sl 1 (x.ax5.map cG)]])=(a++[x]).map bf.axV:=by simp[bf.axV,cz.axV,En.axV]
 rw[j];refine f _ (dn [_] _ (cx i (by simp)) ?_ ?_ (ih (a++[x]) (g+1) (by simp) e));.rw[cT (by simp at c;omega)];simp only[ae,ah,aj];repeat' constructor
 simp only[LW,ah,aj,aP];omega
def Oa(a:X l<2^39)(d:∀o∈l,o.axZ)(J:ai):PC A 140 [.sl 13 (l.map bf.axV)] J (λr c=>r=.own (X J) 0/\c=J++[zP 0 l]):=by
 refine aT func140 anO.2 λb e=>an ?_;simp only[anO,SS,seval];simp only[ab,VV,seval];refine cD.wk ((Wk.jP (J:=J) (k:=3) YZ rfl).trans (Wk.fG ?_)) (cD.mM (X l+1) (aeW l b a d l [] 0 rfl ?_));.simp only[W,seval];repeat' constructor
 intro g;simp only[JE];intros;simp only[VV,seval];exact AB 0 b (.inr rfl) rfl rfl rfl (by simp[IK,Ob.gen]) (by simp[Pm.cM,mv1,Ob.fresh,zP])
def wi(a:L.axZ)(J:ai):PC A 83 [.agg L.axV] J (λr e=>r=.agg [.I L.ax0,.I L.ax7,.own J.length 0,.sl 1 (aC L.log),.I L.ayi,.b L.down]/\e=J++[zP 0 L.axX]):=by
 refine aT func83 p83.2 λd f=>an ?_;simp only[p83,SS,seval];simp only[bX.axV,VV,seval];refine ak (Oa L.axX (by have:=a.len;omega) a.axX _) rfl ?_;simp only[zP,VV,seval];refine ak (tS L.log (by have:=a.log;omega) _) rfl ?_;simp only[VV,seval];refine gT (xs:=[.agg [.I L.ax0,.I L.ax7,.own (J.length+2) 0,.sl 1 (aC L.log),.I L.ayi,.b L.down]]) (xs':=[.agg [.I L.ax0,.I L.ax7,.own J.length 0,.sl 1 (aC L.log),.I L.ayi,.b L.down]]) (.inr rfl) (by simp only[lG,vf,VV,seval]) ?_ rfl ⟨rfl,rfl⟩;refine Wk.PT (os:=[.row 57 13 184 0 Z (L.axX.map bf.axV)]) [2] d (by simp) rfl (λi k c=>by
  rcases i with _|i;.simp only[aG,aa]at c;subst c;exact⟨_,rfl,rfl,rfl⟩
  simp at c) (.cons (Mv.iK (.cons (.dX _ (.i _ _)) (.cons (.dX _ (.i _ _)) (.cons (.own 0 2 57 13 184 0 Z (L.axX.map bf.axV) rfl rfl) (.cons (.dX _ (.sl _ _)) (.cons (.dX _ (.i _ _)) (.cons (.dX _ (.b _)) .nil))))))) .nil)
def qh(b:L.axZ)(J:ai):bh A 83 [.agg L.axV] J (.agg L.axV):=by refine PC.closed λa=>PC.post (wi L b J) ?_;refine(Wk.fz (E:=57) (sz:=13) (by':=184) (g:=0) (sh:=Z) (rows:=L.axX.map bf.axV) (X J) (by simp[zP])).trans ?_;simp only[az,aq,Pm.fz,jR,cw,aR,zP];rw[ej _ _ (aB _),gO];exact Wk.yL a (by simp[LW])
def nG(a:Nat)(J:ai):bh A 81 [.I n,.I a] J (.b (Nc n a)):=by refine aT func81 p81.2 λc d=>an ?_;simp only[p81,SS,seval];simp only[VV,seval];refine bt rfl ⟨?_,rfl⟩;by_cases h:0<=n<;>simp[Pm.cM,Nc,h]
def EG(b:Int)(J:ai):bh A 88 [.I n,.I b] J (.agg (ct (fx n b))):=by refine aT func88 p88.2 λa c=>an ?_;simp only[p88,SS,seval];simp only[VV,seval];exact aS a (by simp only[RS,seval];rfl) (by simp[LW]) ⟨rfl,rfl⟩
def SH:Int:=if x∈U then U.idxOf x else -1
def fm(l:fF):Ob:=.row 99 2 16 g Z (l.map ct)
def aeJ(l:fF)(c g:Nat)(q:J[c]?=S (fm g l))(r:X l<2^62):∀(f d:fF),l=d++f->x ∉ d ->(x ∉ l->((fj 19 fo) λn=>K (.exit 0) ⟨n,J++[.box 99 (ct x)]⟩))->(x∈l->((fj 4 (fh (.I (SH l x)) (fj 14 fo))) λn=>K .ret ⟨n,J++[.box 99 (ct x)]⟩)) ->gF (X J) A L2 K (X f+1) ⟨(.own c g::uu 2 (.ptr (X J) 0::uu 3 (.I (X l)::.I (X d)::uu 10 []))),J++[.box 99 (ct x)]⟩:=by
 intro f;have p:∀j:ai,(J++j)[c]?=S (.row 99 2 16 g Z (l.map ct)):=λj=>by rw[bc (ag.1 q).1];exact q
 induction f with
 |nil =>intro d i m o k;have i:=dH i;subst i;refine aD λR s=>?_;simp only[L2,VV,seval];exact⟨λh=>by simp at h,λ_=>o m ..⟩
 |cons y f ih =>
 intro d i m o k;have B:=ko i;have v:(List.map ct l).getD (X d) []=[.I y.1,.I y.2]:=by rw[i];exact gA
 have u:(0:Int)<=(X d:Int):=by omega
 have z:(X d:Int)<(X l:Int):=by omega
 refine aD λR s=>?_;simp only[L2,ct,p,v,u,z,ab,ix,ez,db,VV,seval];refine⟨λ_=>⟨λh=>?_,λh=>?_⟩,nofun⟩
 .have h:x=y:=by obtain⟨a,b⟩:=x;obtain⟨w,t⟩:=y;simpa using h
  subst h;have e:SH l x=X d:=by rw[i];simp[SH,List.idxOf_append,m]
  rw[e]at k;exact k (by rw[i];simp) ..
 have h:x≠y:=by obtain⟨a,b⟩:=x;obtain⟨w,t⟩:=y;intro e;simp at e;simp[e.1,e.2]at h
 refine s _ (bL ?_ (ih (d++[y]) (by rw[i];simp) (by simp[m,h]) o k));rw[cT (by omega)];simp only[ae,ah,aj];repeat' constructor
def Xw(a:X U<2^62)(J:ai)(c:J[g]?=S (fm H U)):bh A 191 [.own g H,.agg (ct x)] J (.I (SH U x)):=by
 refine aT func191 am7.2 λe f=>an ?_;have d:∀b:ai,(J++b)[g]?=S (.row 99 2 16 H Z (U.map ct)):=λb=>by rw[bc (ag.1 c).1];exact c
 simp only[am7,SS,seval];simp only[d,ab,ct,VV,seval];refine cD.bL ?_ (X U+1) (aeJ x U g H c a U [] rfl (by simp) (λh=>?_) (λh=>?_));.repeat' constructor
 .simp only[JE];intros;simp only[VV,seval];exact aS e rfl (by simp[LW]) ⟨by simp[Pm.cM,SH,h],rfl⟩
 simp only[JE];intros;simp only[VV,seval];exact aS e rfl (by simp[LW]) ⟨rfl,rfl⟩
def ND(a:X U<2^62)(J:ai)(f:J[g]?=S (fm H U)):bh A 143 [.own g H,.agg (ct x)] J (.b (U.any λg=>g==x)):=by
 refine aT func143 anM.2 λi k=>an ?_;have d:∀c:ai,(J++c)[g]?=S (fm H U):=λc=>by rw[bc (ag.1 f).1];exact f
 simp only[anM,SS,seval];simp only[ct,VV,seval];refine ak (Xw U x g H a _ (d _)) rfl ?_;simp only[VV,seval];refine aS i rfl (by simp[LW]) ⟨?_,rfl⟩;by_cases h:x∈U;.have:(U.any λg=>g==x)=G:=hZ.2 ⟨x,h,by simp⟩;simp[Pm.cM,SH,h,this]
 have:(U.any λg=>g==x)=Z:=by rw[Yv];intro g j e;exact h (by simpa using(beq_iff_eq.1 e)▸j)
 simp[Pm.cM,SH,h,this]
def HY(x y:V)(a b:Int)(c g:Nat)(d:D.cy.length<2^62)(J:ai)(f:J[c]?=S (fm g D.cy))(l:jK J x=G)(j:jK J y=G):bh A 85 [.agg [x,y,.own c g],.I a,.I b] J (.b (mT D a b)):=by
 refine aT func85 p85.2 λi m=>an ?_;have k:J[c]?=S (.row 99 2 16 g Z (D.cy.map ct)):=f;have h:∀e:ai,(J++e)[c]?=S (fm g D.cy):=λe=>by rw[bc (ag.1 f).1];exact f
 simp only[p85,SS,seval];simp only[l,j,k,aK,VV,seval];refine ak (EG a b _) rfl ?_;simp only[VV,seval];refine ak (ND D.cy (fx a b) c g d _ (h _)) rfl ?_;simp only[VV,seval];exact aS i rfl (by simp[LW]) ⟨rfl,rfl⟩
def J5(x:Let)(b:x.op.axZ)(J:ai):bh A 84 [.agg x.axV] J (.agg x.axV):=by refine aT func84 p84.2 λa c=>an ?_;simp only[p84,SS,seval];simp only[Let.axV,bf.axV,cz.axV,En.axV,aF,aw,VV,seval];refine ak (pV x.op b _) (by simp only[bf.axV,cz.axV,En.axV,VV,seval]) ?_;simp only[bf.axV,cz.axV,En.axV,VV,seval];exact aS a (by simp only[RS,seval];rfl) (by simp[LW]) ⟨rfl,rfl⟩
def Vp:(prog.info? 99).map (λi=>(i.zero.map (λz=>z.cells.size),i.size,i.bytes))=S (S 2,2,16):=by kernel_rfl
def Yd{f E k by':Nat}{h:eJ}(K:0<k)(R:(prog.info? E).map (λi=>(i.zero.map (λz=>z.cells.size),i.size,i.bytes))=S (S k,k,by')) (q:X h*by'<=140737488355328) (SM:∀w,Calls A f #[.slice Y 0 0] w λe g=>e=.returned (.slice Y 0 0)/\g=w) (D:∀(a:Addr) (w:bF),Calls A f #[.slice (S a) 0 0] w λe g=>∃l,e=.returned l/\g.ownsRow w.heap.size E k l 0 []/\Below w.heap.size w g) (H:∀(v:TypeInfo) (z:Value),prog.info? E=S v->v.zero=S z->v.size=k->v.bytes=by'->z.cells.size=k->(∀w,(Go.sizeOf E).run A w=.ok k w)->∀(b s n c:Nat) (d:List Value) (w:bF),X d=n*k->n<=maxLen->n*by'<=140737488355328 ->(∀j u,d[j]?=S u->w.cell? ⟨b,s+j,Y⟩=S u)->(∀u∈d,u.oneCell'=G) ->Calls A f #[.slice (S ⟨b,s,Y⟩) n c] w λe g=>∃l,e=.returned l/\g.ownsRow w.heap.size E k l n d/\l≠.slice Y 0 0/\Below w.heap.size w g) (J:ai):PC A f [.sl k h] J (λr Q=>r=.own (X J) 0/\Q=J++[.row E k by' 0 Z h]):=by
 obtain⟨i,z,F,L,p,t,M⟩:=ql R;refine PC.ofRow (E:=E) (by':=by') ⟨K,i,z,F,L,p,t,M⟩ λB w0 w μ I hS N=>?_;have O:=N.2 0 _ rfl;have e:I=#[I.getD 0 undef]:=vs1 N.1;rw[e];rcases TS K O with⟨⟨a,x⟩,V⟩|⟨b,o,y,m,x,W,U,hc,C,hR⟩
 .rw[x];subst V;cases a with
  |none =>refine(SM w).mono ?_;rintro e g ⟨rfl,rfl⟩;exact⟨_,[],rfl,World.ownsRow_nil g _ _ _,Below.refl _ _,by simp,by simp[gi]⟩
  |some a =>refine(D a w).mono ?_;rintro e g ⟨l,rfl,p,t⟩;exact⟨_,[],rfl,p,t,by simp,by simp[gi]⟩
 rw[x];refine(H i z F L p t M (λw=>by simp[sizeOf,run_typeInfo w F,p]) b o _ y m w U W q hc C).mono ?_;rintro e g ⟨l,rfl,T,_,P⟩;exact⟨_,m,rfl,T,P,hR⟩
def Ja(l:X U<2^40)(J:ai):PC A 82 [.sl 2 (U.map ct)] J (λr t=>r=.own (X J) 0/\t=J++[fm 0 U]) :=Yd (by decide) Vp (by rw[ab];omega) (λw=>AnyE.slices_Clone_nil Tryz.Tm 0 0 w) (λa w=>by
   obtain⟨i,z,e,k,f,g,j⟩:=ql Vp;exact tz Tryz.Tm i z 2 16 e k f g j (by decide) (show ∀w,(Go.sizeOf 99).run A w=.ok 2 w from λw=>by simp[sizeOf,run_typeInfo w e,f]) a w)
  (λi z e k f g j q b o n c d w m s p u h=>AnyE.slices_Clone Tryz.Tm i z 2 16 e k f g j (by decide) q b o n c d w m s p u h) J
def Y0:Ti A 61 6 80:=ng (by kernel_rfl)
def ahQ:Ti A 76 15 200:=ng (by kernel_rfl)
def eW(x y z:V):Ob:=.box 29 [x,y,z]
def bI:Ob:=.row 61 6 80 g Z (P.map bX.axV)
def cL(g:Nat)(l:List Let):Ob:=.row 76 15 200 g Z (l.map Let.axV)
def aab:P.map bX.axV++[[.I L.ax0,.I L.ax7,.sl 13 (L.axX.map bf.axV),.sl 1 (aC L.log),.I L.ayi,.b L.down]]=(P++[L]).map bX.axV:=by simp[bX.axV]
def aaS(n:List Let)(x:Let):n.map Let.axV++[[.I x.src,.I x.dst,.I x.op.aZ.time,.I x.op.aZ.bR,.I x.op.aZ.ax0,.I x.op.axW,.sl 3 (x.op.axY.ax3.map It.axV),.sl 3 (x.op.axY.ax4.map It.axV),.s x.op.axY.cJ,.s x.op.axY.next,.s x.op.axY.dL,.s x.op.axY.dh,.I x.op.axY.ayd,.I x.op.axY.ayf,.sl 1 (x.op.ax5.map cG)]]=(n++[x]).map Let.axV:=by simp[Let.axV,bf.axV,cz.axV,En.axV]
def aaA(k:bW (J++[Q,N]))(e:fF)(l:List bX)(c:X l<2^30)(p:∀o∈l,o.axZ):∀(b a:List bX) (g:Nat),l=a++b ->(∀g,((fj 1 (fh (.ptr (X J) 0) (fh (.ptr (X J+1) 0) (fh (.ptr (X J+3) 0) (fj 39 fo))))) λq=>K (.exit 0) ⟨q,J++[Q,N,fm 0 e,eW (.own (X J+4) g) .nil (.own (X J+2) 0),bI g l]⟩)) ->gF (X J) A UJ K (X b+1) ⟨(uu 1 (.ptr (X J) 0::.ptr (X J+1) 0::.ptr (X J+3) 0::uu 9 (.sl 6 (l.map bX.axV)::.I (X l)::.I (X a)::uu 27 []))),J++[Q,N,fm 0 e,eW (.own (X J+4) g) .nil (.own (X J+2) 0),bI g a]⟩:=by
 intro b;induction b with
 |nil =>intro a g d f;have d:=dH d;subst d;refine aD λR j=>?_;simp only[UJ,VV,seval];exact⟨λh=>by simp at h,λ_=>f g ..⟩
 |cons x b ih =>
 intro a g d f;subst d;have n:=p x (by simp);have i:=eE a x (by simp at c;omega);have r:X a+1<2^30:=by simp at c;omega
 refine aD λR j=>?_;simp only[UJ,eW,bI,bX.axV,i,VV,seval];refine⟨λ_=>⟨by simp;omega,?_⟩,λh=>by simp at h<;>omega⟩;refine ak (qh x n _) (by simp only[bX.axV,VV,seval]) ?_;simp only[bX.axV,ab,maxLen,V.pure,i,VV,seval];refine⟨⟨by omega,by omega⟩,?_⟩;have m:=aab a x;rw[m];refine j _ (dn [Q,N,fm 0 e,eW (.own (X J+4) (g+1)) .nil (.own (X J+2) 0),bI (g+1) (a++[x])] [_] ?_ ?_ ?_ (ih (a++[x]) (g+1) (by simp) f));.have:=cx k (l:=[fm 0 e,eW (.own (X J+4) (g+1)) .nil (.own (X J+2) 0),bI (g+1) (a++[x])]) (by simp only[eW,fm,bI,bV,bM,dp,dF,dm,ae,ah,aj,LW];omega);simpa using this
 .repeat' constructor
 simp only[LW,ah,aj,aP];omega
def aaz(n:bW (J++[Q,N]))(i:fF)(f:List bX)(c:Nat)(l:List Let)(d:X l<2^30)(r:∀o∈l,o.op.axZ):∀(b a:List Let) (g:Nat),l=a++b ->(∀g,((fj 2 (fh (.ptr (X J+1) 0) (fh (.ptr (X J+3) 0) (fj 39 fo)))) λs=>K (.exit 2) ⟨s,J++[Q,N,fm 0 i,eW (.own (X J+4) c) (.own (X J+5) g) (.own (X J+2) 0),bI c f,cL g l]⟩)) ->gF (X J) A UI K (X b+1) ⟨(uu 2 (.ptr (X J+1) 0::.ptr (X J+3) 0::uu 24 (.sl 15 (l.map Let.axV)::.I (X l)::.I (X a)::uu 12 []))),J++[Q,N,fm 0 i,eW (.own (X J+4) c) (.own (X J+5) g) (.own (X J+2) 0),bI c f,cL g a]⟩:=by
 intro b;induction b with
 |nil =>intro a g e j;have e:=dH e;subst e;refine aD λR m=>?_;simp only[UI,VV,seval];exact⟨λh=>by simp at h,λ_=>j g ..⟩
 |cons x b ih =>
 intro a g e j;subst e;have q:=r x (by simp);have k:=eE a x (by simp at d;omega);have t:X a+1<2^30:=by simp at d;omega
 refine aD λR m=>?_;simp only[UI,eW,bI,cL,Let.axV,bf.axV,cz.axV,En.axV,aF,aw,k,VV,seval];refine⟨λ_=>⟨by simp;omega,?_⟩,λh=>by simp at h<;>omega⟩;refine ak (J5 x q _) (by simp only[Let.axV,bf.axV,cz.axV,En.axV,aF,aw,VV,seval]) ?_;simp only[Let.axV,bf.axV,cz.axV,En.axV,aF,aw,ab,maxLen,V.pure,k,VV,seval];refine⟨⟨by omega,by omega⟩,?_⟩;have p:=aaS a x;rw[p];refine m _ (dn [Q,N,fm 0 i,eW (.own (X J+4) c) (.own (X J+5) (g+1)) (.own (X J+2) 0),bI c f,cL (g+1) (a++[x])] [_] ?_ ?_ ?_ (ih (a++[x]) (g+1) (by simp) j));.have:=cx n (l:=[fm 0 i,eW (.own (X J+4) c) (.own (X J+5) (g+1)) (.own (X J+2) 0),bI c f,cL (g+1) (a++[x])]) (by simp only[eW,fm,bI,cL,bV,bM,dp,dF,dm,ae,ah,aj,LW];omega);simpa using this
 .repeat' constructor
 simp only[LW,ah,aj,aP];omega
def acr{n:Nat}{xs:ar}{J:ai}:Wk A n xs (J++[Q,N,fm 0 E,eW .nil .nil (.own (X J+2) 0)]) xs (J++[Q,N,fm 0 E,eW (.own (X J+4) 0) .nil (.own (X J+2) 0),bI 0 []]):=by have:=Wk.qN (P:=A) (n:=n) (xs:=xs) (id:=X J+3) (j:=0) (T:=29) (cs:=[.nil,.nil,.own (X J+2) 0]) (J:=J++[Q,N,fm 0 E,eW .nil .nil (.own (X J+2) 0)]) Y0 (by simp[eW]) rfl;simpa only[eW,bI,ji,aJ,ae,ah,aj,aF,aw,cu,cH,aP,Nat.reduceAdd,aq]using this
def acq{n g:Nat}{xs:ar}{J:ai}{l:List bX}:Wk A n xs (J++[Q,N,fm 0 E,eW (.own (X J+4) g) .nil (.own (X J+2) 0),bI g l]) xs (J++[Q,N,fm 0 E,eW (.own (X J+4) g) (.own (X J+5) 0) (.own (X J+2) 0),bI g l,cL 0 []]):=by have:=Wk.qN (P:=A) (n:=n) (xs:=xs) (id:=X J+3) (j:=1) (T:=29) (cs:=[.own (X J+4) g,.nil,.own (X J+2) 0]) (J:=J++[Q,N,fm 0 E,eW (.own (X J+4) g) .nil (.own (X J+2) 0),bI g l]) ahQ (by simp[eW]) rfl;simpa only[eW,bI,cL,ji,aJ,ae,ah,aj,aF,aw,cu,cH,aP,Nat.reduceAdd,aq]using this
def sB(b:D.axZ)(J:ai):PC A 42 [.agg D.axV] J (λr g=>r=.agg [.own (X J) 0,.own (X J+1) 0,.own (X J+2) 0]/\g=J++[bI 0 D.aM,cL 0 D.aW,fm 0 D.cy]):=by
 refine aT func42 p42.2 λd h=>an ?_;have f:bW (J++[.box 29 [.sl 6 (D.aM.map bX.axV),.sl 15 (D.aW.map Let.axV),.sl 2 (D.cy.map ct)],.box 29 [.nil,.nil,.nil]]):=cx d (by simp only[bV,bM,dp,dF,dm,LW]);simp only[p42,SS,seval];simp only[Net.axV,ab,VV,seval];refine ak (Ja D.cy (by have:=b.tT;omega) _) rfl ?_;simp only[fm,ab,aK,VV,seval];refine cD.wk ((Wk.fG (ys:=(uu 1 (.ptr (X J) 0::.ptr (X J+1) 0::.ptr (X J+3) 0::uu 9 (.sl 6 (D.aM.map bX.axV)::.I D.aM.length::.I (X ([]:List bX):Nat)::uu 27 [])))) ?_).trans acr) (cD.mM (D.aM.length+1) (aaA f D.cy D.aM b.D5 b.bg D.aM [] 0 rfl ?_));.repeat' constructor
 intro c;simp only[JE];intros;simp only[eW,fm,bI,ab,VV,seval];refine cD.wk ((Wk.fG (ys:=(uu 2 (.ptr (X J+1) 0::.ptr (X J+3) 0::uu 24 (.sl 15 (D.aW.map Let.axV)::.I D.aW.length::.I (X ([]:List Let):Nat)::uu 12 [])))) ?_).trans acq) (cD.mM (D.aW.length+1) (aaz f D.cy D.aM c D.aW b.vZ b.axX D.aW [] 0 rfl ?_));.repeat' constructor
 intro e;simp only[JE];intros;simp only[eW,fm,bI,cL,aK,VV,seval];refine gT (xs:=[.agg [.own (X J+4) c,.own (X J+5) e,.own (X J+2) 0]]) (xs':=[.agg [.own (X J) 0,.own (X J+1) 0,.own (X J+2) 0]]) (.inr rfl) (by simp only[lG,vf,VV,seval]) ?_ rfl ⟨rfl,rfl⟩;refine Wk.PT (os:=[bI 0 D.aM,cL 0 D.aW,fm 0 D.cy]) [4,5,2] d (by simp) rfl (λi k a=>by
  rcases i with _|_|_|i;.simp only[aG,aa]at a;subst a;exact⟨_,rfl,rfl,rfl⟩
  .simp only[aP,cA,aG,aa]at a;subst a;exact⟨_,rfl,rfl,rfl⟩
  .simp only[aP,Nat.reduceAdd,cA,aG,aa]at a;subst a;exact⟨_,rfl,rfl,rfl⟩
  simp at a) (.cons (Mv.iK (.cons (.own 0 4 61 6 80 c false (D.aM.map bX.axV) rfl rfl) (.cons (.own 1 5 76 15 200 e false (D.aW.map Let.axV) rfl rfl) (.cons (.own 2 2 99 2 16 0 false (D.cy.map ct) rfl rfl) .nil)))) .nil)
