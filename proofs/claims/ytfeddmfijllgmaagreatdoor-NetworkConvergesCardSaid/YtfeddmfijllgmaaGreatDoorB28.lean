/- A part of a proof; the claim's last text says of what. -/
import Derived.Test.YtfeddmfijllgmaaGreatDoorCards
import Derived.Test.YtfeddmfijllgmaaGreatDoorTie
import Derived.WalkKit
import Derived.ProofKit
import Derived.OpenShut
import Derived.LaidMore
import Derived.Deep.DeepHandedRow
import Derived.Laws.Externs
import Derived.ChangeSlices
import Derived.Shelf.RegionOpenPlain
import Derived.Deep.LoopGhost
import Derived.Deep.RegionLaw
import Derived.Lib.SliceRun
import Derived.Test.YtfeddmfijllgmaaGreatDoorB25
import Derived.Test.YtfeddmfijllgmaaGreatDoorB26
set_option linter.all false
set_option maxHeartbeats 4000000
open Option renaming some->S,none->Z
open Bool renaming true->θ,false->G
open Go.Proofs.Tryz renaming prog->κ
open List renaming length->Y

namespace Go.Pm
open Go Go.RowKit Go.Sort Go.Proofs
variable{R:Mem}{k n T:Nat}{U:aB}{J:aj}{P:bG}{w:bQ}
def T6{W a:bQ}(h:Below W.heap.size W a)(g:W.drawn<=a.drawn):∃q b,a=grow (W.drewN q) b:=by
 refine⟨a.drawn - W.drawn,a.heap.extract W.heap.size a.heap.size,?_⟩;have e:a.heap=W.heap++a.heap.extract W.heap.size a.heap.size:=by
  apply Array.ext_getElem?;intro i;rw[Array.getElem?_append];split;.exact h.block i ‹_›
  have:=h.size;rw[Array.getElem?_extract];split;.congr 1;omega
  rw[xq (by omega)]
 have f:=h.os;have c:=h.tape;have d:=h.output;obtain⟨k,m,l,os,j⟩:=a;simp only at e f c d g |-;subst f c d;simp only[grow,World.drewN,<- e];congr 1;omega
def Hb{d:Type}[Inhabited d]{a:d->List Value}{E:Nat}{b:Array Value}{c:Array d}{os:Array Obj}(f:w.heap[T]?=S (.cells b E (0,0))): (sortWorldK a k w T 0 n c os).heap[T]?=S (.cells (putCells id 0 (flatK a k c) b) E (0,0)):=by
 have g:=(cY.1 f).1;have e:(putRowK a k (Sort.ahead w n) T 0 c).heap[T]?=S (.cells (putCells id 0 (flatK a k c) b) E (0,0)):=by simp only[putRowK,putRow,mapBlock,Sort.ahead,fk,aU,f,dV];rfl
 simp only[sortWorldK,grow];rw[ma (by have:=(cY.1 e).1;exact this)];exact e
def sM{b:Type}[Inhabited b]{a:b->List Value}{c:Array b}{os:Array Obj}: w.grownBy (sortWorldK a k w T 0 n c os) (S T):=by
 have d:(putRowK a k (Sort.ahead w n) T 0 c).heap.size=w.heap.size:=by rw[putRowK,Go.Sort.size_putRow];rfl
 refine⟨rfl,rfl,rfl,?_,λj h f=>?_⟩;.simp only[sortWorldK,grow,kS,d];omega
 have g:¬T=j:=λe=>f (by rw[e]);simp only[sortWorldK,grow];rw[ma (by rw[d];exact h)];simp only[putRowK,putRow,mapBlock,Sort.ahead,fk,aw g]
def VR.bare{N w W:bQ}{t:Mem}{y id:Nat}(T:l8 P k N w J R){o:Ob}(E:J[id]?=S o)(A:∀d,o.wat d)(H:nQ (R id)=S y)(D:w.grownBy W (S y)){x:V}{v:Value}(h:VR w J R x v)(O:x.pure=θ): VR W [] t x v:=by
 have M:∀b d u,w.cell? ⟨b,d,Z⟩=S u->¬wr J R b d->W.cell? ⟨b,d,Z⟩=S u:=by intro b d u m L;refine D.cell m λe=>L ⟨id,o,E,?_,A d⟩;rw[H];exact e.symm
 induction h with
 |b x=>exact .b x
 |i c n=>exact .i c n
 |s l x B F=>exact .s l x B F
 |FX p=>exact .FX p
 |sle p a=>exact .sle p a
 |sl p z b o r f q I K m U ih =>exact .sl p z b o r f q I K (λi j x g=>⟨M _ _ _ (m i j x g).1 (m i j x g).2.1,by rintro⟨id,Q,C,_⟩;simp at C,(m i j x g).2.2⟩) (λi j x g=>ih i j x g (m i j x g).2.2)
 |_=>simp[V.pure]at O
def PC.agb{id E m l g:Nat}{q:fx}{R:fx->Prop}(i:J[id]?=S (.row E m l g G q)) (h:∀(B:Nat) (v w:bQ) (f:Mem) (n:Array Value),l8 P B v w J f->VRs w J f U n->Calls P k n w λe w'=>∃a c,R a/\a.length=q.length/\e=.returned (.tuple #[])/\w.grownBy w' (nQ (f id))/\w'.ownsRow B E m (f id) a.length c/\nD w J f a m c) : PC P k U J (λr J'=>∃a,R a/\r=.jg []/\J'=J.set id (.row E m l g G a)):=by
 intro B v w f n s N;refine(h B v w f n s N).mono ?_;rintro e w' ⟨a,c,F,C,rfl,H,M,L⟩;have x:id<J.length:=(ag.1 i).1;have y:=s.update (w':=w') (J':=J.set id (.row E m l g G a)) (μ':=f) id (nQ (f id)) H (λb t=>⟨_,i,by simp,t⟩) (by simp) (λj Q=>bN (λe=>Q e.symm)) (λ_ _=>rfl)
  (λb t=>.inl ⟨_,i,by simp,t⟩)
  (λb O u o p _ W _ D=>absurd ⟨id,o,p,W,by rw[i]at p;simp only[ab]at p;subst p;intro A;simp at A⟩ D)
  (λT cs d=>by rw[i]at d;simp at d)
  (λK E es d=>by rw[i]at d;simp at d)
  (λE2 ad I g2 V ac _ d=>by
   simp only[aT x,ab,Ob.row.injEq]at d;obtain⟨rfl,rfl,rfl,rfl,rfl,rfl⟩:=d;exact⟨g,G,q,i,aM _,λ_=>⟨C.symm,rfl⟩⟩)
  (λX o d=>by simp only[aT x,ab]at d;subst d;obtain⟨z,_⟩:=s.obj id _ i;exact⟨z,c,M,L.eY X.eY⟩);exact⟨.jg [],.tuple #[],_,f,rfl,⟨a,F,rfl,rfl⟩,y.1,.jg [] #[] rfl (by simp),y.2.eY⟩
def PC.lays{M w W:bQ}(p:l8 P k M w J R){B:Array Value}{a:Int}(V:k<=T)(z:w.grownBy W (S T))(L:VRs W [] (λ_=>undef) U B) (h:PC P n U [] (λr _=>r=.i .i64 a)):Calls P n B W λe s=>e=.returned (.int .i64 a)/\∃q x,s=grow (W.drewN q) x:=by
 have m:Laid P W.heap.size W:=by intro t A g l;obtain⟨N,_⟩:=p.below.laid t A g l;have u:=p.below.tab A l;have c:g<w.heap.size:=im N p.base;refine⟨im c z.size,?_⟩;have I:W.heap[g]?=w.heap[g]?:=z.block g c (λe=>by simp only[ab]at e;omega);unfold Lib.TabIs World.var? at u |-;simp only[l,kz]at u |-;rw[I];exact u
 have D:l8 P W.heap.size W W [] (λ_=>undef):=⟨⟨Below.refl _ _,m⟩,aM _,λid o H=>by simp at H,λi j O Q b F=>by simp at F⟩;refine(Calls.drawn (h _ _ _ _ _ D L) (by rintro s ⟨r,v,K,f,E,_⟩;cases E)).mono ?_;rintro e s ⟨⟨r,v,K,f,rfl,rfl,d,y,_⟩,C⟩;exact⟨by rw[y.kK],T6 d.below.toBelow C⟩
def PC.abh{P:bG}{ρ:Shelf.Ren}(L:SlLaysF0.n6 P ρ){k:Nat}(aE:∀w,(isAgg (ρ.t 24)).run P w=.ok θ w)(zE:∀w,(Go.sizeOf (ρ.t 24)).run P w=.ok k w){α:Type}(D:α->aB)(Hq:∀x,Y (D x)=k)(S3:0<k)(cf:α->α->Int){C:Nat} (eg:∀T w,(callFunc C T).run P w=.ok (.enter C T) w) (l:List α) (a3:∀x∈l,∀y∈l,PC P C [.agg (D x),.agg (D y)] [] (λr _=>r=.i .i64 (cf x y))) (hO:SWO (ltOf λ(i j:Fin (Y l))=>cf l[i] l[j])) (hl:Y l<2^30) {J:aj} {id g am:Nat} (h1:J[id]?=S (.row (ρ.t 24) k am g G (l.map D))) : PC P (ρ.f 6) [.own id g,.fn C []] J (λr J'=>∃I:List α,I.Perm l/\I.Pairwise (λx y=>¬cf y x<0)/\r=.jg []/\J'=J.set id (.row (ρ.t 24) k am g G (I.map D))):=by
 refine PC.mono (PC.agb (R:=λaf=>∃I:List α,I.Perm l/\I.Pairwise (λx y=>¬cf y x<0)/\af=I.map D) h1 λB w0 w μ vs hS hv=>?_) (by rintro r J' ⟨af,⟨I,h1,h2,rfl⟩,Q,h4⟩;exact⟨I,h1,h2,Q,h4⟩);have a0:=(hv.2 0 _ rfl).nv h1;have a1:=hv.2 1 _ rfl;obtain⟨_,a,X,eG⟩:=hS.obj id _ h1;have qw:Y (l.map D)=Y l:=aa ..;have e:vs=#[μ id,.func (.func C) #[] #[]]:=by
  obtain⟨q⟩:=vs;match q,hv.1 with
  |[u,v],_ =>
   simp at a0 a1;cases a1 with
   |fn _ _ fs ap _ =>
   obtain rfl:fs=#[]:=by apply zd;simpa using ap.symm
   rw[a0]
 rw[e];rw[qw]at X;have Na:Y a=Y l*k:=X.1;have o1:=nD.one hS eG (by rw[qw];exact Na);by_cases h0:Y l=0
 .have X0:l=[]:=cd h0;have a2:a=[]:=cd (by rw[Na,h0,aaE]);have U:∃p s,μ id=.slice p 0 s:=by
   rcases X.2 with⟨h,_⟩|⟨gb,s,M,h,_⟩;.exact⟨_,_,h⟩
   rw[h0]at h;exact⟨_,_,h⟩
  obtain⟨p,s,U⟩:=U;rw[U];refine(AnyF.slices_SortFunc_none { L with } p s _ w).mono ?_;rintro e w' ⟨rfl,rfl⟩;refine⟨[],[],⟨[],by rw[X0],.nil,rfl⟩,by simp[X0],rfl,grownBy_refl _ _,?_,?_⟩;.rw[<- U];rw[a2,h0]at X;exact X
  exact⟨by simp,λi j x hx=>by simp[gv]at hx⟩
 have P7:0<Y l:=Nat.pos_of_ne_zero h0;rcases X.2 with⟨_,hn⟩|⟨gb,s,M,yI,hB,hg,J7,CZ,qF,GJ⟩;.omega
 haveI:Inhabited (Fin (Y l)):=⟨⟨0,P7⟩⟩;have ad:∀(i:Fin (Y l)) (j:Nat),j<k->i.1*k+j<Y l*k:=λi j F=>by have:(i.1+1)*k<=Y l*k:=cg _ i.2;rw[dK,jL]at this;omega
 have S7:∀i:Fin (Y l),Y ((a.drop (i*k)).take k)=k:=λi=>by rw[bj,ca,Na];have:(i.1+1)*k<=Y l*k:=cg _ i.2;rw[dK,jL]at this;omega
 have dz:∀(i:Fin (Y l)) (j:Nat),j<k->((a.drop (i*k)).take k)[j]?=a[i*k+j]?:=λi j F=>by rw[cD F,ei]
 have nV:∀(i:Fin (Y l)) (j:Nat) (x:V),(D l[i])[j]?=S x->x.pure=θ/\∃u,((a.drop (i*k)).take k)[j]?=S u/\VR w J μ x u:=λi j x hx=>by
  have F:j<k:=by have:=(ag.1 hx).1;rwa [Hq]at this
  have h2:gv (l.map D) i j=S x:=by simp only[gv,bR,aD i.2,dV,kz];exact hx
  obtain⟨q1,u,q2,q3⟩:=eG.2 _ _ _ h2;exact⟨q1,u,by rw[dz i j F];exact q2,q3⟩
 generalize av:(λi:Fin (Y l)=>(a.drop (i*k)).take k)=enc;have H:∀i,enc i=(a.drop (i*k)).take k:=λi=>by rw[<- av]
 have N:(List.finRange (Y l)).toArray.size=Y l:=by simp
 have an:∀j (h:j<Y l),(List.finRange (Y l)).toArray[j]! = ⟨j,h⟩:=λj h=>by rw[getElem!_pos _ j (by rw[N];exact h)];simp
 have S5:∀(d:Array (Fin (Y l))) (t:Nat),d.size=Y l->t<Y l*k->(flatK enc k d)[t]?=a[(d[t / k]!).1*k+t % k]?:=λd t hd E=>by
  have h1:t<(flatK enc k d).size:=by rw[size_flatK,hd];exact E
  have h2:=get_flatK enc k d t (by rw[hd];exact E);have U:t % k<k:=wg _ S3;rw[getElem!_pos _ t h1]at h2;rw[cq h1,h2,H,<- dz _ _ U];rw[getElem!_pos _ (t % k) (by rw[S7];exact U),aD]
 have hH:HoldsK enc k w gb 0 (List.finRange (Y l)).toArray:=λt E=>by
  rw[size_flatK,N]at E;have h1:=S5 (List.finRange (Y l)).toArray t N E;have hq:t / k<Y l:=o7 (by rw[ju];exact E);rw[an _ hq]at h1;have e2:t / k*k+t % k=t:=by rw[ju];exact aiM t k
  simp only[e2]at h1;have Q:t<(flatK enc k (List.finRange (Y l)).toArray).size:=by rw[size_flatK,N];exact E
  have h4:M.toList[t]?=a[t]?:=by rw[<- GJ,cD E]
  refine⟨?_,by simp[World.frozen?,hg]⟩;simp only[World.cell?,hg,aG,id_eq];rw[getElem!_pos _ t Q,<- Array.getElem?_eq_getElem Q,h1,<- h4];simp
 have O:nQ (μ id)=S gb:=by rw[yI];rfl
 have QG:=AnyQ.slices_SortFunc L k aE zE enc (λi=>by rw[H];exact S7 i) (λi v hv=>o1 v (by rw[H]at hv;exact eO (dY hv))) (λi j=>cf l[i] l[j]) hO C #[] gb 0 s (List.finRange (Y l)).toArray w eg (λm os dk _ x y=>by
   rw[Wg];refine PC.lays hS hB sM ⟨rfl,λi z W=>?_⟩ (a3 l[x] (eJ _) l[y] (eJ _));have agg:∀q:Fin (Y l),VR (sortWorldK enc k w gb 0 m dk os) [] (λ_=>undef) (.agg (D l[q])) (.agg (enc q).toArray):=λq=>by
    refine .agg _ _ (by rw[fI,H,S7,Hq]) λi z W=>?_;obtain⟨q1,u,q2,q3⟩:=nV q i z W;rw[H];have:((a.drop (q*k)).take k).toArray.getD i undef=u:=by simp only[cZ,si,q2,pY]
    rw[this];exact VR.bare hS h1 (λa4 h=>by simp at h) O sM q3 q1
   rcases i with _|_|i;.simp only[aC,ab]at W;subst W;exact agg x
   .simp only[aG,bY,aC,ab]at W;subst W;exact agg y
   simp at W) hH (cY.1 hg).1 (by rw[N];omega);rw[N,<- yI]at QG;refine QG.mono ?_;rintro e w' ⟨rfl,A,n,os,GB,aK,rfl⟩;have b:A.size=Y l:=by have:=GB.1;rw[N]at this;exact this
 have Hn:A.toList.Perm (List.finRange (Y l)):=by
  have h1:=GB.2.2;have e1:A.extract 0 (Y l)=A:=by have:=Dh (xs:=A);rwa [b]at this
  have e2:(List.finRange (Y l)).toArray.extract 0 (Y l)=(List.finRange (Y l)).toArray:=by have:=Dh (xs:=(List.finRange (Y l)).toArray);rwa [N]at this
  rw[e1,e2]at h1;simpa using h1
 have yi:(flatK enc k A).size=Y l*k:=by rw[size_flatK,b]
 have c:Y ((A.toList.map λi=>l[i]).map D)=Y l:=by rw[aa,aa,bf,b]
 refine⟨_,(flatK enc k A).toList,⟨A.toList.map λi=>l[i],?_,?_,rfl⟩,by rw[c,qw],rfl,by rw[O];exact sM,⟨by rw[c,bf,yi],.inr ⟨gb,s,putCells _root_.id 0 (flatK enc k A) M,by rw[c,yI],hB,Hb hg,by rw[c];exact J7,CZ,?_,?_⟩⟩,?_,?_⟩
 .refine(Hn.map _).trans (List.Perm.of_eq ?_);apply kR;intro i;rw[bR];by_cases hi:i<Y l;.simp[hi]
  rw[cH (by simpa using Nat.le_of_not_lt hi),cH (by omega)];rfl
 .refine EN.2 (iC.2 λi j hi F wP=>?_);rw[bf]at hi F;have:=aK i j (jK _) wP (by rw[<- b];exact F);rw[getElem!_pos _ i hi,getElem!_pos _ j F]at this;simp only[ltOf,iX]at this;simpa using this
 .simp[putCells,qF]
 .rw[c];apply kR;intro t;by_cases E:t<Y l*k
  .rw[cD E];have Q:t<(flatK enc k A).size:=by rw[yi];exact E
   have h4:t<M.size:=by rw[qF];have:=cg k J7;omega
   simp only[putCells,kX,Me,cq h4,dV,jK,km,aG,aQ Q,B3,id_eq];rw[getElem!_pos _ t Q,cq Q]
  rw[cH (by rw[bj];omega),cH (by rw[bf,yi];omega)]
 .intro r hr;obtain⟨x,_,rfl⟩:=cv.1 hr;exact Hq x
 intro i j x hx;obtain⟨r,hr,F⟩:=ln hx;rw[bR,bR]at hr;simp only[aL]at hr;obtain⟨o,⟨q,hq,rfl⟩,rfl⟩:=hr;obtain⟨q1,u,q2,q3⟩:=nV q j x F;have K:j<k:=by have:=(ag.1 F).1;rwa [Hq]at this
 have pR:i<Y l:=by have:=(ag.1 hq).1;rwa [bf,b]at this
 refine⟨q1,u,?_,q3⟩;have ac:(i*k+j) / k=i:=by rw[ju,Nat.mul_add_div S3,Nat.div_eq_of_lt K,cu]
 have au:(i*k+j) % k=j:=by rw[ju,Nat.mul_add_mod,jJ K]
 rw[kX,S5 A (i*k+j) b (ad ⟨i,pR⟩ j K),ac,au,<- dz _ j K];have BW:A[i]! = q:=by rw[getElem!_pos _ i (by rw[b];exact pR)];rw[kX,cq (by rw[b];exact pR)]at hq;simpa using hq
 rw[BW];exact q2
end Go.Pm
namespace Go.Proofs.Tryz
open Go Go.Pm Go.ChangeShapes Go.WideShapes Go.ChangeAt Go.RowKit Go.Proofs.YtfeddmfijllgmaaGreatDoor
variable{X:Mem}{f:Nat}{r:Reach}{v U:Value}{a b:aR}{J:aj}{P:bG}{w:bQ}
def own:ownKnob prog.godebug=Z:=by kernel_rfl
def lv:List (String×DataW Unit):=[("math/bits.deBruijn32tab",Rows.laid_math_bits_deBruijn32tab),("math/bits.deBruijn64tab",Rows.laid_math_bits_deBruijn64tab),("internal/strconv.uint64pow10",Rows.laid_internal_strconv_uint64pow10)]
def alT:prog.globalNamed "internal/strconv.uint64pow10" = S 1:=by kernel_rfl
def adX:(prog.globals[1]?).map (·.type)=S 294:=by kernel_rfl
def aiA:prog.cellsOf 294=20:=by kernel_rfl
def aiz:prog.cellsOf 226=1:=by kernel_rfl
def YW{W:bQ}(h:laidMetH κ lv W):Lib.TabIs κ W "internal/strconv.uint64pow10" .u64 I5:=by
 have a:=laidMetH.filter (λx=>x.1 == "internal/strconv.uint64pow10") h;have e:lv.filter (λx=>x.1 == "internal/strconv.uint64pow10")=[("internal/strconv.uint64pow10",Lib.tabData .u64 I5)]:=by rfl
 rw[e,MakeChecks.laidMetH_plain _ _ _ (by rfl)]at a;exact Lib.tabIs_of_head (rest:=[]) alT adX underlying294 underlying226 aiz aiA a
def Bj{W:bQ}(s:laidMetH κ lv W){a:aB}{d:Array Value}{μ:Mem}(h:bh κ f a [] (.b θ))(n:VRs W [] μ a d): Calls κ f d W λe o=>e=.returned (.bool θ)/\Below W.heap.size W o:=by
 have c:=YW s;have m:1<W.heap.size:=World.block_lt_of_cell? W _ (c.cell alT 0 (by decide));have l:l8 κ W.heap.size W W [] μ:=by refine⟨⟨Below.refl _ _,λt k g q=>?_⟩,aM _,by simp,by simp⟩;simp only[aft,bd,bD,mZ]at k;subst k;obtain rfl:=fO (alT.symm.trans q);exact⟨m,c⟩
 refine(h W.heap.size W W μ d l n).mono ?_;rintro e u ⟨r,v,w,p,rfl,⟨rfl,rfl⟩,i,j,_⟩;exact⟨by rw[j.xU],i.below.toBelow⟩
def laidOut:laidOutB κ=θ:=by kernel_rfl
def Lg{H:Type}{c:TypeId×Value->H}{W j:bQ}(n:Below W.heap.size W j):∀{a:List TypeId} {f:List Value} {g:List (DataW H)} {d:List MemPlace},(a.all λt=>prog.readableRec t&&decide (t<prog.types.size))=θ ->DataW.TrodAll c κ W 0 (λ_=>θ) θ a f g d->(∀x∈d,x.block<W.heap.size)->DataW.TrodAll c κ j 0 (λb=>decide (b<W.heap.size)) θ a f g d:=by
 intro a;induction a with
 |nil =>intro f g d _ h _;obtain⟨rfl,rfl,rfl⟩:=trodAll_nil h;exact trodAll_mk0
 |cons t a ih =>intro f g d e h k;simp only[gF,aZ,bE]at e;obtain⟨r,m,u,o,s,q,rfl,rfl,rfl,l,p⟩:=trodAll_cons h;exact trodAll_cons_mk (Below.trod laidOut e.1.1 e.1.2 l n λx i=>k x (by simp[i])) (ih e.2 p λx i=>k x (by simp[i]))
def uY{H:Type}{a:TypeId×Value->H}{f:Func}{s:ChangeSpec}{W k:bQ}{args:Array Value}{b i:List (DataW H)}{before:List MemPlace}(j:s.vars=[])(r:f.resultTypes=#[4]) (n:(f.params.toList.all λt=>prog.readableRec t&&decide (t<prog.types.size))=θ) (g:DataW.Whole a κ f.params.toList s.vars G W args.toList b i before) (d:s.fn H (b++i)={ results:=[.lit (.bool θ)],args:=b }) (l:Below W.heap.size W k):s.post a κ f G θ G G W args (.bool θ) k:=by
 have o:∀x∈before,x.block<W.heap.size:=λx c=>g.lt x c;have e:=g;obtain⟨p,q,u,m,rfl,_,_⟩:=g;rw[j]at m;obtain⟨rfl,rfl⟩:=trodVars_none m;refine⟨b,[],p++[],[],p,[],e,?_,?_,?_,l.frame _,λh=>by cases h⟩;.rw[d,r];exact trodAll_cons_mk (shut_bool underlying4 _) trodAll_mk0
 .rw[d];exact Lg l n u λx c=>o x (by simp[c])
 rw[d,j];exact rfl
def xS(os:Os)(a:Array Value):laidMetH κ lv ((World.doorLaid κ 400 os).forCall (λ_ _=>0) ⟨#[],a,[]⟩).memory :=laidMetH_of_parts3 (fuel:=8) (laidMet_of_run' 8 (by kernel_rfl) (by kernel_rfl)) (by kernel_rfl) (by kernel_rfl)
open Go.Bt
def LF{w:bQ}:∀(l:aR) (a:Addr) (b:ByteArray),(∀j x,l[j]?=S x->w.cell? (a.add j)=S (.int .u8 x.toNat)) ->(Extern.Bytes.loadBytes a l.length b).run κ w=.ok ⟨(b.data.toList++l).toArray⟩ w:=by
 intro l;induction l with
 |nil=>intro a b _;simp[Extern.Bytes.loadBytes]
 |cons c l ih =>
 intro a b h;have f:=h 0 c rfl;have g:a.add 0=a:=by simp[Addr.add]
 rw[g]at f;simp only[ae,Extern.Bytes.loadBytes,Sem.run_bind,run_load,f,Result.andThen_ok];rw[ih (a.add 1) _ λj x d=>by
  have:=h (j+1) x (by simpa using d);have e:(a.add 1).add j=a.add (j+1):=by
   unfold Addr.add;by_cases d:j=0;.subst d;simp
   simp[d];omega
  rw[e];exact this];congr 1;simp
def NH{w:bQ}(h:VR w J X (.sl 1 (aN a)) v):(Extern.Bytes.bytesOf v).run κ w=.ok ⟨a.toArray⟩ w:=by
 generalize d:V.sl 1 (aN a)=x at h;cases h with
 |FX k =>
  simp only[V.sl.injEq]at d;have:a=[]:=by have:=d.2;simpa[aN]using this
  subst this;rfl
 |sle k c =>
  simp only[V.sl.injEq]at d;have:a=[]:=by have:=d.2;simpa[aN]using this
  subst this;rfl
 |sl k u b o p f l y t s q =>
  simp only[V.sl.injEq]at d;obtain⟨rfl,rfl⟩:=d;simp only[Extern.Bytes.bytesOf,bM];have:=LF (w:=w) a ⟨b,o,Z⟩ .empty λj x g=>by
   have m:gv (aN a) j 0=S (.i .u8 x.toNat):=by simp[gv,aN,g]
   have n:=(s j 0 _ m).1;have r:=(q j 0 _ m).kK;rw[r]at n;have e:(Addr.add ⟨b,o,Z⟩ j)=⟨b,o+j,Z⟩:=by
    unfold Addr.add;by_cases g:j=0;.subst g;simp
    simp[g]
   rw[e];simpa using n
  rw[this];simp
 |_=>simp at d
def Hw:∀(a b:aR),Lib.compareBytes a b=jN a b:=by intro a;induction a with|nil=>intro b;cases b<;>simp[Lib.compareBytes,jN]|cons x a ih=>intro b;cases b<;>simp[Lib.compareBytes,jN,ih]
def Dc(d:VR w J X (.sl 1 (aN a)) v)(c:VR w J X (.sl 1 (aN b)) U):
  (Extern.BytealgCompare.compare #[v,U]).run κ w=.ok (.int .i64 (jN a b)) w:=by
 change Sem.run κ (do pure (goInt (Extern.BytealgCompare.cmp (<- Extern.Bytes.bytesOf v) (<- Extern.Bytes.bytesOf U)))) w=_;simp only[Sem.run_bind,Sem.run_pure,NH d,NH c,Result.andThen_ok];rw[Lib.cmp_eq,Hw];rfl
set_option maxRecDepth 100000 in
def Db(d:VR w J X (.sl 1 (aN a)) v)(f:VR w J X (.sl 1 (aN b)) U): Calls κ 171 #[v,U] w λe c=>e=.returned (.int .i64 (jN a b))/\c=w:=by go_enter func171,Tryz.ntmps171;go_wp2;rw[run_callFunc_extern func227 (by kernel_rfl) (by kernel_rfl) (by kernel_rfl) (e:=Extern.BytealgCompare.compare) (by kernel_rfl),Dc d f];simp only[Result.andThen];rw[Oper.upon_value];go_wp2;go_ret;exact⟨rfl,rfl⟩
def Hz(a b:aR)(J:aj):bh κ 171 [.sl 1 (aN a),.sl 1 (aN b)] J (.I (jN a b)):=by refine PC.PB λw g f c=>?_;have d:=c.2 0 _ rfl;have e:=c.2 1 _ rfl;rw[vs2 c.1];exact⟨_,Db d e,.i _ _⟩
def Ri{a:Option Addr}{len b:Nat}:(Value.slice a len b).cells.toList=[Value.slice a len b]:=by simp[Value.cells]
def Uk{W:bQ}{t e:TypeId}{a:Addr}{len b:Nat}(c:P.underlying t=S (.slice e))(h:Value.okWide P W r f t (.slice (S a) len b)):a.spot=Z:=by simp only[Value.okWide,c,Cell.okWide,Cell.ok]at h;exact h.2.2.2.1
def JB{a:Nat}:¬wr [] X f a:=by rintro⟨id,o,h,_⟩;simp at h
def yh{H:Type}{y:TypeId×Value->H}{W:bQ}{t e:TypeId}{d:DataW H}{p:List MemPlace}{k:IntKind}(μ:Mem)(z:P.underlying t=S (.slice e))(O:P.underlying e=S (.int k))(U:P.cellsOf e=1) (B:Value.okWide P W r f t v) (M:DataW.Trod y P W 0 (λ_=>θ) θ t v d p):∃l:bU,VR W [] μ (.sl 1 (l.map λn=>[.i k n])) v/\∀n∈l,(Lit.int k n).wf=θ:=by
 obtain⟨a0,len,u,rfl⟩:=okWide_slice z B;obtain⟨D,C⟩:=M;rw[Ri]at C;rcases open_ints z O U C with⟨g,_⟩|⟨a,K,I,zs,g,_,hl,R,N,_,X,T⟩;.simp only[fF,cK,Value.slice.injEq]at g;obtain⟨rfl,rfl,rfl⟩:=g;exact⟨[],.FX _,by simp⟩
 simp only[fF,cK,Value.slice.injEq]at g;obtain⟨rfl,rfl,rfl⟩:=g;have E:=Uk z B;obtain⟨b,o,s⟩:=a;simp only at E;subst E;simp only[aU]at N;refine⟨zs.take len,?_,λn q=>T n (dY q)⟩;have F:∀i j x,gv ((zs.take len).map λn=>[V.i k n]) i j=S x->j=0/\i<len/\x=.i k (zs.getD i 0):=by
  intro i j x c;simp only[gv,HF,bR,aL]at c;obtain⟨row,⟨n,q,rfl⟩,A⟩:=c;have L:i<len:=by have:=(ag.1 q).1;simp at this;omega
  rcases j with _|j;.simp only[aC,ab]at A;refine⟨rfl,L,?_⟩;rw[cD L]at q;rw[<- A,aA,q];rfl
  simp at A
 have m:Y ((zs.take len).map λn=>[V.i k n])=len:=by simp;omega
 have:=VR.sl (w:=W) (J:=[]) (μ:=μ) 1 ((zs.take len).map λn=>[V.i k n]) b o u (λi _=>.int k (zs.getD i 0)) (by omega) R (λr hr=>by obtain⟨n,_,rfl⟩:=cv.1 hr;rfl) (λi j x c=>by
  obtain⟨rfl,Q,rfl⟩:=F i j x c;refine⟨?_,JB,rfl⟩;have:=X i (by omega);have e:(Addr.mk b o Z).add i=⟨b,o+i*1+0,Z⟩:=by
   simp only[Addr.add];split;.rename_i h;subst h;simp
   simp
  rwa [e]at this) (λi j x c=>by obtain⟨rfl,Q,rfl⟩:=F i j x c;exact .i _ _);rwa [m]at this
def NT:Ti κ 57 13 184:=o8 (by kernel_rfl)
def gl(g:Nat)(sh:Bool)(f:List aV):Ob:=.row 57 13 184 g sh (f.map aV.azR)
end Go.Proofs.Tryz
namespace Go.Pm
open Go Go.RowKit Go.Shelf Go.Lib Go.Proofs
variable{X:List Value}{g:Nat}{T:Ren}{J:aj}{w:bQ}
def N3{P:bG}{w:bQ}{o:Nat}{t:TypeId}{c:Array Value}(d:w.heap[g]?=S (.cells c t (0,0)))(e:o+Y X<=c.size)(h1:∀v∈X,v.oneCell'=θ):
  w.setCells g o X=w.setRow g (c.toList.take o++X++c.toList.drop (o+Y X)).toArray:=by have a:=run_storeCells_at P g o t X 0 c w d (by simpa using e) h1;have b:=run_storeCells_cells (P:=P) g o X 0 w (λj f=>by simp only[World.cell?,cu,d];rw[cq (by omega)];rfl) (λj f=>by simp[World.frozen?,d]) h1;rw[a]at b;simpa using b.symm
def Un{P:bG}(w:bQ)(t e j:TypeId)(z:Value)(f:P.underlying t=S (.slice e))(h:∀w,(zeroValue e).run P w=.ok z w)(g o n c:Nat)(l:0<n)(a:Array Value)(T:TypeId)(k:w.heap[g]?=S (.cells a T (0,0)))(i:o+n*z.cells.size<=a.size)(h1:∀v∈(Builtin.zeroCells z.cells n).toList,v.oneCell'=θ): (Builtin.clear_ #[t] j #[.slice (S ⟨g,o,Z⟩) n c]).run P w=.ok (.tuple #[]) (w.setRow g (a.toList.take o++(Builtin.zeroCells z.cells n).toList++a.toList.drop (o+n*z.cells.size)).toArray):=by
 have d:Y (Builtin.zeroCells z.cells n).toList=n*z.cells.size:=by simp[Builtin.zeroCells]
 have b:=run_storeCells_at P g o T (Builtin.zeroCells z.cells n).toList 0 a w k (by rw[d];simpa using i) h1;simp only[cu,d]at b;obtain⟨m,rfl⟩:∃m,n=m+1:=⟨n - 1,by omega⟩;simp[Builtin.clear_,run_underlying f,h,b]
set_option maxRecDepth 1000000 in
def VL{P:bG}(L:SlLaysE0.n45 P T)(k:Nat)(J:TypeInfo)(z:Value)(ZP:P.info? (T.t 23)=S J)(I:J.size=k)(N:z.cells.size=k)(M:∀w,(zeroValue (T.t 23)).run P w=.ok z w)(a5:∀w,(Go.sizeOf (T.t 23)).run P w=.ok k w)(LM:∀q,q<k->(z.cells.getD q undef).oneCell'=θ) (g n c i:Nat) (d:Array Value) (a:TypeId) (w:bQ) (hi:i<n) (J7:n<=c) (an:c<=9223372036854775807) (s:w.heap[g]?=S (.cells d a (0,0))) (p:d.size=c*k) (D:∀v∈d.toList.take (n*k),v.oneCell'=θ) : Calls P (T.f 45) #[.slice (S ⟨g,0,Z⟩) n c,.int .i64 i,.int .i64 ((i:Int)+1)] w λe w'=>e=.returned (.slice (S ⟨g,0,Z⟩) (n - 1) c)/\∃row,w'=w.drew.setRow g row/\row.size=c*k /\row.toList.take ((n - 1)*k)=d.toList.take (i*k)++(d.toList.take (n*k)).drop ((i+1)*k):=by
 have mixed:=L.mixed;have t0:=L.t0;have a0:=L.a0;have z0:=L.z0;have v0:=L.v0;have t3:=L.t3;have a3:=L.a3;have z3:=L.z3;have v3:=L.v3;have t4:=L.t4;have a4:=L.a4;have z4:=L.z4;have v4:=L.v4;have o:=L.t22;have ap:=L.a22;have aK:=L.z22;have au:=L.v22;have aE:n*k<=c*k:=cg _ J7;have af:(i+1)*k<=n*k:=cg _ hi;generalize B:(d.toList.take (n*k)).drop ((i+1)*k)=news;have j:Y news=(n - (i+1))*k:=by rw[<- B];simp only[ca,bj,bf,p,zB];omega
 have Q:∀u∈news,u.oneCell'=θ:=λu l=>D u (eO (B.symm▸l));have R:∀t u,news[t]?=S u->w.cell? ⟨g,(i+1)*k+t,Z⟩=S u:=by
  intro t u l;rw[<- B,ei,fZ]at l;split at l;.simp only[World.cell?,s];simpa using l
  cases l
 obtain⟨A,hA,vN⟩:∃A:Addr,(if c=i+1 then S (⟨g,0,Z⟩:Addr)else S ⟨g,(i+1)*k,Z⟩)=S A/\(∀t u,news[t]?=S u->w.drew.cell? (A.add t)=S u):=by
  by_cases h:c=i+1
  .refine⟨⟨g,0,Z⟩,by simp[h],λt u l=>?_⟩;have W:Y news=0:=by
    rw[j];have:n - (i+1)=0:=by omega
    rw[this];simp
   rw[nE.1 W]at l;simp at l
  exact⟨⟨g,(i+1)*k,Z⟩,by simp[h],λt u l=>by rw[Addr.add_lit];exact R t u l⟩
 have pU:(i+(n - (i+1)))=n - 1:=by omega
 have eW:¬(c=i):=by omega
 have M9:IntKind.i64.wrap ((i:Int)+1)=(i:Int)+1:=by rw[IntKind.wrap_i64];omega
 have am:((i:Int)+1).toNat=i+1:=by omega
 have ad:¬((i:Int)=(i:Int)+1):=by omega
 have X2:(0:Int)<=(i:Int)+1:=by omega
 have tt:(i:Int)+1<=(n:Int):=by omega
 have X:(i:Int)<=(i:Int)+1:=by omega
 have a2:¬(c=i+(n - (i+1))):=by omega
 have a1:i<=c:=by omega
 have ac:i+1<=c:=by omega
 have s3:∀t,t<Y news->(w.drew.cell? ⟨g,0+i*k+t,Z⟩).isSome=θ/\w.drew.frozen? ⟨g,0+i*k+t,Z⟩=G:=by
  intro t ht;have hb:i*k+t<d.size:=by
   rw[p];rw[j]at ht;have:i*k+(n - (i+1))*k<=n*k:=by rw[<- Nat.add_mul];exact cg _ (by omega)
   omega
  refine⟨?_,?_⟩;.show(w.cell? _).isSome=θ;simp only[World.cell?,s,aG];rw[cq hb];rfl
  show w.frozen? _=G;simp[World.frozen?,s]
 have U:i*k+Y news<=d.size:=by rw[j,<- Nat.add_mul,p];exact cg _ (by omega)
 obtain⟨b,y⟩:∃b,b=(d.toList.take (i*k)++news++d.toList.drop (i*k+Y news)).toArray:=⟨_,rfl⟩;have m:w.drew.setCells g (0+i*k) news=w.drew.setRow g b:=by rw[aG,N3 (P:=P) (w:=w.drew) s U Q,y]
 have K:b.size=c*k:=by rw[y];simp only[fI,ah,bj,ca,bf,p]at U |-;omega
 have E:(w.drew.setRow g b).heap[g]?=S (.cells b a (0,0)):=setRow_heap w.drew g d b a (0,0) s;have av:(n - 1)*k+1*k=n*k:=by rw[<- Nat.add_mul];congr 1;omega
 have r:Y (Builtin.zeroCells z.cells 1).toList=k:=by simp[Builtin.zeroCells,N]
 have x:∀v∈(Builtin.zeroCells z.cells 1).toList,v.oneCell'=θ:=by intro v V;simp only[Builtin.zeroCells,jL,qd,We,cv,eU]at V;obtain⟨q,hq,rfl⟩:=V;have H:q % z.cells.size<z.cells.size:=wg _ (by omega);rw[yK _ _ H];exact LM _ (by omega)
 have bc:∀F C,(Builtin.clear_ #[T.t 22] F #[.slice (S ⟨g,(n - 1)*k,Z⟩) (n - (n - 1)) C]).run P (w.drew.setRow g b)=.ok (.tuple #[]) ((w.drew.setRow g b).setRow g (b.toList.take ((n - 1)*k)++(Builtin.zeroCells z.cells 1).toList++b.toList.drop ((n - 1)*k+1*k)).toArray):=λF C=>by
  have h1:n - (n - 1)=1:=by omega
  rw[h1];have:=Un (P:=P) (w.drew.setRow g b) (T.t 22) (T.t 23) F z o M g ((n - 1)*k) 1 C (by omega) b a E (by rw[N,K];omega) x;rwa [N]at this
 generalize (Builtin.zeroCells z.cells 1).toList=zc at bc r;have hW:Hid (w.drew.setCells g (0+i*k) news=w.drew.setRow g b):=m;have hC:Hid (b.toList=d.toList.take (i*k)++news++d.toList.drop (i*k+Y news)):=by show b.toList=_;rw[y]
 clear m y B R x;obtain⟨_,_,FG⟩:=L.f45;go_enter FG,SlBodyN.n45_ntmps T;go_wp2_with fail;go_region_law_o (refine step_append_room rfl (.tmp 22) (.tmp 25) (T.t 22) rfl (T.t 23) J k o ZP I g 0 i c (by simp[Act.eval,Act.put]) A (n - (i+1)) (c - (i+1)) news (by simp[Act.eval,Act.put]) j vN Q (by omega) s3 ?_;rw[hW.out]);go_wp2;go_ret;have GF:Y (d.toList.take (i*k)++news)=(n - 1)*k:=by rw[ah,bj,bf,j,p,fP (by omega),<- Nat.add_mul];congr 1
 have O:Y (b.toList.take ((n - 1)*k))=(n - 1)*k:=by rw[bj,bf,K];omega
 refine⟨rfl,_,by rw[setRow_setRow],?_,?_⟩;.simp only[fI,ah,ca,O,r,bf,K];omega
 show List.take ((n - 1)*k) (b.toList.take ((n - 1)*k)++_)=_;rw[dW (KX O.symm),oK,Nat.min_self,hC.out,nS GF]
def nD.take{μ:Mem}{xs:fx}{sz:Nat}{vals:List Value}(h:nD w J μ xs sz vals)(m:Nat)(l:m<=Y xs):nD w J μ (xs.take m) sz (vals.take (m*sz)):=by
 refine⟨λq a=>h.1 q (dY a),λi j x b=>?_⟩;have d:i<m:=by obtain⟨q,a,_⟩:=ln b;have:=(ag.1 a).1;rw[bj]at this;omega
 have e:gv xs i j=S x:=by simp only[gv,fZ,aQ d]at b |-;exact b
 obtain⟨k,u,g,f⟩:=h.2 i j x e;have n:j<sz:=by obtain⟨q,a,c⟩:=ln e;have:=h.1 q (aS a);have:=(ag.1 c).1;omega
 refine⟨k,u,?_,f⟩;have:(i+1)*sz<=m*sz:=cg _ d;rw[dK,jL]at this;rw[fZ,aQ (by omega)];exact g
def nD.drop{J:aj}{b:Mem}{xs:fx}(h:nD w J b xs g X)(m:Nat):nD w J b (xs.drop m) g (X.drop (m*g)):=by
 refine⟨λq e=>h.1 q (eO e),λi j x a=>?_⟩;have k:gv xs (m+i) j=S x:=by simp only[gv,ei]at a |-;exact a
 obtain⟨f,u,d,c⟩:=h.2 _ j x k;refine⟨f,u,?_,c⟩;rw[ei,<- d,dK,bP]
def PC.Nx{P:bG}(L:SlLaysE0.n45 P T){k by' g id i:Nat}{rows:fx}(K:(P.info? (T.t 23)).map (λi=>(i.zero.map (λz=>(z.cells.size,z.cells.all (·.oneCell'))),i.size))=S (S (k,θ),k))(D:i<Y rows)(hl:Y rows<2^30)(h1:J[id]?=S (.row (T.t 23) k by' g G rows)): PC P (T.f 45) [.own id g,.i .i64 i,.i .i64 ((i:Int)+1)] J (λr J'=>r=.own id (g+1)/\J'=J.set id (.row (T.t 23) k by' (g+1) G (rows.take i++rows.drop (i+1)))):=by
 cases s:P.info? (T.t 23)with
 |none=>simp[s]at K
 |some U =>
 simp only[s,dV,ab,bm]at K;obtain⟨A,p⟩:=K;cases c:U.zero with
 |none=>simp[c]at A
 |some z =>
 simp only[c,dV,ab,bm]at A;refine PC.acp h1 λB w0 w μ X W l=>?_;have O:=(l.2 0 _ rfl).nv h1;have R:=(l.2 1 _ rfl).kK;have N:=(l.2 2 _ rfl).kK;obtain⟨_,a,H,F⟩:=W.obj id _ h1;have e:X=#[μ id,.int .i64 i,.int .i64 ((i:Int)+1)]:=by obtain⟨q⟩:=X;match q,l.1 with|[u,v,y],_=>simp at O R N;rw[O,R,N]
 rw[e];have o1:=nD.one W F H.1;rcases H.2 with⟨_,hn⟩|⟨C,m,d,yI,hB,V,J7,M,qF,I⟩;.omega
 rw[yI];refine(VL L k U z s p A.1 (λw=>by simp[zeroValue,run_typeInfo w s,c]) (λw=>by simp[sizeOf,run_typeInfo w s,p]) (λq ac=>?_) C rows.length m i d (T.t 23) w D J7 (by unfold maxLen at M;omega) V qF (λv l=>o1 v (I▸l))).mono ?_;.have:=Array.all_eq_true.1 A.2 q (by omega);rw[cZ,cq (by omega)];exact this
 rintro e w' ⟨rfl,row,rfl,E,x⟩;have Q:Y a=Y rows*k:=H.1;have ad:(i+1)*k<=Y rows*k:=cg _ D;have o:i*k<=Y rows*k:=cg _ (by omega);have h:Y (rows.take i++rows.drop (i+1))=Y rows - 1:=by simp only[ah,bj,ca];omega
 have n:i*k+(Y rows - (i+1))*k=(Y rows - 1)*k:=by rw[<- Nat.add_mul];congr 1;omega
 have sH:Y (a.take (i*k)++a.drop ((i+1)*k))=(Y rows - 1)*k:=by rw[zB]at n;simp only[ah,bj,ca,Q];omega
 rw[I,show d.toList.take (i*k)=a.take (i*k)by rw[<- I,oK,fP o]]at x;refine⟨_,a.take (i*k)++a.drop ((i+1)*k),rfl,?_,λb hb=>.inl hb,?_,?_⟩
 .refine⟨rfl,rfl,rfl,?_,λj hj jw=>?_⟩;.simp only[World.setRow,World.drew,xp];exact aM _
  have xf:¬C=j:=λe=>jw (by rw[e];rfl);simp only[World.setRow,World.drew,fk,aw xf]
 .rw[h];exact⟨sH,.inr ⟨C,m,row,rfl,hB,setRow_heap w.drew C d _ (T.t 23) (0,0) V,by omega,M,E,x⟩⟩
 exact(F.take i (by omega)).append (F.drop (i+1)) (by simp only[bj,Q,fP o,fP (Nat.le_of_lt D)])
end Go.Pm
namespace Go.Proofs.Tryz
open Go Go.Pm Go.Bt Go.RowKit
variable{U:Mem}{v:Value}{J:aj}{w:bQ}{X:fx}
def SV:(prog.info? 70).map (λi=>(i.zero.map (λz=>z.cells.size),i.size,i.bytes))=S (S 3,3,32):=by kernel_rfl
def XR:(prog.info? 3).map (λi=>(i.zero.map (λz=>z.cells.size),i.size,i.bytes))=S (S 1,1,8):=by kernel_rfl
def ab6{x:V}(h:VR w J U x v)(a:x.pure=θ):v.oneCell'=θ:=by cases h<;>first|rfl|simp[V.pure]at a
def Wr{c:Nat}(A:0<c)(h:VR w J U (.sl c X) v): ((∃a,v=.slice a 0 0)/\X=[])\/∃b o m e,v=.slice (S ⟨b,o,Z⟩) X.length m/\Y X<=maxLen/\Y e=Y X*c/\(∀j u,e[j]?=S u->w.cell? ⟨b,o+j,Z⟩=S u)/\(∀u∈e,u.oneCell'=θ)/\nD w J U X c e:=by
 generalize d:V.sl c X=x at h;cases h with
 |FX p =>simp only[V.sl.injEq]at d;exact .inl ⟨⟨_,rfl⟩,d.2⟩
 |sle p a =>simp only[V.sl.injEq]at d;exact .inl ⟨⟨_,rfl⟩,d.2⟩
 |sl p O b o m f n I z B D =>
  simp only[V.sl.injEq]at d;obtain⟨rfl,rfl⟩:=d;refine .inr ⟨b,o,m,(List.range (Y X*c)).map λk=>f (k / c) (k % c),rfl,cE n I,by simp,λj u s=>?_,λu C=>?_,z,λi j x d=>?_⟩
  .rw[bR,aL]at s;obtain⟨k,L,rfl⟩:=s;have E:=ag.1 L;simp only[List.length_range,Wa]at E;obtain⟨t,rfl⟩:=E;have l:j / c<Y X:=o7 (by rw[ju];exact t);have q:j % c<c:=wg _ A;have g:=z X[j / c] (eJ l);have y:gv X (j / c) (j % c)=S (X[j / c][j % c]'(by rw[g];exact q)):=by simp[gv,l,g,q]
   have:=(B _ _ _ y).1;rwa [bP,Nat.div_add_mod']at this
  .rw[cv]at C;obtain⟨j,s,rfl⟩:=C;rw[eU]at s;have l:j / c<Y X:=o7 (by rw[ju];exact s);have q:j % c<c:=wg _ A;have g:=z X[j / c] (eJ l);have y:gv X (j / c) (j % c)=S (X[j / c][j % c]'(by rw[g];exact q)):=by simp[gv,l,g,q]
   exact ab6 (D _ _ _ y) (B _ _ _ y).2.2
  have M:=B i j x d;have l:i<Y X/\j<c:=by simp only[gv]at d;cases g:X[i]? with|none=>rw[g]at d;simp at d|some r =>rw[g]at d;have N:=(ag.1 g).1;have t:=(ag.1 (show r[j]?=S x from d)).1;rw[z r (aS g)]at t;exact⟨N,t⟩
  refine⟨M.2.2,f i j,?_,D i j x d⟩;have H:i*c+j<Y X*c:=by have:(i+1)*c<=Y X*c:=cg _ l.1;rw[dK,jL]at this;omega
  rw[bR,aD (by simpa using H)];simp only[Wa,dV,ab];have K:(i*c+j) / c=i:=by rw[ju,Nat.mul_add_div A,Nat.div_eq_of_lt l.2];rfl
  have F:(i*c+j) % c=j:=by rw[ju,Nat.mul_add_mod,jJ l.2]
  rw[K,F]
 |_=>simp at d
def tq{T n by':Nat}(h:(prog.info? T).map (λi=>(i.zero.map (λz=>z.cells.size),i.size,i.bytes))=S (S n,n,by')):∃i z,prog.info? T=S i/\i.zero=S z/\i.size=n/\i.bytes=by'/\z.cells.size=n:=by
 cases c:prog.info? T with
 |none=>rw[c]at h;simp at h
 |some i =>rw[c]at h;simp only[dV,ab,bm]at h;obtain⟨a,e,d⟩:=h;cases b:i.zero with|none=>rw[b]at a;simp at a|some z =>rw[b]at a;simp only[dV,ab]at a;exact⟨i,z,rfl,b,e,d,a⟩
set_option maxRecDepth 100000 in
def wV{P:bG}{d:Shelf.Ren}(L:SlLaysE0.n41 P d)(g:TypeInfo)(z:Value)(b bytes:Nat)(v:P.info? (d.t 23)=S g)(o:g.zero=S z)(p:g.size=b)(m:g.bytes=bytes)(E:z.cells.size=b)(u:0<b) (F:∀w,(Go.sizeOf (d.t 23)).run P w=.ok b w) (a:Addr) (w:bQ) :
  Calls P (d.f 41) #[.slice (S a) 0 0] w λe r=>∃i,e=.returned i/\r.ownsRow w.heap.size (d.t 23) b i 0 []/\Below w.heap.size w r:=by have mixed:=L.mixed;have J:=L.t4;have I:=L.a4;have M:=L.z4;have N:=L.v4;have h:=L.t22;have x:=L.a22;have C:=L.z22;have y:=L.v22;have s:∀(w:bQ) (a:Option Addr) (n c q j:Nat),(binOp .eql (d.t 22) (.slice a n c) (.slice Z q j)).run P w=.ok (.bool a.isNone) w:=λw a n c q j=>Lib.run_eql_slice_nil w _ _ a n c q j L.t22;have A:∀w,Sem.run P (underlying (d.t 22)) w=.ok (TypeDesc.slice (d.t 23)) w:=run_underlying h;obtain⟨_,_,D⟩:=L.f41;go_enter D,SlBodyN.n41_ntmps d;go_wp2_with (at_builtin;refine wpList_append_own _ rfl _ _ (d.t 22) rfl w.heap.size (d.t 23) g z b bytes h v o p m E u _ _ _ rfl (World.ownsRow_made w #[] 0 (aM _) (jK _) (by simp)) a 0 0 [] rfl (by simp) (by simp) (by simp) (by simp) (by simp) (by simp) ?_);intro i K B l _;go_wp2;go_ret;exact⟨i,rfl,by simpa using B,((Below.refl _ w).alloc (aM _) _).grown l (by simp) (by intro k H;simp[Value.ownBlock]at H;omega)⟩
def KL{f E g by':Nat}(F:0<g)(T:(prog.info? E).map (λi=>(i.zero.map (λz=>z.cells.size),i.size,i.bytes))=S (S g,g,by')) (m:Y X*by'<=140737488355328) (O:∀w,Calls κ f #[.slice Z 0 0] w λe h=>e=.returned (.slice Z 0 0)/\h=w) (C:∀(a:Addr) (w:bQ),Calls κ f #[.slice (S a) 0 0] w λe h=>∃k,e=.returned k/\h.ownsRow w.heap.size E g k 0 []/\Below w.heap.size w h) (v:∀(r:TypeInfo) (z:Value),prog.info? E=S r->r.zero=S z->r.size=g->r.bytes=by'->z.cells.size=g->(∀w,(Go.sizeOf E).run κ w=.ok g w)->∀(b p n c:Nat) (d:List Value) (w:bQ),Y d=n*g->n<=maxLen->n*by'<=140737488355328 ->(∀j u,d[j]?=S u->w.cell? ⟨b,p+j,Z⟩=S u)->(∀u∈d,u.oneCell'=θ) ->Calls κ f #[.slice (S ⟨b,p,Z⟩) n c] w λe h=>∃k,e=.returned k/\h.ownsRow w.heap.size E g k n d/\k≠.slice Z 0 0/\Below w.heap.size w h) (J:aj):bh κ f [.sl g X] J (.sl g X):=by
 obtain⟨i,z,x,D,q,s,H⟩:=tq T;refine PC.aj6 (E:=E) (by':=by') ⟨F,i,z,x,D,q,s,H⟩ λB w0 w W I hS K=>?_;have L:=K.2 0 _ rfl;have e:I=#[I.getD 0 undef]:=vs1 K.1;rw[e];rcases Wr F L with⟨⟨a,y⟩,V⟩|⟨b,o,t,l,y,P,M,U,A,N⟩
 .rw[y];subst V;cases a with
  |none =>refine(O w).mono ?_;rintro e h ⟨rfl,rfl⟩;exact⟨_,[],rfl,World.ownsRow_nil h _ _ _,Below.refl _ _,by simp,by simp[gv]⟩
  |some a =>refine(C a w).mono ?_;rintro e h ⟨k,rfl,q,s⟩;exact⟨_,[],rfl,q,s,by simp,by simp[gv]⟩
 rw[y];refine(v i z x D q s H (λw=>by simp[sizeOf,run_typeInfo w x,q]) b o _ t l w M P m U A).mono ?_;rintro e h ⟨k,rfl,R,_,Q⟩;exact⟨_,l,rfl,R,Q,N⟩
def CC(g:List It)(m:Y g<2^40)(J:aj):bh κ 234 [.sl 3 (g.map It.azR)] J (.sl 3 (g.map It.azR)) :=KL (by decide) SV (by rw[aa];omega) (λw=>AnyE.slices_Clone_nil Tryz.KM 0 0 w) (λa w=>by
   obtain⟨i,z,e,j,f,l,k⟩:=tq SV;exact wV Tryz.KM i z 3 32 e j f l k (by decide) (show ∀w,(Go.sizeOf 70).run κ w=.ok 3 w from λw=>by simp[sizeOf,run_typeInfo w e,f]) a w)
  (λi z e j f l k p b o n c d w q r t s h=>AnyE.slices_Clone Tryz.KM i z 3 32 e j f l k (by decide) p b o n c d w q r t s h) J
def Qv(g:bU)(m:Y g<2^40)(J:aj):bh κ 190 [.sl 1 (g.map cN)] J (.sl 1 (g.map cN)) :=KL (by decide) XR (by rw[aa];omega) (λw=>AnyE.slices_Clone_nil Tryz.Qw 0 0 w) (λa w=>by
   obtain⟨i,z,e,j,f,l,k⟩:=tq XR;exact wV Tryz.Qw i z 1 8 e j f l k (by decide) (show ∀w,(Go.sizeOf 3).run κ w=.ok 1 w from λw=>by simp[sizeOf,run_typeInfo w e,f]) a w)
  (λi z e j f l k p b o n c d w q r t s h=>AnyE.slices_Clone Tryz.Qw i z 1 8 e j f l k (by decide) p b o n c d w q r t s h) J
def NQ(e:En)(a:e.azU)(J:aj):bh κ 189 [.agg e.azR] J (.agg e.azR):=by refine aW func189 ao7.2 λb c=>aq ?_;simp only[ao7,SS,seval];simp only[En.azR,VV,seval];refine al (CC e.azZ (by have:=a.azZ;omega) _) rfl ?_;simp only[VV,seval];refine al (CC e.az0 (by have:=a.az0;omega) _) rfl ?_;simp only[VV,seval];exact bA b (.inr rfl) (by simp only[RS,seval];rfl) (by simp[LW]) ⟨rfl,rfl⟩
def sK(o:aV)(a:o.azU)(J:aj):bh κ 142 [.agg o.azR] J (.agg o.azR):=by refine aW func142 apL.2 λb c=>aq ?_;simp only[apL,SS,seval];simp only[aV.azR,cL.azR,En.azR,VV,seval];refine al (NQ o.azV a.azV _) rfl ?_;simp only[En.azR,VV,seval];refine al (Qv o.az1 (by have:=a.az1;omega) _) rfl ?_;simp only[VV,seval];exact bA b (.inr rfl) (by simp only[RS,seval];rfl) (by simp[LW]) ⟨rfl,rfl⟩
end Go.Proofs.Tryz
