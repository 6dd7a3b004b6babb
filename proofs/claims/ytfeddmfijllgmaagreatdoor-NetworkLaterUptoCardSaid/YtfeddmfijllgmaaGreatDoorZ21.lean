/- Part of a proof. -/
import Derived.Test.YtfeddmfijllgmaaGreatDoorCards
import Derived.Test.YtfeddmfijllgmaaGreatDoorTie
import Derived.WalkKit
import Derived.ProofKit
import Derived.OpenShut
import Derived.LaidMore
import Derived.Deep.DeepHandedRow
import Derived.Laws.Externs
import Derived.ChangeSlices
import Derived.Shelf.RegionOpenPlain
import Derived.Deep.LoopGhost
import Derived.Deep.RegionLaw
import Derived.Lib.SliceRun
import Derived.Deep.Slices
import Derived.Deep.Strs
import Derived.Test.YtfeddmfijllgmaaGreatDoorZ18
import Derived.Test.YtfeddmfijllgmaaGreatDoorZ20
set_option linter.all false
set_option maxHeartbeats 4000000
open Option renaming some->S,none->Y
open Bool renaming true->G,false->Z
open Go.Proofs.Tryz renaming prog->A
open List renaming length->X
namespace Go.Pm
open Go Go.RowKit Go.Sort Go.Proofs
variable{Q:Mem}{k n R:Nat}{J:ai}{T:ar}{w:bF}{P:bl}
def Rj{W a:bF}(h:Below W.heap.size W a)(g:W.drawn<=a.drawn):∃q b,a=grow (W.drewN q) b:=by
 refine⟨a.drawn - W.drawn,a.heap.extract W.heap.size a.heap.size,?_⟩;have e:a.heap=W.heap++a.heap.extract W.heap.size a.heap.size:=by
  apply Array.ext_getElem?;intro i;rw[Array.getElem?_append];split;.exact h.block i ‹_›
  have:=h.size;rw[Array.getElem?_extract];split;.congr 1;omega
  rw[ua (by omega)]
 have c:=h.os;have f:=h.tape;have d:=h.output;obtain⟨k,l,m,os,j⟩:=a;simp only at e c f d g |-;subst c f d;simp only[grow,World.drewN,<- e];congr 1;omega
def DZ{c:Type}[Inhabited c]{enc:c->List Value}{E:Nat}{a:Array Value}{b:Array c}{os:Array Obj}(d:w.heap[R]?=S (.cells a E (0,0))): (sortWorldK enc k w R 0 n b os).heap[R]?=S (.cells (putCells id 0 (flatK enc k b) a) E (0,0)):=by
 have f:=(cB.1 d).1;have e:(putRowK enc k (Sort.ahead w n) R 0 b).heap[R]?=S (.cells (putCells id 0 (flatK enc k b) a) E (0,0)):=by simp only[putRowK,putRow,mapBlock,Sort.ahead,eu,aR,d,dA];rfl
 simp only[sortWorldK,grow];rw[kP (by have:=(cB.1 e).1;exact this)];exact e
def pX{a:Type}[Inhabited a]{enc:a->List Value}{b:Array a}{os:Array Obj}: w.grownBy (sortWorldK enc k w R 0 n b os) (S R):=by
 have c:(putRowK enc k (Sort.ahead w n) R 0 b).heap.size=w.heap.size:=by rw[putRowK,Go.Sort.size_putRow];rfl
 refine⟨rfl,rfl,rfl,?_,λj f g=>?_⟩;.simp only[sortWorldK,grow,jG,c];omega
 have d:¬R=j:=λe=>g (by rw[e]);simp only[sortWorldK,grow];rw[kP (by rw[c];exact f)];simp only[putRowK,putRow,mapBlock,Sort.ahead,eu,ao d]
def VR.bare{L w W:bF}{t:Mem}{y id:Nat}(hS:kN P k L w J Q){o:Ob}(H:J[id]?=S o)(D:∀d,o.wat d)(B:l9 (Q id)=S y)(C:w.grownBy W (S y)){x:V}{v:Value}(h:VR w J Q x v)(E:x.pure=G): VR W [] t x v:=by
 have R:∀b d u,w.cell? ⟨b,d,Y⟩=S u->¬wr J Q b d->W.cell? ⟨b,d,Y⟩=S u:=by intro b d u g z;refine C.cell g λe=>z ⟨id,o,H,?_,D d⟩;rw[B];exact e.symm
 induction h with
 |b x=>exact .b x
 |i c n=>exact .i c n
 |s l x I O=>exact .s l x I O
 |D1 q=>exact .D1 q
 |sle q a=>exact .sle q a
 |sl q K b o r f p N F g U ih =>exact .sl q K b o r f p N F (λi j x m=>⟨R _ _ _ (g i j x m).1 (g i j x m).2.1,by rintro⟨id,T,M,_⟩;simp at M,(g i j x m).2.2⟩) (λi j x m=>ih i j x m (g i j x m).2.2)
 |_=>simp[V.pure]at E
def PC.aeh{id E m l g:Nat}{q:eJ}{R:eJ->Prop}(i:J[id]?=some (.row E m l g Z q)) (h:∀(B:Nat) (s w:bF) (μ:Mem) (n:Array Value),kN P B s w J μ->VRs w J μ T n->Calls P k n w λe w'=>∃c d,R c/\c.length=q.length/\e=.returned (.tuple #[])/\w.grownBy w' (l9 (μ id))/\w'.ownsRow B E m (μ id) c.length d/\lU w J μ c m d) : PC P k T J (λr J'=>∃c,R c/\r=.iS []/\J'=J.set id (.row E m l g Z c)):=by
 intro B s w μ n t W;refine(h B s w μ n t W).mono ?_;rintro e w' ⟨c,d,hR,Q,rfl,D,C,L⟩;have y:id<J.length:=(ag.1 i).1;have x:=t.update (w':=w') (J':=J.set id (.row E m l g Z c)) (μ':=μ) id (l9 (μ id)) D (λb v=>⟨_,i,by simp,v⟩) (by simp) (λj hj=>bD (λe=>hj e.symm)) (λ_ _=>rfl)
  (λb v=>.inl ⟨_,i,by simp,v⟩)
  (λb O u o p _ z _ H=>absurd ⟨id,o,p,z,by rw[i]at p;simp only[aa]at p;subst p;intro M;simp at M⟩ H)
  (λa cs f=>by rw[i]at f;simp at f)
  (λK E es f=>by rw[i]at f;simp at f)
  (λE2 F ac g2 U N _ f=>by
   simp only[aN y,aa,Ob.row.injEq]at f;obtain⟨rfl,rfl,rfl,rfl,rfl,rfl⟩:=f;exact⟨g,Z,q,i,aB _,λ_=>⟨Q.symm,rfl⟩⟩)
  (λI o f=>by simp only[aN y,aa]at f;subst f;obtain⟨V,_⟩:=t.obj id _ i;exact⟨V,d,C,L.dX I.dX⟩);exact⟨.iS [],.tuple #[],_,μ,rfl,⟨c,hR,rfl,rfl⟩,x.1,.iS [] #[] rfl (by simp),x.2.dX⟩
def PC.lays{L w W:bF}(z:kN P k L w J Q){D:Array Value}{a:Int}(V:k<=R)(C:w.grownBy W (S R))(O:VRs W [] (λ_=>undef) T D) (h:PC P n T [] (λr _=>r=.i .i64 a)):Calls P n D W λe d=>e=.returned (.int .i64 a)/\∃q l,d=grow (W.drewN q) l:=by
 have s:Laid P W.heap.size W:=by intro t B g y;obtain⟨I,_⟩:=z.below.laid t B g y;have f:=z.below.tab B y;have c:g<w.heap.size:=gu I z.base;refine⟨gu c C.size,?_⟩;have F:W.heap[g]?=w.heap[g]?:=C.block g c (λe=>by simp only[aa]at e;omega);unfold Lib.TabIs World.var? at f |-;simp only[y,js]at f |-;rw[F];exact f
 have u:kN P W.heap.size W W [] (λ_=>undef):=⟨⟨Below.refl _ _,s⟩,aB _,λid o K=>by simp at K,λi j U oj b M=>by simp at M⟩;refine(Calls.drawn (h _ _ _ _ _ u O) (by rintro d ⟨r,v,H,p,N,_⟩;cases N)).mono ?_;rintro e d ⟨⟨r,v,H,p,rfl,rfl,x,m,_⟩,E⟩;exact⟨by rw[m.jy],Rj x.below.toBelow E⟩
def PC.Y9{P:bl}{ρ:Shelf.Ren}(L:SlLaysF0.n6 P ρ){k:Nat}(aE:∀w,(isAgg (ρ.t 24)).run P w=.ok G w)(zE:∀w,(Go.sizeOf (ρ.t 24)).run P w=.ok k w){α:Type}(H:α->ar)(Eg:∀x,X (H x)=k)(SO:0<k)(cf:α->α->Int){D:Nat} (eg:∀Q w,(callFunc D Q).run P w=.ok (.enter D Q) w) (l:List α) (a2:∀x∈l,∀y∈l,PC P D [.agg (H x),.agg (H y)] [] (λr _=>r=.i .i64 (cf x y))) (hO:SWO (ltOf λ(i j:Fin (X l))=>cf l[i] l[j])) (hl:X l<2^30) {J:ai} {id g am:Nat} (h1:J[id]?=some (.row (ρ.t 24) k am g Z (l.map H))) : PC P (ρ.f 6) [.own id g,.fn D []] J (λr J'=>∃M:List α,M.Perm l/\M.Pairwise (λx y=>¬cf y x<0)/\r=.iS []/\J'=J.set id (.row (ρ.t 24) k am g Z (M.map H))):=by
 refine PC.mono (PC.aeh (R:=λac=>∃M:List α,M.Perm l/\M.Pairwise (λx y=>¬cf y x<0)/\ac=M.map H) h1 λB w0 w μ vs hS hv=>?_) (by rintro r J' ⟨ac,⟨M,h1,h2,rfl⟩,O,h4⟩;exact⟨M,h1,h2,O,h4⟩);have a0:=(hv.2 0 _ rfl).lP h1;have a1:=hv.2 1 _ rfl;obtain⟨_,a,ir,dJ⟩:=hS.obj id _ h1;have vW:X (l.map H)=X l:=ab ..;have e:vs=#[μ id,.func (.func D) #[] #[]]:=by
  obtain⟨q⟩:=vs;match q,hv.1 with
  |[u,v],_ =>
   simp at a0 a1;cases a1 with
   |fn _ _ fs au _ =>
   obtain rfl:fs=#[]:=by apply vK;simpa using au.symm
   rw[a0]
 rw[e];rw[vW]at ir;have Ke:X a=X l*k:=ir.1;have o1:=lU.one hS dJ (by rw[vW];exact Ke);by_cases h0:X l=0
 .have Vz:l=[]:=bQ h0;have a5:a=[]:=bQ (by rw[Ke,h0,Nat.zero_mul]);have hm:∃p s,μ id=.slice p 0 s:=by
   rcases ir.2 with⟨h,_⟩|⟨gb,s,K,h,_⟩;.exact⟨_,_,h⟩
   rw[h0]at h;exact⟨_,_,h⟩
  obtain⟨p,s,hm⟩:=hm;rw[hm];refine(AnyF.slices_SortFunc_none { L with } p s _ w).mono ?_;rintro e w' ⟨rfl,rfl⟩;refine⟨[],[],⟨[],by rw[Vz],.nil,rfl⟩,by simp[Vz],rfl,grownBy_refl _ _,?_,?_⟩;.rw[<- hm];rw[a5,h0]at ir;exact ir
  exact⟨by simp,λi j x hx=>by simp[gi]at hx⟩
 have Qb:0<X l:=Nat.pos_of_ne_zero h0;rcases ir.2 with⟨_,hn⟩|⟨gb,s,K,vt,hB,hg,Ha,zU,oA,DB⟩;.omega
 haveI:Inhabited (Fin (X l)):=⟨⟨0,Qb⟩⟩;have af:∀(i:Fin (X l)) (j:Nat),j<k->i.1*k+j<X l*k:=λi j F=>by have:(i.1+1)*k<=X l*k:=bS _ i.2;rw[du,iQ]at this;omega
 have Qg:∀i:Fin (X l),X ((a.drop (i*k)).take k)=k:=λi=>by rw[aX,bN,Ke];have:(i.1+1)*k<=X l*k:=bS _ i.2;rw[du,iQ]at this;omega
 have dP:∀(i:Fin (X l)) (j:Nat),j<k->((a.drop (i*k)).take k)[j]?=a[i*k+j]?:=λi j F=>by rw[cn F,dE]
 have mD:∀(i:Fin (X l)) (j:Nat) (x:V),(H l[i])[j]?=some x->x.pure=G/\∃u,((a.drop (i*k)).take k)[j]?=some u/\VR w J μ x u:=λi j x hx=>by
  have F:j<k:=by have:=(ag.1 hx).1;rwa [Eg]at this
  have h2:gi (l.map H) i j=some x:=by simp only[gi,bP,aA i.2,dA,js];exact hx
  obtain⟨q1,u,q2,q3⟩:=dJ.2 _ _ _ h2;exact⟨q1,u,by rw[dP i j F];exact q2,q3⟩
 generalize a4:(λi:Fin (X l)=>(a.drop (i*k)).take k)=enc;have I:∀i,enc i=(a.drop (i*k)).take k:=λi=>by rw[<- a4]
 have U:(List.finRange (X l)).toArray.size=X l:=by simp
 have av:∀j (h:j<X l),(List.finRange (X l)).toArray[j]! = ⟨j,h⟩:=λj h=>by rw[getElem!_pos _ j (by rw[U];exact h)];simp
 have Qf:∀(d:Array (Fin (X l))) (t:Nat),d.size=X l->t<X l*k->(flatK enc k d)[t]?=a[(d[t / k]!).1*k+t % k]?:=λd t hd E=>by
  have h1:t<(flatK enc k d).size:=by rw[size_flatK,hd];exact E
  have h2:=get_flatK enc k d t (by rw[hd];exact E);have hm:t % k<k:=sK _ SO;rw[getElem!_pos _ t h1]at h2;rw[bZ h1,h2,I,<- dP _ _ hm];rw[getElem!_pos _ (t % k) (by rw[Qg];exact hm),aA]
 have hH:HoldsK enc k w gb 0 (List.finRange (X l)).toArray:=λt E=>by
  rw[size_flatK,U]at E;have h1:=Qf (List.finRange (X l)).toArray t U E;have hq:t / k<X l:=nc (by rw[iB];exact E);rw[av _ hq]at h1;have e2:t / k*k+t % k=t:=by rw[iB];exact agS t k
  simp only[e2]at h1;have O:t<(flatK enc k (List.finRange (X l)).toArray).size:=by rw[size_flatK,U];exact E
  have h4:K.toList[t]?=a[t]?:=by rw[<- DB,cn E]
  refine⟨?_,by simp[World.frozen?,hg]⟩;simp only[World.cell?,hg,aP,id_eq];rw[getElem!_pos _ t O,<- Array.getElem?_eq_getElem O,h1,<- h4];simp
 have T:l9 (μ id)=some gb:=by rw[vt];rfl
 have ad:=AnyQ.slices_SortFunc L k aE zE enc (λi=>by rw[I];exact Qg i) (λi v hv=>o1 v (by rw[I]at hv;exact dR (dB hv))) (λi j=>cf l[i] l[j]) hO D #[] gb 0 s (List.finRange (X l)).toArray w eg (λm os dk _ x y=>by
   rw[TI];refine PC.lays hS hB pX ⟨rfl,λi z W=>?_⟩ (a2 l[x] (dQ _) l[y] (dQ _));have agg:∀q:Fin (X l),VR (sortWorldK enc k w gb 0 m dk os) [] (λ_=>undef) (.agg (H l[q])) (.agg (enc q).toArray):=λq=>by
    refine .agg _ _ (by rw[fa,I,Qg,Eg]) λi z W=>?_;obtain⟨q1,u,q2,q3⟩:=mD q i z W;rw[I];have:((a.drop (q*k)).take k).toArray.getD i undef=u:=by simp only[cC,pC,q2,nS]
    rw[this];exact VR.bare hS h1 (λa6 h=>by simp at h) T pX q3 q1
   rcases i with _|_|i;.simp only[aG,aa]at W;subst W;exact agg x
   .simp only[aP,cA,aG,aa]at W;subst W;exact agg y
   simp at W) hH (cB.1 hg).1 (by rw[U];omega);rw[U,<- vt]at ad;refine ad.mono ?_;rintro e w' ⟨rfl,C,n,os,Dv,aM,rfl⟩;have b:C.size=X l:=by have:=Dv.1;rw[U]at this;exact this
 have Ed:C.toList.Perm (List.finRange (X l)):=by
  have h1:=Dv.2.2;have e1:C.extract 0 (X l)=C:=by have:=Ai (xs:=C);rwa [b]at this
  have e2:(List.finRange (X l)).toArray.extract 0 (X l)=(List.finRange (X l)).toArray:=by have:=Ai (xs:=(List.finRange (X l)).toArray);rwa [U]at this
  rw[e1,e2]at h1;simpa using h1
 have vv:(flatK enc k C).size=X l*k:=by rw[size_flatK,b]
 have c:X ((C.toList.map λi=>l[i]).map H)=X l:=by rw[ab,ab,aU,b]
 refine⟨_,(flatK enc k C).toList,⟨C.toList.map λi=>l[i],?_,?_,rfl⟩,by rw[c,vW],rfl,by rw[T];exact pX,⟨by rw[c,aU,vv],.inr ⟨gb,s,putCells _root_.id 0 (flatK enc k C) K,by rw[c,vt],hB,DZ hg,by rw[c];exact Ha,zU,?_,?_⟩⟩,?_,?_⟩
 .refine(Ed.map _).trans (List.Perm.of_eq ?_);apply jF;intro i;rw[bP];by_cases hi:i<X l;.simp[hi]
  rw[cp (by simpa using Nat.le_of_not_lt hi),cp (by omega)];rfl
 .refine BN.2 (gD.2 λi j hi F tr=>?_);rw[aU]at hi F;have:=aM i j (iP _) tr (by rw[<- b];exact F);rw[getElem!_pos _ i hi,getElem!_pos _ j F]at this;simp only[ltOf,gW]at this;simpa using this
 .simp[putCells,oA]
 .rw[c];apply jF;intro t;by_cases E:t<X l*k
  .rw[cn E];have O:t<(flatK enc k C).size:=by rw[vv];exact E
   have h4:t<K.size:=by rw[oA];have:=bS k Ha;omega
   simp only[putCells,lp,Ji,bZ h4,dA,iP,jd,aP,aO O,yP,id_eq];rw[getElem!_pos _ t O,bZ O]
  rw[cp (by rw[aX];omega),cp (by rw[aU,vv];omega)]
 .intro r hr;obtain⟨x,_,rfl⟩:=cP.1 hr;exact Eg x
 intro i j x hx;obtain⟨r,hr,F⟩:=jV hx;rw[bP,bP]at hr;simp only[aH]at hr;obtain⟨o,⟨q,hq,rfl⟩,rfl⟩:=hr;obtain⟨q1,u,q2,q3⟩:=mD q j x F;have N:j<k:=by have:=(ag.1 F).1;rwa [Eg]at this
 have oT:i<X l:=by have:=(ag.1 hq).1;rwa [aU,b]at this
 refine⟨q1,u,?_,q3⟩;have ap:(i*k+j) / k=i:=by rw[iB,Nat.mul_add_div SO,Nat.div_eq_of_lt N,cg]
 have a3:(i*k+j) % k=j:=by rw[iB,Nat.mul_add_mod,iM N]
 rw[lp,Qf C (i*k+j) b (af ⟨i,oT⟩ j N),ap,a3,<- dP _ j N];have yJ:C[i]! = q:=by rw[getElem!_pos _ i (by rw[b];exact oT)];rw[lp,bZ (by rw[b];exact oT)]at hq;simpa using hq
 rw[yJ];exact q2
end Go.Pm
namespace Go.Proofs.Tryz
open Go Go.Pm Go.ChangeShapes Go.WideShapes Go.ChangeAt Go.RowKit Go.Proofs.YtfeddmfijllgmaaGreatDoor
variable{U:Mem}{f:Nat}{r:Reach}{v T:Value}{a b:aL}{J:ai}{w:bF}{P:bl}
def own:ownKnob prog.godebug=Y:=by kernel_rfl
def lv:List (String×DataW Unit):=[("math/bits.deBruijn32tab",Rows.laid_math_bits_deBruijn32tab),("math/bits.deBruijn64tab",Rows.laid_math_bits_deBruijn64tab),("internal/strconv.uint64pow10",Rows.laid_internal_strconv_uint64pow10)]
def ajQ:prog.globalNamed "internal/strconv.uint64pow10" = S 1:=by kernel_rfl
def abS:(prog.globals[1]?).map (·.type)=S 294:=by kernel_rfl
def agG:prog.cellsOf 294=20:=by kernel_rfl
def agF:prog.cellsOf 226=1:=by kernel_rfl
def WG{W:bF}(h:laidMetH A lv W):Lib.TabIs A W "internal/strconv.uint64pow10" .u64 F1:=by
 have a:=laidMetH.filter (λx=>x.1 == "internal/strconv.uint64pow10") h;have e:lv.filter (λx=>x.1 == "internal/strconv.uint64pow10")=[("internal/strconv.uint64pow10",Lib.tabData .u64 F1)]:=by rfl
 rw[e,MakeChecks.laidMetH_plain _ _ _ (by rfl)]at a;exact Lib.tabIs_of_head (rest:=[]) ajQ abS underlying294 underlying226 agF agG a
def adG{W:bF}(p:laidMetH A lv W){a:ar}{i:Array Value}{μ:Mem}(h:bh A f a [] (.b G))(n:VRs W [] μ a i): Calls A f i W λe q=>e=.returned (.bool G)/\Below W.heap.size W q:=by
 have c:=WG p;have m:1<W.heap.size:=World.block_lt_of_cell? W _ (c.cell ajQ 0 (by decide));have o:kN A W.heap.size W W [] μ:=by refine⟨⟨Below.refl _ _,λt k g l=>?_⟩,aB _,by simp,by simp⟩;simp only[ady,bw,bM,mg]at k;subst k;obtain rfl:=kW (ajQ.symm.trans l);exact⟨m,c⟩
 refine(h W.heap.size W W μ i o n).mono ?_;rintro e u ⟨r,v,w,s,rfl,⟨rfl,rfl⟩,d,j,_⟩;exact⟨by rw[j.uI],d.below.toBelow⟩
def laidOut:laidOutB A=G:=by kernel_rfl
def Ii{H:Type}{enc:TypeId×Value->H}{W j:bF}(l:Below W.heap.size W j):∀{a:List TypeId} {e:List Value} {f:List (DataW H)} {c:List MemPlace},(a.all λt=>prog.readableRec t&&decide (t<prog.types.size))=G ->DataW.TrodAll enc A W 0 (λ_=>G) G a e f c->(∀x∈c,x.block<W.heap.size)->DataW.TrodAll enc A j 0 (λb=>decide (b<W.heap.size)) G a e f c:=by
 intro a;induction a with
 |nil =>intro e f c _ h _;obtain⟨rfl,rfl,rfl⟩:=trodAll_nil h;exact trodAll_mk0
 |cons t a ih =>intro e f c d h i;simp only[im,aV,bz]at d;obtain⟨s,o,q,m,r,p,rfl,rfl,rfl,k,n⟩:=trodAll_cons h;exact trodAll_cons_mk (Below.trod laidOut d.1.1 d.1.2 k l λx g=>i x (by simp[g])) (ih d.2 n λx g=>i x (by simp[g]))
def WI{H:Type}{enc:TypeId×Value->H}{f:Func}{s:ChangeSpec}{W i:bF}{args:Array Value}{a k:List (DataW H)}{before:List MemPlace}(j:s.vars=[])(m:f.resultTypes=#[4]) (n:(f.params.toList.all λt=>prog.readableRec t&&decide (t<prog.types.size))=G) (e:DataW.Whole enc A f.params.toList s.vars Z W args.toList a k before) (b:s.fn H (a++k)={ results:=[.lit (.bool G)],args:=a }) (g:Below W.heap.size W i):s.post enc A f Z G Z Z W args (.bool G) i:=by
 have o:∀x∈before,x.block<W.heap.size:=λx d=>e.lt x d;have c:=e;obtain⟨p,q,r,l,rfl,_,_⟩:=e;rw[j]at l;obtain⟨rfl,rfl⟩:=trodVars_none l;refine⟨a,[],p++[],[],p,[],c,?_,?_,?_,g.frame _,λh=>by cases h⟩;.rw[b,m];exact trodAll_cons_mk (shut_bool underlying4 _) trodAll_mk0
 .rw[b];exact Ii g n r λx d=>o x (by simp[d])
 rw[b,j];exact rfl
def aaW(os:Os)(a:Array Value):laidMetH A lv ((World.doorLaid A 400 os).forCall (λ_ _=>0) ⟨#[],a,[]⟩).memory :=laidMetH_of_parts3 (fuel:=8) (laidMet_of_run' 8 (by kernel_rfl) (by kernel_rfl)) (by kernel_rfl) (by kernel_rfl)
open Go.Bt
def IM{w:bF}:∀(l:aL) (a:Addr) (b:ByteArray),(∀j x,l[j]?=S x->w.cell? (a.add j)=S (.int .u8 x.toNat)) ->(Extern.Bytes.loadBytes a (X l) b).run A w=.ok ⟨(b.data.toList++l).toArray⟩ w:=by
 intro l;induction l with
 |nil=>intro a b _;simp[Extern.Bytes.loadBytes]
 |cons c l ih =>
 intro a b h;have f:=h 0 c rfl;have g:a.add 0=a:=by simp[Addr.add]
 rw[g]at f;simp only[ah,Extern.Bytes.loadBytes,Sem.run_bind,run_load,f,Result.andThen_ok];rw[ih (a.add 1) _ λj x d=>by
  have:=h (j+1) x (by simpa using d);have e:(a.add 1).add j=a.add (j+1):=by
   unfold Addr.add;by_cases d:j=0;.subst d;simp
   simp[d];omega
  rw[e];exact this];congr 1;simp
def KL{w:bF}(h:VR w J U (.sl 1 (aC a)) v):(Extern.Bytes.bytesOf v).run A w=.ok ⟨a.toArray⟩ w:=by
 generalize d:V.sl 1 (aC a)=x at h;cases h with
 |D1 k =>
  simp only[V.sl.injEq]at d;have:a=[]:=by have:=d.2;simpa[aC]using this
  subst this;rfl
 |sle k c =>
  simp only[V.sl.injEq]at d;have:a=[]:=by have:=d.2;simpa[aC]using this
  subst this;rfl
 |sl k u b o r f l y t s q =>
  simp only[V.sl.injEq]at d;obtain⟨rfl,rfl⟩:=d;simp only[Extern.Bytes.bytesOf,bC];have:=IM (w:=w) a ⟨b,o,Y⟩ .empty λj x g=>by
   have m:gi (aC a) j 0=S (.i .u8 x.toNat):=by simp[gi,aC,g]
   have n:=(s j 0 _ m).1;have p:=(q j 0 _ m).jy;rw[p]at n;have e:(Addr.add ⟨b,o,Y⟩ j)=⟨b,o+j,Y⟩:=by
    unfold Addr.add;by_cases g:j=0;.subst g;simp
    simp[g]
   rw[e];simpa using n
  rw[this];simp
 |_=>simp at d
def Ep:∀(a b:aL),Lib.compareBytes a b=iR a b:=by intro a;induction a with|nil=>intro b;cases b<;>simp[Lib.compareBytes,iR]|cons x a ih=>intro b;cases b<;>simp[Lib.compareBytes,iR,ih]
def Ad(d:VR w J U (.sl 1 (aC a)) v)(c:VR w J U (.sl 1 (aC b)) T):
  (Extern.BytealgCompare.compare #[v,T]).run A w=.ok (.int .i64 (iR a b)) w:=by
 change Sem.run A (do pure (goInt (Extern.BytealgCompare.cmp (<- Extern.Bytes.bytesOf v) (<- Extern.Bytes.bytesOf T)))) w=_;simp only[Sem.run_bind,Sem.run_pure,KL d,KL c,Result.andThen_ok];rw[Lib.cmp_eq,Ep];rfl
set_option maxRecDepth 100000 in
def Ac(f:VR w J U (.sl 1 (aC a)) v)(d:VR w J U (.sl 1 (aC b)) T): Calls A 171 #[v,T] w λe c=>e=.returned (.int .i64 (iR a b))/\c=w:=by go_enter func171,Tryz.ntmps171;go_wp2;rw[run_callFunc_extern func227 (by kernel_rfl) (by kernel_rfl) (by kernel_rfl) (e:=Extern.BytealgCompare.compare) (by kernel_rfl),Ad f d];simp only[Result.andThen];rw[Oper.upon_value];go_wp2;go_ret;exact⟨rfl,rfl⟩
def Et(a b:aL)(J:ai):bh A 171 [.sl 1 (aC a),.sl 1 (aC b)] J (.I (iR a b)):=by refine PC.MJ λw μ f c=>?_;have e:=c.2 0 _ rfl;have d:=c.2 1 _ rfl;rw[vs2 c.1];exact⟨_,Ac e d,.i _ _⟩
def OD{a:Option Addr}{len b:Nat}:(Value.slice a len b).cells.toList=[Value.slice a len b]:=by simp[Value.cells]
def RE{W:bF}{t e:TypeId}{a:Addr}{len b:Nat}(c:P.underlying t=S (.slice e))(h:Value.okWide P W r f t (.slice (S a) len b)):a.spot=Y:=by simp only[Value.okWide,c,Cell.okWide,Cell.ok]at h;exact h.2.2.2.1
def Va{a:Nat}:¬wr [] U f a:=by rintro⟨id,o,h,_⟩;simp at h
def acR{H:Type}{enc:TypeId×Value->H}{W:bF}{t e:TypeId}{d:DataW H}{p:List MemPlace}{k:IntKind}(μ:Mem)(u:P.underlying t=S (.slice e))(he:P.underlying e=S (.int k))(hc:P.cellsOf e=1) (B:Value.okWide P W r f t v) (M:DataW.Trod enc P W 0 (λ_=>G) G t v d p):∃l:bH,VR W [] μ (.sl 1 (l.map λn=>[.i k n])) v/\∀n∈l,(Lit.int k n).wf=G:=by
 obtain⟨a0,len,y,rfl⟩:=okWide_slice u B;obtain⟨L,I⟩:=M;rw[OD]at I;rcases open_ints u he hc I with⟨g,_⟩|⟨a,F,D,zs,g,_,hl,U,N,_,O,Q⟩;.simp only[gQ,dm,Value.slice.injEq]at g;obtain⟨rfl,rfl,rfl⟩:=g;exact⟨[],.D1 _,by simp⟩
 simp only[gQ,dm,Value.slice.injEq]at g;obtain⟨rfl,rfl,rfl⟩:=g;have K:=RE u B;obtain⟨b,o,s⟩:=a;simp only at K;subst K;simp only[aR]at N;refine⟨zs.take len,?_,λn q=>Q n (dB q)⟩;have E:∀i j x,gi ((zs.take len).map λn=>[V.i k n]) i j=S x->j=0/\i<len/\x=.i k (zs.getD i 0):=by
  intro i j x c;simp only[gi,aqA,bP,aH]at c;obtain⟨row,⟨n,q,rfl⟩,z⟩:=c;have C:i<len:=by have:=(ag.1 q).1;simp at this;omega
  rcases j with _|j;.simp only[aG,aa]at z;refine⟨rfl,C,?_⟩;rw[cn C]at q;rw[<- z,ax,q];rfl
  simp at z
 have m:X ((zs.take len).map λn=>[V.i k n])=len:=by simp;omega
 have:=VR.sl (w:=W) (J:=[]) (μ:=μ) 1 ((zs.take len).map λn=>[V.i k n]) b o y (λi _=>.int k (zs.getD i 0)) (by omega) U (λr R=>by obtain⟨n,_,rfl⟩:=cP.1 R;rfl) (λi j x c=>by
  obtain⟨rfl,T,rfl⟩:=E i j x c;refine⟨?_,Va,rfl⟩;have:=O i (by omega);have e:(Addr.mk b o Y).add i=⟨b,o+i*1+0,Y⟩:=by
   simp only[Addr.add];split;.rename_i h;subst h;simp
   simp
  rwa [e]at this) (λi j x c=>by obtain⟨rfl,T,rfl⟩:=E i j x c;exact .i _ _);rwa [m]at this
def K3:Ti A 57 13 184:=ng (by kernel_rfl)
def fy(g:Nat)(sh:Bool)(f:List bf):Ob:=.row 57 13 184 g sh (f.map bf.axV)
end Go.Proofs.Tryz
namespace Go.Pm
open Go Go.RowKit Go.Shelf Go.Lib Go.Proofs
variable{U:List Value}{g:Nat}{R:Ren}{J:ai}{w:bF}
def Lb{P:bl}{w:bF}{o:Nat}{t:TypeId}{c:Array Value}(d:w.heap[g]?=S (.cells c t (0,0)))(f:o+X U<=c.size)(h1:∀v∈U,v.oneCell'=G):
  w.setCells g o U=w.setRow g (c.toList.take o++U++c.toList.drop (o+X U)).toArray:=by have a:=run_storeCells_at P g o t U 0 c w d (by simpa using f) h1;have b:=run_storeCells_cells (P:=P) g o U 0 w (λj e=>by simp only[World.cell?,cg,d];rw[bZ (by omega)];rfl) (λj e=>by simp[World.frozen?,d]) h1;rw[a]at b;simpa using b.symm
def RH{P:bl}(w:bF)(t e i:TypeId)(z:Value)(h:P.underlying t=S (.slice e))(k:∀w,(zeroValue e).run P w=.ok z w)(g o n c:Nat)(l:0<n)(a:Array Value)(T:TypeId)(j:w.heap[g]?=S (.cells a T (0,0)))(f:o+n*z.cells.size<=a.size)(h1:∀v∈(Builtin.zeroCells z.cells n).toList,v.oneCell'=G): (Builtin.clear_ #[t] i #[.slice (S ⟨g,o,Y⟩) n c]).run P w=.ok (.tuple #[]) (w.setRow g (a.toList.take o++(Builtin.zeroCells z.cells n).toList++a.toList.drop (o+n*z.cells.size)).toArray):=by
 have b:X (Builtin.zeroCells z.cells n).toList=n*z.cells.size:=by simp[Builtin.zeroCells]
 have d:=run_storeCells_at P g o T (Builtin.zeroCells z.cells n).toList 0 a w j (by rw[b];simpa using f) h1;simp only[cg,b]at d;obtain⟨m,rfl⟩:∃m,n=m+1:=⟨n - 1,by omega⟩;simp[Builtin.clear_,run_underlying h,k,d]
set_option maxRecDepth 1000000 in
def Te{P:bl}(L:SlLaysE0.n45 P R)(k:Nat)(K:TypeInfo)(z:Value)(XE:P.info? (R.t 23)=S K)(I:K.size=k)(E:z.cells.size=k)(N:∀w,(zeroValue (R.t 23)).run P w=.ok z w)(af:∀w,(Go.sizeOf (R.t 23)).run P w=.ok k w)(IU:∀q,q<k->(z.cells.getD q undef).oneCell'=G) (g n c i:Nat) (d:Array Value) (T:TypeId) (w:bF) (hi:i<n) (Ha:n<=c) (a5:c<=9223372036854775807) (x:w.heap[g]?=S (.cells d T (0,0))) (r:d.size=c*k) (D:∀v∈d.toList.take (n*k),v.oneCell'=G) : Calls P (R.f 45) #[.slice (S ⟨g,0,Y⟩) n c,.int .i64 i,.int .i64 ((i:Int)+1)] w λe w'=>e=.returned (.slice (S ⟨g,0,Y⟩) (n - 1) c)/\∃row,w'=w.drew.setRow g row/\row.size=c*k /\row.toList.take ((n - 1)*k)=d.toList.take (i*k)++(d.toList.take (n*k)).drop ((i+1)*k):=by
 have mixed:=L.mixed;have t0:=L.t0;have a0:=L.a0;have z0:=L.z0;have v0:=L.v0;have t3:=L.t3;have a3:=L.a3;have z3:=L.z3;have v3:=L.v3;have t4:=L.t4;have a4:=L.a4;have z4:=L.z4;have v4:=L.v4;have s:=L.t22;have au:=L.a22;have ac:=L.z22;have aM:=L.v22;have ap:n*k<=c*k:=bS _ Ha;have aE:(i+1)*k<=n*k:=bS _ hi;generalize B:(d.toList.take (n*k)).drop ((i+1)*k)=news;have j:X news=(n - (i+1))*k:=by rw[<- B];simp only[bN,aX,aU,r,wa];omega
 have V:∀u∈news,u.oneCell'=G:=λu l=>D u (dR (B.symm▸l));have W:∀t u,news[t]?=S u->w.cell? ⟨g,(i+1)*k+t,Y⟩=S u:=by
  intro t u l;rw[<- B,dE,ft]at l;split at l;.simp only[World.cell?,x];simpa using l
  cases l
 obtain⟨a,hA,su⟩:∃a:Addr,(if c=i+1 then S (⟨g,0,Y⟩:Addr)else S ⟨g,(i+1)*k,Y⟩)=S a/\(∀t u,news[t]?=S u->w.drew.cell? (a.add t)=S u):=by
  by_cases h:c=i+1
  .refine⟨⟨g,0,Y⟩,by simp[h],λt u l=>?_⟩;have h0:X news=0:=by
    rw[j];have:n - (i+1)=0:=by omega
    rw[this];simp
   rw[lX.1 h0]at l;simp at l
  exact⟨⟨g,(i+1)*k,Y⟩,by simp[h],λt u l=>by rw[Addr.add_lit];exact W t u l⟩
 have nP:(i+(n - (i+1)))=n - 1:=by omega
 have eX:¬(c=i):=by omega
 have Nd:IntKind.i64.wrap ((i:Int)+1)=(i:Int)+1:=by rw[IntKind.wrap_i64];omega
 have YB:((i:Int)+1).toNat=i+1:=by omega
 have am:¬((i:Int)=(i:Int)+1):=by omega
 have VB:(0:Int)<=(i:Int)+1:=by omega
 have qo:(i:Int)+1<=(n:Int):=by omega
 have a6:(i:Int)<=(i:Int)+1:=by omega
 have ad:¬(c=i+(n - (i+1))):=by omega
 have av:i<=c:=by omega
 have a2:i+1<=c:=by omega
 have s3:∀t,t<X news->(w.drew.cell? ⟨g,0+i*k+t,Y⟩).isSome=G/\w.drew.frozen? ⟨g,0+i*k+t,Y⟩=Z:=by
  intro t ht;have hb:i*k+t<d.size:=by
   rw[r];rw[j]at ht;have:i*k+(n - (i+1))*k<=n*k:=by rw[<- Nat.add_mul];exact bS _ (by omega)
   omega
  refine⟨?_,?_⟩;.show(w.cell? _).isSome=G;simp only[World.cell?,x,aP];rw[bZ hb];rfl
  show w.frozen? _=Z;simp[World.frozen?,x]
 have U:i*k+X news<=d.size:=by rw[j,<- Nat.add_mul,r];exact bS _ (by omega)
 obtain⟨b,C⟩:∃b,b=(d.toList.take (i*k)++news++d.toList.drop (i*k+X news)).toArray:=⟨_,rfl⟩;have o:w.drew.setCells g (0+i*k) news=w.drew.setRow g b:=by rw[aP,Lb (P:=P) (w:=w.drew) x U V,C]
 have m:b.size=c*k:=by rw[C];simp only[fa,ae,aX,bN,aU,r]at U |-;omega
 have J:(w.drew.setRow g b).heap[g]?=S (.cells b T (0,0)):=setRow_heap w.drew g d b T (0,0) x;have a1:(n - 1)*k+1*k=n*k:=by rw[<- Nat.add_mul];congr 1;omega
 have p:X (Builtin.zeroCells z.cells 1).toList=k:=by simp[Builtin.zeroCells,E]
 have y:∀v∈(Builtin.zeroCells z.cells 1).toList,v.oneCell'=G:=by intro v O;simp only[Builtin.zeroCells,iQ,nT,TH,cP,eD]at O;obtain⟨q,hq,rfl⟩:=O;have H:q % z.cells.size<z.cells.size:=sK _ (by omega);rw[vx _ _ H];exact IU _ (by omega)
 have bd:∀M F,(Builtin.clear_ #[R.t 22] M #[.slice (S ⟨g,(n - 1)*k,Y⟩) (n - (n - 1)) F]).run P (w.drew.setRow g b)=.ok (.tuple #[]) ((w.drew.setRow g b).setRow g (b.toList.take ((n - 1)*k)++(Builtin.zeroCells z.cells 1).toList++b.toList.drop ((n - 1)*k+1*k)).toArray):=λM F=>by
  have h1:n - (n - 1)=1:=by omega
  rw[h1];have:=RH (P:=P) (w.drew.setRow g b) (R.t 22) (R.t 23) M z s N g ((n - 1)*k) 1 F (by omega) b T J (by rw[E,m];omega) y;rwa [E]at this
 generalize (Builtin.zeroCells z.cells 1).toList=zc at bd p;have hW:Hid (w.drew.setCells g (0+i*k) news=w.drew.setRow g b):=o;have hC:Hid (b.toList=d.toList.take (i*k)++news++d.toList.drop (i*k+X news)):=by show b.toList=_;rw[C]
 clear o C B W y;obtain⟨_,_,FG⟩:=L.f45;go_enter FG,SlBodyN.n45_ntmps R;go_wp2_with fail;go_region_law_o (refine step_append_room rfl (.tmp 22) (.tmp 25) (R.t 22) rfl (R.t 23) K k s XE I g 0 i c (by simp[Act.eval,Act.put]) a (n - (i+1)) (c - (i+1)) news (by simp[Act.eval,Act.put]) j su V (by omega) s3 ?_;rw[hW.out]);go_wp2;go_ret;have Dy:X (d.toList.take (i*k)++news)=(n - 1)*k:=by rw[ae,aX,aU,j,r,fi (by omega),<- Nat.add_mul];congr 1
 have Q:X (b.toList.take ((n - 1)*k))=(n - 1)*k:=by rw[aX,aU,m];omega
 refine⟨rfl,_,by rw[setRow_setRow],?_,?_⟩;.simp only[fa,ae,bN,Q,p,aU,m];omega
 show List.take ((n - 1)*k) (b.toList.take ((n - 1)*k)++_)=_;rw[dI (H3 Q.symm),mL,Nat.min_self,hC.out,ma Dy]
def lU.take{μ:Mem}{xs:eJ}{sz:Nat}{vals:List Value}(h:lU w J μ xs sz vals)(m:Nat)(l:m<=X xs):lU w J μ (xs.take m) sz (vals.take (m*sz)):=by
 refine⟨λq a=>h.1 q (dB a),λi j x b=>?_⟩;have c:i<m:=by obtain⟨q,a,_⟩:=jV b;have:=(ag.1 a).1;rw[aX]at this;omega
 have d:gi xs i j=S x:=by simp only[gi,ft,aO c]at b |-;exact b
 obtain⟨e,u,k,g⟩:=h.2 i j x d;have n:j<sz:=by obtain⟨q,a,f⟩:=jV d;have:=h.1 q (bn a);have:=(ag.1 f).1;omega
 refine⟨e,u,?_,g⟩;have:(i+1)*sz<=m*sz:=bS _ c;rw[du,iQ]at this;rw[ft,aO (by omega)];exact k
def lU.drop{J:ai}{μ:Mem}{xs:eJ}(h:lU w J μ xs g U)(m:Nat):lU w J μ (xs.drop m) g (U.drop (m*g)):=by
 refine⟨λq c=>h.1 q (dR c),λi j x a=>?_⟩;have b:gi xs (m+i) j=S x:=by simp only[gi,dE]at a |-;exact a
 obtain⟨d,u,f,e⟩:=h.2 _ j x b;refine⟨d,u,?_,e⟩;rw[dE,<- f,du,da]
def PC.KB{P:bl}(L:SlLaysE0.n45 P R){k by' g id i:Nat}{rows:eJ}(M:(P.info? (R.t 23)).map (λi=>(i.zero.map (λz=>(z.cells.size,z.cells.all (·.oneCell'))),i.size))=S (S (k,G),k))(H:i<X rows)(hl:X rows<2^30)(h1:J[id]?=S (.row (R.t 23) k by' g Z rows)): PC P (R.f 45) [.own id g,.i .i64 i,.i .i64 ((i:Int)+1)] J (λr J'=>r=.own id (g+1)/\J'=J.set id (.row (R.t 23) k by' (g+1) Z (rows.take i++rows.drop (i+1)))):=by
 cases s:P.info? (R.t 23)with
 |none=>simp[s]at M
 |some W =>
 simp only[s,dA,aa,aY]at M;obtain⟨C,p⟩:=M;cases d:W.zero with
 |none=>simp[d]at C
 |some z =>
 simp only[d,dA,aa,aY]at C;refine PC.aac h1 λB w0 w μ O hS l=>?_;have Q:=(l.2 0 _ rfl).lP h1;have a1:=(l.2 1 _ rfl).jy;have T:=(l.2 2 _ rfl).jy;obtain⟨_,a,E,F⟩:=hS.obj id _ h1;have e:O=#[μ id,.int .i64 i,.int .i64 ((i:Int)+1)]:=by obtain⟨q⟩:=O;match q,l.1 with|[u,v,y],_=>simp at Q a1 T;rw[Q,a1,T]
 rw[e];have o1:=lU.one hS F E.1;rcases E.2 with⟨_,hn⟩|⟨D,x,c,vt,hB,V,Ha,N,oA,K⟩;.omega
 rw[vt];refine(Te L k W z s p C.1 (λw=>by simp[zeroValue,run_typeInfo w s,d]) (λw=>by simp[sizeOf,run_typeInfo w s,p]) (λq ac=>?_) D (X rows) x i c (R.t 23) w H Ha (by unfold maxLen at N;omega) V oA (λv l=>o1 v (K▸l))).mono ?_;.have:=Array.all_eq_true.1 C.2 q (by omega);rw[cC,bZ (by omega)];exact this
 rintro e w' ⟨rfl,row,rfl,I,m⟩;have U:X a=X rows*k:=E.1;have ad:(i+1)*k<=X rows*k:=bS _ H;have n:i*k<=X rows*k:=bS _ (by omega);have h:X (rows.take i++rows.drop (i+1))=X rows - 1:=by simp only[ae,aX,bN];omega
 have o:i*k+(X rows - (i+1))*k=(X rows - 1)*k:=by rw[<- Nat.add_mul];congr 1;omega
 have pU:X (a.take (i*k)++a.drop ((i+1)*k))=(X rows - 1)*k:=by rw[wa]at o;simp only[ae,aX,bN,U];omega
 rw[K,show c.toList.take (i*k)=a.take (i*k)by rw[<- K,mL,fi n]]at m;refine⟨_,a.take (i*k)++a.drop ((i+1)*k),rfl,?_,λb hb=>.inl hb,?_,?_⟩
 .refine⟨rfl,rfl,rfl,?_,λj hj iV=>?_⟩;.simp only[World.setRow,World.drew,tZ];exact aB _
  have ub:¬D=j:=λe=>iV (by rw[e];rfl);simp only[World.setRow,World.drew,eu,ao ub]
 .rw[h];exact⟨pU,.inr ⟨D,x,row,rfl,hB,setRow_heap w.drew D c _ (R.t 23) (0,0) V,by omega,N,I,m⟩⟩
 exact(F.take i (by omega)).append (F.drop (i+1)) (by simp only[aX,U,fi n,fi (Nat.le_of_lt H)])
end Go.Pm
namespace Go.Proofs.Tryz
open Go Go.Pm Go.Bt Go.ChangeShapes Go.WideShapes Go.ChangeAt Go.RowKit Go.Proofs.YtfeddmfijllgmaaGreatDoor
def CD{H:Type}{d:DataW H}:∀{l:List (DataW H)},d∈l->Rows.uptoBulk d<=Rows.uptoBulkAll l
 |[],h=>by cases h
 |x::r,h=>by
  simp only[Rows.uptoBulkAll];rcases bw.1 h with rfl|h;.omega
  have:=CD h;omega
def acD{H:Type}{d:DataW H}{l:List (DataW H)}(h:d∈l):Rows.uptoBulk d<=Rows.uptoBulk (.agg l):=by have:=CD h;simp only[Rows.uptoBulk];omega
def vG:prog.cellsOf 3=1/\prog.cellsOf 9=1/\prog.cellsOf 34=1/\prog.cellsOf 22=1/\prog.cellsOf 70=3/\prog.cellsOf 55=3/\prog.cellsOf 36=8/\prog.cellsOf 57=13:=by refine⟨by kernel_rfl,by kernel_rfl,by kernel_rfl,by kernel_rfl,by kernel_rfl,by kernel_rfl,by kernel_rfl,by kernel_rfl⟩
def aoD{d:Type}:∀{l:List d},X l=3->∃a b c,l=[a,b,c]|[a,b,c],_=>⟨a,b,c,rfl⟩
def ahh{i:Type}:∀{l:List i},X l=8->∃a b c d e f g h,l=[a,b,c,d,e,f,g,h]|[a,b,c,d,e,f,g,h],_=>⟨a,b,c,d,e,f,g,h,rfl⟩
section
variable {H:Type} {enc:TypeId×Value->H} {W:bF} {base:Nat} {held:Bool} (μ:Mem)
def CC(b:ByteArray):X b.data.toList=b.size:=by simp
def AI{n:Nat}{v:Value}{x:DataW H×List MemPlace}(h:DataW.trod enc A W base (λ_=>G) held n 9 [v]=S x):∃s:aL,VR W [] μ (.s s) v/\X s<=Rows.uptoBulk x.1:=by obtain⟨b,a,rfl,c⟩:=DataW.trod_string underlying9 h;simp only[gQ,dm]at a;subst a;refine⟨b.data.toList,.s _ b rfl (by rw[CC];exact c),?_⟩;simp[Rows.uptoBulk]
def AJ{n:Nat}{v:Value}{x:DataW H×List MemPlace}(h:DataW.trod enc A W base (λ_=>G) held n 3 [v]=S x):∃k:Int,v=.int .i64 k /\ -9223372036854775808<=k/\k<=9223372036854775807:=by obtain⟨k,a,rfl,b⟩:=DataW.trod_int underlying3 h;simp only[gQ,dm]at a;have:=bounds_i64 b;exact⟨k,a,this.1,this.2⟩
structure ItC (cs:List Value) (y:Int×ByteArray×Int) (B:Nat):Prop where
 cells:cs=[.int .i64 y.1,.string y.2.1,.int .i64 y.2.2]
 size:y.2.1.size<=maxLen
 id : -9223372036854775808<=y.2.2/\y.2.2<=9223372036854775807
 asZ:y.2.1.size+1<=B
def Wt{n:Nat}{d:List Value}{x:DataW H×List MemPlace}(h:DataW.trod enc A W base (λ_=>G) held n 70 d=S x):∃y:Int×ByteArray×Int,ItC d y (Rows.uptoBulk x.1):=by obtain⟨y0,y1,r,m,rfl,f,c,e,a⟩:=Deep.trod_struct3 underlying70 h;rw[vG.2.2.2.2.1]at f;obtain⟨q,o,p,rfl⟩:=aoD f;simp only[vG.1,vG.2.1,qg,mi,eZ,jM]at c e a;obtain⟨k,rfl,_⟩:=AJ c;obtain⟨b,g,rfl,j⟩:=DataW.trod_string underlying9 e;simp only[gQ,dm]at g;subst g;obtain⟨i,rfl,l⟩:=AJ a;refine⟨(k,b,i),rfl,j,l,?_⟩;simp[Rows.uptoBulk,Rows.uptoBulkAll];omega
def GL(y:Int×ByteArray×Int):It:=⟨y.1,y.2.1.data.toList,y.2.2⟩
def HT{D:Nat->DataW H}{F:Nat->Int×ByteArray×Int}:∀(l:ed),(∀i∈l,(F i).2.1.size+1<=Rows.uptoBulk (D i))->X (l.map λi=>GL (F i))+bA (l.map λi=>GL (F i))<=Rows.uptoBulkAll (l.map D)|[],_=>by simp[bA,Rows.uptoBulkAll]|i::l,h=>by have c:=h i (by simp);have b:=HT l λj a=>h j (by simp[a]);have e:X (GL (F i)).ax1=(F i).2.1.size:=CC _;simp only[az,ah,bA,Rows.uptoBulkAll,e]at b |-;omega
def OA{b o k:Nat}:(Addr.mk b o Y).add k=⟨b,o+k,Y⟩:=by
 simp only[Addr.add];split;.rename_i h;subst h;simp
 rfl
def adC{n:Nat}{t e:TypeId}{v:Value}{x:DataW H×List MemPlace}(k:prog.underlying t=S (.slice e))(l:0<prog.cellsOf e)(h:DataW.trod enc A W base (λ_=>G) held n t [v]=S x): (∀a len b,v=.slice (S a) len b->a.spot=Y)\/∃a,v=.slice (S a) 0 0:=by
 rcases Deep.open_slice k h with⟨d,_⟩|⟨a,len,b,m,u,D,Pl,d,_,z,B,f,_,r⟩;.simp only[gQ,dm]at d;subst d;exact .inl λa len b h=>by simp at h
 simp only[gQ,dm]at d;simp only[aR]at f;subst f;by_cases o:m=0
 .subst o;have:len=0:=by omega
  subst this;exact .inr ⟨a,d⟩
 refine .inl λw i g h=>?_;rw[d]at h;simp only[Value.slice.injEq,aa]at h;obtain⟨rfl,_,_⟩:=h;obtain⟨p,j,_⟩:=r 0 (by omega);obtain⟨_,y,c⟩:=World.cells?_some j;have c:=c 0 l;rw[aA (by omega)]at c;simp only[Nat.zero_mul,Addr.add,aR,World.cell?]at c;cases q:a.spot with|none=>rfl|some s =>rw[q]at c;split at c<;>simp at c
def Fv{n:Nat}{v:Value}{x:DataW H×List MemPlace}(h:DataW.trod enc A W base (λ_=>G) held n 34 [v]=S x): ∃f:List It,VR W [] μ (.sl 3 (f.map It.axV)) v/\X f+bA f<=Rows.uptoBulk x.1/\∀y∈f,-9223372036854775808<=y.id/\y.id<=9223372036854775807:=by
 rcases adC underlying34 (by rw[vG.2.2.2.2.1];decide) h with V|⟨a,rfl⟩;case inr=>exact⟨[],.sle _ a,by simp[bA],by simp⟩
 rcases Deep.open_slice underlying34 h with⟨q,rfl⟩|⟨a,len,M,m,n',D,Pl,q,_,hl,hm,L,rfl,d⟩;.simp only[gQ,dm]at q;subst q;exact⟨[],.D1 _,by simp[bA],by simp⟩
 simp only[gQ,dm]at q;have R:=V _ _ _ q;obtain⟨b,o,s⟩:=a;simp only at R;subst R;subst q;have ac:len<=m:=by rw[L];split<;>omega
 obtain⟨F,B⟩:=Deep.choose_lt (α:=Int×ByteArray×Int) (n:=len) (p:=λi y=>∃c,W.cells? base ((Addr.mk b o Y).add (i*3)) 3=S c/\ItC c y (Rows.uptoBulk (D i))) (λi e=>by obtain⟨c,t,g⟩:=d i (by omega);obtain⟨y,N⟩:=Wt g;rw[vG.2.2.2.2.1]at t;exact⟨y,c,t,N⟩);refine⟨(List.range len).map λi=>GL (F i),?_,?_,?_⟩
 .have T:∀i,i<len->W.cell? ⟨b,o+i*3,Y⟩=S (.int .i64 (F i).1)/\W.cell? ⟨b,o+i*3+1,Y⟩=S (.string (F i).2.1)/\W.cell? ⟨b,o+i*3+2,Y⟩=S (.int .i64 (F i).2.2):=by intro i e;obtain⟨c,t,g⟩:=B i e;rw[g.cells,OA]at t;obtain⟨_,_,O⟩:=World.cells?_some t;have C:=O 0 (by decide);have E:=O 1 (by decide);have K:=O 2 (by decide);simp only[OA,cg]at C E K;exact⟨C,E,K⟩
  let f:Nat->Nat->Value:=λi j=>if j=0 then .int .i64 (F i).1 else if j=1 then .string (F i).2.1 else .int .i64 (F i).2.2;have Q:∀i j x,gi (((List.range len).map λi=>GL (F i)).map It.axV) i j=S x->i<len/\((j=0/\x=.I (F i).1)\/(j=1/\x=.s (F i).2.1.data.toList)\/(j=2/\x=.I (F i).2.2)):=by
   intro i j x d;simp only[gi,aqA,bP,aH]at d;obtain⟨row,⟨y,⟨k,z,rfl⟩,rfl⟩,l⟩:=d;have P:i<len:=by simpa using(ag.1 z).1
   rw[kQ P]at z;simp only[aa]at z;subst z;refine⟨P,?_⟩;rcases j with _|_|_|j;.simp only[It.axV,GL,aG,aa]at l;exact .inl ⟨rfl,l.symm⟩
   .simp only[It.axV,GL,aG,cA,aa]at l;exact .inr (.inl ⟨rfl,l.symm⟩)
   .simp only[It.axV,GL,aG,cA,aa]at l;exact .inr (.inr ⟨rfl,l.symm⟩)
   simp[It.axV,GL]at l
  have u:X (((List.range len).map λi=>GL (F i)).map It.axV)=len:=by simp
  have:=VR.sl (w:=W) (J:=[]) (μ:=μ) 3 (((List.range len).map λi=>GL (F i)).map It.axV) b o M f (by omega) hm (λr U=>by
   obtain⟨y,_,rfl⟩:=cP.1 U;rfl) (λi j x d=>by
   obtain⟨e,d⟩:=Q i j x d;obtain⟨C,E,K⟩:=T i e;rcases d with⟨rfl,rfl⟩|⟨rfl,rfl⟩|⟨rfl,rfl⟩;.exact⟨C,Va,rfl⟩
   .exact⟨E,Va,rfl⟩
   exact⟨K,Va,rfl⟩) (λi j x d=>by
   obtain⟨e,d⟩:=Q i j x d;rcases d with⟨rfl,rfl⟩|⟨rfl,rfl⟩|⟨rfl,rfl⟩;.exact .i _ _
   .obtain⟨c,t,g⟩:=B i e;exact .s _ _ rfl (by rw[CC];exact g.size)
   exact .i _ _);rwa [u]at this
 .have:=HT (D:=D) (F:=F) (List.range len) (λi e=>by obtain⟨_,_,g⟩:=B i (eD.1 e);exact g.asZ);simp only[Rows.uptoBulk];omega
 intro y N;obtain⟨i,e,rfl⟩:=cP.1 N;obtain⟨_,_,g⟩:=B i (eD.1 e);exact g.id
def Reads(W:bF)(μ:Mem)(a:ar)(b:List Value):Prop:=X a=X b/\∀(i:Nat) (x:V) (v:Value),a[i]?=S x->b[i]?=S v->VR W [] μ x v
def Reads.nil:Reads W μ [] []:=⟨rfl,by simp⟩
def Reads.cons{x:V}{v:Value}{d:ar}{c:List Value}(h:VR W [] μ x v)(t:Reads W μ d c):Reads W μ (x::d) (v::c):=by refine⟨by simp[t.1],λi y u a b=>?_⟩;cases i with|zero=>simp only[aG,aa]at a b;subst a;subst b;exact h|succ i=>exact t.2 i y u (by simpa using a) (by simpa using b)
def drop_take{i:Type}{a b c d e f g h:i}:([a,b,c,d,e,f,g,h].drop 0).take 1=[a]/\([a,b,c,d,e,f,g,h].drop 1).take 1=[b]/\([a,b,c,d,e,f,g,h].drop 2).take 1=[c]/\([a,b,c,d,e,f,g,h].drop 3).take 1=[d] /\([a,b,c,d,e,f,g,h].drop 4).take 1=[e]/\([a,b,c,d,e,f,g,h].drop 5).take 1=[f]/\([a,b,c,d,e,f,g,h].drop 6).take 1=[g]/\([a,b,c,d,e,f,g,h].drop 7).take 1=[h]:=⟨rfl,rfl,rfl,rfl,rfl,rfl,rfl,rfl⟩
def RV{n:Nat}{Q:List Value}{x:DataW H×List MemPlace}(h:DataW.trod enc A W base (λ_=>G) held n 36 Q=S x): ∃e:En,Reads W μ e.axV Q/\(X e.ax3+bA e.ax3<=Rows.uptoBulk x.1/\X e.ax4+bA e.ax4<=Rows.uptoBulk x.1/\X e.cJ<=Rows.uptoBulk x.1/\X e.next<=Rows.uptoBulk x.1/\X e.dL<=Rows.uptoBulk x.1/\X e.dh<=Rows.uptoBulk x.1) /\(∀y∈e.ax3++e.ax4,-9223372036854775808<=y.id/\y.id<=9223372036854775807) /\ -9223372036854775808<=e.ayf/\e.ayf<=9223372036854775807:=by
 obtain⟨xs,m,_,rfl,R,Aj,z⟩:=DataW.trod_struct underlying36 h;rw[vG.2.2.2.2.2.2.1]at R;obtain⟨t,w,j,C,s,D,E,v,rfl⟩:=ahh R;obtain⟨y0,y1,L,I,K,J,N,M,rfl⟩:=ahh (l:=xs) (by rw[Aj];rfl);have f0:DataW.trod enc A W base (λ_=>G) held m 34 (([t,w,j,C,s,D,E,v].drop 0).take (prog.cellsOf 34))=S y0:=z 0 _ rfl;have P:DataW.trod enc A W base (λ_=>G) held m 34 (([t,w,j,C,s,D,E,v].drop 1).take (prog.cellsOf 34))=S y1:=z 1 _ rfl;have U:DataW.trod enc A W base (λ_=>G) held m 9 (([t,w,j,C,s,D,E,v].drop 2).take (prog.cellsOf 9))=S L:=z 2 _ rfl;have f3:DataW.trod enc A W base (λ_=>G) held m 9 (([t,w,j,C,s,D,E,v].drop 3).take (prog.cellsOf 9))=S I:=z 3 _ rfl;have V:DataW.trod enc A W base (λ_=>G) held m 9 (([t,w,j,C,s,D,E,v].drop 4).take (prog.cellsOf 9))=S K:=z 4 _ rfl;have T:DataW.trod enc A W base (λ_=>G) held m 9 (([t,w,j,C,s,D,E,v].drop 5).take (prog.cellsOf 9))=S J:=z 5 _ rfl;have f6:DataW.trod enc A W base (λ_=>G) held m 3 (([t,w,j,C,s,D,E,v].drop 6).take (prog.cellsOf 3))=S N:=z 6 _ rfl;have O:DataW.trod enc A W base (λ_=>G) held m 3 (([t,w,j,C,s,D,E,v].drop 7).take (prog.cellsOf 3))=S M:=z 7 _ rfl;clear z;obtain⟨t0,t1,t2,t3,t4,t5,t6,t7⟩:=drop_take (a:=t) (b:=w) (c:=j) (d:=C) (e:=s) (f:=D) (g:=E) (h:=v);simp only[vG.1,vG.2.1,vG.2.2.1,t0,t1,t2,t3,t4,t5,t6,t7]at f0 P U f3 V T f6 O;obtain⟨a,va,ba,ia⟩:=Fv μ f0;obtain⟨b,vb,bb,ib⟩:=Fv μ P;obtain⟨p,vp,bp⟩:=AI μ U;obtain⟨q,vq,bq⟩:=AI μ f3;obtain⟨u,vu,bu⟩:=AI μ V;obtain⟨r,vr,br⟩:=AI μ T;obtain⟨k,rfl,hk⟩:=AJ f6;obtain⟨o,rfl,ho⟩:=AJ O;have B:∀y∈[y0,y1,L,I,K,J,N,M],Rows.uptoBulk y.1<=Rows.uptoBulk (.agg ([y0,y1,L,I,K,J,N,M].map (·.1))):=λy F=>acD (cP.2 ⟨y,F,rfl⟩);refine⟨⟨a,b,p,q,u,r,k,o⟩,.cons μ va (.cons μ vb (.cons μ vp (.cons μ vq (.cons μ vu (.cons μ vr (.cons μ (.i _ _) (.cons μ (.i _ _) (.nil μ)))))))),⟨cE ba (B y0 (by simp)),cE bb (B y1 (by simp)),cE bp (B L (by simp)),cE bq (B I (by simp)),cE bu (B K (by simp)),cE br (B J (by simp))⟩,λy F=>?_,ho⟩;rcases bJ.1 F with F|F;.exact ia y F
 exact ib y F
def Reads.app{c d:ar}{g f:List Value}(h:Reads W μ c g)(k:Reads W μ d f):Reads W μ (c++d) (g++f):=by
 refine⟨by simp[h.1,k.1],λi x v b a=>?_⟩;rcases jt i (X c) with e|j;.rw[bc e]at b;rw[bc (by rw[<- h.1];exact e)]at a;exact h.2 i x v b a
 rw[bB j]at b;rw[bB (by rw[<- h.1];exact j),<- h.1]at a;exact k.2 _ x v b a
end
section
variable {H:Type} {enc:TypeId×Value->H} {W:bF} {base:Nat} {held:Bool} (μ:Mem)
def adQ{n:Nat}{cs:List Value}{x:DataW H×List MemPlace}(h:DataW.trod enc A W base (λ_=>G) held n 36 cs=S x)(r:Rows.uptoBulk x.1<=1048576):∃e:En,Reads W μ e.axV cs/\e.axZ:=by
 obtain⟨e,i,⟨k,o,q,p,l,m⟩,c,_⟩:=RV μ h;have d:X e.ax3<2^30:=by omega
 have f:bA e.ax3<2^30:=by omega
 have j:X e.ax4<2^30:=by omega
 have a:bA e.ax4<2^30:=by omega
 have g:X e.cJ<2^30:=by omega
 have b:X e.next<2^30:=by omega
 exact⟨e,i,d,f,j,a,g,b,c⟩
def Reads.agg{b:ar}{a:Array Value}(h:Reads W μ b a.toList):VR W [] μ (.agg b) (.agg a):=by
 refine .agg b a (by rw[h.1];simp) λi x d=>?_;have c:i<a.size:=by have:=(ag.1 d).1;rw[h.1]at this;simpa using this
 have:=h.2 i x a[i] d (by rw[lp];simp[c]);simpa[Array.getD,c]using this
end
variable{U:Nat}
set_option maxRecDepth 20000 in
def akk{H:Type}{enc:TypeId×Value->H}{W:bF}{r:Reach}{v:Value}{d:DataW H}{p:List MemPlace}(μ:Mem)(a:Value.okWide A W r U 36 v)(c:DataW.Trod enc A W 0 (λ_=>G) G 36 v d p)(i:Rows.uptoBulk d<=1048576): ∃e:En,VR W [] μ (.agg e.axV) v/\e.axZ:=by obtain⟨b,f⟩:=c;simp only[Value.okWide,underlying36]at a;obtain⟨cs,rfl,_⟩:=a;obtain⟨e,h,g⟩:=adQ μ (cs:=cs.toList) f i;exact⟨e,h.agg,g⟩
end Go.Proofs.Tryz
namespace Go.Proofs.Tryz
open Go Go.Pm Go.Bt Go.RowKit
variable(U:List It){R:Mem}{v:Value}{J:ai}{w:bF}{K:bG}{T:eJ}
def P7:(prog.info? 70).map (λi=>(i.zero.map (λz=>z.cells.size),i.size,i.bytes))=S (S 3,3,32):=by kernel_rfl
def Vo:(prog.info? 3).map (λi=>(i.zero.map (λz=>z.cells.size),i.size,i.bytes))=S (S 1,1,8):=by kernel_rfl
def ZW{x:V}(h:VR w J R x v)(a:x.pure=G):v.oneCell'=G:=by cases h<;>first|rfl|simp[V.pure]at a
def TS{c:Nat}(B:0<c)(h:VR w J R (.sl c T) v): ((∃a,v=.slice a 0 0)/\T=[])\/∃b o m e,v=.slice (S ⟨b,o,Y⟩) (X T) m/\X T<=maxLen/\X e=X T*c/\(∀j u,e[j]?=S u->w.cell? ⟨b,o+j,Y⟩=S u)/\(∀u∈e,u.oneCell'=G)/\lU w J R T c e:=by
 generalize d:V.sl c T=x at h;cases h with
 |D1 p =>simp only[V.sl.injEq]at d;exact .inl ⟨⟨_,rfl⟩,d.2⟩
 |sle p a =>simp only[V.sl.injEq]at d;exact .inl ⟨⟨_,rfl⟩,d.2⟩
 |sl p P b o m f n M y C F =>
  simp only[V.sl.injEq]at d;obtain⟨rfl,rfl⟩:=d;refine .inr ⟨b,o,m,(List.range (X T*c)).map λk=>f (k / c) (k % c),rfl,cE n M,by simp,λj u s=>?_,λu D=>?_,y,λi j x d=>?_⟩
  .rw[bP,aH]at s;obtain⟨k,I,rfl⟩:=s;have E:=ag.1 I;simp only[List.length_range,TD]at E;obtain⟨z,rfl⟩:=E;have l:j / c<X T:=nc (by rw[iB];exact z);have q:j % c<c:=sK _ B;have g:=y T[j / c] (dQ l);have t:gi T (j / c) (j % c)=S (T[j / c][j % c]'(by rw[g];exact q)):=by simp[gi,l,g,q]
   have:=(C _ _ _ t).1;rwa [da,Nat.div_add_mod']at this
  .rw[cP]at D;obtain⟨j,s,rfl⟩:=D;rw[eD]at s;have l:j / c<X T:=nc (by rw[iB];exact s);have q:j % c<c:=sK _ B;have g:=y T[j / c] (dQ l);have t:gi T (j / c) (j % c)=S (T[j / c][j % c]'(by rw[g];exact q)):=by simp[gi,l,g,q]
   exact ZW (F _ _ _ t) (C _ _ _ t).2.2
  have L:=C i j x d;have l:i<X T/\j<c:=by simp only[gi]at d;cases g:T[i]? with|none=>rw[g]at d;simp at d|some r =>rw[g]at d;have H:=(ag.1 g).1;have z:=(ag.1 (show r[j]?=S x from d)).1;rw[y r (bn g)]at z;exact⟨H,z⟩
  refine⟨L.2.2,f i j,?_,F i j x d⟩;have N:i*c+j<X T*c:=by have:(i+1)*c<=X T*c:=bS _ l.1;rw[du,iQ]at this;omega
  rw[bP,aA (by simpa using N)];simp only[TD,dA,aa];have O:(i*c+j) / c=i:=by rw[iB,Nat.mul_add_div B,Nat.div_eq_of_lt l.2];rfl
  have K:(i*c+j) % c=j:=by rw[iB,Nat.mul_add_mod,iM l.2]
  rw[O,K]
 |_=>simp at d
def ql{T n by':Nat}(h:(prog.info? T).map (λi=>(i.zero.map (λz=>z.cells.size),i.size,i.bytes))=S (S n,n,by')):∃i z,prog.info? T=S i/\i.zero=S z/\i.size=n/\i.bytes=by'/\z.cells.size=n:=by
 cases c:prog.info? T with
 |none=>rw[c]at h;simp at h
 |some i =>rw[c]at h;simp only[dA,aa,aY]at h;obtain⟨a,d,e⟩:=h;cases b:i.zero with|none=>rw[b]at a;simp at a|some z =>rw[b]at a;simp only[dA,aa]at a;exact⟨i,z,rfl,b,d,e,a⟩
set_option maxRecDepth 100000 in
def tz{P:bl}{d:Shelf.Ren}(L:SlLaysE0.n41 P d)(g:TypeInfo)(z:Value)(b bytes:Nat)(E:P.info? (d.t 23)=S g)(m:g.zero=S z)(o:g.size=b)(p:g.bytes=bytes)(I:z.cells.size=b)(C:0<b) (B:∀w,(Go.sizeOf (d.t 23)).run P w=.ok b w) (a:Addr) (w:bF) :
  Calls P (d.f 41) #[.slice (S a) 0 0] w λe r=>∃i,e=.returned i/\r.ownsRow w.heap.size (d.t 23) b i 0 []/\Below w.heap.size w r:=by have mixed:=L.mixed;have K:=L.t4;have N:=L.a4;have M:=L.z4;have O:=L.v4;have h:=L.t22;have H:=L.a22;have s:=L.z22;have D:=L.v22;have y:∀(w:bF) (a:Option Addr) (n c j l:Nat),(binOp .eql (d.t 22) (.slice a n c) (.slice Y j l)).run P w=.ok (.bool a.isNone) w:=λw a n c j l=>Lib.run_eql_slice_nil w _ _ a n c j l L.t22;have F:∀w,Sem.run P (underlying (d.t 22)) w=.ok (TypeDesc.slice (d.t 23)) w:=run_underlying h;obtain⟨_,_,v⟩:=L.f41;go_enter v,SlBodyN.n41_ntmps d;go_wp2_with (at_builtin;refine wpList_append_own _ rfl _ _ (d.t 22) rfl w.heap.size (d.t 23) g z b bytes h E m o p I C _ _ _ rfl (World.ownsRow_made w #[] 0 (aB _) (iP _) (by simp)) a 0 0 [] rfl (by simp) (by simp) (by simp) (by simp) (by simp) (by simp) ?_);intro i J u q _;go_wp2;go_ret;exact⟨i,rfl,by simpa using u,((Below.refl _ w).alloc (aB _) _).grown q (by simp) (by intro k x;simp[Value.ownBlock]at x;omega)⟩
def HN{f E h by':Nat}(H:0<h)(O:(prog.info? E).map (λi=>(i.zero.map (λz=>z.cells.size),i.size,i.bytes))=S (S h,h,by')) (p:X T*by'<=140737488355328) (W:∀w,Calls A f #[.slice Y 0 0] w λe g=>e=.returned (.slice Y 0 0)/\g=w) (y:∀(a:Addr) (w:bF),Calls A f #[.slice (S a) 0 0] w λe g=>∃k,e=.returned k/\g.ownsRow w.heap.size E h k 0 []/\Below w.heap.size w g) (D:∀(s:TypeInfo) (z:Value),prog.info? E=S s->s.zero=S z->s.size=h->s.bytes=by'->z.cells.size=h->(∀w,(Go.sizeOf E).run A w=.ok h w)->∀(b q n c:Nat) (d:List Value) (w:bF),X d=n*h->n<=maxLen->n*by'<=140737488355328 ->(∀j u,d[j]?=S u->w.cell? ⟨b,q+j,Y⟩=S u)->(∀u∈d,u.oneCell'=G) ->Calls A f #[.slice (S ⟨b,q,Y⟩) n c] w λe g=>∃k,e=.returned k/\g.ownsRow w.heap.size E h k n d/\k≠.slice Y 0 0/\Below w.heap.size w g) (J:ai):bh A f [.sl h T] J (.sl h T):=by
 obtain⟨i,z,C,I,m,r,K⟩:=ql O;refine PC.aid (E:=E) (by':=by') ⟨H,i,z,C,I,m,r,K⟩ λB w0 w μ F hS L=>?_;have M:=L.2 0 _ rfl;have e:F=#[F.getD 0 undef]:=vs1 L.1;rw[e];rcases TS H M with⟨⟨a,t⟩,R⟩|⟨b,o,v,l,t,U,Q,hc,x,V⟩
 .rw[t];subst R;cases a with
  |none =>refine(W w).mono ?_;rintro e g ⟨rfl,rfl⟩;exact⟨_,[],rfl,World.ownsRow_nil g _ _ _,Below.refl _ _,by simp,by simp[gi]⟩
  |some a =>refine(y a w).mono ?_;rintro e g ⟨k,rfl,m,r⟩;exact⟨_,[],rfl,m,r,by simp,by simp[gi]⟩
 rw[t];refine(D i z C I m r K (λw=>by simp[sizeOf,run_typeInfo w C,m]) b o _ v l w Q U p hc x).mono ?_;rintro e g ⟨k,rfl,P,_,N⟩;exact⟨_,l,rfl,P,N,V⟩
def zB(l:X U<2^40)(J:ai):bh A 234 [.sl 3 (U.map It.axV)] J (.sl 3 (U.map It.axV)) :=HN (by decide) P7 (by rw[ab];omega) (λw=>AnyE.slices_Clone_nil Tryz.HO 0 0 w) (λa w=>by
   obtain⟨i,z,e,k,f,g,j⟩:=ql P7;exact tz Tryz.HO i z 3 32 e k f g j (by decide) (show ∀w,(Go.sizeOf 70).run A w=.ok 3 w from λw=>by simp[sizeOf,run_typeInfo w e,f]) a w)
  (λi z e k f g j q b o n c d w m r p s h=>AnyE.slices_Clone Tryz.HO i z 3 32 e k f g j (by decide) q b o n c d w m r p s h) J
def NJ(j:bH)(m:X j<2^40)(J:ai):bh A 190 [.sl 1 (j.map cG)] J (.sl 1 (j.map cG)) :=HN (by decide) Vo (by rw[ab];omega) (λw=>AnyE.slices_Clone_nil Tryz.NK 0 0 w) (λa w=>by
   obtain⟨i,z,e,l,f,g,k⟩:=ql Vo;exact tz Tryz.NK i z 1 8 e l f g k (by decide) (show ∀w,(Go.sizeOf 3).run A w=.ok 1 w from λw=>by simp[sizeOf,run_typeInfo w e,f]) a w)
  (λi z e l f g k r b o n c d w p s q t h=>AnyE.slices_Clone Tryz.NK i z 1 8 e l f g k (by decide) r b o n c d w p s q t h) J
def KX(e:En)(a:e.axZ)(J:ai):bh A 189 [.agg e.axV] J (.agg e.axV):=by refine aT func189 am8.2 λb c=>an ?_;simp only[am8,SS,seval];simp only[En.axV,VV,seval];refine ak (zB e.ax3 (by have:=a.ax3;omega) _) rfl ?_;simp only[VV,seval];refine ak (zB e.ax4 (by have:=a.ax4;omega) _) rfl ?_;simp only[VV,seval];exact aS b (by simp only[RS,seval];rfl) (by simp[LW]) ⟨rfl,rfl⟩
def pV(o:bf)(a:o.axZ)(J:ai):bh A 142 [.agg o.axV] J (.agg o.axV):=by refine aT func142 anN.2 λb c=>an ?_;simp only[anN,SS,seval];simp only[bf.axV,cz.axV,En.axV,VV,seval];refine ak (KX o.axY a.axY _) rfl ?_;simp only[En.axV,VV,seval];refine ak (NJ o.ax5 (by have:=a.ax5;omega) _) rfl ?_;simp only[VV,seval];exact aS b (by simp only[RS,seval];rfl) (by simp[LW]) ⟨rfl,rfl⟩
def afn(n:Int)(h0 : -9223372036854775808<=n)(h1:n<=9223372036854775807)(J:ai):bh A 248 [.I n] J (.s (Lib.itoa n)):=by
 refine PC.aad λB o w μ i m b=>?_;have l:=(b.2 0 _ rfl).jy;have h:i=#[.int .i64 n]:=by rw[vs1 b.1,l]
 have d:(prog.globalNamed "internal/strconv.uint64pow10").isSome=G:=by kernel_rfl
 obtain⟨g,f⟩:=Option.isSome_iff_exists.1 d;have a:=m.tab (t:=("internal/strconv.uint64pow10",.u64,F1)) (by simp[ady]) f;rw[WH]at a;refine⟨_,?_,λc=>afo n h0 h1⟩;rw[h];refine(Tryz.strconv_Itoa n h0 h1 w a).mono ?_;rintro e c ⟨j,k,os,rfl⟩;exact⟨j,Np w k os⟩
def aew{n:Nat}{J ext:ai}(s:aL)(p:X s<2^40):∀(a d b:aL) (g:Nat),s=d++a->X b+4*X a<2^42 ->((fh (.own (X J) (g+X a)) (fj 59 fo)) λF=>K (.exit 0) ⟨F,J++(.row 5 1 1 (g+X a) Z (aC (b++a.flatMap gq))::ext)⟩) ->gF n A F5 K (X a+1) ⟨(.own (X J) g::.s s::uu 3 (.I (X d)::uu 54 [])),J++(.row 5 1 1 g Z (aC b)::ext)⟩:=by
 intro a;induction a with
 |nil =>intro d b g v D o;have v:=dH v;subst v;refine aD λR j=>?_;simp only[F5,W,seval];simp only[lB,bE,aj,cg]at o;exact⟨λh=>by simp at h,λ_=>o ..⟩
 |cons c a ih =>
 intro d b g v D o;subst v;have q:=eE d c (by simp at p;omega);have x:d++c::a=(d++[c])++a:=by simp
 simp only[ah]at D;have next:∀(t:aL),gq c=t->X t<=4->∀{R:bU} {y:ar},(∀u,gF n A F5 K (X a+1) u->R u) ->
   qP y (.own (X J) (g+1)::.s (d++c::a)::uu 3 (.I (X (d++[c]))::uu 54 []))->R ⟨y,J++(.row 5 1 1 (g+1) Z (aC (b++t))::ext)⟩:=by
  intro t E N R y j H;have M:b++(c::a).flatMap gq=(b++t)++a.flatMap gq:=by simp[E]
  have L:g+X (c::a)=(g+1)+X a:=by simp;omega
  rw[M,L]at o;refine j _ ?_;exact bL H (ih (d++[c]) (b++t) (g+1) x (by simp;omega) o)
 have e:∀n:Nat,n<=4->(X (aC b)+n)*1<=2^47/\X (aC b)+n<=maxLen:=λn O=>by simp only[bC,maxLen];omega
 have w:∀(t:aL),aC b++aC t=aC (b++t):=λt=>fD;refine aD λR j=>?_;simp only[F5,VV,seval];refine⟨λ_=>⟨by simp;omega,?_⟩,λh=>by simp at h<;>omega⟩;refine ak (Pk c _) rfl ?_;cases r:vh c with
 |true =>simp only[VV,seval];refine⟨e 1 (by omega),?_⟩;rw[show aC b++[[V.i .u8 c.toNat]]=aC (b++[c])from w [c]];refine next [c] (by simp[gq,r]) (by simp) j ?_;rw[q];repeat' constructor
 |false =>
 by_cases f:c=10;.simp only[V3 (k:=10) f rfl,VV,seval];refine⟨e 2 (by omega),?_⟩;rw[show aC b++[[V.i .u8 92],[V.i .u8 110]]=aC (b++[92,110])from w [92,110]];refine next [92,110] (by simp only[gq,r,aO f];rfl) (by simp) j ?_;rw[q];repeat' constructor
 by_cases l:c=9;.simp only[ug (k:=10) f rfl,V3 (k:=9) l rfl,VV,seval];refine⟨e 2 (by omega),?_⟩;rw[show aC b++[[V.i .u8 92],[V.i .u8 116]]=aC (b++[92,116])from w [92,116]];refine next [92,116] (by simp only[gq,r,ao f,aO l];rfl) (by simp) j ?_;rw[q];repeat' constructor
 by_cases m:c=92\/c=60\/c=123
 .have z:((((c.toNat:Int)==92)||((c.toNat:Int)==60))||((c.toNat:Int)==123))=G:=by rcases m with h|h|h<;>rw[h]<;>rfl
  simp only[ug (k:=10) f rfl,ug (k:=9) l rfl,z,VV,seval];refine⟨e 2 (by omega),?_⟩;rw[show aC b++[[V.i .u8 92],[V.i .u8 c.toNat]]=aC (b++[92,c])from w [92,c]];refine next [92,c] (by simp only[gq,r,ao f,ao l,aO m];rfl) (by simp) j ?_;rw[q];repeat' constructor
 have z:((((c.toNat:Int)==92)||((c.toNat:Int)==60))||((c.toNat:Int)==123))=Z:=by rw[ug (k:=92) (λh=>m (.inl h)) rfl,ug (k:=60) (λh=>m (.inr (.inl h))) rfl,ug (k:=123) (λh=>m (.inr (.inr h))) rfl];rfl
 have B:=aph c;have C:=apg c;simp only[ug (k:=10) f rfl,ug (k:=9) l rfl,z,B.2.2,C.2.2,VV,Int.reduceBEq,Int.reduceBNe,Nat.reduceAdd,Nat.reduceSub,Nat.reduceLeDiff,Nat.reduceEqDiff,Int.reduceToNat,reduceIte,reduceCtorEq];refine⟨by simp,by simpa using⟨B.1,B.2.1⟩,by simpa using⟨C.1,C.2.1⟩,e 4 (by omega),?_⟩;rw[show aC b++[[V.i .u8 92],[V.i .u8 120],[V.i .u8 (ly (c.toNat / 16)).toNat],[V.i .u8 (ly (c.toNat % 16)).toNat]]=aC (b++[92,120,ly (c.toNat / 16),ly (c.toNat % 16)])from w [92,120,ly (c.toNat / 16),ly (c.toNat % 16)]];refine next [92,120,ly (c.toNat / 16),ly (c.toNat % 16)] (by simp only[gq,r,ao f,ao l,ao m];rfl) (by simp) j ?_;rw[q];repeat' constructor
def Jd(b s:aL)(g:Nat)(a:X b+4*X s<2^42)(J ext:ai):PC A 249 [.own (X J) g,.s s] (J++(.row 5 1 1 g Z (aC b)::ext)) (λr c=>r=.own (X J) (g+X s)/\c=J++(.row 5 1 1 (g+X s) Z (aC (b++s.flatMap gq))::ext)):=by
 refine aT func249 amx.2 λd e=>an ?_;simp only[amx,SS,seval];simp only[W,seval];refine cD.bL ?_ (X s+1) (aew s (by omega) s [] b g rfl a ?_);.repeat' constructor
 simp only[JE];intros;simp only[W,seval];exact fp rfl (Wk.refl _ _) rfl ⟨rfl,rfl⟩
def aeD(y:bW J)(i:X U<2^40)(s:∀x∈U,-9223372036854775808<=x.id/\x.id<=9223372036854775807)(D:∀x∈U,1<=x.axW/\x.axW<=5): ∀(a c:List It) (b:aL) (g:Nat),U=c++a->X b+4*bA a+40*X a<2^42 ->(∀g,((fj 5 (fh (.own (X J) g) (fj 69 fo))) λw=>K (.exit 0) ⟨w,J++[.row 5 1 1 g Z (aC (b++a.flatMap dz))]⟩)) ->gF (X J) A Ga K (X a+1) ⟨(uu 5 (.own (X J) g::uu 8 (.sl 3 (U.map It.axV)::.I (X U)::.I (X c)::uu 58 []))),J++[.row 5 1 1 g Z (aC b)]⟩:=by
 intro a;induction a with
 |nil =>intro c b g l u f;have l:=dH l;subst l;refine aD λR e=>?_;simp only[Ga,W,seval];simp only[lB,bE]at f;exact⟨λh=>by simp at h,λ_=>f g ..⟩
 |cons x a ih =>
 intro c b g l u f;subst l;have j:=eE c x (by simp at i;omega);have q:c++x::a=(c++[x])++a:=by simp
 simp only[bA,ah]at u;have p:=s x (by simp);have F:=D x (by simp);have E:=Lib.itoa_length_le x.id p.1 p.2;have next:∀(t:aL) (m:Nat) {o:Ob},dz x=t->X t<=4*X x.ax1+30->∀{R:bU} {r:ar},(∀k,gF (X J) A Ga K (X a+1) k->R k) ->
   qP r (uu 5 (.own (X J) m::uu 8 (.sl 3 ((c++x::a).map It.axV)::.I (X (c++x::a))::.I (X (c++[x]))::uu 58 [])))->R ⟨r,J++[.row 5 1 1 m Z (aC (b++t)),o]⟩:=by
  intro t m o v H R r e C;have B:b++(x::a).flatMap dz=(b++t)++a.flatMap dz:=by simp[v]
  rw[B]at f;refine e _ (dn [_] [_] (cx y (by simp)) C ?_ (ih (c++[x]) (b++t) m q (by simp;omega) f));simp only[LW,ah,aj,aP];omega
 have d:∀n:Nat,n<=X x.ax1+30->(X (aC b)+n)*1<=2^47/\X (aC b)+n<=maxLen:=λn z=>by simp only[bC,maxLen];omega
 have axZ:∀n:Nat,n<=X x.ax1+30->n<=maxLen:=λn z=>by simp only[maxLen];omega
 refine aD λR e=>?_;simp only[Ga,It.axV,VV,seval];refine⟨λ_=>⟨by simp;omega,?_⟩,λh=>by simp at h<;>omega⟩;refine ak (afn x.id p.1 p.2 _) rfl ?_;rcases(by omega:x.axW=1\/x.axW=2\/x.axW=3\/x.axW=4\/x.axW=5)with h|h|h|h|h;.simp only[h,VV,seval];refine ak (Jd b x.ax1 g (by omega) J [_]) rfl ?_;simp only[VV,seval];refine next (x.ax1.flatMap gq) (g+X x.ax1) (by simp only[dz,h,aR]) (by have:=Kr x.ax1;omega) e ?_;rw[j];repeat' constructor
 .simp only[h,VV,seval];refine⟨axZ _ (by omega),axZ _ (by omega),axZ _ (by simp;omega),axZ _ (by simp;omega),d _ (by simp only[bC,ah,ae,aj];omega),?_⟩;rw[fD];refine next (60::(Lib.itoa x.id++58::(x.ax1++[62]))) (g+1) (by simp[dz,h]) (by simp;omega) e ?_;rw[j];repeat' constructor
 .simp only[h,VV,seval];refine⟨axZ _ (by omega),axZ _ (by simp;omega),axZ _ (by simp;omega),axZ _ (by simp;omega),d _ (by simp only[bC,ah,ae,aj];omega),?_⟩;rw[fD];refine next (60::47::(Lib.itoa x.id++58::(x.ax1++[62]))) (g+1) (by simp[dz,h]) (by simp;omega) e ?_;rw[j];repeat' constructor
 .simp only[h,VV,seval];refine⟨axZ _ (by omega),axZ _ (by omega),axZ _ (by simp;omega),axZ _ (by simp;omega),d _ (by simp only[bC,ah,ae,aj];omega),?_⟩;rw[fD];refine next (60::(Lib.itoa x.id++58::(x.ax1++[47,62]))) (g+1) (by simp[dz,h]) (by simp;omega) e ?_;rw[j];repeat' constructor
 simp only[h,VV,seval];refine⟨axZ _ (by omega),axZ _ (by first|omega|(simp;omega)),d _ (by simp only[bC,ah,ae,aj];omega),?_⟩;rw[fD];refine next (123::(x.ax1++[125])) (g+1) (by simp[dz,h]) (by simp;omega) e ?_;rw[j];repeat' constructor
def Cr(c:X U<2^30)(f:bA U<2^30)(a:∀x∈U,-9223372036854775808<=x.id/\x.id<=9223372036854775807)(J:ai):bh A 207 [.sl 3 (U.map It.axV)] J (.iS [.s (ayj U).1,.I (ayj U).2]):=by
 refine aT func207 amV.2 λb d=>an ?_;simp only[amV,SS,seval];simp only[VV,seval];refine ak (qX U _) rfl ?_;simp only[ab,VV,seval];refine⟨λh=>?_,λh=>?_⟩
 .have h:cU U≠0:=by simpa using h
  exact bt rfl ⟨by simp only[ayj,h,aR,gj,eP];rfl,rfl⟩
 have h:cU U=0:=by simpa using h
 have e:ayj U=(U.flatMap dz,0):=by simp only[ayj,h,gj,fU,bo]
 rw[e];refine cD.wk ((Wk.jP (k:=5) YX rfl).trans (Wk.fG ?_)) (cD.mM (X U+1) (aeD U b (by omega) a (vN h) U [] [] 0 rfl (by simp only[aj];omega) ?_));.simp only[W,seval];repeat' constructor
 intro g;simp only[JE];intros;simp only[jC,aw,W,seval];exact aS b rfl (by simp[LW]) ⟨rfl,rfl⟩
