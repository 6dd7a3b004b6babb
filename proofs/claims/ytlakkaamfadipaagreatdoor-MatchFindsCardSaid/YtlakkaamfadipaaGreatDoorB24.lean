/- A part of a proof; the claim's last text says of what. -/
import Derived.Test.YtlakkaamfadipaaGreatDoorCards
import Derived.Test.YtlakkaamfadipaaGreatDoorTie
import Derived.WalkKit
import Derived.ProofKit
import Derived.OpenShut
import Derived.LaidMore
import Derived.Deep.DeepHandedRow
import Derived.ChangeSlices
import Derived.Laws.IdiomStrings
import Derived.Test.YtlakkaamfadipaaGreatDoorB13
import Derived.Test.YtlakkaamfadipaaGreatDoorB21
import Derived.Test.YtlakkaamfadipaaGreatDoorB23
set_option linter.all false
set_option maxHeartbeats 4000000

namespace Go.Pm
open Go Go.RowKit Go.Sort Go.Proofs
def SI{W w':bD}(h:Below W.heap.size W w')(f:W.drawn<=w'.drawn):∃q a,w'=grow (W.drewN q) a:=by
 refine⟨w'.drawn - W.drawn,w'.heap.extract W.heap.size w'.heap.size,?_⟩
 have d:w'.heap=W.heap++w'.heap.extract W.heap.size w'.heap.size:=by
  apply UH;intro i;rw[Array.getElem?_append];split
  .exact h.block i ‹_›
  .have:=h.size;rw[Array.getElem?_extract];split
   .congr 1;omega
   .rw[qY (by omega)]
 have b:=h.os;have e:=h.tape;have c:=h.output;obtain⟨j,k,l,os,g⟩:=w';simp only at d b e c f |-;subst b e c;simp only[grow,World.drewN,<- d];congr 1;omega
def Hh{α:Type}[Inhabited α]{enc:α->List Value}{k n b E:Nat}{w:bD}{a:Array Value}{c:Array α}{os:Array Obj}(d:w.heap[b]?=some (.cells a E (0,0))):
  (sortWorldK enc k w b 0 n c os).heap[b]?=some (.cells (putCells id 0 (flatK enc k c) a) E (0,0)):=by
 have f:=(cg.1 d).1
 have e:(putRowK enc k (Sort.ahead w n) b 0 c).heap[b]?=some (.cells (putCells id 0 (flatK enc k c) a) E (0,0)):=by
  simp only[putRowK,putRow,mapBlock,Sort.ahead,dp,aT,d,cL];rfl
 simp only[sortWorldK,grow];rw[lC (by have:=(cg.1 e).1;exact this)];exact e
def sM{α:Type}[Inhabited α]{enc:α->List Value}{k n a:Nat}{w:bD}{b:Array α}{os:Array Obj}:
  w.grownBy (sortWorldK enc k w a 0 n b os) (some a):=by
 have c:(putRowK enc k (Sort.ahead w n) a 0 b).heap.size=w.heap.size:=by rw[putRowK,Go.Sort.size_putRow];rfl
 refine⟨rfl,rfl,rfl,?_,λj d f=>?_⟩
 .simp only[sortWorldK,grow,sq,c];omega
 .have g:¬a=j:=λe=>f (by rw[e]);simp only[sortWorldK,grow];rw[lC (by rw[c];exact d)];simp only[putRowK,putRow,mapBlock,Sort.ahead,dp,an g]
def VR.bare{P:bo}{B:Nat}{w0 w W:bD}{J:ak}{μ μ':Mem}{q id:Nat}(N:lj P B w0 w J μ){o:Ob}(C:J[id]?=some o)(z:∀off,o.wat off)(t:lZ (μ id)=some q)(y:w.grownBy W (some q)){x:V}{v:Value}(h:VR w J μ x v)(A:x.pure=true):
  VR W [] μ' x v:=by
 have K:∀b off u,w.cell? ⟨b,off,none⟩=some u->¬wr J μ b off->W.cell? ⟨b,off,none⟩=some u:=by
  intro b off u c r;refine y.cell c λe=>r ⟨id,o,C,?_,z off⟩;rw[t];exact e.symm
 induction h with
 |b x=>exact .b x
 |i k n=>exact .i k n
 |s l x E I=>exact .s l x E I
 |K4 m=>exact .K4 m
 |sle m a=>exact .sle m a
 |sl m F b o p f g D H c M ih =>
  exact .sl m F b o p f g D H (λi j x d=>⟨K _ _ _ (c i j x d).1 (c i j x d).2.1,by rintro⟨id,L,G,_⟩;simp at G,(c i j x d).2.2⟩) (λi j x d=>ih i j x d (c i j x d).2.2)
 |_=>simp[V.pure]at A
def PC.adt{P:bo}{f:Nat}{args:aB}{J:ak}{id E sz by' g:Nat}{xs:dF}{R:dF->Prop}(c:J[id]?=some (.row E sz by' g false xs))
  (h:∀(B:Nat) (w0 w:bD) (μ:Mem) (d:Array Value),lj P B w0 w J μ->VRs w J μ args d->Calls P f d w λe w'=>∃xs' vals',R xs'/\xs'.length=xs.length/\e=.returned (.tuple #[])/\w.grownBy w' (lZ (μ id))/\w'.ownsRow B E sz (μ id) xs'.length vals'/\kN w J μ xs' sz vals') :
  PC P f args J (λr J'=>∃xs',R xs'/\r=.iQ []/\J'=J.set id (.row E sz by' g false xs')):=by
 intro B w0 w μ d l H;refine(h B w0 w μ d l H).mono ?_;rintro e w' ⟨xs',vals',L,C,rfl,q,x,G⟩;have m:id<J.length:=(ah.1 c).1
 have n:=l.update (w':=w') (J':=J.set id (.row E sz by' g false xs')) (μ':=μ) id (lZ (μ id)) q (λb k=>⟨_,c,by simp,k⟩) (by simp) (λj I=>bz (λe=>I e.symm)) (λ_ _=>rfl)
  (λb k=>.inl ⟨_,c,by simp,k⟩)
  (λb A u o i _ p _ t=>absurd ⟨id,o,i,p,by rw[c]at i;simp only[ae]at i;subst i;intro y;simp at y⟩ t)
  (λT O a=>by rw[c]at a;simp at a)
  (λK E S a=>by rw[c]at a;simp at a)
  (λQ s M N D z _ a=>by
   simp only[aL m,ae,Ob.row.injEq]at a;obtain⟨rfl,rfl,rfl,rfl,rfl,rfl⟩:=a;exact⟨g,false,xs,c,aD _,λ_=>⟨C.symm,rfl⟩⟩)
  (λv o a=>by
   simp only[aL m,ae]at a;subst a;obtain⟨F,_⟩:=l.obj id _ c;exact⟨F,vals',x,G.jF v.jF⟩)
 exact⟨.iQ [],.tuple #[],_,μ,rfl,⟨xs',L,rfl,rfl⟩,n.1,.iQ [] #[] rfl (by simp),n.2.jF⟩
def PC.lays{P:bo}{B:Nat}{w0 w W:bD}{J:ak}{μ:Mem}(x:lj P B w0 w J μ){f y:Nat}{args:aB}{C:Array Value}{n:Int}(O:B<=y)(A:w.grownBy W (some y))(L:VRs W [] (λ_=>undef) args C)
  (h:PC P f args [] (λr _=>r=.i .i64 n)):Calls P f C W λe w'=>e=.returned (.int .i64 n)/\∃q d,w'=grow (W.drewN q) d:=by
 have s:Laid P W.heap.size W:=by
  intro t z g u;obtain⟨G,_⟩:=x.below.laid t z g u;have c:=x.below.tab z u;have a:g<w.heap.size:=fv G x.base;refine⟨fv a A.size,?_⟩;have E:W.heap[g]?=w.heap[g]?:=A.block g a (λe=>by simp only[ae]at e;omega);unfold Lib.TabIs World.var? at c |-;simp only[u,gv]at c |-;rw[E];exact c
 have m:lj P W.heap.size W W [] (λ_=>undef):=⟨⟨Below.refl _ _,s⟩,aD _,λid o H=>by simp at H,λi j M N b I=>by simp at I⟩;refine(Calls.drawn (h _ _ _ _ _ m L) (by rintro w' ⟨r,v,F,l,K,_⟩;cases K)).mono ?_;rintro e w' ⟨⟨r,v,F,l,rfl,rfl,p,k,_⟩,D⟩;exact⟨by rw[k.iF],SI p.below.toBelow D⟩
def PC.Mj{P:bo}{Z:Shelf.Ren}(L:SlLaysF0.n6 P Z){k:Nat}(aE:∀w,(isAgg (Z.t 24)).run P w=.ok true w)(zE:∀w,(Go.sizeOf (Z.t 24)).run P w=.ok k w){α:Type}(cs:α->aB)(B2:∀x,(cs x).length=k)(Ht:0<k)(cf:α->α->Int){E:Nat}
  (eg:∀args w,(callFunc E args).run P w=.ok (.enter E args) w) (l:List α) {J:ak} {id g by':Nat} {A:aB}
  (ap:∀(B:Nat) (w0 w:bD) (μ:Mem) (K:Array Value),lj P B w0 w J μ->A.length=K.size->(∀i x,A[i]?=some x->VR w J μ x (K.getD i undef))->∀(W:bD) (H:Nat),B<=H->lZ (μ id)=some H->w.grownBy W (some H) ->
   ∀x∈l,∀y∈l,∀vx vy:Value,VR W [] (λ_=>undef) (.agg (cs x)) vx->VR W [] (λ_=>undef) (.agg (cs y)) vy->Calls P E (#[vx,vy]++K) W λe w'=>e=.returned (.int .i64 (cf x y))/\∃q av,w'=grow (W.drewN q) av)
  (hO:SWO (ltOf λ(i j:Fin l.length)=>cf l[i] l[j]))
  (hl:l.length<2^30) (h1:J[id]?=some (.row (Z.t 24) k by' g false (l.map cs))) :
  PC P (Z.f 6) [.own id g,.fn E A] J (λr J'=>∃N:List α,N.Perm l/\N.Pairwise (λx y=>¬cf y x<0)/\r=.iQ []/\J'=J.set id (.row (Z.t 24) k by' g false (N.map cs))):=by
 refine PC.mono (PC.adt (R:=λab=>∃N:List α,N.Perm l/\N.Pairwise (λx y=>¬cf y x<0)/\ab=N.map cs) h1 λB w0 w μ vs hS X=>?_) (by
  rintro r J' ⟨ab,⟨N,h1,U,rfl⟩,O,h4⟩;exact⟨N,h1,U,O,h4⟩)
 have a0:=(X.2 0 _ rfl).mK h1;have a1:=X.2 1 _ rfl;obtain⟨_,a,Y,dd⟩:=hS.obj id _ h1;have LJ:(l.map cs).length=l.length:=ag ..
 obtain⟨K,e,bn,a7⟩:∃K:Array Value,vs=#[μ id,.func (.func E) #[] K]/\A.length=K.size/\∀i x,A[i]?=some x->VR w J μ x (K.getD i undef):=by
  obtain⟨q⟩:=vs
  match q,X.1 with
  |[u,v],_ =>
   simp at a0 a1;cases a1 with
   |fn _ _ fs a3 a2=>exact⟨fs,by rw[a0],a3,a2⟩
 rw[e];rw[LJ]at Y;have LG:a.length=l.length*k:=Y.1;have o1:=kN.one hS dd (by rw[LJ];exact LG)
 by_cases h0:l.length=0
 .have SA:l=[]:=aW h0;have ba:a=[]:=aW (by rw[LG,h0,YC])
  have S:∃p C,μ id=.slice p 0 C:=by
   rcases Y.2 with⟨h,_⟩|⟨H,C,M,h,_⟩
   .exact⟨_,_,h⟩
   .rw[h0]at h;exact⟨_,_,h⟩
  obtain⟨p,C,S⟩:=S;rw[S];refine(AnyF.slices_SortFunc_none { L with } p C _ w).mono ?_;rintro e w' ⟨rfl,rfl⟩;refine⟨[],[],⟨[],by rw[SA],.nil,rfl⟩,by simp[SA],rfl,grownBy_refl _ _,?_,?_⟩
  .rw[<- S];rw[ba,h0]at Y;exact Y
  .exact⟨by simp,λi j x T=>by simp[gj]at T⟩
 have wy:0<l.length:=Nat.pos_of_ne_zero h0;rcases Y.2 with⟨_,hn⟩|⟨H,C,M,pQ,hB,hg,Ez,Co,pN,Dh⟩
 .omega
 haveI:Inhabited (Fin l.length):=⟨⟨0,wy⟩⟩
 have ad:∀(i:Fin l.length) (j:Nat),j<k->i.1*k+j<l.length*k:=λi j G=>by
  have:(i.1+1)*k<=l.length*k:=bI _ i.2;rw[cJ,ir]at this;omega
 have Q:∀i:Fin l.length,((a.drop (i*k)).take k).length=k:=λi=>by
  rw[aP,bA,LG];have:(i.1+1)*k<=l.length*k:=bI _ i.2;rw[cJ,ir]at this;omega
 have ft:∀(i:Fin l.length) (j:Nat),j<k->((a.drop (i*k)).take k)[j]?=a[i*k+j]?:=λi j G=>by
  rw[cz G,db]
 have pk:∀(i:Fin l.length) (j:Nat) (x:V),(cs l[i])[j]?=some x->x.pure=true/\∃u,((a.drop (i*k)).take k)[j]?=some u/\VR w J μ x u:=λi j x T=>by
  have G:j<k:=by
   have:=(ah.1 T).1
   rwa [B2]at this
  have U:gj (l.map cs) i j=some x:=by
   simp only[gj,ck,ax i.2,cL,gv];exact T
  obtain⟨q1,u,q2,q3⟩:=dd.2 _ _ _ U;exact⟨q1,u,by rw[ft i j G];exact q2,q3⟩
 generalize a6:(λi:Fin l.length=>(a.drop (i*k)).take k)=enc;have Hy:∀i,enc i=(a.drop (i*k)).take k:=λi=>by rw[<- a6]
 have s:(List.finRange l.length).toArray.size=l.length:=by simp
 have a5:∀j (h:j<l.length),(List.finRange l.length).toArray[j]! = ⟨j,h⟩:=λj h=>by
  rw[getElem!_pos _ j (by rw[s];exact h)];simp
 have af:∀(d:Array (Fin l.length)) (t:Nat),d.size=l.length->t<l.length*k->(flatK enc k d)[t]?=a[(d[t / k]!).1*k+t % k]?:=λd t hd F=>by
  have h1:t<(flatK enc k d).size:=by rw[size_flatK,hd];exact F
  have U:=get_flatK enc k d t (by rw[hd];exact F);have S:t % k<k:=tc _ Ht;rw[getElem!_pos _ t h1]at U;rw[bO h1,U,Hy,<- ft _ _ S];rw[getElem!_pos _ (t % k) (by rw[Q];exact S),ax]
 have hH:HoldsK enc k w H 0 (List.finRange l.length).toArray:=λt F=>by
  rw[size_flatK,s]at F;have h1:=af (List.finRange l.length).toArray t s F;have hq:t / k<l.length:=td (by rw[kD];exact F);rw[a5 _ hq]at h1;have e2:t / k*k+t % k=t:=by rw[kD];exact afK t k
  simp only[e2]at h1;have O:t<(flatK enc k (List.finRange l.length).toArray).size:=by rw[size_flatK,s];exact F
  have h4:M.toList[t]?=a[t]?:=by rw[<- Dh,cz F]
  refine⟨?_,by simp[World.frozen?,hg]⟩;simp only[World.cell?,hg,aY,id_eq];rw[getElem!_pos _ t O,<- Array.getElem?_eq_getElem O,h1,<- h4];simp
 have I:lZ (μ id)=some H:=by rw[pQ];rfl
 have ac:=AnyQ.slices_SortFunc L k aE zE enc (λi=>by rw[Hy];exact Q i) (λi v X=>o1 v (by rw[Hy]at X;exact cH (cF X))) (λi j=>cf l[i] l[j]) hO E K H 0 C (List.finRange l.length).toArray w
  eg
  (λm os dk _ x y=>by
   have aa:∀q:Fin l.length,VR (sortWorldK enc k w H 0 m dk os) [] (λ_=>undef) (.agg (cs l[q])) (.agg (enc q).toArray):=λq=>by
    refine .agg _ _ (by rw[eU,Hy,Q,B2]) λi z hz=>?_;obtain⟨q1,u,q2,q3⟩:=pk q i z hz;rw[Hy]
    have:((a.drop (q*k)).take k).toArray.getD i undef=u:=by
     simp only[cx,sj,q2,kQ]
    rw[this];exact VR.bare hS h1 (λbe h=>by simp at h) I sM q3 q1
   exact ap B w0 w μ K hS bn a7 _ H hB I sM l[x] (dC _) l[y] (dC _) _ _ (aa x) (aa y)) hH (cg.1 hg).1 (by rw[s];omega)
 rw[s,<- pQ]at ac;refine ac.mono ?_;rintro e w' ⟨rfl,D,n,os,Cm,a9,rfl⟩;have b:D.size=l.length:=by have:=Cm.1;rw[s]at this;exact this
 have Ah:D.toList.Perm (List.finRange l.length):=by
  have h1:=Cm.2.2
  have e1:D.extract 0 l.length=D:=by
   have:=Array.extract_size (xs:=D)
   rwa [b]at this
  have e2:(List.finRange l.length).toArray.extract 0 l.length=(List.finRange l.length).toArray:=by
   have:=Array.extract_size (xs:=(List.finRange l.length).toArray)
   rwa [s]at this
  rw[e1,e2]at h1;simpa using h1
 have yu:(flatK enc k D).size=l.length*k:=by rw[size_flatK,b]
 have c:((D.toList.map λi=>l[i]).map cs).length=l.length:=by rw[ag,ag,bh,b]
 refine⟨_,(flatK enc k D).toList,⟨D.toList.map λi=>l[i],?_,?_,rfl⟩,by rw[c,LJ],rfl,by rw[I];exact sM,⟨by rw[c,bh,yu],.inr ⟨H,C,putCells _root_.id 0 (flatK enc k D) M,by rw[c,pQ],hB,Hh hg,by rw[c];exact Ez,Co,?_,?_⟩⟩,?_,?_⟩
 .refine(Ah.map _).trans (List.Perm.of_eq ?_);apply mS;intro i;rw[ck]
  by_cases hi:i<l.length
  .simp[hi]
  .rw[cI (by simpa using acu hi),cI (by omega)];rfl
 .refine YG.2 (l4.2 λi j hi G Ps=>?_);rw[bh]at hi G;have:=a9 i j (fA _) Ps (by rw[<- b];exact G);rw[getElem!_pos _ i hi,getElem!_pos _ j G]at this;simp only[ltOf,dB]at this;simpa using this
 .simp[putCells,pN]
 .rw[c];apply mS;intro t
  by_cases F:t<l.length*k
  .rw[cz F];have O:t<(flatK enc k D).size:=by rw[yu];exact F
   have h4:t<M.size:=by rw[pN];have:=bI k Ez;omega
   simp only[putCells,l6,L6,bO h4,cL,fA,gA,aY,az O,xG,id_eq];rw[getElem!_pos _ t O,bO O]
  .rw[cI (by rw[aP];omega),cI (by rw[bh,yu];omega)]
 .intro r hr;obtain⟨x,_,rfl⟩:=bF.1 hr;exact B2 x
 .intro i j x T;obtain⟨r,hr,G⟩:=jz T;rw[ck,ck]at hr;simp only[aF]at hr;obtain⟨o,⟨q,hq,rfl⟩,rfl⟩:=hr;obtain⟨q1,u,q2,q3⟩:=pk q j x G
  have VQ:j<k:=by
   have:=(ah.1 G).1
   rwa [B2]at this
  have wh:i<l.length:=by
   have:=(ah.1 hq).1
   rwa [bh,b]at this
  refine⟨q1,u,?_,q3⟩;have am:(i*k+j) / k=i:=by rw[kD,Nat.mul_add_div Ht,Nat.div_eq_of_lt VQ,de]
  have a8:(i*k+j) % k=j:=by rw[kD,Nat.mul_add_mod,HI VQ]
  rw[l6,af D (i*k+j) b (ad ⟨i,wh⟩ j VQ),am,a8,<- ft _ j VQ]
  have a4:D[i]! = q:=by
   rw[getElem!_pos _ i (by rw[b];exact wh)];rw[l6,bO (by rw[b];exact wh)]at hq;simpa using hq
  rw[a4];exact q2
def PC.Zt{P:bo}{b:Shelf.Ren}(L:SlLaysF0.n6 P b){k:Nat}(n:∀w,(isAgg (b.t 24)).run P w=.ok true w)(q:∀w,(Go.sizeOf (b.t 24)).run P w=.ok k w){α:Type}(cs:α->aB)(H:∀x,(cs x).length=k)(o:0<k)(d:α->α->Int){a:Nat}
  (u:∀args w,(callFunc a args).run P w=.ok (.enter a args) w) (l:List α) (e:∀x∈l,∀y∈l,PC P a [.agg (cs x),.agg (cs y)] [] (λr _=>r=.i .i64 (d x y))) (v:SWO (ltOf λ(i j:Fin l.length)=>d l[i] l[j]))
  (D:l.length<2^30) {J:ak} {id g by':Nat} (h1:J[id]?=some (.row (b.t 24) k by' g false (l.map cs))) :
  PC P (b.f 6) [.own id g,.fn a []] J (λr J'=>∃h:List α,h.Perm l/\h.Pairwise (λx y=>¬d y x<0)/\r=.iQ []/\J'=J.set id (.row (b.t 24) k by' g false (h.map cs))) :=
 PC.Mj L n q cs H o d u l (λB O w I A F s _ W K G M p x E y C N Q h1 m=>by
  obtain rfl:A=#[]:=by apply zU;simpa using s.symm
  rw[UJ];refine PC.lays F G p ⟨rfl,λi z c=>?_⟩ (e x E y C);rcases i with _|_|i
  .simp only[aM,ae]at c;subst c;exact h1
  .simp only[aY,bX,aM,ae]at c;subst c;exact m
  .simp at c) v D h1
end Go.Pm
namespace Go.Proofs.Tryz
open Go Go.Pm Go.ChangeShapes Go.WideShapes Go.ChangeAt Go.RowKit Go.Proofs.YtlakkaamfadipaaGreatDoor
def own:ownKnob prog.godebug=none:=by kernel_rfl
def lv:List (String×DataW Unit):=[("math/bits.deBruijn32tab",Rows.laid_math_bits_deBruijn32tab),("math/bits.deBruijn64tab",Rows.laid_math_bits_deBruijn64tab),("internal/strconv.uint64pow10",Rows.laid_internal_strconv_uint64pow10)]
def aiC:prog.globalNamed "internal/strconv.uint64pow10" = some 1:=by kernel_rfl
def aby:(prog.globals[1]?).map (·.type)=some 302:=by kernel_rfl
def afC:prog.cellsOf 302=20:=by kernel_rfl
def afB:prog.cellsOf 231=1:=by kernel_rfl
def W7{W:bD}(h:laidMetH prog lv W):Lib.TabIs prog W "internal/strconv.uint64pow10" .u64 IY:=by
 have a:=laidMetH.filter (λx=>x.1 == "internal/strconv.uint64pow10") h;have e:lv.filter (λx=>x.1 == "internal/strconv.uint64pow10")=[("internal/strconv.uint64pow10",Lib.tabData .u64 IY)]:=by rfl
 rw[e,MakeChecks.laidMetH_plain _ _ _ (by rfl)]at a;exact Lib.tabIs_of_head (rest:=[]) aiC aby underlying302 underlying231 afB afC a
def HQ{W:bD}(o:laidMetH prog lv W){f:Nat}{args:aB}{d:Array Value}{μ:Mem}(h:bM prog f args [] (.b true))(m:VRs W [] μ args d):
  Calls prog f d W λe p=>e=.returned (.bool true)/\Below W.heap.size W p:=by
 have a:=W7 o;have k:1<W.heap.size:=World.block_lt_of_cell? W _ (a.cell aiC 0 (by decide))
 have n:lj prog W.heap.size W W [] μ:=by
  refine⟨⟨Below.refl _ _,λt j g l=>?_⟩,aD _,by simp,by simp⟩;simp only[ac6,bC,gw,s8]at j;subst j;obtain rfl:=gy (aiC.symm.trans l);exact⟨k,a⟩
 refine(h W.heap.size W W μ d n m).mono ?_;rintro e s ⟨r,v,u,q,rfl,⟨rfl,rfl⟩,c,i,_⟩;exact⟨by rw[i.vE],c.below.toBelow⟩
def laidOut:laidOutB prog=true:=by kernel_rfl
def Lf{H:Type}{enc:TypeId×Value->H}{W j:bD}(l:Below W.heap.size W j):∀{a:List TypeId} {e:List Value} {f:List (DataW H)} {c:List MemPlace},(a.all λt=>prog.readableRec t&&decide (t<prog.types.size))=true ->
  DataW.TrodAll enc prog W 0 (λ_=>true) true a e f c->(∀x∈c,x.block<W.heap.size)->DataW.TrodAll enc prog j 0 (λb=>decide (b<W.heap.size)) true a e f c:=by
 intro a
 induction a with
 |nil =>
  intro e f c _ h _;obtain⟨rfl,rfl,rfl⟩:=trodAll_nil h;exact trodAll_mk0
 |cons t a ih =>
  intro e f c d h i;simp only[gO,aJ,aV]at d;obtain⟨s,o,q,m,r,p,rfl,rfl,rfl,k,n⟩:=trodAll_cons h;exact trodAll_cons_mk (Below.trod laidOut d.1.1 d.1.2 k l λx g=>i x (by simp[g])) (ih d.2 n λx g=>i x (by simp[g]))
def By{H:Type}{enc:TypeId×Value->H}{f:Func}{s:ChangeSpec}{W g:bD}{args:Array Value}{a gs:List (DataW H)}{before:List MemPlace}(i:s.vars=[])(l:f.resultTypes=#[4])
  (m:(f.params.toList.all λt=>prog.readableRec t&&decide (t<prog.types.size))=true) (hW:DataW.Whole enc prog f.params.toList s.vars false W args.toList a gs before)
  (c:s.fn H (a++gs)={ results:=[.lit (.bool true)],args:=a }) (e:Below W.heap.size W g):s.post enc prog f false true false false W args (.bool true) g:=by
 have k:∀x∈before,x.block<W.heap.size:=λx d=>hW.lt x d;have b:=hW;obtain⟨p,q,n,j,rfl,_,_⟩:=hW;rw[i]at j;obtain⟨rfl,rfl⟩:=trodVars_none j;refine⟨a,[],p++[],[],p,[],b,?_,?_,?_,e.frame _,λh=>by cases h⟩
 .rw[c,l];exact trodAll_cons_mk (shut_bool underlying4 _) trodAll_mk0
 .rw[c];exact Lf e m n λx d=>k x (by simp[d])
 .rw[c,i];exact rfl
def El(os:Os)(args:Array Value):laidMetH prog lv ((World.doorLaid prog 400 os).forCall (λ_ _=>0) ⟨#[],args,[]⟩).memory :=
 laidMetH_of_parts3 (fuel:=8) (laidMet_of_run' 8 (by kernel_rfl) (by kernel_rfl)) (by kernel_rfl) (by kernel_rfl)
def Gz{a:Option Addr}{len b:Nat}:(Value.slice a len b).cells.toList=[Value.slice a len b]:=by
 simp[Value.cells]
def SZ{P:bo}{W:bD}{r:Reach}{b:Nat}{t e:TypeId}{a:Addr}{len c:Nat}(d:P.underlying t=some (.slice e))(h:Value.okWide P W r b t (.slice (some a) len c)):a.spot=none:=by
 simp only[Value.okWide,d,Cell.okWide,Cell.ok]at h;exact h.2.2.2.1
def Vw{μ:Mem}{b off:Nat}:¬wr [] μ b off:=by
 rintro⟨id,o,h,_⟩;simp at h
def yN{H:Type}{enc:TypeId×Value->H}{P:bo}{W:bD}{r:Reach}{g:Nat}{t e:TypeId}{v:Value}{d:DataW H}{p:List MemPlace}{k:IntKind}(μ:Mem)(u:P.underlying t=some (.slice e))(R:P.underlying e=some (.int k))(T:P.cellsOf e=1)
  (I:Value.okWide P W r g t v) (K:DataW.Trod enc P W 0 (λ_=>true) true t v d p):∃l:bH,VR W [] μ (.sl 1 (l.map λn=>[.i k n])) v/\∀n∈l,(Lit.int k n).wf=true:=by
 obtain⟨X,len,y,rfl⟩:=okWide_slice u I;obtain⟨G,E⟩:=K;rw[Gz]at E;rcases open_ints u R T E with⟨f,_⟩|⟨a,D,C,zs,f,_,U,Q,M,_,S,L⟩
 .simp only[jU,kP,Value.slice.injEq]at f;obtain⟨rfl,rfl,rfl⟩:=f;exact⟨[],.K4 _,by simp⟩
 .simp only[jU,kP,Value.slice.injEq]at f;obtain⟨rfl,rfl,rfl⟩:=f;have F:=SZ u I;obtain⟨b,o,s⟩:=a;simp only at F;subst F;simp only[aT]at M;refine⟨zs.take len,?_,λn q=>L n (cF q)⟩
  have A:∀i j x,gj ((zs.take len).map λn=>[V.i k n]) i j=some x->j=0/\i<len/\x=.i k (zs.getD i 0):=by
   intro i j x c;simp only[gj,HH,ck,aF]at c;obtain⟨row,⟨n,q,rfl⟩,z⟩:=c
   have B:i<len:=by
    have:=(ah.1 q).1;simp at this;omega
   rcases j with _|j
   .simp only[aM,ae]at z;refine⟨rfl,B,?_⟩;rw[cz B]at q;rw[<- z,aq,q];rfl
   .simp at z
  have m:((zs.take len).map λn=>[V.i k n]).length=len:=by simp;omega
  have:=VR.sl (w:=W) (J:=[]) (μ:=μ) 1 ((zs.take len).map λn=>[V.i k n]) b o y (λi _=>.int k (zs.getD i 0)) (by omega) Q (λr N=>by obtain⟨n,_,rfl⟩:=bF.1 N;rfl) (λi j x c=>by
   obtain⟨rfl,O,rfl⟩:=A i j x c;refine⟨?_,Vw,rfl⟩;have:=S i (by omega)
   have e:(Addr.mk b o none).add i=⟨b,o+i*1+0,none⟩:=by
    simp only[Addr.add];split
    .rename_i h;subst h;simp
    .simp
   rwa [e]at this) (λi j x c=>by
   obtain⟨rfl,O,rfl⟩:=A i j x c;exact .i _ _)
  rwa [m]at this
open Go.Bt
def Wm(b:UInt8)(J:ak):bM prog 170 [.i .u8 b.toNat] J (.b (sG b)):=by
 refine aZ func170 alO.2 λc a=>au ?_;simp only[alO,SS,seval];simp only[VV,seval];refine aw (s5 b _) rfl ?_;simp only[VV,seval];refine aO (.inr rfl) rfl ⟨?_,rfl⟩;simp only[Pm.one,sG,aA,aR]
def abW(b:UInt8)(J:ak):bM prog 171 [.i .u8 b.toNat] J (.b (LQ b)):=by
 refine aZ func171 alN.2 λc a=>au ?_;simp only[alN,SS,seval];simp only[VV,seval];refine aw (s5 b _) rfl ?_;simp only[VV,seval];exact aO (.inr rfl) rfl ⟨by simp only[Pm.one,LQ,aA,aR],rfl⟩
def PB(a b:UInt8):(((a.toNat:Int))==(b.toNat:Int))=(a==b):=by
 rw[cB];simp only[cE];constructor
 .intro h;exact uV.1 (by omega)
 .rintro rfl;rfl
def adW{J:ak}{K:bl}(s:aG)(k j:UInt8)(f:Nat)(inner:UInt8->Bool)(z:QZ prog f=true)(A:∀b J,bM prog f [.i .u8 b.toNat] J (.b (inner b)))(m:s.length<2^62):
  ∀(N:Nat) (rest pre:aG),s=pre++rest->rest.length<=N ->
  ((fj 7 (fh (.I ((pre.length+lH inner k j rest:Nat):Int)) (fj 46 fo))) λt=>K (.exit 0) ⟨t,J⟩)->((fj 6 (fh (.I ((pre.length+lH inner k j rest:Nat):Int)) (fj 47 fo))) λt=>K .ret ⟨t,J⟩) ->
  fm J.length prog I8 K (N+1) ⟨(.s s::.s [k,j]::.fn f []::uu 4 (.I pre.length::uu 46 [])),J⟩:=by
 intro N
 induction N with
 |zero =>
  intro rest pre o u a g;have C:rest=[]:=aW (by omega);subst C;subst o;refine ar λR p=>?_;simp only[I8,VV,seval];simp only[bL,lH,de]at a |-;refine⟨λh=>by simp at h,λ_=>a ..⟩
 |succ N ih =>
  intro rest pre o u a g;cases rest with
  |nil =>
   subst o;refine ar λR p=>?_;simp only[I8,VV,seval];simp only[bL,lH,de]at a |-;refine⟨λh=>by simp at h,λ_=>a ..⟩
  |cons c r =>
   subst o;refine ar λR p=>?_;simp only[I8,VV,seval];refine⟨λ_=>⟨by simp;omega,?_⟩,λh=>by simp at h;omega⟩;have E:pre.length+1+r.length<2^62:=by simp at m;omega
   have y:IntKind.i64.wrap ((pre.length:Int)+1)=((pre.length+1:Nat):Int):=by rw[IntWalk.i64_in _ (by omega)];omega
   have x:IntKind.i64.wrap ((pre.length:Int)+2)=((pre.length+2:Nat):Int):=by rw[IntWalk.i64_in _ (by omega)];omega
   refine E6 rfl z (A c _) (by simp only[VV,seval,WJ]) ?_;simp only[VV,seval];simp only[PB,y,x];refine⟨λn=>?_,λn=>⟨⟨by omega,by simp;omega⟩,λ_=>⟨by omega,by simp;omega⟩,λh=>?_,?_⟩⟩
   .rw[FU n]at a g;have e:pre.length+(1+lH inner k j r)=(pre++[c]).length+lH inner k j r:=by simp;omega
    rw[e]at a g;refine p _ (aK ?_ (ih r (pre++[c]) (by simp) (by simp at u;omega) a g));rw[show pre.length+1=(pre++[c]).length by simp]
    repeat' constructor
   .simp at h;exact⟨by omega,by simp;omega⟩
   .cases r with
    |nil =>
     have q:decide (((pre.length+1:Nat):Int)<((pre++[c]).length:Int))=false:=by simp
     rw[FW n]at a g;simp only[q,gB];refine BO (c:=false) (v:=.b false) (by simp only[VV,seval]<;>rfl) (by simp) ?_;simp only[VV,seval];exact g ..
    |cons d l =>
     have q:decide (((pre.length+1:Nat):Int)<((pre++c::d::l).length:Int))=true:=by simp;omega
     simp only[q,df];have B:(pre++c::d::l).getD (pre.length+1) 0=d:=by simp[aq]
     refine BO (c:=(c==k||c==j)) (v:=.b (inner d)) (by simp only[VV,seval];simp) (λD=>⟨f,[],rfl,z,?_⟩) ?_
     .have:=A d J;simp only[y,ao,B,VV,seval];exact this
     .simp only[VV,seval];simp only[x];refine⟨λw=>?_,λw=>?_⟩
      .rw[FV n w]at a g;have e:pre.length+(2+lH inner k j l)=(pre++[c,d]).length+lH inner k j l:=by simp;omega
       rw[e]at a g;refine p _ (aK ?_ (ih l (pre++[c,d]) (by simp) (by simp at u;omega) a g));rw[show pre.length+2=(pre++[c,d]).length by simp]
       repeat' constructor
      .rw[Eo n w]at a g;exact g ..
def MK(c a d:UInt8)(rest:aG)(f:Nat)(inner:UInt8->Bool)(g:QZ prog f=true)(h:∀b J,bM prog f [.i .u8 b.toNat] J (.b (inner b)))(e:rest.length<2^61)(J:ak):
  bM prog 169 [.s (c::rest),.s [a,d],.fn f []] J (.I ((1+lH inner a d rest:Nat):Int)):=by
 refine aZ func169 alP.2 λk j=>au ?_;simp only[alP,SS,seval];simp only[VV,seval];refine bZ.aK (fr':=(.s (c::rest)::.s [a,d]::.fn f []::uu 4 (.I (([c]:aG).length:Nat)::uu 46 []))) (by repeat' constructor) (rest.length+1) (adW (c::rest) a d f inner g h (by simp;omega) rest.length rest [c] rfl (aD _) ?_ ?_)
 .simp only[JE];intros;simp only[VV,seval];exact aO (.inr rfl) rfl ⟨rfl,rfl⟩
 .simp only[JE];intros;simp only[VV,seval];exact aO (.inr rfl) rfl ⟨rfl,rfl⟩
def ad4{J:ak}{K:bl}(s:aG)(b:s.length<2^62):∀(rest pre:aG),s=pre++rest ->
  ((fj 4 (fh (.I ((pre.length+lh rest:Nat):Int)) (fj 27 fo))) λk=>K (.exit 1) ⟨k,J⟩) ->
  fm J.length prog N7 K (rest.length+1) ⟨(.s s::uu 3 (.I pre.length::uu 27 [])),J⟩:=by
 intro rest
 induction rest with
 |nil =>
  intro pre f a;subst f;refine ar λR g=>?_;simp only[N7,VV,seval];simp only[bL,lh,de]at a |-;have d:decide ((pre.length:Int)<pre.length)=false:=by simp
  simp only[d];refine⟨by simp,bB (c:=false) (v:=.I 0) (by simp only[VV,seval]<;>rfl) (by simp) rfl ?_⟩;simp only[VV,seval];exact a ..
 |cons c r ih =>
  intro pre f a;subst f;have l:pre.length+1+r.length<2^62:=by simp at b;omega
  have i:IntKind.i64.wrap ((pre.length:Int)+1)=(((pre++[c]).length:Nat):Int):=by rw[IntWalk.i64_in _ (by omega)];simp
  refine ar λR g=>?_;simp only[N7,VV,seval];have d:decide ((pre.length:Int)<((pre++c::r).length:Int))=true:=by simp;omega
  simp only[d];refine⟨λ_=>⟨by omega,by simp;omega⟩,bB (c:=true) (v:=.I (ei c)) (by simp only[VV,seval]<;>rfl) (λ_=>s5 c _) (by simp only[VV,seval,WJ]) ?_⟩;simp only[VV,seval];have j:(ei c==2)=xq c:=rfl;simp only[j,i];refine⟨λh=>?_,λh=>?_⟩
  .have e:pre.length+lh (c::r)=(pre++[c]).length+lh r:=by simp[lh,h];omega
   rw[e]at a;refine g _ (aK ?_ (ih (pre++[c]) (by simp) a))
   repeat' constructor
  .have e:pre.length+lh (c::r)=pre.length:=by simp[lh,h]
   rw[e]at a;exact a ..
def SL(c:UInt8)(rest:aG)(d:rest.length<2^61)(J:ak):bM prog 109 [.s (c::rest)] J (.iQ [.I (gP (c::rest)).1,.I ((gP (c::rest)).2:Nat)]):=by
 refine aZ func109 amr.2 λg f=>au ?_;simp only[amr,SS,seval];simp only[VV,seval];refine⟨by simp,aw (s5 c _) (by simp only[VV,seval]) ?_⟩;simp only[VV,seval];refine⟨λa=>?_,λa=>⟨λb=>?_,λb=>⟨λe=>?_,λe=>?_⟩⟩⟩
 .refine aw (MK c 39 45 rest 170 sG (by kernel_rfl) Wm d J) rfl ?_;simp only[VV,seval];have a:ei c=4:=by simpa using a
  exact aO (.inr rfl) rfl ⟨by simp[Pm.one,gP,a],rfl⟩
 .refine aw (MK c 46 44 rest 171 LQ (by kernel_rfl) abW d J) rfl ?_;simp only[VV,seval];have a:¬ei c=4:=by simpa using a
  have b:ei c=3:=by simpa using b
  exact aO (.inr rfl) rfl ⟨by simp[Pm.one,gP,b],rfl⟩
 .have a:¬ei c=4:=by simpa using a
  have b:¬ei c=3:=by simpa using b
  have e:ei c=2:=by simpa using e
  refine bZ.aK (fr':=(.s (c::rest)::uu 3 (.I (([c]:aG).length:Nat)::uu 27 []))) (by repeat' constructor) (rest.length+1) (ad4 (c::rest) (by simp;omega) rest [c] rfl ?_);simp only[JE];intros;simp only[VV,seval];exact aO (.inr rfl) rfl ⟨by simp[Pm.one,gP,e],rfl⟩
 .have a:¬ei c=4:=by simpa using a
  have b:¬ei c=3:=by simpa using b
  have e:¬ei c=2:=by simpa using e
  exact aO (.inr rfl) rfl ⟨by simp[Pm.one,gP,a,b,e],rfl⟩
end Go.Proofs.Tryz
namespace Go.Pm
open Go Go.RowKit Go.Sort Go.Proofs
def PC.Nr{P:bo}{α:Type}[Inhabited α]{enc:α->Value}{ve:α->V}{le:α->α->Bool}{T:Nat}
  (y:∀{w J μ v} x,VR w J μ (ve x) v->(ve x).pure=true/\v=enc x/\∀{w' J' μ'},VR w' J' μ' (ve x) (enc x))
  (M:∀(lZ off a:Nat) (zs:List α) (w:bD),Holds enc w lZ off zs.toArray->lZ<w.heap.size->zs.length<4611686018427387904 ->
   Calls P T #[.slice (some ⟨lZ,off,none⟩) zs.length a] w λe w'=>e=.returned (.tuple #[])/\∃n os,w'=grow (putRow enc (Sort.ahead w n) lZ off (zs.mergeSort le).toArray) os)
  (Rv:∀(p:Option Addr) (a:Nat) (w:bD),Calls P T #[.slice p 0 a] w λe w'=>e=.returned (.tuple #[])/\w'=w)
  {E by' g id:Nat} (l:List α) (hl:l.length<2^30) {J:ak} (h1:J[id]?=some (.row E 1 by' g false (l.map λx=>[ve x]))) :
  PC P T [.own id g] J (λr J'=>r=.iQ []/\J'=J.set id (.row E 1 by' g false ((l.mergeSort le).map λx=>[ve x]))):=by
 have R:(l.mergeSort le).length=l.length:=List.length_mergeSort _;refine PC.ahg h1 (by simp) λB w0 w μ U hS Z=>?_;have X:=(Z.2 0 _ rfl).mK h1;obtain⟨_,b,o,dd⟩:=hS.obj id _ h1;have LJ:(l.map λx=>[ve x]).length=l.length:=ag ..
 have e:U=#[μ id]:=by
  obtain⟨q⟩:=U
  match q,Z.1 with
  |[u],_=>simp at X;rw[X]
 rw[e];rw[LJ]at o;have LG:b.length=l.length*1:=o.1
 by_cases F:l.length=0
 .have SA:l=[]:=aW F;have S:b=[]:=aW (by omega)
  have K:∃p a,μ id=.slice p 0 a:=by
   rcases o.2 with⟨h,_⟩|⟨f,a,c,h,_⟩
   .exact⟨_,_,h⟩
   .rw[F]at h;exact⟨_,_,h⟩
  obtain⟨p,a,K⟩:=K;rw[K];refine(Rv p a w).mono ?_;rintro e w' ⟨rfl,rfl⟩;refine⟨[],rfl,grownBy_refl _ _,?_,?_⟩
  .rw[<- K];rw[S,F]at o;simpa[SA]using o
  .subst SA;exact⟨by simp,λi j x s=>by simp[gj]at s⟩
 have wy:0<l.length:=Nat.pos_of_ne_zero F;rcases o.2 with⟨_,hn⟩|⟨f,a,c,pQ,hB,G,Ez,Co,pN,Dh⟩
 .omega
 rw[pQ]
 have z:∀j,(d:j<l.length)->∃u,VR w J μ (ve l[j]) u/\b[j]?=some u:=λj d=>by
  have h2:gj (l.map λx=>[ve x]) j 0=some (ve l[j]):=by simp[gj,d]
  obtain⟨_,u,m,q3⟩:=dd.2 _ _ _ h2;exact⟨u,q3,by simpa using m⟩
 have oB:∀j,(d:j<l.length)->b[j]?=some (enc l[j]):=λj d=>by
  obtain⟨u,H,m⟩:=z j d;rw[m,(y _ H).2.1]
 have hH:Holds enc w f 0 l.toArray:=λt L=>by
  have N:t<l.length:=by simpa using L
  refine⟨?_,by simp[World.frozen?,G]⟩;have D:c.toList[t]?=b[t]?:=by rw[<- Dh,cz (by omega)]
  rw[oB t N]at D;simp only[World.cell?,G,aY];rw[getElem!_pos _ t L];simpa using D
 refine(M f 0 a l w hH (cg.1 G).1 (by omega)).mono ?_;rintro e w' ⟨rfl,n,os,rfl⟩;have A:∀x∈l.mergeSort le,x∈l:=λx s=>(uz l le).mem_iff.1 s;generalize (l.mergeSort le)=sd at R A |-;have I:(sd.map λx=>[ve x]).length=l.length:=by rw[ag,R]
 have hs:(putRow enc (Sort.ahead w n) f 0 sd.toArray).heap.size=w.heap.size:=by rw[Go.Sort.size_putRow];rfl
 have Y:(putRow enc (Sort.ahead w n) f 0 sd.toArray).heap[f]?=some (.cells (putCells enc 0 sd.toArray c) E (0,0)):=by
  simp only[putRow,mapBlock,Sort.ahead,dp,aT,G,cL];rfl
 have eh:(grow (putRow enc (Sort.ahead w n) f 0 sd.toArray) os).heap[f]?=some (.cells (putCells enc 0 sd.toArray c) E (0,0)):=by
  simp only[grow];rw[lC (by have:=(cg.1 Y).1;exact this)];exact Y
 refine⟨sd.map enc,rfl,⟨rfl,rfl,rfl,?_,λj d iR=>?_⟩,⟨by rw[I,ag,R];omega,.inr ⟨f,a,putCells enc 0 sd.toArray c,by rw[I],hB,eh,by rw[I];exact Ez,Co,?_,?_⟩⟩,?_,?_⟩
 .simp only[grow,sq,hs];omega
 .have sD:¬f=j:=λe=>iR (by rw[e];rfl);simp only[grow];rw[lC (by rw[hs];exact d)];simp only[putRow,mapBlock,Sort.ahead,dp,an sD]
 .simp[putCells,pN]
 .rw[I];apply mS;intro t
  by_cases L:t<l.length
  .rw[cz (by omega)];have D:t<c.size:=by omega
   have W:t<sd.toArray.size:=by simp;omega
   simp only[putCells,l6,L6,bO D,cL,fA,gA,aY,az W,xG];rw[getElem!_pos _ t W];simp[show t<sd.length by omega]
  .rw[cI (by rw[aP];omega),cI (by rw[ag];omega)]
 .intro r C;obtain⟨x,_,rfl⟩:=bF.1 C;rfl
 .intro i j x s;obtain⟨r,C,d⟩:=jz s;rw[ck]at C;simp only[aF]at C;obtain⟨q,hq,rfl⟩:=C;have Q:j=0:=by have:=(ah.1 d).1;simp at this;omega
  subst Q;simp only[aM,ae]at d;subst d;obtain⟨k,hk,O⟩:=BW (A q (bE hq));obtain⟨u,H,_⟩:=z k hk;rw[O]at H;have m:=y _ H;exact⟨m.1,enc q,by simp[hq],m.2.2⟩
def PC.Zs{P:bo}{a:Shelf.Ren}(L:SlLaysM.n5 P a){E by' g id:Nat}(l:bH)(b:l.length<2^30){J:ak}(h1:J[id]?=some (.row E 1 by' g false (l.map bV))):
  PC P (a.f 5) [.own id g] J (λr J'=>r=.iQ []/\J'=J.set id (.row E 1 by' g false ((l.mergeSort λx y=>decide (x<=y)).map bV))) :=
 PC.Nr (ve:=λx=>.i .i64 x) (λx h=>⟨rfl,h.iF,.i _ _⟩) (AnyM.slices_Sort_int L) (AnyM.slices_Sort_int_none L) l b h1
def PC.ada{P:bo}{d:Shelf.Ren}(L:SlLaysM.n5 P d){J:ak}:PC P (d.f 5) [.nil] J (λr J'=>r=.iQ []/\J'=J):=by
 refine PC.Oc λw g b c=>⟨.tuple #[],?_,.iQ _ _ rfl (λi x h=>by simp at h)⟩;have a:=(c.2 0 _ rfl).tl
 have e:b=#[.slice none 0 0]:=by
  obtain⟨q⟩:=b
  match q,c.1 with
  |[u],_=>simp at a;rw[a]
 rw[e];exact AnyM.slices_Sort_int_none L none 0 w
end Go.Pm
namespace Go.Proofs.Tryz
open Go Go.Pm Go.Bt Go.RowKit
def Ss(w wr:bD)(l:aG)(k:Nat):Prop :=
 w.grownBy wr none/\wr.heap.size=w.heap.size+1/\∀j x,l[j]?=some x->wr.cell? ⟨w.heap.size,j,none⟩=some (.int .u8 (if j<k then wV x else x).toNat)/\wr.frozen? ⟨w.heap.size,j,none⟩=false
def Jo(w:bD)(l:aG)(c:Nat):
  Ss w (w.alloc (.cells (bytesRow ⟨l.toArray⟩ c) 5 ((bytesRow ⟨l.toArray⟩ c).size,(bytesRow ⟨l.toArray⟩ c).size+1))).drew l 0:=by
 refine⟨?_,?_,λj x a=>?_⟩
 .have h:=World.grownBy_alloc w (.cells (bytesRow ⟨l.toArray⟩ c) 5 ((bytesRow ⟨l.toArray⟩ c).size,(bytesRow ⟨l.toArray⟩ c).size+1)) none;exact⟨h.os,h.tape,h.output,h.size,h.block⟩
 .simp
 .have b:j<l.length:=(ah.1 a).1;have d:l[j]=x:=(ah.1 a).2;have e:j<(bytesRow ⟨l.toArray⟩ c).size:=by simp[bytesRow];omega
  rw[an (by omega)];constructor
  .show(w.alloc _).cell? _=_;rw[World.cell?_alloc_mark,bytesRow_at ⟨l.toArray⟩ c j (by simpa using b)];simp[d]
  .show(w.alloc _).frozen? _=_;rw[World.frozen?_alloc_mark];simp only[L5,dB];exact .inl (by omega)
def MH{w wr:bD}{l:aG}{k:Nat}(h:Ss w wr l k){x:UInt8}(d:l[k]?=some x){v:Int}(p:v=(wV x).toNat):Ss w (wr.setCell ⟨w.heap.size,k,none⟩ (.int .u8 v)) l (k+1):=by
 obtain⟨a,m,c⟩:=h;refine⟨⟨a.os,a.tape,a.output,by simpa using a.size,λi n q=>?_⟩,by simpa using m,λj y b=>?_⟩
 .rw[<- a.block i n q];simp only[World.setCell,dp];rw[an (by omega)]
 .have f:=c j y b;have g:=c k x d
  by_cases o:j=k
  .subst o;rw[d]at b;simp only[ae]at b;subst b;refine⟨?_,?_⟩
   .rw[World.cell?_setCell_same _ _ _ g.1,az (by omega),p]
   .simpa using g.2
  .refine⟨?_,?_⟩
   .rw[World.cell?_setCell_other _ _ _ _ (by intro e;injection e;omega),f.1];congr 3
    by_cases h:j<k
    .rw[az h,az (by omega)]
    .rw[an h,an (by omega)]
   .simpa using f.2
def BC{w wr:bD}{l:aG}{k:Nat}(h:Ss w wr l k){x:UInt8}(c:l[k]?=some x)(f:wV x=x):Ss w wr l (k+1):=by
 obtain⟨g,e,b⟩:=h;refine⟨g,e,λj y a=>⟨?_,(b j y a).2⟩⟩;rw[(b j y a).1];congr 3
 by_cases d:j=k
 .subst d;rw[c]at a;simp only[ae]at a;subst a;rw[an (by omega),az (by omega),f]
 .by_cases h:j<k
  .rw[az h,az (by omega)]
  .rw[an h,an (by omega)]
def MI{w wr:bD}{l:aG}(h:Ss w wr l l.length)(a:Nat):(convert 58 9 (.slice (some ⟨w.heap.size,0,none⟩) l.length a)).run prog wr=.ok (.string ⟨(lower l).toArray⟩) wr:=by
 have:=run_convert_bytes_back (P:=prog) wr 58 9 5 ⟨w.heap.size,0,none⟩ a (lower l) underlying58 underlying5 underlying9 (λj c=>by
  have b:j<l.length:=by simpa[lower]using c
  have:=(h.2.2 j l[j] (ax b)).1;rw[az b]at this;rw[Addr.add_lit,aY,this];simp[lower])
 simpa[lower]using this
set_option maxRecDepth 100000 in
def Q4(l:aG)(n:l.length<=maxLen)(w:bD):
  Calls prog 257 #[.string ⟨l.toArray⟩] w λe w'=>e=.returned (.string ⟨(lower l).toArray⟩)/\w.grownBy w' none:=by
 have r:=run_bytes_of_string (P:=prog) w 9 58 5 ⟨l.toArray⟩ underlying9 underlying58 underlying5
 go_enter func257,Tryz.ntmps257
 go_wp2
 go_loopw [10] (λi wr=>∃k:Nat,k<=l.length/\i=.int .i64 k/\Ss w wr l k) (λi _=>l.length - (intOf i).toNat)
 case atStart=>exact⟨0,fA _,rfl,Jo w l _⟩
 case round =>
  obtain⟨k,p,rfl,b⟩:=hrel;have m:=b.1
  have j:k<l.length->wr.cell? ⟨w.heap.size,k,none⟩=some (.int .u8 (l.getD k 0).toNat):=λh=>by
   have:=(b.2.2 k l[k] (ax h)).1;rw[an (by omega)]at this;rw[this];simp[aq,h]
  have o:k<l.length->wr.frozen? ⟨w.heap.size,k,none⟩=false:=λh=>(b.2.2 k l[k] (ax h)).2;have f:=λ(h:k=l.length) (g:Nat)=>MI (h▸b) g;unfold maxLen at n
  go_wp2
  .rename_i a c d;refine⟨⟨k+1,a,rfl,MH b (ax a) ?_⟩,by simp[intOf];omega⟩;rw[GU (by simpa using c) (by simpa using d)];omega
  .rename_i a c d;exact⟨⟨k+1,a,rfl,BC b (ax a) (zx (by simp at c d |-;omega))⟩,by simp[intOf];omega⟩
  .rename_i a c;exact⟨⟨k+1,a,rfl,BC b (ax a) (zx (by simp at c |-;omega))⟩,by simp[intOf];omega⟩
  .rename_i q;rw[f (by omega)]
   go_wp2
   go_ret
   exact⟨rfl,m⟩
def aaj(l:aG)(J:ak):bM prog 257 [.s l] J (.s (lower l)):=by
 refine PC.Tn λB o w m j p b=>?_;obtain⟨s,h,c,a⟩:=(b.2 0 _ rfl).qf
 have f:j=#[.string ⟨l.toArray⟩]:=by
  have k:=b.1;have e:s=⟨l.toArray⟩:=by rw[<- c]
  rw[<- e,<- h];apply Array.ext
  .simpa using k
  .intro i d g;have:i=0:=by simp at g;omega
   subst this;simp[d]
 rw[f];exact⟨_,Q4 l a w,λn=>.s _ _ (by simp) (by rw[Eb];exact a)⟩
end Go.Proofs.Tryz
