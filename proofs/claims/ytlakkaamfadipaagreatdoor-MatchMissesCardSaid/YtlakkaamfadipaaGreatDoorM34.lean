/- A part of a proof; the claim's last text says of what. -/
import Derived.Shelf.SortM.Plain
import Derived.Shelf.SortM.SortNone
import Derived.Test.YtlakkaamfadipaaGreatDoorM30
set_option linter.all false
open List renaming length->F

namespace Go.Pm
open Go Go.RowKit Go.Sort Go.Proofs
variable{X:Shelf.Ren}{P:aM}{J:ag}
def PC.Q6(L:SlLaysM.n5 P X){E o g id:Nat}(l:bG)(hl:F l<2^30)(h1:J[id]?=some (.row E 1 o g false (l.map cg))): PC P (X.f 5) [.own id g] J (λr J'=>r=.gy []/\J'=J.set id (.row E 1 o g false ((l.mergeSort λx y=>decide (x<=y)).map cg))):=by
 have O:F (l.mergeSort λx y=>decide (x<=y))=F l:=List.length_mergeSort _;refine PC.YL h1 (by simp) λB w0 w μ R hS W=>?_;have T:=(W.2 0 _ rfl).kE h1;obtain⟨_,b,m,cH⟩:=hS.obj id _ h1;have Hg:F (l.map cg)=F l:=ae ..;have e:R=#[μ id]:=by obtain⟨q⟩:=R;match q,W.1 with|[u],_=>simp at T;rw[T]
 rw[e];rw[Hg]at m;have Qx:F b=F l*1:=m.1;by_cases C:F l=0
 .have U:l=[]:=aL C;have Q:b=[]:=aL (by omega);have G:∃p a,μ id=.slice p 0 a:=by
   rcases m.2 with⟨h,_⟩|⟨d,a,c,h,_⟩;.exact⟨_,_,h⟩
   rw[C]at h;exact⟨_,_,h⟩
  obtain⟨p,a,G⟩:=G;rw[G];refine(AnyM.slices_Sort_int_none L p a w).mono ?_;rintro e w' ⟨rfl,rfl⟩;refine⟨[],rfl,grownBy_refl _ _,?_,?_⟩;.rw[<- G];rw[Q,C]at m;simpa[U]using m
  subst U;exact⟨by simp,λi j x K=>by simp[gp]at K⟩
 have yt:0<F l:=Nat.pos_of_ne_zero C;rcases m.2 with⟨_,hn⟩|⟨d,a,c,ma,hB,D,I5,BY,mE,Hk⟩;.omega
 rw[ma];have DC:∀j,(k:j<F l)->b[j]?=some (.int .i64 l[j]):=λj k=>by
  have h2:gp (l.map cg) j 0=some (.i .i64 l[j]):=by simp[gp,cg,k]
  obtain⟨_,u,q2,q3⟩:=cH.2 _ _ _ h2;rw[q3.fE]at q2;simpa using q2
 have hH:Holds (Value.int .i64) w d 0 l.toArray:=λt H=>by
  have I:t<F l:=by simpa using H
  refine⟨?_,by simp[World.frozen?,D]⟩;have v:c.toList[t]?=b[t]?:=by rw[<- Hk,bF (by omega)]
  rw[DC t I]at v;simp only[World.cell?,D,bq];rw[getElem!_pos _ t H];simpa using v
 refine(AnyM.slices_Sort_int L d 0 a l w hH (bh.1 D).1 (by omega)).mono ?_;rintro e w' ⟨rfl,n,os,rfl⟩;generalize (l.mergeSort λx y=>decide (x<=y))=sd at O |-;have z:F (sd.map cg)=F l:=by rw[ae,O]
 have hs:(putRow (Value.int .i64) (Sort.ahead w n) d 0 sd.toArray).heap.size=w.heap.size:=by rw[Go.Sort.size_putRow];rfl
 have V:(putRow (Value.int .i64) (Sort.ahead w n) d 0 sd.toArray).heap[d]?=some (.cells (putCells (Value.int .i64) 0 sd.toArray c) E (0,0)):=by simp only[putRow,mapBlock,Sort.ahead,cz,aU,D,b5];rfl
 have eh:(grow (putRow (Value.int .i64) (Sort.ahead w n) d 0 sd.toArray) os).heap[d]?=some (.cells (putCells (Value.int .i64) 0 sd.toArray c) E (0,0)):=by simp only[grow];rw[iu (by have:=(bh.1 V).1;exact this)];exact V
 refine⟨sd.map (Value.int .i64),rfl,⟨rfl,rfl,rfl,?_,λj k gn=>?_⟩,⟨by rw[z,ae,O];omega,.inr ⟨d,a,putCells (Value.int .i64) 0 sd.toArray c,by rw[z],hB,eh,by rw[z];exact I5,BY,?_,?_⟩⟩,?_,?_⟩;.simp only[grow,mF,hs];omega
 .have pM:¬d=j:=λe=>gn (by rw[e];rfl);simp only[grow];rw[iu (by rw[hs];exact k)];simp only[putRow,mapBlock,Sort.ahead,cz,au pM]
 .simp[putCells,mE]
 .rw[z];apply jw;intro t;by_cases H:t<F l
  .rw[bF (by omega)];have v:t<c.size:=by omega
   have S:t<sd.toArray.size:=by simp;omega
   simp only[putCells,kj,DY,bD v,b5,eR,gL,bq,aK S,qd];rw[getElem!_pos _ t S];simp[show t<F sd by omega]
  rw[bK (by rw[bB];omega),bK (by rw[ae];omega)]
 .intro r s;obtain⟨x,_,rfl⟩:=br.1 s;rfl
 intro i j x K;obtain⟨r,s,k⟩:=iD K;rw[bu]at s;simp only[al]at s;obtain⟨q,hq,rfl⟩:=s;have M:j=0:=by have:=(ab.1 k).1;simp[cg]at this;omega
 subst M;simp only[cg,aH,aa]at k;subst k;exact⟨rfl,.int .i64 q,by simp[hq],.i _ _⟩
def PC.UM(L:SlLaysM.n5 P X):PC P (X.f 5) [.nil] J (λr d=>r=.gy []/\d=J):=by
 refine PC.Gn λw g b c=>⟨.tuple #[],?_,.gy _ _ rfl (λi x h=>by simp at h)⟩;have a:=(c.2 0 _ rfl).nz;have e:b=#[.slice none 0 0]:=by obtain⟨q⟩:=b;match q,c.1 with|[u],_=>simp at a;rw[a]
 rw[e];exact AnyM.slices_Sort_int_none L none 0 w
end Go.Pm
