/- A part of a proof; the claim's last text says of what. -/
import Derived.Shelf.SortM.Plain
import Derived.Shelf.SortM.SortNone
import Derived.Test.YtlakkaamfadipaaGreatDoorS28
set_option linter.all false

namespace Go.Pm
open Go Go.RowKit Go.Sort Go.Proofs
theorem PC.MS{P:Program}{ρ:Shelf.Ren}(L:SlLaysM.n5 P ρ){E by' g id:Nat}(l:List Int)(hl:l.length<2^30){J:ae}(h1:J[id]?=some (.row E 1 by' g false (l.map bR))):
  PC P (ρ.f 5) [.own id g] J (fun r J'=>r=.fi []∧J'=J.set id (.row E 1 by' g false ((l.mergeSort fun x y=>decide (x≤y)).map bR))):=by
 have SX:(l.mergeSort fun x y=>decide (x≤y)).length=l.length:=List.length_mergeSort _;refine PC.TX h1 (by simp) fun B w0 w μ vs hS hv=>?_;have a0:=(hv.2 0 _ rfl).jP h1;obtain⟨_,vals,fk,cq⟩:=hS.obj id _ h1;have Mk:(l.map bR).length=l.length:=ag ..
 have e:vs=#[μ id]:=by
  obtain⟨q⟩:=vs
  match q,hv.1 with
  | [u],_=>simp at a0;rw[a0]
 rw[e];rw[Mk]at fk;have Rf:vals.length=l.length*1:=fk.1
 by_cases h0:l.length=0
 ·have PJ:l=[]:=aG h0;have hvn:vals=[]:=aG (by omega)
  have hm:∃ p cap,μ id=.slice p 0 cap:=by
   rcases fk.2 with⟨h,_⟩ | ⟨gb,cap,cur,h,_⟩
   ·exact⟨_,_,h⟩
   ·rw[h0]at h;exact⟨_,_,h⟩
  obtain⟨p,cap,hm⟩:=hm;rw[hm];refine(AnyM.slices_Sort_int_none L p cap w).mono ?_;rintro e w' ⟨rfl,rfl⟩;refine⟨[],rfl,grownBy_refl _ _,?_,?_⟩
  ·rw[← hm];rw[hvn,h0]at fk;simpa[PJ]using fk
  ·subst PJ;exact⟨by simp,fun i j x hx=>by simp[eS]at hx⟩
 have xb:0<l.length:=Nat.pos_of_ne_zero h0;rcases fk.2 with⟨_,hn⟩ | ⟨gb,cap,cur,kF,hB,hg,Ht,DJ,mi,Mm⟩
 ·omega
 rw[kF]
 have qy:∀ j,(hj:j<l.length)→vals[j]?=some (.int .i64 l[j]):=fun j hj=>by
  have h2:eS (l.map bR) j 0=some (.i .i64 l[j]):=by simp[eS,bR,hj]
  obtain⟨_,u,q2,q3⟩:=cq.2 _ _ _ h2;rw[q3.ei]at q2;simpa using q2
 have hH:Holds (Value.int .i64) w gb 0 l.toArray:=fun t ht=>by
  have ht':t<l.length:=by simpa using ht
  refine⟨?_,by simp[World.frozen?,hg]⟩;have h4:cur.toList[t]?=vals[t]?:=by rw[← Mm,bg (by omega)]
  rw[qy t ht']at h4;simp only[World.cell?,hg,bz];rw[getElem!_pos _ t ht];simpa using h4
 refine(AnyM.slices_Sort_int L gb 0 cap l w hH (aX.1 hg).1 (by omega)).mono ?_;rintro e w' ⟨rfl,n,os,rfl⟩;generalize (l.mergeSort fun x y=>decide (x≤y))=sd at SX ⊢;have pK:(sd.map bR).length=l.length:=by rw[ag,SX]
 have hs:(putRow (Value.int .i64) (Sort.ahead w n) gb 0 sd.toArray).heap.size=w.heap.size:=by rw[Go.Sort.size_putRow];rfl
 have ep:(putRow (Value.int .i64) (Sort.ahead w n) gb 0 sd.toArray).heap[gb]?=some (.cells (putCells (Value.int .i64) 0 sd.toArray cur) E (0,0)):=by
  simp only[putRow,mapBlock,Sort.ahead,cB,aL,hg,bK];rfl
 have eh:(grow (putRow (Value.int .i64) (Sort.ahead w n) gb 0 sd.toArray) os).heap[gb]?=some (.cells (putCells (Value.int .i64) 0 sd.toArray cur) E (0,0)):=by
  simp only[grow];rw[fQ (by have:=(aX.1 ep).1;exact this)];exact ep
 refine⟨sd.map (Value.int .i64),rfl,⟨rfl,rfl,rfl,?_,fun j hj gv=>?_⟩,⟨by rw[pK,ag,SX];omega,.inr ⟨gb,cap,putCells (Value.int .i64) 0 sd.toArray cur,by rw[pK],hB,eh,by rw[pK];exact Ht,DJ,?_,?_⟩⟩,?_,?_⟩
 ·simp only[grow,uA,hs];omega
 ·have nX:¬ gb=j:=fun e=>gv (by rw[e];rfl);simp only[grow];rw[fQ (by rw[hs];exact hj)];simp only[putRow,mapBlock,Sort.ahead,cB,aI nX]
 ·simp[putCells,mi]
 ·rw[pK];apply gK;intro t
  by_cases ht:t<l.length
  ·rw[bg (by omega)];have h4:t<cur.size:=by omega
   have h3:t<sd.toArray.size:=by simp;omega
   simp only[putCells,eV,A0,bc h4,bK,dT,gk,bz,bf h3,rN];rw[getElem!_pos _ t h3];simp[show t<sd.length by omega]
  ·rw[bl (by rw[cz];omega),bl (by rw[ag];omega)]
 ·intro r hr;obtain⟨x,_,rfl⟩:=bH.1 hr;rfl
 ·intro i j x hx;obtain⟨r,hr,hj⟩:=ie hx;rw[a8]at hr;simp only[aj]at hr;obtain⟨q,hq,rfl⟩:=hr;have hj0:j=0:=by have:=(ab.1 hj).1;simp[bR]at this;omega
  subst hj0;simp only[bR,aw,aa]at hj;subst hj;exact⟨rfl,.int .i64 q,by simp[hq],.i _ _⟩
theorem PC.Qa{P:Program}{ρ:Shelf.Ren}(L:SlLaysM.n5 P ρ){J:ae}:PC P (ρ.f 5) [.nil] J (fun r J'=>r=.fi []∧J'=J):=by
 refine PC.C0 fun w μ vs hv=>⟨.tuple #[],?_,.fi _ _ rfl (fun i x h=>by simp at h)⟩;have a0:=(hv.2 0 _ rfl).lp
 have e:vs=#[.slice none 0 0]:=by
  obtain⟨q⟩:=vs
  match q,hv.1 with
  | [u],_=>simp at a0;rw[a0]
 rw[e];exact AnyM.slices_Sort_int_none L none 0 w
end Go.Pm
