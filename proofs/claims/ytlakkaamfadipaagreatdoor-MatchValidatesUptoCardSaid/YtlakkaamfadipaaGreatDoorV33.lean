/- A part of a proof; the claim's last text says of what. -/
import Derived.Shelf.SortM.Plain
import Derived.Shelf.SortM.SortNone
import Derived.Test.YtlakkaamfadipaaGreatDoorV29
set_option linter.all false

namespace Go.Pm
open Go Go.RowKit Go.Sort Go.Proofs
theorem PC.L9{P:Program}{ρ:Shelf.Ren}(L:SlLaysM.n5 P ρ){E by' g id:Nat}(l:List Int)(hl:l.length<2^30){J:ae}(h1:J[id]?=some (.row E 1 by' g false (l.map b5))):
  PC P (ρ.f 5) [.own id g] J (fun r J'=>r=.fu []∧J'=J.set id (.row E 1 by' g false ((l.mergeSort fun x y=>decide (x≤y)).map b5))):=by
 have Sn:(l.mergeSort fun x y=>decide (x≤y)).length=l.length:=List.length_mergeSort _;refine PC.Tf h1 (by simp) fun B w0 w μ vs hS hv=>?_;have a0:=(hv.2 0 _ rfl).jS h1;obtain⟨_,vals,fx,ck⟩:=hS.obj id _ h1;have Lx:(l.map b5).length=l.length:=ah ..
 have e:vs=#[μ id]:=by
  obtain⟨q⟩:=vs
  match q,hv.1 with
  | [u],_=>simp at a0;rw[a0]
 rw[e];rw[Lx]at fx;have QH:vals.length=l.length*1:=fx.1
 by_cases h0:l.length=0
 ·have Lw:l=[]:=aL h0;have hvn:vals=[]:=aL (by omega)
  have hm:∃ p cap,μ id=.slice p 0 cap:=by
   rcases fx.2 with⟨h,_⟩ | ⟨gb,cap,cur,h,_⟩
   ·exact⟨_,_,h⟩
   ·rw[h0]at h;exact⟨_,_,h⟩
  obtain⟨p,cap,hm⟩:=hm;rw[hm];refine(AnyM.slices_Sort_int_none L p cap w).mono ?_;rintro e w' ⟨rfl,rfl⟩;refine⟨[],rfl,grownBy_refl _ _,?_,?_⟩
  ·rw[← hm];rw[hvn,h0]at fx;simpa[Lw]using fx
  ·subst Lw;exact⟨by simp,fun i j x hx=>by simp[fw]at hx⟩
 have zU:0<l.length:=Nat.pos_of_ne_zero h0;rcases fx.2 with⟨_,hn⟩ | ⟨gb,cap,cur,kB,hB,hg,Gz,CZ,mS,LB⟩
 ·omega
 rw[kB]
 have rS:∀ j,(hj:j<l.length)→vals[j]?=some (.int .i64 l[j]):=fun j hj=>by
  have h2:fw (l.map b5) j 0=some (.i .i64 l[j]):=by simp[fw,b5,hj]
  obtain⟨_,u,q2,q3⟩:=ck.2 _ _ _ h2;rw[q3.ey]at q2;simpa using q2
 have hH:Holds (Value.int .i64) w gb 0 l.toArray:=fun t ht=>by
  have ht':t<l.length:=by simpa using ht
  refine⟨?_,by simp[World.frozen?,hg]⟩;have h4:cur.toList[t]?=vals[t]?:=by rw[← LB,bj (by omega)]
  rw[rS t ht']at h4;simp only[World.cell?,hg,bo];rw[getElem!_pos _ t ht];simpa using h4
 refine(AnyM.slices_Sort_int L gb 0 cap l w hH (aX.1 hg).1 (by omega)).mono ?_;rintro e w' ⟨rfl,n,os,rfl⟩;generalize (l.mergeSort fun x y=>decide (x≤y))=sd at Sn ⊢;have qd:(sd.map b5).length=l.length:=by rw[ah,Sn]
 have hs:(putRow (Value.int .i64) (Sort.ahead w n) gb 0 sd.toArray).heap.size=w.heap.size:=by rw[Go.Sort.size_putRow];rfl
 have ep:(putRow (Value.int .i64) (Sort.ahead w n) gb 0 sd.toArray).heap[gb]?=some (.cells (putCells (Value.int .i64) 0 sd.toArray cur) E (0,0)):=by
  simp only[putRow,mapBlock,Sort.ahead,cz,aO,hg,bY];rfl
 have eh:(grow (putRow (Value.int .i64) (Sort.ahead w n) gb 0 sd.toArray) os).heap[gb]?=some (.cells (putCells (Value.int .i64) 0 sd.toArray cur) E (0,0)):=by
  simp only[grow];rw[fU (by have:=(aX.1 ep).1;exact this)];exact ep
 refine⟨sd.map (Value.int .i64),rfl,⟨rfl,rfl,rfl,?_,fun j hj ig=>?_⟩,⟨by rw[qd,ah,Sn];omega,.inr ⟨gb,cap,putCells (Value.int .i64) 0 sd.toArray cur,by rw[qd],hB,eh,by rw[qd];exact Gz,CZ,?_,?_⟩⟩,?_,?_⟩
 ·simp only[grow,tT,hs];omega
 ·have po:¬ gb=j:=fun e=>ig (by rw[e];rfl);simp only[grow];rw[fU (by rw[hs];exact hj)];simp only[putRow,mapBlock,Sort.ahead,cz,aw po]
 ·simp[putCells,mS]
 ·rw[qd];apply gN;intro t
  by_cases ht:t<l.length
  ·rw[bj (by omega)];have h4:t<cur.size:=by omega
   have h3:t<sd.toArray.size:=by simp;omega
   simp only[putCells,gn,Ai,bc h4,bY,eY,iH,bo,aI h3,ze];rw[getElem!_pos _ t h3];simp[show t<sd.length by omega]
  ·rw[bn (by rw[bT];omega),bn (by rw[ah];omega)]
 ·intro r hr;obtain⟨x,_,rfl⟩:=bI.1 hr;rfl
 ·intro i j x hx;obtain⟨r,hr,hj⟩:=ib hx;rw[bf]at hr;simp only[aj]at hr;obtain⟨q,hq,rfl⟩:=hr;have hj0:j=0:=by have:=(ab.1 hj).1;simp[b5]at this;omega
  subst hj0;simp only[b5,aq,aa]at hj;subst hj;exact⟨rfl,.int .i64 q,by simp[hq],.i _ _⟩
theorem PC.PA{P:Program}{ρ:Shelf.Ren}(L:SlLaysM.n5 P ρ){J:ae}:PC P (ρ.f 5) [.nil] J (fun r J'=>r=.fu []∧J'=J):=by
 refine PC.Ci fun w μ vs hv=>⟨.tuple #[],?_,.fu _ _ rfl (fun i x h=>by simp at h)⟩;have a0:=(hv.2 0 _ rfl).kp
 have e:vs=#[.slice none 0 0]:=by
  obtain⟨q⟩:=vs
  match q,hv.1 with
  | [u],_=>simp at a0;rw[a0]
 rw[e];exact AnyM.slices_Sort_int_none L none 0 w
end Go.Pm
