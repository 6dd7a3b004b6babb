/- A part of a proof; the claim's last text says of what. -/
import Derived.Shelf.SortM.Plain
import Derived.Shelf.SortM.SortNone
import Derived.Test.YtlakkaamfadipaaGreatDoorL29
set_option linter.all false

namespace Go.Pm
open Go Go.RowKit Go.Sort Go.Proofs
theorem PC.MJ{P:Program}{α:Type}[Inhabited α]{enc:α→Value}{ve:α→V}{le:α→α→Bool}{fn:Nat}
  (hve:∀ {w J μ v} x,VR w J μ (ve x) v→(ve x).pure=true∧v=enc x∧∀ {w' J' μ'},VR w' J' μ' (ve x) (enc x))
  (Ky:∀ (fR off cap:Nat) (zs:List α) (w:World),Holds enc w fR off zs.toArray→fR<w.heap.size→zs.length<4611686018427387904 →
   Calls P fn #[.slice (some ⟨fR,off,none⟩) zs.length cap] w fun e w'=>e=.returned (.tuple #[])∧∃ n os,w'=grow (putRow enc (Sort.ahead w n) fR off (zs.mergeSort le).toArray) os)
  (CP:∀ (p:Option Addr) (cap:Nat) (w:World),Calls P fn #[.slice p 0 cap] w fun e w'=>e=.returned (.tuple #[])∧w'=w)
  {E by' g id:Nat} (l:List α) (hl:l.length<2^30) {J:ae} (h1:J[id]?=some (.row E 1 by' g false (l.map fun x=>[ve x]))) :
  PC P fn [.own id g] J (fun r J'=>r=.fa []∧J'=J.set id (.row E 1 by' g false ((l.mergeSort le).map fun x=>[ve x]))):=by
 have QS:(l.mergeSort le).length=l.length:=List.length_mergeSort _;refine PC.Qj h1 (by simp) fun B w0 w μ vs hS hv=>?_;have a0:=(hv.2 0 _ rfl).iL h1;obtain⟨_,vals,eu,bT⟩:=hS.obj id _ h1;have DH:(l.map fun x=>[ve x]).length=l.length:=aj ..
 have e:vs=#[μ id]:=by
  obtain⟨q⟩:=vs
  match q,hv.1 with
  | [u],_=>simp at a0;rw[a0]
 rw[e];rw[DH]at eu;have I0:vals.length=l.length*1:=eu.1
 by_cases h0:l.length=0
 ·have Mg:l=[]:=aD h0;have XP:vals=[]:=aD (by omega)
  have hm:∃ p cap,μ id=.slice p 0 cap:=by
   rcases eu.2 with⟨h,_⟩ | ⟨gb,cap,cur,h,_⟩
   ·exact⟨_,_,h⟩
   ·rw[h0]at h;exact⟨_,_,h⟩
  obtain⟨p,cap,hm⟩:=hm;rw[hm];refine(CP p cap w).mono ?_;rintro e w' ⟨rfl,rfl⟩;refine⟨[],rfl,grownBy_refl _ _,?_,?_⟩
  ·rw[← hm];rw[XP,h0]at eu;simpa[Mg]using eu
  ·subst Mg;exact⟨by simp,fun i j x hx=>by simp[eV]at hx⟩
 have KG:0<l.length:=Nat.pos_of_ne_zero h0;rcases eu.2 with⟨_,hn⟩ | ⟨gb,cap,cur,jX,hB,hg,CQ,wI,kN,Bq⟩
 ·omega
 rw[jX]
 have Wm:∀ j,(hj:j<l.length)→∃ u,VR w J μ (ve l[j]) u∧vals[j]?=some u:=fun j hj=>by
  have h2:eV (l.map fun x=>[ve x]) j 0=some (ve l[j]):=by simp[eV,hj]
  obtain⟨_,u,q2,q3⟩:=bT.2 _ _ _ h2;exact⟨u,q3,by simpa using q2⟩
 have CJ:∀ j,(hj:j<l.length)→vals[j]?=some (enc l[j]):=fun j hj=>by
  obtain⟨u,q1,q2⟩:=Wm j hj;rw[q2,(hve _ q1).2.1]
 have hH:Holds enc w gb 0 l.toArray:=fun t ht=>by
  have ht':t<l.length:=by simpa using ht
  refine⟨?_,by simp[World.frozen?,hg]⟩;have h4:cur.toList[t]?=vals[t]?:=by rw[← Bq,aU (by omega)]
  rw[CJ t ht']at h4;simp only[World.cell?,hg,bj];rw[getElem!_pos _ t ht];simpa using h4
 refine(Ky gb 0 cap l w hH (aN.1 hg).1 (by omega)).mono ?_;rintro e w' ⟨rfl,n,os,rfl⟩;have hsd:∀ x∈l.mergeSort le,x∈l:=fun x hx=>(DB l le).mem_iff.1 hx;generalize (l.mergeSort le)=sd at QS hsd ⊢;have qU:(sd.map fun x=>[ve x]).length=l.length:=by rw[aj,QS]
 have hs:(putRow enc (Sort.ahead w n) gb 0 sd.toArray).heap.size=w.heap.size:=by rw[Go.Sort.size_putRow];rfl
 have ep:(putRow enc (Sort.ahead w n) gb 0 sd.toArray).heap[gb]?=some (.cells (putCells enc 0 sd.toArray cur) E (0,0)):=by
  simp only[putRow,mapBlock,Sort.ahead,bH,aR,hg,bL];rfl
 have eh:(grow (putRow enc (Sort.ahead w n) gb 0 sd.toArray) os).heap[gb]?=some (.cells (putCells enc 0 sd.toArray cur) E (0,0)):=by
  simp only[grow];rw[fv (by have:=(aN.1 ep).1;exact this)];exact ep
 refine⟨sd.map enc,rfl,⟨rfl,rfl,rfl,?_,fun j hj gr=>?_⟩,⟨by rw[qU,aj,QS];omega,.inr ⟨gb,cap,putCells enc 0 sd.toArray cur,by rw[qU],hB,eh,by rw[qU];exact CQ,wI,?_,?_⟩⟩,?_,?_⟩
 ·simp only[grow,jW,hs];omega
 ·have ny:¬ gb=j:=fun e=>gr (by rw[e];rfl);simp only[grow];rw[fv (by rw[hs];exact hj)];simp only[putRow,mapBlock,Sort.ahead,bH,aC ny]
 ·simp[putCells,kN]
 ·rw[qU];apply gd;intro t
  by_cases ht:t<l.length
  ·rw[aU (by omega)];have h4:t<cur.size:=by omega
   have h3:t<sd.toArray.size:=by simp;omega
   simp only[putCells,gW,yt,aS h4,bL,eX,jD,bj,aQ h3,pU];rw[getElem!_pos _ t h3];simp[show t<sd.length by omega]
  ·rw[a7 (by rw[ba];omega),a7 (by rw[aj];omega)]
 ·intro r hr;obtain⟨x,_,rfl⟩:=aT.1 hr;rfl
 ·intro i j x hx;obtain⟨r,hr,hj⟩:=eP hx;rw[aW]at hr;simp only[ah]at hr;obtain⟨q,hq,rfl⟩:=hr;have hj0:j=0:=by have:=(ab.1 hj).1;simp at this;omega
  subst hj0;simp only[au,aa]at hj;subst hj;obtain⟨k,hk,hkq⟩:=List.getElem_of_mem (hsd q (aL hq));obtain⟨u,q1,_⟩:=Wm k hk;rw[hkq]at q1;have q2:=hve _ q1;exact⟨q2.1,enc q,by simp[hq],q2.2.2⟩
theorem PC.Jx{P:Program}{ρ:Shelf.Ren}(L:SlLaysM.n5 P ρ){E by' g id:Nat}(l:List Int)(hl:l.length<2^30){J:ae}(h1:J[id]?=some (.row E 1 by' g false (l.map cq))):
  PC P (ρ.f 5) [.own id g] J (fun r J'=>r=.fa []∧J'=J.set id (.row E 1 by' g false ((l.mergeSort fun x y=>decide (x≤y)).map cq))) :=
 PC.MJ (ve:=fun x=>.i .i64 x) (fun x h=>⟨rfl,h.dI,.i _ _⟩) (AnyM.slices_Sort_int L) (AnyM.slices_Sort_int_none L) l hl h1
theorem PC.MI{P:Program}{ρ:Shelf.Ren}(L:SlLaysM.n5 P ρ){J:ae}:PC P (ρ.f 5) [.nil] J (fun r J'=>r=.fa []∧J'=J):=by
 refine PC.Ay fun w μ vs hv=>⟨.tuple #[],?_,.fa _ _ rfl (fun i x h=>by simp at h)⟩;have a0:=(hv.2 0 _ rfl).kM
 have e:vs=#[.slice none 0 0]:=by
  obtain⟨q⟩:=vs
  match q,hv.1 with
  | [u],_=>simp at a0;rw[a0]
 rw[e];exact AnyM.slices_Sort_int_none L none 0 w
end Go.Pm
