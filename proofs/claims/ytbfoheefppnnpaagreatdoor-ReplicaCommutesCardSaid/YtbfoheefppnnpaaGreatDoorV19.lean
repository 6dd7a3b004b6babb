/- A part of the proof of the statement of the last text of this claim: for every two lists of integers ReplicaCommutes returns true and leaves the memory as it was. -/
import Derived.Sort.KeysCollected
import Derived.Test.YtbfoheefppnnpaaGreatDoorV12
import Derived.Test.YtbfoheefppnnpaaGreatDoorV16
set_option linter.all false

namespace Go.Pm
open Go Go.RowKit Go.Bt
theorem PC.ofRow {P:Program} {f:Nat} {args:List V} {σ:Store} {E sz by':Nat} {rows:List (List V)} (hT:Ti P E sz by')
  (h:∀ (B:Nat) (w0 w:World) (μ:Mem) (vs:Array Value),Sim P B w0 w σ μ→VRs w σ μ args vs→Calls P f vs w fun e w'=>∃ v vals,e=.returned v∧w'.ownsRow w.heap.size E sz v rows.length vals∧Below w.heap.size w w'∧RowR w σ μ rows sz vals) :
  PC P f args σ (fun r σ'=>r=.own σ.length 0∧σ'=σ++[.row E sz by' 0 false rows]):=by
 intro B w0 w μ vs hS hv
 refine (h B w0 w μ vs hS hv).mono ?_
 rintro e w' ⟨v,vals,rfl,hrow,hb,hR⟩
 have hn:=hS.newOb (w':=w') (.row E sz by' 0 false rows) v (grownBy_of_below hb) (fun b hbv=>by
   rcases hrow.2 with ⟨rfl,_⟩ | ⟨g,cap,cur,rfl,hg,_⟩
   ·simp [blk] at hbv
   ·simp only [blk,Option.some.injEq] at hbv;omega)
  (fun hp=>⟨hT,vals,⟨hrow.1,by
   rcases hrow.2 with h1 | ⟨g,cap,cur,h1,hg,h2⟩
   ·exact .inl h1
   ·exact .inr ⟨g,cap,cur,h1,Nat.le_trans hS.base hg,h2⟩⟩,hR.keep hp.keep⟩)
 have hr:(σ++[.row E sz by' 0 false rows])[σ.length]?=some (.row E sz by' 0 false rows):=by simp
 have hown:=VR.ownNow (w:=w') (μ:=upd μ σ.length v) hr
 rw [upd_same] at hown
 exact ⟨_,v,_,_,rfl,⟨rfl,rfl⟩,hn.1,hown,hn.2.keep⟩
theorem PC.ofRowS {P:Program} {f:Nat} {args:List V} {σ:Store} {E sz by':Nat} {rows:List (List V)} (hT:Ti P E sz by')
  (h:∀ (B:Nat) (w0 w:World) (μ:Mem) (vs:Array Value),Sim P B w0 w σ μ→VRs w σ μ args vs→Calls P f vs w fun e w'=>∃ v vals,e=.returned v∧w'.ownsRow w.heap.size E sz v rows.length vals∧Below w.heap.size w w'∧RowR w σ μ rows sz vals) :
  PC P f args σ (fun r σ'=>r=.sl sz rows∧σ'=σ) :=
 fun B w0 w μ vs hS hv=>PC.fz hS.closed (PC.ofRow hT h) B w0 w μ vs hS hv
theorem nodup_of_inj {α β:Type} {l:List α} {f:α→β} (h:∀ (i j:Nat) (x y:α),l[i]?=some x→l[j]?=some y→f x=f y→i=j):(l.map f).Nodup:=by
 rw [List.nodup_iff_pairwise_ne,List.pairwise_iff_getElem]
 intro i j hi hj hij e
 simp only [List.getElem_map] at e
 simp only [List.length_map] at hi hj
 have:=h i j _ _ (List.getElem?_eq_getElem hi) (List.getElem?_eq_getElem hj) e
 omega
theorem map_owns {P:Program} {B:Nat} {w0 w:World} {σ:Store} {μ:Mem} (hS:Sim P B w0 w σ μ) {β:Type} {ve:β→V} {id K E:Nat} {l:List (List UInt8×β)} (ho:σ[id]?=some (.map K E (emap keS ve l)))
  (hk:P.underlying K=some .string) (hd:(l.map (·.1)).Nodup) (hl:l.length≤maxLen) :
  ∃ b D,μ id=.map (some b)∧w.ownsMap (H:=Unit) P K (fun _=>some (.nil,[])) b l.length D∧Maps.size D=l.length∧(strKeys D).Perm (l.map (·.1)):=by
 obtain ⟨b,ents,clock,hm,hB,hh,h1,h2,h3,h4⟩:=hS.obj id _ ho
 have hlen:ents.size=l.length:=by rw [h1];simp [emap]
 have key:∀ (i:Nat) (e:MapEntry),ents[i]?=some e→∃ p,l[i]?=some p∧∃ x:ByteArray,e.key=.string x∧x.data.toList=p.1∧p.1.length≤maxLen:=by
  intro i e he
  have hi:i<l.length:=by rw [← hlen];exact (Array.getElem?_eq_some_iff.1 he).1
  have hp:=List.getElem?_eq_getElem hi
  have he2:(emap keS ve l)[i]?=some (keS (l[i]).1,ve (l[i]).2):=by simp [emap,hp]
  obtain ⟨_,_,e',h5,h6,_⟩:=h2 i _ _ he2
  rw [he] at h5
  simp only [Option.some.injEq] at h5
  subst h5
  obtain ⟨x,hx1,hx2,hx3⟩:=VR.inv_s (l:=(l[i]).1) h6
  exact ⟨_,hp,x,hx1,hx2,hx3⟩
 have hrd:∀ (i:Nat) (e:MapEntry),ents[i]?=some e→∃ p,l[i]?=some p∧WideElems.rd (H:=Unit) P K (fun _=>some (.nil,[])) e=some (.string p.1,.nil):=by
  intro i e he
  obtain ⟨p,hp,x,hx1,hx2,hx3⟩:=key i e he
  refine ⟨p,hp,?_⟩
  have hsz:x.size≤maxLen:=by
   have:x.size=x.data.toList.length:=by simp
   rw [this,hx2];exact hx3
  simp [WideElems.rd,keyOf,hk,mapKey,hx1,hsz,hx2]
 have hmap:ents.toList.map (WideElems.rg (H:=Unit) P K (fun _=>some (.nil,[])))=l.map fun p=>(Lit.string p.1,DataW.nil):=by
  apply List.ext_getElem?
  intro i
  rw [List.getElem?_map,List.getElem?_map]
  by_cases hi:i<l.length
  ·have hi2:i<ents.size:=by omega
   obtain ⟨p,hp,hr⟩:=hrd i ents[i] (Array.getElem?_eq_getElem hi2)
   have e1:ents.toList[i]?=some ents[i]:=by simp [hi2]
   rw [e1,hp]
   simp [WideElems.rg,hr]
  ·rw [List.getElem?_eq_none (by simp;omega),List.getElem?_eq_none (by omega)];rfl
 refine ⟨b,_,hm,⟨ents,clock,hh,⟨by omega,⟨?_,?_,?_⟩,?_⟩,by omega,rfl⟩,?_,?_⟩
 ·intro x hx
  obtain ⟨i,hi⟩:=List.mem_iff_getElem?.1 hx
  exact h3 i x (by simpa using hi)
 ·refine nodup_of_inj fun i j x y hx hy e=>h4 i j x y (by simpa using hx) (by simpa using hy) e
 ·refine nodup_of_inj fun i j x y hx hy e=>?_
  obtain ⟨p,hp,a,ha1,ha2,_⟩:=key i x (by simpa using hx)
  obtain ⟨q,hq,c,hc1,hc2,_⟩:=key j y (by simpa using hy)
  rw [ha1,hc1] at e
  have e2:p.1=q.1:=by rw [← ha2,← hc2];cases e;rfl
  rw [List.nodup_iff_pairwise_ne,List.pairwise_iff_getElem] at hd
  have hi:=(List.getElem?_eq_some_iff.1 hp).1
  have hj:=(List.getElem?_eq_some_iff.1 hq).1
  have hpe:=(List.getElem?_eq_some_iff.1 hp).2
  have hqe:=(List.getElem?_eq_some_iff.1 hq).2
  rcases Nat.lt_trichotomy i j with h | h | h
  ·have:=hd i j (by simpa using hi) (by simpa using hj) h
   simp only [List.getElem_map,hpe,hqe] at this
   exact absurd e2 this
  ·exact h
  ·have:=hd j i (by simpa using hj) (by simpa using hi) h
   simp only [List.getElem_map,hpe,hqe] at this
   exact absurd e2.symm this
 ·intro x hx
  obtain ⟨i,hi⟩:=List.mem_iff_getElem?.1 hx
  obtain ⟨p,_,hr⟩:=hrd i x (by simpa using hi)
  exact ⟨_,hr⟩
 ·rw [hmap,Maps.size_eq,(WideShapes.sorted_perm _).length_eq];simp
 ·rw [hmap]
  simp only [strKeys]
  refine ((WideShapes.sorted_perm _).map _).trans ?_
  rw [List.map_map]
  exact List.Perm.of_eq (by apply List.map_congr_left;intro p _;rfl)
end Go.Pm
