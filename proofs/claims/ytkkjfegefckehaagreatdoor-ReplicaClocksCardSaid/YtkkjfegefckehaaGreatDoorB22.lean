/- A part of the proof of the statement of the last text of this claim; its conditions stand there. -/
import Derived.Sort.KeysCollected
import Derived.Test.YtkkjfegefckehaaGreatDoorB18
set_option linter.all false

namespace Go.Pm
open Go Go.RowKit Go.Bt
theorem PC.ofRow{P:Program}{f:Nat}{args:List V}{σ:ag}{E sz by':Nat}{rows:List (List V)}(hT:Ti P E sz by')
  (h:∀ (B:Nat) (w0 w:World) (μ:Mem) (vs:Array Value),jw P B w0 w σ μ→Yh w σ μ args vs→Calls P f vs w fun e w'=>∃ v vals,e=.returned v∧w'.ownsRow w.heap.size E sz v rows.length vals∧Below w.heap.size w w'∧mq w σ μ rows sz vals) :
  PC P f args σ (fun r σ'=>r=.own σ.length 0∧σ'=σ++[.row E sz by' 0 false rows]):=by
 intro B w0 w μ vs hS hv;refine(h B w0 w μ vs hS hv).mono ?_;rintro e w' ⟨v,vals,rfl,cP,hb,hR⟩
 have hn:=hS.uE (w':=w') (.row E sz by' 0 false rows) v (kI hb) (fun b hbv=>by
   rcases cP.2 with⟨rfl,_⟩ | ⟨g,cap,cur,rfl,hg,_⟩
   ·simp[lf]at hbv
   ·simp only[lf,aa]at hbv;omega)
  (fun hp=>⟨hT,vals,⟨cP.1,by
   rcases cP.2 with h1 | ⟨g,cap,cur,h1,hg,h2⟩
   ·exact .inl h1
   ·exact .inr ⟨g,cap,cur,h1,bZ hS.base hg,h2⟩⟩,hR.bY hp.bY⟩)
 have hr:(σ++[.row E sz by' 0 false rows])[σ.length]?=some (.row E sz by' 0 false rows):=by simp
 have gD:=VR.qc (w:=w') (μ:=wu μ σ.length v) hr;rw[fo]at gD;exact⟨_,v,_,_,rfl,⟨rfl,rfl⟩,hn.1,gD,hn.2.bY⟩
theorem PC.YV{P:Program}{f:Nat}{args:List V}{σ:ag}{E sz by':Nat}{rows:List (List V)}(hT:Ti P E sz by')
  (h:∀ (B:Nat) (w0 w:World) (μ:Mem) (vs:Array Value),jw P B w0 w σ μ→Yh w σ μ args vs→Calls P f vs w fun e w'=>∃ v vals,e=.returned v∧w'.ownsRow w.heap.size E sz v rows.length vals∧Below w.heap.size w w'∧mq w σ μ rows sz vals) :
  PC P f args σ (fun r σ'=>r=.sl sz rows∧σ'=σ) :=
 fun B w0 w μ vs hS hv=>PC.fz hS.closed (PC.ofRow hT h) B w0 w μ vs hS hv
theorem yU{α β:Type}{l:List α}{f:α→β}(h:∀ (i j:Nat) (x y:α),l[i]?=some x→l[j]?=some y→f x=f y→i=j):(l.map f).Nodup:=by
 rw[aaU,gE];intro i j hi hj Lu e;simp only[Uy]at e;simp only[List.length_map]at hi hj;have:=h i j _ _ (aw hi) (aw hj) e;omega
theorem Ss{P:Program}{B:Nat}{w0 w:World}{σ:ag}{μ:Mem}(hS:jw P B w0 w σ μ){β:Type}{ve:β→V}{id K E:Nat}{l:List (List UInt8×β)}(ho:σ[id]?=some (.map K E (emap XV ve l)))
  (hk:P.underlying K=some .string) (hd:(l.map (·.1)).Nodup) (hl:l.length≤maxLen) :
  ∃ b D,μ id=.map (some b)∧w.ownsMap (H:=Unit) P K (fun _=>some (.nil,[])) b l.length D∧Maps.size D=l.length∧(strKeys D).Perm (l.map (·.1)):=by
 obtain⟨b,ents,clock,hm,hB,hh,h1,h2,h3,h4⟩:=hS.obj id _ ho;have hlen:ents.size=l.length:=by rw[h1];simp[emap]
 have key:∀ (i:Nat) (e:MapEntry),ents[i]?=some e→∃ p,l[i]?=some p∧∃ x:ByteArray,e.key=.string x∧x.data.toList=p.1∧p.1.length≤maxLen:=by
  intro i e he;have hi:i<l.length:=by rw[← hlen];exact(cg.1 he).1
  have hp:=aw hi;have WI:(emap XV ve l)[i]?=some (XV (l[i]).1,ve (l[i]).2):=by simp[emap,hp]
  obtain⟨_,_,e',h5,h6,_⟩:=h2 i _ _ WI;rw[he]at h5;simp only[aa]at h5;subst h5;obtain⟨x,tC,BR,ZF⟩:=VR.nO (l:=(l[i]).1) h6;exact⟨_,hp,x,tC,BR,ZF⟩
 have hrd:∀ (i:Nat) (e:MapEntry),ents[i]?=some e→∃ p,l[i]?=some p∧WideElems.rd (H:=Unit) P K (fun _=>some (.nil,[])) e=some (.string p.1,.nil):=by
  intro i e he;obtain⟨p,hp,x,tC,BR,ZF⟩:=key i e he;refine⟨p,hp,?_⟩
  have gO:x.size≤maxLen:=by
   have:x.size=x.data.toList.length:=by simp
   rw[this,BR];exact ZF
  simp[WideElems.rd,keyOf,hk,mapKey,tC,gO,BR]
 have Wz:ents.toList.map (WideElems.rg (H:=Unit) P K (fun _=>some (.nil,[])))=l.map fun p=>(Lit.string p.1,DataW.nil):=by
  apply kg;intro i;rw[aZ,aZ]
  by_cases hi:i<l.length
  ·have Lv:i<ents.size:=by omega
   obtain⟨p,hp,hr⟩:=hrd i ents[i] (Array.getElem?_eq_getElem Lv);have e1:ents.toList[i]?=some ents[i]:=by simp[Lv]
   rw[e1,hp];simp[WideElems.rg,hr]
  ·rw[bR (by simp;omega),bR (by omega)];rfl
 refine⟨b,_,hm,⟨ents,clock,hh,⟨by omega,⟨?_,?_,?_⟩,?_⟩,by omega,rfl⟩,?_,?_⟩
 ·intro x hx;obtain⟨i,hi⟩:=dr.1 hx;exact h3 i x (by simpa using hi)
 ·refine yU fun i j x y hx hy e=>h4 i j x y (by simpa using hx) (by simpa using hy) e
 ·refine yU fun i j x y hx hy e=>?_;obtain⟨p,hp,a,ha1,WO,_⟩:=key i x (by simpa using hx);obtain⟨q,hq,c,hc1,zk,_⟩:=key j y (by simpa using hy);rw[ha1,hc1]at e;have e2:p.1=q.1:=by rw[← WO,← zk];cases e;rfl
  rw[aaU,gE]at hd;have hi:=(ae.1 hp).1;have hj:=(ae.1 hq).1;have hpe:=(ae.1 hp).2;have hqe:=(ae.1 hq).2;rcases Nat.lt_trichotomy i j with h | h | h
  ·have:=hd i j (by simpa using hi) (by simpa using hj) h;simp only[Uy,hpe,hqe]at this;exact absurd e2 this
  ·exact h
  ·have:=hd j i (by simpa using hj) (by simpa using hi) h;simp only[Uy,hpe,hqe]at this;exact absurd e2.symm this
 ·intro x hx;obtain⟨i,hi⟩:=dr.1 hx;obtain⟨p,_,hr⟩:=hrd i x (by simpa using hi);exact⟨_,hr⟩
 ·rw[Wz,Maps.size_eq,(WideShapes.sorted_perm _).length_eq];simp
 ·rw[Wz];simp only[strKeys];refine((WideShapes.sorted_perm _).map _).trans ?_;rw[jM];exact List.Perm.of_eq (by apply dE;intro p _;rfl)
end Go.Pm
