/- A part of the proof that for every input the law NetworkLimits returns true and leaves its argument as it was. -/
import Derived.Sort.KeysCollected
import Derived.Test.YtgihcpilgfbggaaGreatDoorL14
import Derived.Test.YtgihcpilgfbggaaGreatDoorL19
set_option linter.all false

namespace Go.Pm
open Go Go.RowKit Go.Bt
theorem PC.ofRow{P:Program}{f:Nat}{args:List V}{σ:ah}{E sz by':Nat}{rows:List (List V)}(hT:Ti P E sz by')
  (h:∀ (B:Nat) (w0 w:World) (μ:Mem) (vs:Array Value),gM P B w0 w σ μ→Qw w σ μ args vs→Calls P f vs w fun e w'=>∃ v vals,e=.returned v∧w'.ownsRow w.heap.size E sz v rows.length vals∧Below w.heap.size w w'∧jT w σ μ rows sz vals) :
  PC P f args σ (fun r σ'=>r=.own σ.length 0∧σ'=σ++[.row E sz by' 0 false rows]):=by
 intro B w0 w μ vs hS hv;refine(h B w0 w μ vs hS hv).mono ?_;rintro e w' ⟨v,vals,rfl,cm,hb,hR⟩
 have hn:=hS.pY (w':=w') (.row E sz by' 0 false rows) v (lf hb) (fun b hbv=>by
   rcases cm.2 with⟨rfl,_⟩ | ⟨g,cap,cur,rfl,hg,_⟩
   ·simp[iT]at hbv
   ·simp only[iT,aa]at hbv;omega)
  (fun hp=>⟨hT,vals,⟨cm.1,by
   rcases cm.2 with h1 | ⟨g,cap,cur,h1,hg,h2⟩
   ·exact .inl h1
   ·exact .inr ⟨g,cap,cur,h1,bF hS.base hg,h2⟩⟩,hR.eO hp.eO⟩)
 have hr:(σ++[.row E sz by' 0 false rows])[σ.length]?=some (.row E sz by' 0 false rows):=by simp
 have gf:=VR.lM (w:=w') (μ:=qH μ σ.length v) hr;rw[dL]at gf;exact⟨_,v,_,_,rfl,⟨rfl,rfl⟩,hn.1,gf,hn.2.eO⟩
theorem PC.RJ{P:Program}{f:Nat}{args:List V}{σ:ah}{E sz by':Nat}{rows:List (List V)}(hT:Ti P E sz by')
  (h:∀ (B:Nat) (w0 w:World) (μ:Mem) (vs:Array Value),gM P B w0 w σ μ→Qw w σ μ args vs→Calls P f vs w fun e w'=>∃ v vals,e=.returned v∧w'.ownsRow w.heap.size E sz v rows.length vals∧Below w.heap.size w w'∧jT w σ μ rows sz vals) :
  PC P f args σ (fun r σ'=>r=.sl sz rows∧σ'=σ) :=
 fun B w0 w μ vs hS hv=>PC.fz hS.closed (PC.ofRow hT h) B w0 w μ vs hS hv
theorem sU{α β:Type}{l:List α}{f:α→β}(h:∀ (i j:Nat) (x y:α),l[i]?=some x→l[j]?=some y→f x=f y→i=j):(l.map f).Nodup:=by
 rw[TW,tC];intro i j hi hj yI e;simp only[NJ]at e;simp only[ae]at hi hj;have:=h i j _ _ (ao hi) (ao hj) e;omega
theorem LC{P:Program}{B:Nat}{w0 w:World}{σ:ah}{μ:Mem}(hS:gM P B w0 w σ μ){β:Type}{ve:β→V}{id K E:Nat}{l:List (List UInt8×β)}(ho:σ[id]?=some (.map K E (emap QR ve l)))
  (hk:P.underlying K=some .string) (hd:(l.map (·.1)).Nodup) (hl:l.length≤maxLen) :
  ∃ b D,μ id=.map (some b)∧w.ownsMap (H:=Unit) P K (fun _=>some (.nil,[])) b l.length D∧Maps.size D=l.length∧(strKeys D).Perm (l.map (·.1)):=by
 obtain⟨b,ents,clock,hm,hB,hh,h1,h2,h3,h4⟩:=hS.obj id _ ho;have hlen:ents.size=l.length:=by rw[h1];simp[emap]
 have key:∀ (i:Nat) (e:MapEntry),ents[i]?=some e→∃ p,l[i]?=some p∧∃ x:ByteArray,e.key=.string x∧x.data.toList=p.1∧p.1.length≤maxLen:=by
  intro i e he;have hi:i<l.length:=by rw[← hlen];exact(bS.1 he).1
  have hp:=ao hi;have Ud:(emap QR ve l)[i]?=some (QR (l[i]).1,ve (l[i]).2):=by simp[emap,hp]
  obtain⟨_,_,e',h5,h6,_⟩:=h2 i _ _ Ud;rw[he]at h5;simp only[aa]at h5;subst h5;obtain⟨x,sj,Au,YF⟩:=VR.lU (l:=(l[i]).1) h6;exact⟨_,hp,x,sj,Au,YF⟩
 have hrd:∀ (i:Nat) (e:MapEntry),ents[i]?=some e→∃ p,l[i]?=some p∧WideElems.rd (H:=Unit) P K (fun _=>some (.nil,[])) e=some (.string p.1,.nil):=by
  intro i e he;obtain⟨p,hp,x,sj,Au,YF⟩:=key i e he;refine⟨p,hp,?_⟩
  have fq:x.size≤maxLen:=by
   have:x.size=x.data.toList.length:=by simp
   rw[this,Au];exact YF
  simp[WideElems.rd,keyOf,hk,mapKey,sj,fq,Au]
 have Py:ents.toList.map (WideElems.rg (H:=Unit) P K (fun _=>some (.nil,[])))=l.map fun p=>(Lit.string p.1,DataW.nil):=by
  apply iw;intro i;rw[bg,bg]
  by_cases hi:i<l.length
  ·have zo:i<ents.size:=by omega
   obtain⟨p,hp,hr⟩:=hrd i ents[i] (Array.getElem?_eq_getElem zo);have e1:ents.toList[i]?=some ents[i]:=by simp[zo]
   rw[e1,hp];simp[WideElems.rg,hr]
  ·rw[bo (by simp;omega),bo (by omega)];rfl
 refine⟨b,_,hm,⟨ents,clock,hh,⟨by omega,⟨?_,?_,?_⟩,?_⟩,by omega,rfl⟩,?_,?_⟩
 ·intro x hx;obtain⟨i,hi⟩:=ee.1 hx;exact h3 i x (by simpa using hi)
 ·refine sU fun i j x y hx hy e=>h4 i j x y (by simpa using hx) (by simpa using hy) e
 ·refine sU fun i j x y hx hy e=>?_;obtain⟨p,hp,a,ha1,Tb,_⟩:=key i x (by simpa using hx);obtain⟨q,hq,c,S8,vz,_⟩:=key j y (by simpa using hy);rw[ha1,S8]at e;have e2:p.1=q.1:=by rw[← Tb,← vz];cases e;rfl
  rw[TW,tC]at hd;have hi:=(ab.1 hp).1;have hj:=(ab.1 hq).1;have X0:=(ab.1 hp).2;have hqe:=(ab.1 hq).2;rcases Nat.lt_trichotomy i j with h | h | h
  ·have:=hd i j (by simpa using hi) (by simpa using hj) h;simp only[NJ,X0,hqe]at this;exact absurd e2 this
  ·exact h
  ·have:=hd j i (by simpa using hj) (by simpa using hi) h;simp only[NJ,X0,hqe]at this;exact absurd e2.symm this
 ·intro x hx;obtain⟨i,hi⟩:=ee.1 hx;obtain⟨p,_,hr⟩:=hrd i x (by simpa using hi);exact⟨_,hr⟩
 ·rw[Py,Maps.size_eq,(WideShapes.sorted_perm _).length_eq];simp
 ·rw[Py];simp only[strKeys];refine((WideShapes.sorted_perm _).map _).trans ?_;rw[rv];exact List.Perm.of_eq (by apply eN;intro p _;rfl)
end Go.Pm
