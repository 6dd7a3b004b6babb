/- A part of a proof; the claim's last text says of what. -/
import Derived.Sort.KeysCollected
import Derived.Test.YtlakkaamfadipaaGreatDoorL20
set_option linter.all false

namespace Go.Pm
open Go Go.RowKit Go.Bt
theorem PC.ofRow{P:Program}{f:Nat}{args:List V}{J:ae}{E sz by':Nat}{rows:List (List V)}(hT:Ti P E sz by')
  (h:∀ (B:Nat) (w0 w:World) (μ:Mem) (vs:Array Value),fe P B w0 w J μ→Mp w J μ args vs→Calls P f vs w fun e w'=>∃ v vals,e=.returned v∧w'.ownsRow w.heap.size E sz v rows.length vals∧Below w.heap.size w w'∧gR w J μ rows sz vals) :
  PC P f args J (fun r J'=>r=.own J.length 0∧J'=J++[.row E sz by' 0 false rows]):=by
 intro B w0 w μ vs hS hv;refine(h B w0 w μ vs hS hv).mono ?_;rintro e w' ⟨v,vals,rfl,bT,hb,hR⟩
 have hn:=hS.ov (w':=w') (.row E sz by' 0 false rows) v (nh hb) (fun b WC=>by
   rcases bT.2 with⟨rfl,_⟩ | ⟨g,cap,cur,rfl,hg,_⟩
   ·simp[fR]at WC
   ·simp only[fR,aa]at WC;omega)
  (fun hp=>⟨hT,vals,⟨bT.1,by
   rcases bT.2 with h1 | ⟨g,cap,cur,h1,hg,h2⟩
   ·exact .inl h1
   ·exact .inr ⟨g,cap,cur,h1,bl hS.base hg,h2⟩⟩,hR.dY hp.dY⟩)
 have hr:(J++[.row E sz by' 0 false rows])[J.length]?=some (.row E sz by' 0 false rows):=by simp
 have eu:=VR.lk (w:=w') (μ:=oh μ J.length v) hr;rw[cX]at eu;exact⟨_,v,_,_,rfl,⟨rfl,rfl⟩,hn.1,eu,hn.2.dY⟩
theorem PC.Qk{P:Program}{f:Nat}{args:List V}{J:ae}{E sz by':Nat}{rows:List (List V)}(hT:Ti P E sz by')
  (h:∀ (B:Nat) (w0 w:World) (μ:Mem) (vs:Array Value),fe P B w0 w J μ→Mp w J μ args vs→Calls P f vs w fun e w'=>∃ v vals,e=.returned v∧w'.ownsRow w.heap.size E sz v rows.length vals∧Below w.heap.size w w'∧gR w J μ rows sz vals) :
  PC P f args J (fun r J'=>r=.sl sz rows∧J'=J) :=
 fun B w0 w μ vs hS hv=>PC.fz hS.closed (PC.ofRow hT h) B w0 w μ vs hS hv
end Go.Pm
