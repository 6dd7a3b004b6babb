/- A part of a proof; the claim's last text says of what. -/
import Derived.Lib.AppendIntMem
import Derived.Lib.ItoaLen
import Derived.Test.YtlakkaamfadipaaGreatDoorL16
set_option linter.all false

namespace Go.Pm
open Go Go.RowKit
theorem nh{w w':World}(h:Below w.heap.size w w'):w.grownBy w' none:=⟨h.os,h.tape,h.output,h.size,fun k hk _=>h.block k hk⟩
theorem AW(w:World)(k:Nat)(os:Array Obj):w.grownBy (Sort.grow (w.drewN k) os) none:=nh (Lib.below_grow w.heap.size w (aq _) k os)
theorem PC.JZ{P:Program}{f:Nat}{args:List V}{J:ae}{v:V}(h:∀ (B:Nat) (w0 w:World) (μ:Mem) (vs:Array Value),qK P B w0 w→Mp w J μ args vs→∃ u,Calls P f vs w (fun e w'=>e=.returned u∧w.grownBy w' none)∧∀ w',VR w' J μ v u):
  PC P f args J (fun r J'=>r=v∧J'=J):=by
 intro B w0 w μ vs hS hv;obtain⟨u,h1,h2⟩:=h B w0 w μ vs hS.below hv;refine h1.mono ?_;rintro e w' ⟨rfl,hg⟩;have hp:=hS.grown hg;exact⟨v,u,J,μ,rfl,⟨rfl,rfl⟩,hp.1,h2 w',hp.2.dY⟩
theorem ND{w:World}{J:ae}{μ:Mem}(n:Int)(h0 : -9223372036854775808≤n)(h1:n≤9223372036854775807):VR w J μ (.s (Lib.itoa n)) (.string ⟨(Lib.itoa n).toArray⟩) :=
 .s _ _ (by simp) (bl (Lib.itoa_length_le n h0 h1) (by simp[maxLen]))
theorem Hv:vV=Lib.pow10Tab:=by decide
end Go.Pm
