/- A part of the proof of the statement of the last text of this claim; its conditions stand there. -/
import Derived.Lib.AppendIntMem
import Derived.Lib.ItoaLen
import Derived.Test.YtkkjfegefckehaaGreatDoorB13
set_option linter.all false

namespace Go.Pm
open Go Go.RowKit
theorem kI{w w':World}(h:Below w.heap.size w w'):w.grownBy w' none:=⟨h.os,h.tape,h.output,h.size,fun k hk _=>h.block k hk⟩
theorem Is(w:World)(k:Nat)(os:Array Obj):w.grownBy (Sort.grow (w.drewN k) os) none:=kI (Lib.below_grow w.heap.size w (aB _) k os)
theorem PC.Sk{P:Program}{f:Nat}{args:List V}{σ:ag}{v:V}(h:∀ (B:Nat) (w0 w:World) (μ:Mem) (vs:Array Value),yc P B w0 w→Yh w σ μ args vs→∃ u,Calls P f vs w (fun e w'=>e=.returned u∧w.grownBy w' none)∧∀ w',VR w' σ μ v u):
  PC P f args σ (fun r σ'=>r=v∧σ'=σ):=by
 intro B w0 w μ vs hS hv;obtain⟨u,h1,h2⟩:=h B w0 w μ vs hS.below hv;refine h1.mono ?_;rintro e w' ⟨rfl,hg⟩;have hp:=hS.grown hg;exact⟨v,u,σ,μ,rfl,⟨rfl,rfl⟩,hp.1,h2 w',hp.2.bY⟩
theorem Wh{w:World}{σ:ag}{μ:Mem}(n:Int)(h0 : -9223372036854775808≤n)(h1:n≤9223372036854775807):VR w σ μ (.s (Lib.itoa n)) (.string ⟨(Lib.itoa n).toArray⟩) :=
 .s _ _ (by simp) (bZ (Lib.itoa_length_le n h0 h1) (by simp[maxLen]))
theorem Pu:CO=Lib.pow10Tab:=by decide
end Go.Pm
