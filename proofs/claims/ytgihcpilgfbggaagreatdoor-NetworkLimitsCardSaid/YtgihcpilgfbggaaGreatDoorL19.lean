/- A part of the proof that for every input the law NetworkLimits returns true and leaves its argument as it was. -/
import Derived.Lib.AppendIntMem
import Derived.Lib.ItoaLen
import Derived.Test.YtgihcpilgfbggaaGreatDoorL14
set_option linter.all false

namespace Go.Pm
open Go Go.RowKit
theorem lf{w w':World}(h:Below w.heap.size w w'):w.grownBy w' none:=⟨h.os,h.tape,h.output,h.size,fun k hk _=>h.block k hk⟩
theorem CG(w:World)(k:Nat)(os:Array Obj):w.grownBy (Sort.grow (w.drewN k) os) none:=lf (Lib.below_grow w.heap.size w (aw _) k os)
theorem PC.RK{P:Program}{f:Nat}{args:List V}{σ:ah}{v:V}(h:∀ (B:Nat) (w0 w:World) (μ:Mem) (vs:Array Value),sd P B w0 w→Qw w σ μ args vs→∃ u,Calls P f vs w (fun e w'=>e=.returned u∧w.grownBy w' none)∧∀ w',VR w' σ μ v u):
  PC P f args σ (fun r σ'=>r=v∧σ'=σ):=by
 intro B w0 w μ vs hS hv;obtain⟨u,h1,h2⟩:=h B w0 w μ vs hS.below hv;refine h1.mono ?_;rintro e w' ⟨rfl,hg⟩;have hp:=hS.grown hg;exact⟨v,u,σ,μ,rfl,⟨rfl,rfl⟩,hp.1,h2 w',hp.2.eO⟩
theorem Pk{w:World}{σ:ah}{μ:Mem}(n:Int)(h0 : -9223372036854775808≤n)(h1:n≤9223372036854775807):VR w σ μ (.s (Lib.itoa n)) (.string ⟨(Lib.itoa n).toArray⟩) :=
 .s _ _ (by simp) (bF (Lib.itoa_length_le n h0 h1) (by simp[maxLen]))
theorem I6:xa=Lib.pow10Tab:=by decide
end Go.Pm
