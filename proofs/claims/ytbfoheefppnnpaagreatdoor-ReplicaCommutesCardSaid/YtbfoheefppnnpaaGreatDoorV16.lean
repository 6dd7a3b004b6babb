/- A part of the proof of the statement of the last text of this claim: for every two lists of integers ReplicaCommutes returns true and leaves the memory as it was. -/
import Derived.Lib.AppendIntMem
import Derived.Lib.ItoaLen
import Derived.Test.YtbfoheefppnnpaaGreatDoorV12
set_option linter.all false

namespace Go.Pm
open Go Go.RowKit
theorem grownBy_of_below {w w':World} (h:Below w.heap.size w w'):w.grownBy w' none:=⟨h.os,h.tape,h.output,h.size,fun k hk _=>h.block k hk⟩
theorem grownBy_grow (w:World) (k:Nat) (os:Array Obj):w.grownBy (Sort.grow (w.drewN k) os) none:=grownBy_of_below (Lib.below_grow w.heap.size w (Nat.le_refl _) k os)
theorem PC.ofGrow {P:Program} {f:Nat} {args:List V} {σ:Store} {v:V} (h:∀ (B:Nat) (w0 w:World) (μ:Mem) (vs:Array Value),BelowL P B w0 w→VRs w σ μ args vs→∃ u,Calls P f vs w (fun e w'=>e=.returned u∧w.grownBy w' none)∧∀ w',VR w' σ μ v u) :
  PC P f args σ (fun r σ'=>r=v∧σ'=σ):=by
 intro B w0 w μ vs hS hv
 obtain ⟨u,h1,h2⟩:=h B w0 w μ vs hS.below hv
 refine h1.mono ?_
 rintro e w' ⟨rfl,hg⟩
 have hp:=hS.grown hg
 exact ⟨v,u,σ,μ,rfl,⟨rfl,rfl⟩,hp.1,h2 w',hp.2.keep⟩
theorem itoa_VR {w:World} {σ:Store} {μ:Mem} (n:Int) (h0 : -9223372036854775808≤n) (h1:n≤9223372036854775807):VR w σ μ (.s (Lib.itoa n)) (.string ⟨(Lib.itoa n).toArray⟩) :=
 .s _ _ (by simp) (Nat.le_trans (Lib.itoa_length_le n h0 h1) (by simp [maxLen]))
theorem pow10s_eq:pow10s=Lib.pow10Tab:=by decide
end Go.Pm
