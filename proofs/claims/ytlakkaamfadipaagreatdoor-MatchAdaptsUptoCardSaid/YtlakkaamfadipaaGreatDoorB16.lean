/- A part of a proof; the claim's last text says of what. -/
import Derived.Lib.AppendIntMem
import Derived.Lib.ItoaLen
import Derived.Test.YtlakkaamfadipaaGreatDoorB11
set_option linter.all false

namespace Go.Pm
open Go Go.RowKit
def yv{w w':bD}(h:Below w.heap.size w w'):w.grownBy w' none:=⟨h.os,h.tape,h.output,h.size,λk a _=>h.block k a⟩
def OP(w:bD)(k:Nat)(os:Array Obj):w.grownBy (Sort.grow (w.drewN k) os) none:=yv (Lib.below_grow w.heap.size w (aD _) k os)
def PC.Tn{P:bo}{f:Nat}{args:aB}{J:ak}{v:V}(h:∀(B:Nat) (w0 w:bD) (μ:Mem) (a:Array Value),C7 P B w0 w->VRs w J μ args a->∃u,Calls P f a w (λe w'=>e=.returned u/\w.grownBy w' none)/\∀w',VR w' J μ v u):
  PC P f args J (λr J'=>r=v/\J'=J):=by
 intro B w0 w μ a c i;obtain⟨u,j,d⟩:=h B w0 w μ a c.below i;refine j.mono ?_;rintro e w' ⟨rfl,g⟩;have b:=c.grown g;exact⟨v,u,J,μ,rfl,⟨rfl,rfl⟩,b.1,d w',b.2.jF⟩
def aeh{w:bD}{J:ak}{μ:Mem}(n:Int)(h0 : -9223372036854775808<=n)(h1:n<=9223372036854775807):VR w J μ (.s (Lib.itoa n)) (.string ⟨(Lib.itoa n).toArray⟩) :=
 .s _ _ (by simp) (cu (Lib.itoa_length_le n h0 h1) (by simp[maxLen]))
def W8:IY=Lib.pow10Tab:=by decide
end Go.Pm
