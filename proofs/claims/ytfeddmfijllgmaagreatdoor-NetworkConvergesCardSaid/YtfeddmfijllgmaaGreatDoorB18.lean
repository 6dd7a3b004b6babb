/- A part of a proof; the claim's last text says of what. -/
import Derived.Lib.AppendIntMem
import Derived.Lib.ItoaLen
import Derived.Test.YtfeddmfijllgmaaGreatDoorB11
set_option linter.all false

namespace Go.Proofs.Tryz
open Go Go.Pm
def tI:Ti prog 3 1 8:=o8 (by kernel_rfl)
end Go.Proofs.Tryz
namespace Go.Pm
open Go Go.RowKit
variable{J:aj}{w:bQ}
def om{a:bQ}(h:Below w.heap.size w a):w.grownBy a none:=⟨h.os,h.tape,h.output,h.size,λk b _=>h.block k b⟩
def Qd(w:bQ)(k:Nat)(os:Array Obj):w.grownBy (Sort.grow (w.drewN k) os) none:=om (Lib.below_grow w.heap.size w (aM _) k os)
def PC.acq{P:bG}{f:Nat}{a:aB}{v:V}(h:∀(B:Nat) (g w:bQ) (b:Mem) (d:Array Value),Dd P B g w->VRs w J b a d->∃u,Calls P f d w (λe c=>e=.returned u/\w.grownBy c none)/\∀c,VR c J b v u):
  PC P f a J (λr m=>r=v/\m=J):=by intro B g w b d i l;obtain⟨u,k,n⟩:=h B g w b d i.below l;refine k.mono ?_;rintro e c ⟨rfl,o⟩;have j:=i.grown o;exact⟨v,u,J,b,rfl,⟨rfl,rfl⟩,j.1,n c,j.2.eY⟩
def ahj{a:Mem}(n:Int)(h0 : -9223372036854775808<=n)(h1:n<=9223372036854775807):VR w J a (.s (Lib.itoa n)) (.string ⟨(Lib.itoa n).toArray⟩) := .s _ _ (by simp) (cE (Lib.itoa_length_le n h0 h1) (by simp[maxLen]))
def YX:I5=Lib.pow10Tab:=by decide
end Go.Pm
