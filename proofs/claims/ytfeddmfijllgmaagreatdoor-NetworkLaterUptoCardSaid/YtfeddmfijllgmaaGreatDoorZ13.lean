/- Part of a proof. -/
import Derived.Lib.AppendIntMem
import Derived.Lib.ItoaLen
import Derived.Test.YtfeddmfijllgmaaGreatDoorZ7
import Derived.Test.YtfeddmfijllgmaaGreatDoorZ9
set_option linter.all false
namespace Go.Proofs.Tryz
open Go Go.Pm
def tI:Ti prog 3 1 8:=ng (by kernel_rfl)
end Go.Proofs.Tryz
namespace Go.Pm
open Go Go.RowKit
variable{J:ai}{w:bF}
def mo{a:bF}(h:Below w.heap.size w a):w.grownBy a none:=⟨h.os,h.tape,h.output,h.size,λk b _=>h.block k b⟩
def Np(w:bF)(k:Nat)(os:Array Obj):w.grownBy (Sort.grow (w.drewN k) os) none:=mo (Lib.below_grow w.heap.size w (aB _) k os)
def PC.aad{P:bl}{f:Nat}{a:ar}{v:V}(h:∀(B:Nat) (g w:bF) (b:Mem) (d:Array Value),Ae P B g w->VRs w J b a d->∃u,Calls P f d w (λe c=>e=.returned u/\w.grownBy c none)/\∀c,VR c J b v u):
  PC P f a J (λr m=>r=v/\m=J):=by intro B g w b d j n;obtain⟨u,o,k⟩:=h B g w b d j.below n;refine o.mono ?_;rintro e c ⟨rfl,l⟩;have i:=j.grown l;exact⟨v,u,J,b,rfl,⟨rfl,rfl⟩,i.1,k c,i.2.dX⟩
def afo{a:Mem}(n:Int)(h0 : -9223372036854775808<=n)(h1:n<=9223372036854775807):VR w J a (.s (Lib.itoa n)) (.string ⟨(Lib.itoa n).toArray⟩) := .s _ _ (by simp) (cE (Lib.itoa_length_le n h0 h1) (by simp[maxLen]))
def WH:F1=Lib.pow10Tab:=by decide
