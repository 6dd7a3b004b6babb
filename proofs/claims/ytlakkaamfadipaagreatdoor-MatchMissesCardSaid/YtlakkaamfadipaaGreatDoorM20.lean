/- A part of a proof; the claim's last text says of what. -/
import Derived.Lib.AppendIntMem
import Derived.Lib.ItoaLen
import Derived.Test.YtlakkaamfadipaaGreatDoorM15
set_option linter.all false

namespace Go.Pm
open Go Go.RowKit
variable{w:aT}{J:ag}
def qL{a:aT}(h:Below w.heap.size w a):w.grownBy a none:=⟨h.os,h.tape,h.output,h.size,λk b _=>h.block k b⟩
def GM(w:aT)(k:Nat)(os:Array Obj):w.grownBy (Sort.grow (w.drewN k) os) none:=qL (Lib.below_grow w.heap.size w (ax _) k os)
def PC.KT{P:aM}{f:Nat}{a:ao}{v:V}(h:∀(B:Nat) (g w:aT) (b:Mem) (d:Array Value),vw P B g w->Uw w J b a d->∃u,Calls P f d w (λe c=>e=.returned u/\w.grownBy c none)/\∀c,VR c J b v u):
  PC P f a J (λr m=>r=v/\m=J):=by intro B g w b d j n;obtain⟨u,o,k⟩:=h B g w b d j.below n;refine o.mono ?_;rintro e c ⟨rfl,l⟩;have i:=j.grown l;exact⟨v,u,J,b,rfl,⟨rfl,rfl⟩,i.1,k c,i.2.fU⟩
def VZ{a:Mem}(n:Int)(h0 : -9223372036854775808<=n)(h1:n<=9223372036854775807):VR w J a (.s (Lib.itoa n)) (.string ⟨(Lib.itoa n).toArray⟩) := .s _ _ (by simp) (bX (Lib.itoa_length_le n h0 h1) (by simp[maxLen]))
def OH:Bk=Lib.pow10Tab:=by decide
end Go.Pm
