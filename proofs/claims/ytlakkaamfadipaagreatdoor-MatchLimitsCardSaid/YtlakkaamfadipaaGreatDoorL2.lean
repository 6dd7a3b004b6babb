/- A part of a proof; the claim's last text says of what. -/
import Derived.Shelf.SlLaysE0
import Derived.Ground.SlgnProg
import Derived.Test.YtlakkaamfadipaaGreatDoorProg
set_option linter.all false

namespace Go.Proofs
open Go.Shelf
end Go.Proofs
