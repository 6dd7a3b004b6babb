/- A part of a proof; the claim's last text says of what. -/
import Derived.Test.YtlakkaamfadipaaGreatDoorL39
import Derived.Test.YtlakkaamfadipaaGreatDoorL41
set_option linter.all false

namespace Go.Proofs.Tryz
open Go Go.Pm Go.Bt Go.RowKit Go.Maps Go.Sort Go.Shelf
end Go.Proofs.Tryz
