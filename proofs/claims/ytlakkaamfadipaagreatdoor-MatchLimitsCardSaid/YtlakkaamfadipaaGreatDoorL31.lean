/- A part of a proof; the claim's last text says of what. -/
import Derived.ChangeSlices
import Derived.Test.YtlakkaamfadipaaGreatDoorL30
set_option linter.all false

namespace Go.Proofs.Tryz
open Go Go.Pm Go.ChangeShapes Go.WideShapes Go.ChangeAt Go.RowKit
end Go.Proofs.Tryz
