/- A part of a proof; the claim's last text says of what. -/
import Derived.WalkKit
import Derived.Test.YtlakkaamfadipaaGreatDoorL18
import Derived.Test.YtlakkaamfadipaaGreatDoorL21
set_option linter.all false

namespace Go.Proofs.Tryz
open Go Go.Pm Go.Bt Go.RowKit
end Go.Proofs.Tryz
