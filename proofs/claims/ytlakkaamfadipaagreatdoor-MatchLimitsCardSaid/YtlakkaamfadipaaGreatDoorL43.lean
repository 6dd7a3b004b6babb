/- A part of a proof; the claim's last text says of what. -/
import Derived.Test.YtlakkaamfadipaaGreatDoorL26
import Derived.Test.YtlakkaamfadipaaGreatDoorL41
set_option linter.all false

namespace Go.Proofs.Tryz
open Go Go.Pm Go.Bt
end Go.Proofs.Tryz
