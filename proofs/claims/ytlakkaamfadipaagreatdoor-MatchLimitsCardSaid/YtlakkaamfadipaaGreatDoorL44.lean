/- A part of a proof; the claim's last text says of what. -/
import Derived.Test.YtlakkaamfadipaaGreatDoorL24
import Derived.Test.YtlakkaamfadipaaGreatDoorL42
import Derived.Test.YtlakkaamfadipaaGreatDoorL43
set_option linter.all false

namespace Go.Proofs.Tryz
open Go Go.Pm Go.Bt
theorem Cv.Bd{xs ys:List V}(h:qJ xs ys):Cv (.agg xs) (.agg ys):=.agg _ _ h.at.1 (fun i x y hx hy=>h.at.2 i x y hx hy)
end Go.Proofs.Tryz
