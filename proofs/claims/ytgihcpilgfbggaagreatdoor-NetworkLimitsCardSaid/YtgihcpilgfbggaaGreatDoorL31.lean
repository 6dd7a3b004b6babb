/- A part of the proof that for every input the law NetworkLimits returns true and leaves its argument as it was. -/
import Derived.ChangeSlices
import Derived.Test.YtgihcpilgfbggaaGreatDoorL29
set_option linter.all false

namespace Go.Proofs.Tryz
open Go Go.Pm Go.ChangeShapes Go.WideShapes Go.ChangeAt Go.RowKit
end Go.Proofs.Tryz
