/- A part of the proof that for every input the law NetworkLimits returns true and leaves its argument as it was. -/
import Derived.Test.YtgihcpilgfbggaaGreatDoorL20
import Derived.Test.YtgihcpilgfbggaaGreatDoorL26
set_option linter.all false

namespace Go.Proofs.Tryz
open Go Go.Pm Go.Bt
theorem FD:Ti prog 65 13 184:=kY (by kernel_rfl)
def dY(g:Nat)(sh:Bool)(f:List bc):Ob:=.row 65 13 184 g sh (f.map bc.cells)
end Go.Proofs.Tryz
