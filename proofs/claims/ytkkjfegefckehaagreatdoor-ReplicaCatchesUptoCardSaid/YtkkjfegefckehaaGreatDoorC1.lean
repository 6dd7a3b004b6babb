/- A part of the proof of the statement of the last text of this claim; its conditions stand there. -/
import Derived.Test.YtkkjfegefckehaaGreatDoorB14
set_option linter.all false

namespace Go.Bt
open Go Go.Pm
def xX(v:List Int)(s:bc):Bool:=decide (1≤s.number)&&decide (s.number≤je v s.aS)
end Go.Bt
