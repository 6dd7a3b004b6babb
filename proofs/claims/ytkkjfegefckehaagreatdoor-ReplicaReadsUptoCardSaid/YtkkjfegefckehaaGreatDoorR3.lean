/- A part of the proof of the statement of the last text of this claim; its conditions stand there. -/
import Derived.Test.YtkkjfegefckehaaGreatDoorR1
import Derived.Test.YtkkjfegefckehaaGreatDoorB21
set_option linter.all false

namespace Go.Bt
open Go Go.Pm
def gw(l:List aJ)(v:List Int):List aJ:=l.filter fun x=>!xX v x.aA
theorem kZ:cw eY=1:=by decide +kernel
theorem kT:eY.small:=⟨⟨by decide,by decide,by decide,by decide,by decide,by decide,fun x hx=>by cases hx⟩,by decide,by decide,by decide⟩
end Go.Bt
