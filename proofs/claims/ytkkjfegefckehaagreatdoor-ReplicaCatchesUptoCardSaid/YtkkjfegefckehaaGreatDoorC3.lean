/- A part of the proof of the statement of the last text of this claim; its conditions stand there. -/
import Derived.Test.YtkkjfegefckehaaGreatDoorC1
import Derived.Test.YtkkjfegefckehaaGreatDoorB21
set_option linter.all false

namespace Go.Bt
open Go Go.Pm
theorem zZ{arr:List aJ}(h:arr.Pairwise fun a b=>da a b≠0):(dz arr).Pairwise fun a b=>da a b≠0 :=
 (nS h).imp fun {a b} tD=>by omega
def gw(l:List aJ)(v:List Int):List aJ:=l.filter fun x=>!xX v x.aA
theorem kZ:cw eY=1:=by decide +kernel
theorem kT:eY.small:=⟨⟨by decide,by decide,by decide,by decide,by decide,by decide,fun x hx=>by cases hx⟩,by decide,by decide,by decide⟩
end Go.Bt
