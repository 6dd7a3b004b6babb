/- A part of the proof of the statement of the last text of this claim; its conditions stand there. -/
import Derived.Test.YtkkjfegefckehaaGreatDoorR1
import Derived.Test.YtkkjfegefckehaaGreatDoorB23
import Derived.Test.YtkkjfegefckehaaGreatDoorR2
set_option linter.all false

namespace Go.Proofs.Tryz
open Go Go.Pm Go.Bt
theorem G4(v:List Int)(s:bc)(σ:ag):PC prog 80 [.sl 1 (v.map bj),.agg s.cells] σ (fun r σ'=>r=.b (xX v s)∧σ'=σ):=by
 refine PC.intro func80 c80 fun aQ cz=>aj ?_;simp only[p80,SS,seval];simp only[bc.cells,VV,seval];refine bg (by simp only[VV,seval]<;>rfl) (fun _=>uw v s.aS _) rfl ?_;simp only[VV,seval];exact aG aQ (.inr rfl) (by simp only[RS,seval];rfl) (by simp only[LW]) ⟨rfl,rfl⟩
end Go.Proofs.Tryz
