/- A part of the proof of the statement of the last text of this claim; its conditions stand there. -/
import Derived.ChangeSlices
import Derived.Test.YtkkjfegefckehaaGreatDoorB29
set_option linter.all false

namespace Go.Proofs.Tryz
open Go Go.Pm Go.ChangeShapes Go.WideShapes Go.ChangeAt Go.RowKit
theorem mK{a:Option Addr}{len cap:Nat}:(Value.slice a len cap).cells.toList=[Value.slice a len cap]:=by
 simp[Value.cells]
theorem wE{μ:Mem}{b off:Nat}:¬ wr [] μ b off:=by
 rintro⟨id,o,h,_⟩;simp at h
end Go.Proofs.Tryz
