/- A part of the proof of the statement of the last text of this claim; its conditions stand there. -/
import Derived.Test.YtkkjfegefckehaaGreatDoorB17
set_option linter.all false

namespace Go.Proofs.Tryz
open Go Go.Pm
set_option maxRecDepth 100000
def q10:=(⟨_,by conv=>lhs;cbv⟩:Nf (aP prog f10))
def J4:bw:=(⟨_,by conv=>lhs;cbv⟩:Nf (dW q10.1 0 [])).1
def p10:bT:=(fun b0=>(⟨_,by conv=>lhs;cbv⟩:Nf (bW q10.1 [b0])).1) J4
theorem zF:aP prog f10=some p10:=by kernel_rfl
def p3:bT:=(⟨_,by conv=>lhs;cbv⟩:Nf (bW (aP prog f3) [])).1
theorem c3:aP prog f3=some p3:=by kernel_rfl
end Go.Proofs.Tryz
