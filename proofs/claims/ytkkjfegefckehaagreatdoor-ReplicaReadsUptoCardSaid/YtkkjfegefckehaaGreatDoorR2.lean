/- A part of the proof of the statement of the last text of this claim; its conditions stand there. -/
import Derived.Test.YtkkjfegefckehaaGreatDoorB16
import Derived.Test.YtkkjfegefckehaaGreatDoorB17
set_option linter.all false

namespace Go.Proofs.Tryz
open Go Go.Pm
set_option maxRecDepth 100000
def p80:bT:=(⟨_,by conv=>lhs;cbv⟩:Nf (bW (aP prog f80) [])).1
theorem c80:aP prog f80=some p80:=by kernel_rfl
def q40:=(⟨_,by conv=>lhs;cbv⟩:Nf (aP prog f40))
def NZ:bw:=(⟨_,by conv=>lhs;cbv⟩:Nf (dW q40.1 0 [])).1
def p40:bT:=(fun b0=>(⟨_,by conv=>lhs;cbv⟩:Nf (bW q40.1 [b0])).1) NZ
theorem c40:aP prog f40=some p40:=by kernel_rfl
def p38:bT:=(⟨_,by conv=>lhs;cbv⟩:Nf (bW (aP prog f38) [])).1
theorem c38:aP prog f38=some p38:=by kernel_rfl
def q39:=(⟨_,by conv=>lhs;cbv⟩:Nf (aP prog f39))
def yQ:bw:=(⟨_,by conv=>lhs;cbv⟩:Nf (dW q39.1 0 [])).1
def p39:bT:=(fun b0=>(⟨_,by conv=>lhs;cbv⟩:Nf (bW q39.1 [b0])).1) yQ
theorem c39:aP prog f39=some p39:=by kernel_rfl
def q7:=(⟨_,by conv=>lhs;cbv⟩:Nf (aP prog f7))
def Vd:bw:=(⟨_,by conv=>lhs;cbv⟩:Nf (dW q7.1 0 [])).1
def p7:bT:=(fun b0=>(⟨_,by conv=>lhs;cbv⟩:Nf (bW q7.1 [b0])).1) Vd
theorem c7:aP prog f7=some p7:=by kernel_rfl
end Go.Proofs.Tryz
