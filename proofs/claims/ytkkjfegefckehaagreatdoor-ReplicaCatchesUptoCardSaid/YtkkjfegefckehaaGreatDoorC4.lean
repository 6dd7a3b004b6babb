/- A part of the proof of the statement of the last text of this claim; its conditions stand there. -/
import Derived.Test.YtkkjfegefckehaaGreatDoorB27
import Derived.Test.YtkkjfegefckehaaGreatDoorC1
set_option linter.all false

namespace Go.Proofs.Tryz
open Go Go.Pm
set_option maxRecDepth 100000
def p78:bT:=(⟨_,by conv=>lhs;cbv⟩:Nf (bW (aP prog f78) [])).1
theorem c78:aP prog f78=some p78:=by kernel_rfl
def q41:=(⟨_,by conv=>lhs;cbv⟩:Nf (aP prog f41))
def NY:bw:=(⟨_,by conv=>lhs;cbv⟩:Nf (dW q41.1 0 [])).1
def p41:bT:=(fun b0=>(⟨_,by conv=>lhs;cbv⟩:Nf (bW q41.1 [b0])).1) NY
theorem c41:aP prog f41=some p41:=by kernel_rfl
end Go.Proofs.Tryz
namespace Go.Proofs.Tryz
open Go Go.Pm Go.Bt
theorem AH(v:List Int)(s:bc)(σ:ag):PC prog 78 [.sl 1 (v.map bj),.agg s.cells] σ (fun r σ'=>r=.b (xX v s)∧σ'=σ):=by
 refine PC.intro func78 c78 fun aQ cz=>aj ?_;simp only[p78,bc.cells,SS,seval];simp only[W,seval];refine bg rfl (fun _=>iY v s.aS _) rfl ?_;simp only[W,seval];exact aG aQ (.inr rfl) rfl (by simp only[LW]) ⟨rfl,rfl⟩
end Go.Proofs.Tryz
