/- A part of the proof of the statement of the last text of this claim; its conditions stand there. -/
import Derived.Test.YtkkjfegefckehaaGreatDoorB38
set_option linter.all false

namespace Go.Proofs.Tryz
open Go Go.Pm Go.Bt
theorem Xb(l:List Int)(σ:ag):PC prog 21 [.sl 1 (l.map bj)] σ (fun r σ'=>r=.ptr σ.length 0∧σ'=σ++[.box 79 [.sl 1 (l.map bj),.i .i64 ((0:Nat):Int)]]):=by
 refine PC.intro func21 c21 fun aQ cz=>aj ?_;simp only[p21,SS,seval];simp only[VV,seval];exact ed (.inr rfl) rfl (Wk.refl _ _) rfl ⟨rfl,rfl⟩
end Go.Proofs.Tryz
