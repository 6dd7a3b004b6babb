/- A part of the proof of the statement of the last text of this claim; its conditions stand there. -/
import Derived.Test.YtkkjfegefckehaaGreatDoorB21
set_option linter.all false

namespace Go.Bt
open Go Go.Pm
def o5(l:List aJ)(s:bc):List aJ:=l.filter fun x=>x.aA.aS==s.aS&&x.aA.number==s.number
theorem J9:∀ {l:List aJ},(l.Pairwise fun a b=>da a b≠0)→∀ {x:aJ},x∈l→o5 l x.aA=[x]
 | [],_,x,hx=>by simp at hx
 | y::r,h,x,hx=>by
  rw[ck]at h
  by_cases hy:y.aA.aS=x.aA.aS∧y.aA.number=x.aA.number
  ·have hyx:y=x:=by
    rcases aU.1 hx with e | hx
    ·exact e.symm
    ·exact absurd (ja.2 hy) (h.1 x hx)
   subst hyx
   have hr:o5 r y.aA=[]:=List.filter_eq_nil_iff.2 fun z hz hc=>by
    simp only[aC,beq_iff_eq]at hc;exact h.1 z hz (ja.2 ⟨hc.1.symm,hc.2.symm⟩)
   rw[o5,kf (by simp),← o5,hr]
  ·have hx:x∈r:=by
    rcases aU.1 hx with e | hx
    ·exact absurd ⟨by rw[e],by rw[e]⟩ hy
    ·exact hx
   rw[o5,mf (by simpa using hy),← o5];exact J9 h.2 hx
theorem zZ{arr:List aJ}(h:arr.Pairwise fun a b=>da a b≠0):(dz arr).Pairwise fun a b=>da a b≠0 :=
 (nS h).imp fun {a b} tD=>by omega
theorem kZ:cw eY=1:=by decide +kernel
theorem kT:eY.small:=⟨⟨by decide,by decide,by decide,by decide,by decide,by decide,fun x hx=>by cases hx⟩,by decide,by decide,by decide⟩
end Go.Bt
