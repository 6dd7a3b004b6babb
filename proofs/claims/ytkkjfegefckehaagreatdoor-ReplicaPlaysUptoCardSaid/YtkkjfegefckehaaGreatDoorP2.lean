/- A part of the proof of the statement of the last text of this claim; its conditions stand there. -/
import Derived.Test.YtkkjfegefckehaaGreatDoorB20
set_option linter.all false

namespace Go.Bt
open Go Go.Pm
def AX(o:aJ):Nat:=o.entry.source.length+o.entry.target.length+o.entry.bS.length+o.entry.next.length+o.seen.length+aM o.entry.source+aM o.entry.target
theorem Kh{s:List UInt8}(h:isName s=true∨s=[]):s.length≤24:=by
 rcases h with h | rfl
 ·unfold isName at h;split at h
  ·simp at h
  ·simp only[aC,decide_eq_true_eq]at h;exact h.1.1
 ·simp
theorem AU{f:List It}(h:bO f=0):bt [] f=0:=by
 simp only[bO]at h;split at h
 ·simp at h
 ·exact h
theorem RF{o:aJ}(h:cw o=0)(hs:AX o<300):(bX o).length≤20000:=by
 have F:=mi h;have Ig:=F.GK;simp only[AX]at hs
 have u0:∀ l:List Int,(l.flatMap qu).length=2*l.length:=by
  intro l
  induction l with
  | nil=>rfl
  | cons a r ih=>simp only[cZ,List.length_append,eu,ih,ab];omega
 have rk:(looked o).source=o.entry.source:=by unfold looked;split<;>rfl
 have hl:=F.looked;have h1:=zu (AU (ny hl).source);rw[rk]at h1
 have h7:o.kind=1→(format o.entry.target).1.length≤4*aM o.entry.target+30*o.entry.target.length∧o.entry.cQ.length≤24∧o.entry.cn.length≤24:=by
  intro hk;have e:looked o=o.entry:=by simp[looked,hk]
  rw[e]at hl;exact⟨zu (AU (ny hl).target),Kh (ny hl).cQ,Kh (ny hl).cn⟩
 simp only[bX,de,List.length_append,dF,eu,ab,ah,u0];split
 ·have:=h7 (by assumption);simp only[List.length_append,dF,ab,ah];omega
 ·simp only[ah];omega
end Go.Bt
