/- A part of a proof; the claim's last text says of what. -/
import Derived.Test.YtlakkaamfadipaaGreatDoorL34
import Derived.Test.YtlakkaamfadipaaGreatDoorL36
set_option linter.all false

namespace Go.Proofs.Tryz
open Go Go.Pm Go.Bt
structure O2 (e:En) (l:List Pn) (q:Qr):Prop where
 sc:IL e l q
 e1:e.aeq.length≤1048576
 e2:bP e.aeq≤1048576
 q1:q.aeq.length≤1048576
 q2:bP q.aeq≤1048576
theorem O2.te{e:En}{l:List Pn}{q:Qr}(h:O2 e l q):(cd e.aeq).length<2^27:=by
 have:=qX e.aeq;have:=h.e1;have:=h.e2;omega
theorem O2.tq{e:En}{l:List Pn}{q:Qr}(h:O2 e l q):(cd q.aeq).length<2^27:=by
 have:=qX q.aeq;have:=h.q1;have:=h.q2;omega
end Go.Proofs.Tryz
