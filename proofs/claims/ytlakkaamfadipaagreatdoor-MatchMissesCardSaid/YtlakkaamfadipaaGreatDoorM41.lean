/- A part of a proof; the claim's last text says of what. -/
import Derived.Test.YtlakkaamfadipaaGreatDoorM36
import Derived.Test.YtlakkaamfadipaaGreatDoorM37
set_option linter.all false

namespace Go.Proofs.Tryz
open Go Go.Pm Go.Bt
variable{X:List Pn}{U:Qr}
structure JT (e:En) (l:List Pn) (q:Qr):Prop where
 sc:L6 e l q
 e1:e.ao2.length<=1048576
 e2:aR e.ao2<=1048576
 q1:q.ao2.length<=1048576
 q2:aR q.ao2<=1048576
def JT.te{e:En}(h:JT e X U):(cR e.ao2).length<2^27:=by have:=vO e.ao2;have:=h.e1;have:=h.e2;omega
def JT.tq{e:En}(h:JT e X U):(cR U.ao2).length<2^27:=by have:=vO U.ao2;have:=h.q1;have:=h.q2;omega
def H4{e:En}(h:JT e X U)(J:ag):bO prog 21 [.agg e.aoZ,.sl 5 (X.map Pn.aoZ),.agg U.aoZ] J (.agg (oH e X U).aoZ) :=
 H5 e X U h.sc (by have:=h.e1;omega) (by have:=h.e2;omega) (by have:=h.q1;omega) (by have:=h.q2;omega) h.te h.tq J
def WH{e:En}{k:Nat}(f:k<=20)(h:pd k e)(c:∀p∈X,CS p)(i:X.length<=20)(b:QrB U):JT e X U:=by
 have g:=h.kt;have l:=h.iY;have m:=b.kt;have d:=b.iY;have E:=(oV h.ok).ao9;have Q:=b.ok;unfold fb at Q;have j:0<=U.now/\U.now<=1073741824:=by(repeat' split at Q)<;>omega
 exact⟨⟨by omega,by omega,by omega,λp a=>by have:=(c p a).fw;omega⟩,by omega,by omega,by omega,by omega⟩
end Go.Proofs.Tryz
