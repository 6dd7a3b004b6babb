/- A part of a proof; the claim's last text says of what. -/
import Derived.Deep.Slices
import Derived.Deep.Strs
import Derived.Test.YtlakkaamfadipaaGreatDoorL21
import Derived.Test.YtlakkaamfadipaaGreatDoorL31
set_option linter.all false

namespace Go.Proofs.Tryz
open Go Go.Pm Go.Bt Go.ChangeShapes Go.WideShapes Go.ChangeAt Go.RowKit Go.Proofs.YtlakkaamfadipaaGreatDoor
section
variable {H:Type} {enc:TypeId×Value→H} {W:World} {base:Nat} {held:Bool} (μ:Mem)
structure ItC (cs:List Value) (y:Int×ByteArray×Int) (B:Nat):Prop where
 aen:cs=[.int .i64 y.1,.string y.2.1,.int .i64 y.2.2]
 size:y.2.1.size≤maxLen
 id : -9223372036854775808≤y.2.2∧y.2.2≤9223372036854775807
 adF:y.2.1.size+1≤B
def Reads(W:World)(μ:Mem)(xs:List V)(cs:List Value):Prop:=xs.length=cs.length∧∀ (i:Nat) (x:V) (v:Value),xs[i]?=some x→cs[i]?=some v→VR W [] μ x v
theorem Reads.nil:Reads W μ [] []:=⟨rfl,by simp⟩
theorem Reads.cons{x:V}{v:Value}{xs:List V}{cs:List Value}(h:VR W [] μ x v)(t:Reads W μ xs cs):Reads W μ (x::xs) (v::cs):=by
 refine⟨by simp[t.1],fun i y u hy hu=>?_⟩;cases i with
 | zero=>simp only[au,aa]at hy hu;subst hy;subst hu;exact h
 | succ i=>exact t.2 i y u (by simpa using hy) (by simpa using hu)
theorem drop_take{α:Type}{a b c d e f g h:α}:([a,b,c,d,e,f,g,h].drop 0).take 1=[a]∧([a,b,c,d,e,f,g,h].drop 1).take 1=[b]∧([a,b,c,d,e,f,g,h].drop 2).take 1=[c]∧([a,b,c,d,e,f,g,h].drop 3).take 1=[d] ∧
  ([a,b,c,d,e,f,g,h].drop 4).take 1=[e]∧([a,b,c,d,e,f,g,h].drop 5).take 1=[f]∧([a,b,c,d,e,f,g,h].drop 6).take 1=[g]∧([a,b,c,d,e,f,g,h].drop 7).take 1=[h]:=⟨rfl,rfl,rfl,rfl,rfl,rfl,rfl,rfl⟩
end
structure abv (q:Qr):Prop where
 aeq:q.aeq.length+bP q.aeq≤1048576
 bV:q.bV.length≤1048576
 next:q.next.length≤1048576
 now : -9223372036854775808≤q.now∧q.now≤9223372036854775807
structure aby (e:En):Prop where
 aeq:e.aeq.length+bP e.aeq≤1048576
 aex:e.aex.length+bP e.aex≤1048576
 bV:e.bV.length≤1048576
 next:e.next.length≤1048576
 cC:e.cC.length≤1048576
 bU:e.bU.length≤1048576
 ids:∀ y∈e.aeq++e.aex,-9223372036854775808≤y.id∧y.id≤9223372036854775807
 aey : -9223372036854775808≤e.aey∧e.aey≤9223372036854775807
end Go.Proofs.Tryz
