/- A part of a proof; the claim's last text says of what. -/
import Derived.Deep.Slices
import Derived.Deep.Strs
import Derived.Test.YtlakkaamfadipaaGreatDoorM21
import Derived.Test.YtlakkaamfadipaaGreatDoorM32
set_option linter.all false

namespace Go.Proofs.Tryz
open Go Go.Pm Go.Bt Go.ChangeShapes Go.WideShapes Go.ChangeAt Go.RowKit Go.Proofs.YtlakkaamfadipaaGreatDoor
section
variable {H:Type} {enc:TypeId×Value->H} {W:aT} {base:Nat} {held:Bool} (μ:Mem)
structure ItC (cs:List Value) (y:Int×ByteArray×Int) (B:Nat):Prop where
 aoZ:cs=[.int .i64 y.1,.string y.2.1,.int .i64 y.2.2]
 size:y.2.1.size<=maxLen
 id : -9223372036854775808<=y.2.2/\y.2.2<=9223372036854775807
 aok:y.2.1.size+1<=B
def Reads(W:aT)(μ:Mem)(a:ao)(b:List Value):Prop:=a.length=b.length/\∀(i:Nat) (x:V) (v:Value),a[i]?=some x->b[i]?=some v->VR W [] μ x v
def Reads.nil:Reads W μ [] []:=⟨rfl,by simp⟩
def Reads.cons{x:V}{v:Value}{d:ao}{c:List Value}(h:VR W [] μ x v)(t:Reads W μ d c):Reads W μ (x::d) (v::c):=by refine⟨by simp[t.1],λi y u a b=>?_⟩;cases i with|zero=>simp only[aH,aa]at a b;subst a;subst b;exact h|succ i=>exact t.2 i y u (by simpa using a) (by simpa using b)
def drop_take{i:Type}{a b c d e f g h:i}:([a,b,c,d,e,f,g,h].drop 0).take 1=[a]/\([a,b,c,d,e,f,g,h].drop 1).take 1=[b]/\([a,b,c,d,e,f,g,h].drop 2).take 1=[c]/\([a,b,c,d,e,f,g,h].drop 3).take 1=[d] /\([a,b,c,d,e,f,g,h].drop 4).take 1=[e]/\([a,b,c,d,e,f,g,h].drop 5).take 1=[f]/\([a,b,c,d,e,f,g,h].drop 6).take 1=[g]/\([a,b,c,d,e,f,g,h].drop 7).take 1=[h]:=⟨rfl,rfl,rfl,rfl,rfl,rfl,rfl,rfl⟩
end
structure alI (q:Qr):Prop where
 ao2:q.ao2.length+aR q.ao2<=1048576
 b6:q.b6.length<=1048576
 next:q.next.length<=1048576
 now : -9223372036854775808<=q.now/\q.now<=9223372036854775807
structure alJ (e:En):Prop where
 ao2:e.ao2.length+aR e.ao2<=1048576
 ao7:e.ao7.length+aR e.ao7<=1048576
 b6:e.b6.length<=1048576
 next:e.next.length<=1048576
 cW:e.cW.length<=1048576
 cx:e.cx.length<=1048576
 ids:∀y∈e.ao2++e.ao7,-9223372036854775808<=y.id/\y.id<=9223372036854775807
 ao9 : -9223372036854775808<=e.ao9/\e.ao9<=9223372036854775807
end Go.Proofs.Tryz
