/- A part of a proof; the claim's last text says of what. -/
import Derived.Test.YtlakkaamfadipaaGreatDoorChecked
import Derived.Lib.Strings
import Derived.Lib.Slices
import Derived.Lib.Walk
import Derived.Lib.Bytealg
set_option linter.all false

namespace Go.Proofs
set_option maxHeartbeats 1000000 in
set_option maxRecDepth 100000 in
theorem Tryz.ka(s:ByteArray)(c:Int)(w:World):
  Calls Tryz.prog 208 #[.string s,.int .u8 c] w fun e w'=>e=.returned (.int .i64 (Lib.indexByte s.data.toList c.toNat.toUInt8))∧w'=w:=by
 go_enter Tryz.func208,Tryz.ntmps208
 go_wp2
 rw[run_callFunc_extern Tryz.func247 (by kernel_rfl) (by kernel_rfl) (by kernel_rfl) (e:=Extern.BytealgIndexByte.indexByte) (by kernel_rfl),Lib.run_indexByteString];simp only[Result.andThen];rw[Oper.upon_value]
 go_wp2
 go_ret
 exact⟨rfl,rfl⟩
end Go.Proofs
namespace Go.Proofs
set_option maxHeartbeats 2000000 in
set_option maxRecDepth 100000 in
theorem Tryz.jZ(s:ByteArray)(c:UInt8)(w:World):
  Calls Tryz.prog 272 #[.string s,.string ⟨#[c]⟩] w fun e w'=>e=.returned (.int .i64 (Lib.indexByte s.data.toList c))∧w'=w:=by
 go_enter Tryz.func272,Tryz.ntmps272
 go_wp2_with (go_at_call 208;refine(Tryz.ka _ _ _).mono ?_;rintro e w' ⟨rfl,rfl⟩)
 ·have h:([c]==s.toList)=true:=by assumption
  go_ret
  refine⟨?_,rfl⟩;have e:s.data.toList=[c]:=by rw[← Lib.toList_data];exact(beq_iff_eq.1 h).symm
  rw[e];simp[Lib.indexByte]
 ·go_ret
  exact⟨rfl,rfl⟩
theorem Tryz.xJ:¬ ∀ (s:ByteArray) (c:UInt8) (w:World),
  Calls Tryz.prog 272 #[.string s,.string ⟨#[c]⟩] w fun e w'=>e=.returned (.int .i64 ((s.size:Int) - 1 - Lib.indexByte s.data.toList.reverse c))∧w'=w:=by
 intro h;have e:=Lib.agree (by kernel_rfl) (Tryz.jZ ⟨#[97,97]⟩ 97 default) (h ⟨#[97,97]⟩ 97 default);injection e with _ e
 revert e;decide
end Go.Proofs
