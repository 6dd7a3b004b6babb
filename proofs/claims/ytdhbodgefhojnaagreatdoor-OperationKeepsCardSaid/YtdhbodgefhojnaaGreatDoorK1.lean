/- A part of the proof that OperationKeeps returns true and leaves its argument as it was, for every input. -/
import Derived.Shelf.SlSorted.Search
import Derived.Test.YtdhbodgefhojnaaGreatDoorProg
set_option linter.all false

namespace Go.Proofs
open Go.Shelf
def Tryz.search75_ren : Go.Shelf.Ren := ⟨fun | 15 => 75 | 16 => 112 | 23 => 113 | n => n,fun | 30 => 72 | 35 => 39 | 38 => 128 | n => n,fun | n => n⟩
theorem Tryz.search75 : Go.Proofs.SlLaysO.n15 Tryz.prog Tryz.search75_ren := {
 mixed := by kernel_rfl
 f15 := Tryz.func75.trans (congrArg some (by kernel_rfl))
 f16 := Tryz.func112.trans (congrArg some (by kernel_rfl))
 f23 := Tryz.func113.trans (congrArg some (by kernel_rfl))
 t0 := Tryz.underlying0
 a0 := Tryz.isAgg0
 z0 := Tryz.sizeOf0
 v0 := Tryz.zeroValue0
 t3 := Tryz.underlying3
 a3 := Tryz.isAgg3
 z3 := Tryz.sizeOf3
 v3 := Tryz.zeroValue3
 t4 := Tryz.underlying4
 a4 := Tryz.isAgg4
 z4 := Tryz.sizeOf4
 v4 := Tryz.zeroValue4
 t9 := Tryz.underlying9
 a9 := Tryz.isAgg9
 z9 := Tryz.sizeOf9
 v9 := Tryz.zeroValue9
 t30 := Tryz.underlying72
 a30 := Tryz.isAgg72
 z30 := Tryz.sizeOf72
 v30 := Tryz.zeroValue72
 t35 := Tryz.underlying39
 a35 := Tryz.isAgg39
 z35 := Tryz.sizeOf39
 v35 := Tryz.zeroValue39
 t38 := Tryz.underlying128
 a38 := Tryz.isAgg128
 z38 := Tryz.sizeOf128
 v38 := Tryz.zeroValue128 }
end Go.Proofs
