/- A part of the proof of the statement of the last text of this claim; its conditions stand there. -/
import Derived.Shelf.SlSorted.Search
import Derived.Ground.SlsoProg
import Derived.Test.YtkkjfegefckehaaGreatDoorProg
set_option linter.all false

namespace Go.Proofs
open Go.Shelf
def Tryz.GL:Go.Shelf.Ren:=⟨fun | 15=>135 | 23=>195 | 16=>112 | n=>n,fun | 30=>89 | 9=>9 | 3=>3 | 0=>0 | 35=>138 | 4=>4 | 38=>126 | n=>n,fun | n=>n⟩
theorem Tryz.Ju:Go.Proofs.SlLaysO.n15 Tryz.prog Tryz.GL:={
 mixed:=by kernel_rfl
 f15:=Tryz.func135.trans (congrArg some (by kernel_rfl))
 f16:=Tryz.func112.trans (congrArg some (by kernel_rfl))
 f23:=Tryz.func195.trans (congrArg some (by kernel_rfl))
 t0:=Tryz.underlying0
 a0:=Tryz.isAgg0
 z0:=Tryz.sizeOf0
 v0:=Tryz.zeroValue0
 t3:=Tryz.underlying3
 a3:=Tryz.isAgg3
 z3:=Tryz.sizeOf3
 v3:=Tryz.zeroValue3
 t4:=Tryz.underlying4
 a4:=Tryz.isAgg4
 z4:=Tryz.sizeOf4
 v4:=Tryz.zeroValue4
 t9:=Tryz.underlying9
 a9:=Tryz.isAgg9
 z9:=Tryz.sizeOf9
 v9:=Tryz.zeroValue9
 t30:=Tryz.underlying89
 a30:=Tryz.isAgg89
 z30:=Tryz.sizeOf89
 v30:=Tryz.zeroValue89
 t35:=Tryz.underlying138
 a35:=Tryz.isAgg138
 z35:=Tryz.sizeOf138
 v35:=Tryz.zeroValue138
 t38:=Tryz.underlying126
 a38:=Tryz.isAgg126
 z38:=Tryz.sizeOf126
 v38:=Tryz.zeroValue126 }
end Go.Proofs
