/- A part of the proof of the statement of the last text of this claim: for every two integers ReplicaLimits returns true and leaves the memory as it was. -/
import Derived.Shelf.SlSortCmp.NoneTotal
import Derived.Ground.SlsfProg
import Derived.Test.YthjfjghcbjiphaaGreatDoorProg
set_option linter.all false

namespace Go.Proofs
open Go.Shelf
def Tryz.sortf_ren : Go.Shelf.Ren := ⟨fun | 6 => 35 | 15 => 74 | 14 => 73 | 28 => 109 | 29 => 110 | 20 => 101 | 21 => 102 | 22 => 103 | 23 => 104 | 24 => 105 | 25 => 106 | 26 => 107 | 27 => 108 | 46 => 125 | 47 => 126 | 48 => 127 | 49 => 128 | 50 => 129 | 57 => 141 | n => n,fun | 22 => 22 | 24 => 37 | 25 => 60 | 3 => 3 | 39 => 123 | 0 => 0 | 53 => 130 | 55 => 158 | 4 => 4 | 46 => 151 | 45 => 150 | 50 => 58 | 5 => 5 | 9 => 9 | 66 => 174 | 70 => 178 | 76 => 184 | 77 => 185 | n => n,fun | n => n⟩
theorem Tryz.sortf : Go.Proofs.SlLaysF0.n6 Tryz.prog Tryz.sortf_ren := {
 mixed := by kernel_rfl
 f6 := ⟨Tryz.f35.name,by decide,Tryz.func35.trans (congrArg some (by kernel_rfl))⟩
 f14 := ⟨Tryz.f73.name,by decide,Tryz.func73.trans (congrArg some (by kernel_rfl))⟩
 f15 := Tryz.func74.trans (congrArg some (by kernel_rfl))
 f20 := ⟨Tryz.f101.name,by decide,Tryz.func101.trans (congrArg some (by kernel_rfl))⟩
 f21 := ⟨Tryz.f102.name,by decide,Tryz.func102.trans (congrArg some (by kernel_rfl))⟩
 f22 := ⟨Tryz.f103.name,by decide,Tryz.func103.trans (congrArg some (by kernel_rfl))⟩
 f23 := ⟨Tryz.f104.name,by decide,Tryz.func104.trans (congrArg some (by kernel_rfl))⟩
 f24 := ⟨Tryz.f105.name,by decide,Tryz.func105.trans (congrArg some (by kernel_rfl))⟩
 f25 := ⟨Tryz.f106.name,by decide,Tryz.func106.trans (congrArg some (by kernel_rfl))⟩
 f26 := ⟨Tryz.f107.name,by decide,Tryz.func107.trans (congrArg some (by kernel_rfl))⟩
 f27 := ⟨Tryz.f108.name,by decide,Tryz.func108.trans (congrArg some (by kernel_rfl))⟩
 f28 := Tryz.func109.trans (congrArg some (by kernel_rfl))
 f29 := Tryz.func110.trans (congrArg some (by kernel_rfl))
 f46 := ⟨Tryz.f125.name,by decide,Tryz.func125.trans (congrArg some (by kernel_rfl))⟩
 f47 := Tryz.func126.trans (congrArg some (by kernel_rfl))
 f48 := Tryz.func127.trans (congrArg some (by kernel_rfl))
 f49 := ⟨Tryz.f128.name,by decide,Tryz.func128.trans (congrArg some (by kernel_rfl))⟩
 f50 := ⟨Tryz.f129.name,by decide,Tryz.func129.trans (congrArg some (by kernel_rfl))⟩
 f57 := ⟨Tryz.f141.name,by decide,Tryz.func141.trans (congrArg some (by kernel_rfl))⟩
 t0 := Tryz.underlying0
 a0 := Tryz.isAgg0
 z0 := Tryz.sizeOf0
 v0 := Tryz.zeroValue0
 t3 := Tryz.underlying3
 a3 := Tryz.isAgg3
 z3 := Tryz.sizeOf3
 v3 := Tryz.zeroValue3
 t4 := Tryz.underlying4
 a4 := Tryz.isAgg4
 z4 := Tryz.sizeOf4
 v4 := Tryz.zeroValue4
 t5 := Tryz.underlying5
 a5 := Tryz.isAgg5
 z5 := Tryz.sizeOf5
 v5 := Tryz.zeroValue5
 t9 := Tryz.underlying9
 a9 := Tryz.isAgg9
 z9 := Tryz.sizeOf9
 v9 := Tryz.zeroValue9
 t22 := Tryz.underlying22
 a22 := Tryz.isAgg22
 z22 := Tryz.sizeOf22
 v22 := Tryz.zeroValue22
 t25 := Tryz.underlying60
 a25 := Tryz.isAgg60
 z25 := Tryz.sizeOf60
 v25 := Tryz.zeroValue60
 t39 := Tryz.underlying123
 a39 := Tryz.isAgg123
 z39 := Tryz.sizeOf123
 v39 := Tryz.zeroValue123
 t45 := Tryz.underlying150
 a45 := Tryz.isAgg150
 z45 := Tryz.sizeOf150
 v45 := Tryz.zeroValue150
 t46 := Tryz.underlying151
 a46 := Tryz.isAgg151
 z46 := Tryz.sizeOf151
 v46 := Tryz.zeroValue151
 t50 := Tryz.underlying58
 a50 := Tryz.isAgg58
 z50 := Tryz.sizeOf58
 v50 := Tryz.zeroValue58
 t53 := Tryz.underlying130
 a53 := Tryz.isAgg130
 z53 := Tryz.sizeOf130
 v53 := Tryz.zeroValue130
 t55 := Tryz.underlying158
 a55 := Tryz.isAgg158
 z55 := Tryz.sizeOf158
 v55 := Tryz.zeroValue158
 t66 := Tryz.underlying174
 a66 := Tryz.isAgg174
 z66 := Tryz.sizeOf174
 v66 := Tryz.zeroValue174
 t70 := Tryz.underlying178
 a70 := Tryz.isAgg178
 z70 := Tryz.sizeOf178
 v70 := Tryz.zeroValue178
 t76 := Tryz.underlying184
 a76 := Tryz.isAgg184
 z76 := Tryz.sizeOf184
 v76 := Tryz.zeroValue184
 t77 := Tryz.underlying185
 a77 := Tryz.isAgg185
 z77 := Tryz.sizeOf185
 v77 := Tryz.zeroValue185 }
end Go.Proofs
