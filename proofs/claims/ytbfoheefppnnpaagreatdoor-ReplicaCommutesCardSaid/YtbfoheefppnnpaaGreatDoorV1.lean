/- A part of the proof of the statement of the last text of this claim: for every two lists of integers ReplicaCommutes returns true and leaves the memory as it was. -/
import Derived.Shelf.SlSortCmp.NoneTotal
import Derived.Ground.SlsfProg
import Derived.Test.YtbfoheefppnnpaaGreatDoorProg
set_option linter.all false

namespace Go.Proofs
open Go.Shelf
def Tryz.sortf_ren:Go.Shelf.Ren:=⟨fun | 6=>38 | 15=>78 | 14=>77 | 28=>124 | 29=>125 | 20=>116 | 21=>117 | 22=>118 | 23=>119 | 24=>120 | 25=>121 | 26=>122 | 27=>123 | 46=>154 | 47=>155 | 48=>156 | 49=>157 | 50=>158 | 57=>177 | n=>n,fun | 22=>25 | 24=>35 | 25=>64 | 3=>3 | 39=>122 | 0=>0 | 53=>131 | 55=>166 | 4=>4 | 46=>159 | 45=>158 | 50=>62 | 5=>5 | 9=>9 | 66=>186 | 70=>190 | 76=>205 | 77=>206 | n=>n,fun | n=>n⟩
theorem Tryz.sortf:Go.Proofs.SlLaysF0.n6 Tryz.prog Tryz.sortf_ren:={
 mixed:=by kernel_rfl
 f6:=⟨Tryz.f38.name,by decide,Tryz.func38.trans (congrArg some (by kernel_rfl))⟩
 f14:=⟨Tryz.f77.name,by decide,Tryz.func77.trans (congrArg some (by kernel_rfl))⟩
 f15:=Tryz.func78.trans (congrArg some (by kernel_rfl))
 f20:=⟨Tryz.f116.name,by decide,Tryz.func116.trans (congrArg some (by kernel_rfl))⟩
 f21:=⟨Tryz.f117.name,by decide,Tryz.func117.trans (congrArg some (by kernel_rfl))⟩
 f22:=⟨Tryz.f118.name,by decide,Tryz.func118.trans (congrArg some (by kernel_rfl))⟩
 f23:=⟨Tryz.f119.name,by decide,Tryz.func119.trans (congrArg some (by kernel_rfl))⟩
 f24:=⟨Tryz.f120.name,by decide,Tryz.func120.trans (congrArg some (by kernel_rfl))⟩
 f25:=⟨Tryz.f121.name,by decide,Tryz.func121.trans (congrArg some (by kernel_rfl))⟩
 f26:=⟨Tryz.f122.name,by decide,Tryz.func122.trans (congrArg some (by kernel_rfl))⟩
 f27:=⟨Tryz.f123.name,by decide,Tryz.func123.trans (congrArg some (by kernel_rfl))⟩
 f28:=Tryz.func124.trans (congrArg some (by kernel_rfl))
 f29:=Tryz.func125.trans (congrArg some (by kernel_rfl))
 f46:=⟨Tryz.f154.name,by decide,Tryz.func154.trans (congrArg some (by kernel_rfl))⟩
 f47:=Tryz.func155.trans (congrArg some (by kernel_rfl))
 f48:=Tryz.func156.trans (congrArg some (by kernel_rfl))
 f49:=⟨Tryz.f157.name,by decide,Tryz.func157.trans (congrArg some (by kernel_rfl))⟩
 f50:=⟨Tryz.f158.name,by decide,Tryz.func158.trans (congrArg some (by kernel_rfl))⟩
 f57:=⟨Tryz.f177.name,by decide,Tryz.func177.trans (congrArg some (by kernel_rfl))⟩
 t0:=Tryz.underlying0
 a0:=Tryz.isAgg0
 z0:=Tryz.sizeOf0
 v0:=Tryz.zeroValue0
 t3:=Tryz.underlying3
 a3:=Tryz.isAgg3
 z3:=Tryz.sizeOf3
 v3:=Tryz.zeroValue3
 t4:=Tryz.underlying4
 a4:=Tryz.isAgg4
 z4:=Tryz.sizeOf4
 v4:=Tryz.zeroValue4
 t5:=Tryz.underlying5
 a5:=Tryz.isAgg5
 z5:=Tryz.sizeOf5
 v5:=Tryz.zeroValue5
 t9:=Tryz.underlying9
 a9:=Tryz.isAgg9
 z9:=Tryz.sizeOf9
 v9:=Tryz.zeroValue9
 t22:=Tryz.underlying25
 a22:=Tryz.isAgg25
 z22:=Tryz.sizeOf25
 v22:=Tryz.zeroValue25
 t25:=Tryz.underlying64
 a25:=Tryz.isAgg64
 z25:=Tryz.sizeOf64
 v25:=Tryz.zeroValue64
 t39:=Tryz.underlying122
 a39:=Tryz.isAgg122
 z39:=Tryz.sizeOf122
 v39:=Tryz.zeroValue122
 t45:=Tryz.underlying158
 a45:=Tryz.isAgg158
 z45:=Tryz.sizeOf158
 v45:=Tryz.zeroValue158
 t46:=Tryz.underlying159
 a46:=Tryz.isAgg159
 z46:=Tryz.sizeOf159
 v46:=Tryz.zeroValue159
 t50:=Tryz.underlying62
 a50:=Tryz.isAgg62
 z50:=Tryz.sizeOf62
 v50:=Tryz.zeroValue62
 t53:=Tryz.underlying131
 a53:=Tryz.isAgg131
 z53:=Tryz.sizeOf131
 v53:=Tryz.zeroValue131
 t55:=Tryz.underlying166
 a55:=Tryz.isAgg166
 z55:=Tryz.sizeOf166
 v55:=Tryz.zeroValue166
 t66:=Tryz.underlying186
 a66:=Tryz.isAgg186
 z66:=Tryz.sizeOf186
 v66:=Tryz.zeroValue186
 t70:=Tryz.underlying190
 a70:=Tryz.isAgg190
 z70:=Tryz.sizeOf190
 v70:=Tryz.zeroValue190
 t76:=Tryz.underlying205
 a76:=Tryz.isAgg205
 z76:=Tryz.sizeOf205
 v76:=Tryz.zeroValue205
 t77:=Tryz.underlying206
 a77:=Tryz.isAgg206
 z77:=Tryz.sizeOf206
 v77:=Tryz.zeroValue206 }
end Go.Proofs
