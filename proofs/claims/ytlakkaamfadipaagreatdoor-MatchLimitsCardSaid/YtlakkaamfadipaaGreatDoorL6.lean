/- A part of a proof; the claim's last text says of what. -/
import Derived.Shelf.LaysM
import Derived.Shelf.Strconv.Itoa3
import Derived.Shelf.Sort.Plain
import Derived.Ground.SlgnProg
import Derived.Shelf.SlicesE.Clone
import Derived.Ground.SlgmProg
import Derived.Ground.GgzProg
import Derived.Ground.Names2Prog
import Derived.Shelf.SlIter.Nil
import Derived.Shelf.SortM.Plain
import Derived.Shelf.SortM.SortNone
import Derived.Shelf.Spec.SlicesGrow
import Derived.Test.YtlakkaamfadipaaGreatDoorProg
set_option linter.all false

namespace Go.Proofs
open Go.Shelf
def Tryz.AI:Go.Shelf.Ren:=⟨fun | 171=>240 | 243=>262 | 246=>283 | 283=>293 | 284=>294 | 285=>295 | 286=>296 | 129=>195 | 317=>300 | 318=>301 | 319=>302 | 320=>303 | 337=>304 | 338=>305 | n=>n,fun | 3=>3 | 9=>9 | 2=>2 | 4=>4 | 171=>293 | 0=>0 | 53=>231 | 37=>58 | 5=>5 | 173=>295 | 212=>302 | 51=>229 | 20=>20 | 213=>303 | 46=>173 | 232=>304 | 233=>305 | n=>n,fun | 17=>1 | 18=>2 | 19=>3 | n=>n⟩
theorem Tryz.Kl:Go.Proofs.LaysM.n171 Tryz.prog Tryz.AI:={
 mixed:=by kernel_rfl
 f129:=Tryz.func195.trans (congrArg some (by kernel_rfl))
 f171:=Tryz.func240.trans (congrArg some (by kernel_rfl))
 f243:=Tryz.func262.trans (congrArg some (by kernel_rfl))
 f246:=Tryz.func283.trans (congrArg some (by kernel_rfl))
 f283:=Tryz.func293.trans (congrArg some (by kernel_rfl))
 f284:=Tryz.func294.trans (congrArg some (by kernel_rfl))
 f285:=Tryz.func295.trans (congrArg some (by kernel_rfl))
 f286:=Tryz.func296.trans (congrArg some (by kernel_rfl))
 f317:=Tryz.func300.trans (congrArg some (by kernel_rfl))
 f318:=Tryz.func301.trans (congrArg some (by kernel_rfl))
 f319:=Tryz.func302.trans (congrArg some (by kernel_rfl))
 f320:=Tryz.func303.trans (congrArg some (by kernel_rfl))
 f337:=Tryz.func304.trans (congrArg some (by kernel_rfl))
 f338:=Tryz.func305.trans (congrArg some (by kernel_rfl))
 t0:=Tryz.underlying0
 a0:=Tryz.isAgg0
 z0:=Tryz.sizeOf0
 v0:=Tryz.zeroValue0
 t2:=Tryz.underlying2
 a2:=Tryz.isAgg2
 z2:=Tryz.sizeOf2
 v2:=Tryz.zeroValue2
 t3:=Tryz.underlying3
 a3:=Tryz.isAgg3
 z3:=Tryz.sizeOf3
 v3:=Tryz.zeroValue3
 t4:=Tryz.underlying4
 a4:=Tryz.isAgg4
 z4:=Tryz.sizeOf4
 v4:=Tryz.zeroValue4
 t5:=Tryz.underlying5
 a5:=Tryz.isAgg5
 z5:=Tryz.sizeOf5
 v5:=Tryz.zeroValue5
 t9:=Tryz.underlying9
 a9:=Tryz.isAgg9
 z9:=Tryz.sizeOf9
 v9:=Tryz.zeroValue9
 t20:=Tryz.underlying20
 a20:=Tryz.isAgg20
 z20:=Tryz.sizeOf20
 v20:=Tryz.zeroValue20
 t37:=Tryz.underlying58
 a37:=Tryz.isAgg58
 z37:=Tryz.sizeOf58
 v37:=Tryz.zeroValue58
 t46:=Tryz.underlying173
 a46:=Tryz.isAgg173
 z46:=Tryz.sizeOf173
 v46:=Tryz.zeroValue173
 t51:=Tryz.underlying229
 a51:=Tryz.isAgg229
 z51:=Tryz.sizeOf229
 v51:=Tryz.zeroValue229
 t53:=Tryz.underlying231
 a53:=Tryz.isAgg231
 z53:=Tryz.sizeOf231
 v53:=Tryz.zeroValue231
 t171:=Tryz.underlying293
 a171:=Tryz.isAgg293
 z171:=Tryz.sizeOf293
 v171:=Tryz.zeroValue293
 t173:=Tryz.underlying295
 a173:=Tryz.isAgg295
 z173:=Tryz.sizeOf295
 v173:=Tryz.zeroValue295
 t212:=Tryz.underlying302
 a212:=Tryz.isAgg302
 z212:=Tryz.sizeOf302
 v212:=Tryz.zeroValue302
 t213:=Tryz.underlying303
 a213:=Tryz.isAgg303
 z213:=Tryz.sizeOf303
 t232:=Tryz.underlying304
 a232:=Tryz.isAgg304
 z232:=Tryz.sizeOf304
 v232:=Tryz.zeroValue304
 t233:=Tryz.underlying305
 a233:=Tryz.isAgg305
 z233:=Tryz.sizeOf305
 v233:=Tryz.zeroValue305
 g17:=by kernel_rfl
 g18:=by kernel_rfl
 g19:=by kernel_rfl
 i0:=by kernel_rfl
 i2:=by kernel_rfl
 i3:=by kernel_rfl
 i4:=by kernel_rfl
 i5:=by kernel_rfl
 i9:=by kernel_rfl
 i20:=by kernel_rfl
 i37:=by kernel_rfl
 i46:=by kernel_rfl
 i51:=by kernel_rfl
 i53:=by kernel_rfl
 i171:=by kernel_rfl
 i173:=by kernel_rfl
 i212:=by kernel_rfl
 i232:=by kernel_rfl
 i233:=by kernel_rfl
 m17:=by kernel_rfl
 m18:=by kernel_rfl
 m19:=by kernel_rfl }
def Tryz.A6:Go.Shelf.Ren:=⟨fun | 41=>134 | n=>n,fun | 22=>22 | 23=>61 | 4=>4 | n=>n,fun | n=>n⟩
theorem Tryz.xk:Go.Proofs.SlLaysE0.n41 Tryz.prog Tryz.A6:={
 mixed:=by kernel_rfl
 f41:=⟨Tryz.f134.name,by decide,Tryz.func134.trans (congrArg some (by kernel_rfl))⟩
 t4:=Tryz.underlying4
 a4:=Tryz.isAgg4
 z4:=Tryz.sizeOf4
 v4:=Tryz.zeroValue4
 t22:=Tryz.underlying22
 a22:=Tryz.isAgg22
 z22:=Tryz.sizeOf22
 v22:=Tryz.zeroValue22 }
def Tryz.G7:Go.Shelf.Ren:=⟨fun | 5=>122 | 8=>126 | 7=>185 | 19=>194 | 20=>195 | 10=>226 | 11=>227 | 12=>228 | 13=>229 | 14=>230 | 15=>231 | 16=>123 | 17=>232 | 18=>233 | 30=>258 | 31=>235 | 32=>236 | 33=>259 | 34=>260 | 35=>127 | 40=>282 | n=>n,fun | 23=>25 | 25=>3 | 3=>3 | 32=>173 | 22=>25 | 0=>0 | 44=>229 | 46=>231 | 4=>4 | 36=>223 | 35=>222 | 41=>109 | 5=>5 | 9=>9 | 53=>255 | 57=>259 | 63=>275 | 64=>151 | n=>n,fun | n=>n⟩
theorem Tryz.Pf:Go.Proofs.SlLaysM.n5 Tryz.prog Tryz.G7:={
 mixed:=by kernel_rfl
 f5:=⟨Tryz.f122.name,by decide,Tryz.func122.trans (congrArg some (by kernel_rfl))⟩
 f7:=⟨Tryz.f185.name,by decide,Tryz.func185.trans (congrArg some (by kernel_rfl))⟩
 f8:=Tryz.func126.trans (congrArg some (by kernel_rfl))
 f10:=⟨Tryz.f226.name,by decide,Tryz.func226.trans (congrArg some (by kernel_rfl))⟩
 f11:=⟨Tryz.f227.name,by decide,Tryz.func227.trans (congrArg some (by kernel_rfl))⟩
 f12:=⟨Tryz.f228.name,by decide,Tryz.func228.trans (congrArg some (by kernel_rfl))⟩
 f13:=⟨Tryz.f229.name,by decide,Tryz.func229.trans (congrArg some (by kernel_rfl))⟩
 f14:=⟨Tryz.f230.name,by decide,Tryz.func230.trans (congrArg some (by kernel_rfl))⟩
 f15:=⟨Tryz.f231.name,by decide,Tryz.func231.trans (congrArg some (by kernel_rfl))⟩
 f16:=⟨Tryz.f123.name,by decide,Tryz.func123.trans (congrArg some (by kernel_rfl))⟩
 f17:=⟨Tryz.f232.name,by decide,Tryz.func232.trans (congrArg some (by kernel_rfl))⟩
 f18:=⟨Tryz.f233.name,by decide,Tryz.func233.trans (congrArg some (by kernel_rfl))⟩
 f19:=Tryz.func194.trans (congrArg some (by kernel_rfl))
 f20:=Tryz.func195.trans (congrArg some (by kernel_rfl))
 f30:=⟨Tryz.f258.name,by decide,Tryz.func258.trans (congrArg some (by kernel_rfl))⟩
 f31:=Tryz.func235.trans (congrArg some (by kernel_rfl))
 f32:=Tryz.func236.trans (congrArg some (by kernel_rfl))
 f33:=⟨Tryz.f259.name,by decide,Tryz.func259.trans (congrArg some (by kernel_rfl))⟩
 f34:=⟨Tryz.f260.name,by decide,Tryz.func260.trans (congrArg some (by kernel_rfl))⟩
 f35:=⟨Tryz.f127.name,by decide,Tryz.func127.trans (congrArg some (by kernel_rfl))⟩
 f40:=⟨Tryz.f282.name,by decide,Tryz.func282.trans (congrArg some (by kernel_rfl))⟩
 t0:=Tryz.underlying0
 a0:=Tryz.isAgg0
 z0:=Tryz.sizeOf0
 v0:=Tryz.zeroValue0
 t3:=Tryz.underlying3
 a3:=Tryz.isAgg3
 z3:=Tryz.sizeOf3
 v3:=Tryz.zeroValue3
 t4:=Tryz.underlying4
 a4:=Tryz.isAgg4
 z4:=Tryz.sizeOf4
 v4:=Tryz.zeroValue4
 t5:=Tryz.underlying5
 a5:=Tryz.isAgg5
 z5:=Tryz.sizeOf5
 v5:=Tryz.zeroValue5
 t9:=Tryz.underlying9
 a9:=Tryz.isAgg9
 z9:=Tryz.sizeOf9
 v9:=Tryz.zeroValue9
 t22:=Tryz.underlying25
 a22:=Tryz.isAgg25
 z22:=Tryz.sizeOf25
 v22:=Tryz.zeroValue25
 t23:=Tryz.underlying25
 a23:=Tryz.isAgg25
 z23:=Tryz.sizeOf25
 v23:=Tryz.zeroValue25
 t25:=Tryz.underlying3
 a25:=Tryz.isAgg3
 z25:=Tryz.sizeOf3
 v25:=Tryz.zeroValue3
 t32:=Tryz.underlying173
 a32:=Tryz.isAgg173
 z32:=Tryz.sizeOf173
 v32:=Tryz.zeroValue173
 t35:=Tryz.underlying222
 a35:=Tryz.isAgg222
 z35:=Tryz.sizeOf222
 v35:=Tryz.zeroValue222
 t36:=Tryz.underlying223
 a36:=Tryz.isAgg223
 z36:=Tryz.sizeOf223
 v36:=Tryz.zeroValue223
 t41:=Tryz.underlying109
 a41:=Tryz.isAgg109
 z41:=Tryz.sizeOf109
 v41:=Tryz.zeroValue109
 t44:=Tryz.underlying229
 a44:=Tryz.isAgg229
 z44:=Tryz.sizeOf229
 v44:=Tryz.zeroValue229
 t46:=Tryz.underlying231
 a46:=Tryz.isAgg231
 z46:=Tryz.sizeOf231
 v46:=Tryz.zeroValue231
 t53:=Tryz.underlying255
 a53:=Tryz.isAgg255
 z53:=Tryz.sizeOf255
 v53:=Tryz.zeroValue255
 t57:=Tryz.underlying259
 a57:=Tryz.isAgg259
 z57:=Tryz.sizeOf259
 v57:=Tryz.zeroValue259
 t63:=Tryz.underlying275
 a63:=Tryz.isAgg275
 z63:=Tryz.sizeOf275
 v63:=Tryz.zeroValue275
 t64:=Tryz.underlying151
 a64:=Tryz.isAgg151
 z64:=Tryz.sizeOf151
 v64:=Tryz.zeroValue151 }
open Go.RowKit Go.Maps Go.Sort Go.Shelf in
theorem Tryz.strconv_Itoa(n:Int)(h0 : -9223372036854775808≤n)(h1:n≤9223372036854775807)(w:World)(NO:Lib.TabIs Tryz.prog w "internal/strconv.uint64pow10" .u64 Lib.pow10Tab) :
  Calls Tryz.prog 240 #[.int .i64 n] w fun e w'=>e=.returned (.string ⟨(Lib.itoa n).toArray⟩)∧∃ k os,w'=grow (w.drewN k) os:=Any.strconv_Itoa Tryz.Kl n h0 h1 w NO
end Go.Proofs
