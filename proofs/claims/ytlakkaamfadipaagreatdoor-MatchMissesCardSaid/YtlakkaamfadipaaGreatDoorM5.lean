/- A part of a proof; the claim's last text says of what. -/
import Derived.Shelf.LaysM
import Derived.Shelf.Strconv.Itoa3
import Derived.Shelf.Sort.Plain
import Derived.Ground.SlgnProg
import Derived.Shelf.SlicesE.Clone
import Derived.Ground.SlgmProg
import Derived.Ground.GgzProg
import Derived.Ground.Names2Prog
import Derived.Shelf.SlIter.Nil
import Derived.Shelf.SortM.Plain
import Derived.Shelf.SortM.SortNone
import Derived.Shelf.Spec.SlicesGrow
import Derived.Test.YtlakkaamfadipaaGreatDoorProg
set_option linter.all false
open Option renaming some->N
set_option maxRecDepth 20000

namespace Go.Proofs
open Go.Shelf
def Tryz.Gv:Go.Shelf.Ren:=⟨λ| 171=>240|243=>262|246=>283|283=>293|284=>294|285=>295|286=>296|129=>195|317=>300|318=>301|319=>302|320=>303|337=>304|338=>305|n=>n,λ| 3=>3|9=>9|2=>2|4=>4|171=>293|0=>0|53=>231|37=>58|5=>5|173=>295|212=>302|51=>229|20=>20|213=>303|46=>173|232=>304|233=>305|n=>n,λ| 17=>1|18=>2|19=>3|n=>n⟩
def Tryz.Sa:Go.Proofs.LaysM.n171 prog Gv:={
 mixed:=by kernel_rfl
 f129:=func195.trans (congrArg N (by kernel_rfl))
 f171:=func240.trans (congrArg N (by kernel_rfl))
 f243:=func262.trans (congrArg N (by kernel_rfl))
 f246:=func283.trans (congrArg N (by kernel_rfl))
 f283:=func293.trans (congrArg N (by kernel_rfl))
 f284:=func294.trans (congrArg N (by kernel_rfl))
 f285:=func295.trans (congrArg N (by kernel_rfl))
 f286:=func296.trans (congrArg N (by kernel_rfl))
 f317:=func300.trans (congrArg N (by kernel_rfl))
 f318:=func301.trans (congrArg N (by kernel_rfl))
 f319:=func302.trans (congrArg N (by kernel_rfl))
 f320:=func303.trans (congrArg N (by kernel_rfl))
 f337:=func304.trans (congrArg N (by kernel_rfl))
 f338:=func305.trans (congrArg N (by kernel_rfl))
 t0:=underlying0
 a0:=isAgg0
 z0:=sizeOf0
 v0:=zeroValue0
 t2:=underlying2
 a2:=isAgg2
 z2:=sizeOf2
 v2:=zeroValue2
 t3:=underlying3
 a3:=isAgg3
 z3:=sizeOf3
 v3:=zeroValue3
 t4:=underlying4
 a4:=isAgg4
 z4:=sizeOf4
 v4:=zeroValue4
 t5:=underlying5
 a5:=isAgg5
 z5:=sizeOf5
 v5:=zeroValue5
 t9:=underlying9
 a9:=isAgg9
 z9:=sizeOf9
 v9:=zeroValue9
 t20:=underlying20
 a20:=isAgg20
 z20:=sizeOf20
 v20:=zeroValue20
 t37:=underlying58
 a37:=isAgg58
 z37:=sizeOf58
 v37:=zeroValue58
 t46:=underlying173
 a46:=isAgg173
 z46:=sizeOf173
 v46:=zeroValue173
 t51:=underlying229
 a51:=isAgg229
 z51:=sizeOf229
 v51:=zeroValue229
 t53:=underlying231
 a53:=isAgg231
 z53:=sizeOf231
 v53:=zeroValue231
 t171:=underlying293
 a171:=isAgg293
 z171:=sizeOf293
 v171:=zeroValue293
 t173:=underlying295
 a173:=isAgg295
 z173:=sizeOf295
 v173:=zeroValue295
 t212:=underlying302
 a212:=isAgg302
 z212:=sizeOf302
 v212:=zeroValue302
 t213:=underlying303
 a213:=isAgg303
 z213:=sizeOf303
 t232:=underlying304
 a232:=isAgg304
 z232:=sizeOf304
 v232:=zeroValue304
 t233:=underlying305
 a233:=isAgg305
 z233:=sizeOf305
 v233:=zeroValue305
 g17:=by kernel_rfl
 g18:=by kernel_rfl
 g19:=by kernel_rfl
 i0:=by kernel_rfl
 i2:=by kernel_rfl
 i3:=by kernel_rfl
 i4:=by kernel_rfl
 i5:=by kernel_rfl
 i9:=by kernel_rfl
 i20:=by kernel_rfl
 i37:=by kernel_rfl
 i46:=by kernel_rfl
 i51:=by kernel_rfl
 i53:=by kernel_rfl
 i171:=by kernel_rfl
 i173:=by kernel_rfl
 i212:=by kernel_rfl
 i232:=by kernel_rfl
 i233:=by kernel_rfl
 m17:=by kernel_rfl
 m18:=by kernel_rfl
 m19:=by kernel_rfl }
def Tryz.GY:Go.Shelf.Ren:=⟨λ| 41=>134|n=>n,λ| 22=>22|23=>61|4=>4|n=>n,λ| n=>n⟩
def Tryz.Cz:Go.Proofs.SlLaysE0.n41 prog GY:=⟨by kernel_rfl,⟨f134.name,by decide,func134.trans (congrArg N (by kernel_rfl))⟩,underlying4,isAgg4,sizeOf4,zeroValue4,underlying22,isAgg22,sizeOf22,zeroValue22⟩
def Tryz.N6:Go.Shelf.Ren:=⟨λ| 5=>122|8=>126|7=>185|19=>194|20=>195|10=>226|11=>227|12=>228|13=>229|14=>230|15=>231|16=>123|17=>232|18=>233|30=>258|31=>235|32=>236|33=>259|34=>260|35=>127|40=>282|n=>n,λ| 23=>25|25=>3|3=>3|32=>173|22=>25|0=>0|44=>229|46=>231|4=>4|36=>223|35=>222|41=>109|5=>5|9=>9|53=>255|57=>259|63=>275|64=>151|n=>n,λ| n=>n⟩
def Tryz.XB:Go.Proofs.SlLaysM.n5 prog N6:=⟨by kernel_rfl,⟨f122.name,by decide,func122.trans (congrArg N (by kernel_rfl))⟩,⟨f185.name,by decide,func185.trans (congrArg N (by kernel_rfl))⟩,func126.trans (congrArg N (by kernel_rfl)),⟨f226.name,by decide,func226.trans (congrArg N (by kernel_rfl))⟩,⟨f227.name,by decide,func227.trans (congrArg N (by kernel_rfl))⟩,⟨f228.name,by decide,func228.trans (congrArg N (by kernel_rfl))⟩,⟨f229.name,by decide,func229.trans (congrArg N (by kernel_rfl))⟩,⟨f230.name,by decide,func230.trans (congrArg N (by kernel_rfl))⟩,⟨f231.name,by decide,func231.trans (congrArg N (by kernel_rfl))⟩,⟨f123.name,by decide,func123.trans (congrArg N (by kernel_rfl))⟩,⟨f232.name,by decide,func232.trans (congrArg N (by kernel_rfl))⟩,⟨f233.name,by decide,func233.trans (congrArg N (by kernel_rfl))⟩,func194.trans (congrArg N (by kernel_rfl)),func195.trans (congrArg N (by kernel_rfl)),⟨f258.name,by decide,func258.trans (congrArg N (by kernel_rfl))⟩,func235.trans (congrArg N (by kernel_rfl)),func236.trans (congrArg N (by kernel_rfl)),⟨f259.name,by decide,func259.trans (congrArg N (by kernel_rfl))⟩,⟨f260.name,by decide,func260.trans (congrArg N (by kernel_rfl))⟩,⟨f127.name,by decide,func127.trans (congrArg N (by kernel_rfl))⟩,⟨f282.name,by decide,func282.trans (congrArg N (by kernel_rfl))⟩,underlying0,isAgg0,sizeOf0,zeroValue0,underlying3,isAgg3,sizeOf3,zeroValue3,underlying4,isAgg4,sizeOf4,zeroValue4,underlying5,isAgg5,sizeOf5,zeroValue5,underlying9,isAgg9,sizeOf9,zeroValue9,underlying25,isAgg25,sizeOf25,zeroValue25,underlying25,isAgg25,sizeOf25,zeroValue25,underlying3,isAgg3,sizeOf3,zeroValue3,underlying173,isAgg173,sizeOf173,zeroValue173,underlying222,isAgg222,sizeOf222,zeroValue222,underlying223,isAgg223,sizeOf223,zeroValue223,underlying109,isAgg109,sizeOf109,zeroValue109,underlying229,isAgg229,sizeOf229,zeroValue229,underlying231,isAgg231,sizeOf231,zeroValue231,underlying255,isAgg255,sizeOf255,zeroValue255,underlying259,isAgg259,sizeOf259,zeroValue259,underlying275,isAgg275,sizeOf275,zeroValue275,underlying151,isAgg151,sizeOf151,zeroValue151⟩
open Go.RowKit Go.Maps Go.Sort Go.Shelf in
def Tryz.strconv_Itoa(n:Int)(h0 : -9223372036854775808<=n)(h1:n<=9223372036854775807)(w:World)(b:Lib.TabIs prog w "internal/strconv.uint64pow10" .u64 Lib.pow10Tab) : Calls prog 240 #[.int .i64 n] w λe a=>e=.returned (.string ⟨(Lib.itoa n).toArray⟩)/\∃k os,a=grow (w.drewN k) os:=Any.strconv_Itoa Sa n h0 h1 w b
end Go.Proofs
