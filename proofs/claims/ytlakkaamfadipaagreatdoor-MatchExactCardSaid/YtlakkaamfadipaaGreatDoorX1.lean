/- A part of a proof; the claim's last text says of what. -/
import Derived.Shelf.SlLaysE0
import Derived.Test.YtlakkaamfadipaaGreatDoorB1
import Derived.Test.YtlakkaamfadipaaGreatDoorB13
import Derived.Test.YtlakkaamfadipaaGreatDoorB14
import Derived.Test.YtlakkaamfadipaaGreatDoorB15
import Derived.Test.YtlakkaamfadipaaGreatDoorB17
set_option linter.all false
set_option maxRecDepth 20000

namespace Go.Proofs
open Go.Shelf
def Tryz.Ko:Go.Shelf.Ren:=⟨λ| 45=>144|n=>n,λ| 22=>25|23=>3|3=>3|4=>4|0=>0|n=>n,λ| n=>n⟩
def Tryz.ai2:Go.Proofs.SlLaysE0.n45 prog Ko:=⟨by kernel_rfl,⟨f144.name,by decide,func144.trans (congrArg some (by kernel_rfl))⟩,underlying0,isAgg0,sizeOf0,zeroValue0,underlying3,isAgg3,sizeOf3,zeroValue3,underlying4,isAgg4,sizeOf4,zeroValue4,underlying25,isAgg25,sizeOf25,zeroValue25⟩
def Tryz.CH:Go.Shelf.Ren:=⟨λ| 6=>205|8=>126|9=>245|19=>194|20=>195|21=>263|22=>264|23=>265|24=>266|25=>267|26=>268|27=>269|28=>270|29=>271|36=>284|31=>235|32=>236|37=>285|38=>286|39=>200|41=>297|n=>n,λ| 27=>90|29=>9|3=>3|32=>173|26=>90|0=>0|44=>229|46=>231|4=>4|36=>223|35=>222|41=>109|5=>5|9=>9|53=>255|57=>259|63=>275|64=>151|n=>n,λ| n=>n⟩
def Tryz.SY:Go.Proofs.SlLaysM.n6 prog CH:=⟨by kernel_rfl,⟨f205.name,by decide,func205.trans (congrArg some (by kernel_rfl))⟩,func126.trans (congrArg some (by kernel_rfl)),⟨f245.name,by decide,func245.trans (congrArg some (by kernel_rfl))⟩,func194.trans (congrArg some (by kernel_rfl)),func195.trans (congrArg some (by kernel_rfl)),⟨f263.name,by decide,func263.trans (congrArg some (by kernel_rfl))⟩,⟨f264.name,by decide,func264.trans (congrArg some (by kernel_rfl))⟩,⟨f265.name,by decide,func265.trans (congrArg some (by kernel_rfl))⟩,⟨f266.name,by decide,func266.trans (congrArg some (by kernel_rfl))⟩,⟨f267.name,by decide,func267.trans (congrArg some (by kernel_rfl))⟩,⟨f268.name,by decide,func268.trans (congrArg some (by kernel_rfl))⟩,⟨f269.name,by decide,func269.trans (congrArg some (by kernel_rfl))⟩,⟨f270.name,by decide,func270.trans (congrArg some (by kernel_rfl))⟩,⟨f271.name,by decide,func271.trans (congrArg some (by kernel_rfl))⟩,func235.trans (congrArg some (by kernel_rfl)),func236.trans (congrArg some (by kernel_rfl)),⟨f284.name,by decide,func284.trans (congrArg some (by kernel_rfl))⟩,⟨f285.name,by decide,func285.trans (congrArg some (by kernel_rfl))⟩,⟨f286.name,by decide,func286.trans (congrArg some (by kernel_rfl))⟩,⟨f200.name,by decide,func200.trans (congrArg some (by kernel_rfl))⟩,⟨f297.name,by decide,func297.trans (congrArg some (by kernel_rfl))⟩,underlying0,isAgg0,sizeOf0,zeroValue0,underlying3,isAgg3,sizeOf3,zeroValue3,underlying4,isAgg4,sizeOf4,zeroValue4,underlying5,isAgg5,sizeOf5,zeroValue5,underlying9,isAgg9,sizeOf9,zeroValue9,underlying90,isAgg90,sizeOf90,zeroValue90,underlying90,isAgg90,sizeOf90,zeroValue90,underlying9,isAgg9,sizeOf9,zeroValue9,underlying173,isAgg173,sizeOf173,zeroValue173,underlying222,isAgg222,sizeOf222,zeroValue222,underlying223,isAgg223,sizeOf223,zeroValue223,underlying109,isAgg109,sizeOf109,zeroValue109,underlying229,isAgg229,sizeOf229,zeroValue229,underlying231,isAgg231,sizeOf231,zeroValue231,underlying255,isAgg255,sizeOf255,zeroValue255,underlying259,isAgg259,sizeOf259,zeroValue259,underlying275,isAgg275,sizeOf275,zeroValue275,underlying151,isAgg151,sizeOf151,zeroValue151⟩
end Go.Proofs
namespace Go.Proofs.Tryz
open Go Go.Pm
set_option maxRecDepth 100000
def p37:bj prog f37:=⟨_,by cbv⟩
def ZP:=(⟨_,by cbv⟩:Nf (dY prog f143))
def zu:bK:=(⟨_,by cbv⟩:Nf (dV ZP.1 0 [])).1
def Z4:bj prog f143:=⟨(λa=>(⟨_,by cbv⟩:Nf (eL ZP.1 [a])).1) zu,by kernel_rfl⟩
def q84:=(⟨_,by cbv⟩:Nf (dY prog f84))
def AJ:bK:=(⟨_,by cbv⟩:Nf (dV q84.1 0 [])).1
def DZ:bK:=(λa=>(⟨_,by cbv⟩:Nf (dV q84.1 1 [a])).1) AJ
def p84:bj prog f84:=⟨(λa b=>(⟨_,by cbv⟩:Nf (eL q84.1 [a,b])).1) AJ DZ,by kernel_rfl⟩
def ZO:=(⟨_,by cbv⟩:Nf (dY prog f146))
def nW:bK:=(⟨_,by cbv⟩:Nf (dV ZO.1 0 [])).1
def Z3:bj prog f146:=⟨(λa=>(⟨_,by cbv⟩:Nf (eL ZO.1 [a])).1) nW,by kernel_rfl⟩
def q86:=(⟨_,by cbv⟩:Nf (dY prog f86))
def AI:bK:=(⟨_,by cbv⟩:Nf (dV q86.1 0 [])).1
def AH:bK:=(⟨_,by cbv⟩:Nf (dV q86.1 1 [])).1
def DY:bK:=(⟨_,by cbv⟩:Nf (dV q86.1 2 [])).1
def p86:bj prog f86:=⟨(λa c b=>(⟨_,by cbv⟩:Nf (eL q86.1 [a,c,b])).1) AI AH DY,by kernel_rfl⟩
def ZM:=(⟨_,by cbv⟩:Nf (dY prog f148))
def zr:bK:=(⟨_,by cbv⟩:Nf (dV ZM.1 0 [])).1
def Z1:bj prog f148:=⟨(λa=>(⟨_,by cbv⟩:Nf (eL ZM.1 [a])).1) zr,by kernel_rfl⟩
def ZK:=(⟨_,by cbv⟩:Nf (dY prog f150))
def zp:bK:=(⟨_,by cbv⟩:Nf (dV ZK.1 0 [])).1
def ZY:bj prog f150:=⟨(λa=>(⟨_,by cbv⟩:Nf (eL ZK.1 [a])).1) zp,by kernel_rfl⟩
def ZL:=(⟨_,by cbv⟩:Nf (dY prog f149))
def zq:bK:=(⟨_,by cbv⟩:Nf (dV ZL.1 0 [])).1
def Z0:bj prog f149:=⟨(λa=>(⟨_,by cbv⟩:Nf (eL ZL.1 [a])).1) zq,by kernel_rfl⟩
def p42:bj prog f42:=⟨_,by cbv⟩
def QJ:bj prog f212:=⟨_,by cbv⟩
def Qj:=(⟨_,by cbv⟩:Nf (dY prog f161))
def o7:bK:=(⟨_,by cbv⟩:Nf (dV Qj.1 0 [])).1
def QO:bj prog f161:=⟨(λa=>(⟨_,by cbv⟩:Nf (eL Qj.1 [a])).1) o7,by kernel_rfl⟩
def QK:bj prog f204:=⟨_,by cbv⟩
def Qh:=(⟨_,by cbv⟩:Nf (dY prog f244))
def oY:bK:=(⟨_,by cbv⟩:Nf (dV Qh.1 0 [])).1
def QH:bj prog f244:=⟨(λa=>(⟨_,by cbv⟩:Nf (eL Qh.1 [a])).1) oY,by kernel_rfl⟩
def Qi:=(⟨_,by cbv⟩:Nf (dY prog f162))
def rP:bK:=(⟨_,by cbv⟩:Nf (dV Qi.1 0 [])).1
def QN:bj prog f162:=⟨(λa=>(⟨_,by cbv⟩:Nf (eL Qi.1 [a])).1) rP,by kernel_rfl⟩
def nB:bK:=.seq (.dv [] [z 81 (.bin .lss (.t 80) (.t 79))]) (.seq (.ite (.t 81) (.skip) (.exit 1)) (.seq (.block 2 (.seq (.dv [] [zm 82 80,zm 5 82]) (.seq (.dv [] [zm 83 0,zm 84 5,z 85
 (.idx 3 (.t 83) (.t 84)),zL 86 3 85,z 6 (.alloc 61 [.I 0,.s [],.I 0]),zs (.store 3 [none,none,none] (.t 6) (.t 86))]) (.seq (.seq (.dv [91,92,93,94,95] [zL 87
 3 6,z 88 (.call 81 [.t 87]),z 89 (.un .not (.t 88)),zm 90 89,⟨some 91,[(90,false)],.pq 2 (.t 6)⟩,⟨some 92,[(90,false)],.load none (.t 91)⟩,⟨some 93,[(90,false)],.pq
 2 (.t 3)⟩,⟨some 94,[(90,false)],.load none (.t 93)⟩,⟨some 95,[(90,false)],.bin .neq (.t 92) (.t 94)⟩,z 96 (.pick (.t 90) (.c (.b true)) (.t 95))]) (.ite (.t 96) (.exit 2)
 (.skip))) (.seq (.jH [([zf 97 0 3,zl 98 97,z 99 (.bin .neq (.t 98) (.c (.I 3))),zm 100 99,⟨some 101,[(100,false)],.pq 0 (.t 6)⟩,⟨some 102,[(100,false)],.load none
 (.t 101)⟩,⟨some 103,[(100,false)],.bin .neq (.t 102) (.c (.I 2))⟩,z 104 (.pick (.t 100) (.c (.b true)) (.t 103)),zm 105 104,⟨some 106,[(105,false)],.pq 1 (.t 6)⟩,
 ⟨some 107,[(105,false)],.load none (.t 106)⟩,⟨some 109,[(105,false)],.pq 1 (.t 3)⟩,⟨some 110,[(105,false)],.load none (.t 109)⟩],⟨some 108,[(105,false)],.call 80 [.t
 107]⟩,[⟨some 109,[(105,false)],.pq 1 (.t 3)⟩,⟨some 110,[(105,false)],.load none (.t 109)⟩])] [] [101,102,103,106,107,108,109,110,111] [⟨some 111,[(105,false)],
 .bin .neq (.t 108) (.t 110)⟩,z 112 (.pick (.t 105) (.c (.b true)) (.t 111))]) (.ite (.t 112) (.seq (.dv [] [z 4 (.gm (.c (.I 7)))]) (.ret)) (.skip))))))) (.dv [] [z 113
 (.bin .add (.t 80) (.c (.I 1))),zm 80 113])))
def QW:ux:=⟨114,[.t 4],.seq (.dv [] [z 3 (.box 61 (.t 1)),z 4 (.gm (.c (.I 0)))]) (.seq (.seq (.dv [] [zf 7 0 3,zl 8 7]) (.block 0 (.seq (.dv [] [z 10 (.bin .eql (.t 8) (.c (.i
 .i64 1))),zm 9 10]) (.ite (.t 9) (.seq (.seq (.dv [15,16,17,20,21,22,23,24,25,26,27,28,29,30,31,32] [zf 11 1 3,zl 12 11,z 13 (.bin .eql (.t 12) (.c (.s []))),zm
 14 13,⟨some 15,[(14,false)],.pq 2 (.t 3)⟩,⟨some 16,[(14,false)],.load none (.t 15)⟩,⟨some 17,[(14,false)],.bin .neq (.t 16) (.c (.I 0))⟩,z 18 (.pick (.t 14) (.c
 (.b true)) (.t 17)),zm 19 18,⟨some 20,[(19,false)],.gm (.t 0)⟩,⟨some 21,[(19,false)],.len false (.t 20)⟩,⟨some 22,[(19,false)],.bin .gtr (.t 21) (.c (.I 0))⟩,
 ⟨some 23,[(19,false)],.gm (.t 22)⟩,⟨some 24,[(19,false),(23,true)],.gm (.t 0)⟩,⟨some 25,[(19,false),(23,true)],.gm (.t 0)⟩,⟨some 26,[(19,false),(23,true)],
 .len false (.t 25)⟩,⟨some 27,[(19,false),(23,true)],.bin .sub (.t 26) (.c (.I 1))⟩,⟨some 28,[(19,false),(23,true)],.idx 3 (.t 24) (.t 27)⟩,⟨some 29,[(19,false),
 (23,true)],.pq 0 (.t 28)⟩,⟨some 30,[(19,false),(23,true)],.load none (.t 29)⟩,⟨some 31,[(19,false),(23,true)],.bin .eql (.t 30) (.c (.I 1))⟩,⟨some 32,[(19,
 false)],.pick (.t 23) (.t 31) (.c (.b false))⟩,z 33 (.pick (.t 19) (.c (.b true)) (.t 32))]) (.ite (.t 33) (.seq (.dv [] [z 4 (.gm (.c (.I 1)))]) (.ret)) (.skip))) (.seq
 (.dv [] [z 4 (.gm (.c (.I 0)))]) (.ret))) (.seq (.dv [] [z 35 (.bin .eql (.t 8) (.c (.I 5))),zm 34 35]) (.ite (.t 34) (.seq (.seq (.dv [41,42,43] [zf 36 1 3,zl 37
 36,z 38 (.call 161 [.t 37]),z 39 (.un .not (.t 38)),zm 40 39,⟨some 41,[(40,false)],.pq 2 (.t 3)⟩,⟨some 42,[(40,false)],.load none (.t 41)⟩,⟨some 43,[(40,false)],.bin
 .neq (.t 42) (.c (.I 0))⟩,z 44 (.pick (.t 40) (.c (.b true)) (.t 43))]) (.ite (.t 44) (.seq (.dv [] [z 4 (.gm (.c (.I 1)))]) (.ret)) (.skip))) (.seq (.dv [] [z 4 (.gm
 (.c (.I 0)))]) (.ret))) (.seq (.seq (.dv [] [z 46 (.bin .eql (.t 8) (.c (.I 2))),zm 45 46]) (.ite (.t 45) (.skip) (.dv [] [z 47 (.bin .eql (.t 8) (.c (.I 4))),zm
 45 47]))) (.ite (.t 45) (.seq (.dv [53,54,55,58,59,60] [zf 48 1 3,zl 49 48,z 50 (.call 162 [.t 49]),z 51 (.un .not (.t 50)),zm 52 51,⟨some 53,[(52,false)],.pq 2 (.t
 3)⟩,⟨some 54,[(52,false)],.load none (.t 53)⟩,⟨some 55,[(52,false)],.bin .lss (.t 54) (.c (.I 1))⟩,z 56 (.pick (.t 52) (.c (.b true)) (.t 55)),zm 57 56,⟨some 58,
 [(57,false)],.pq 2 (.t 3)⟩,⟨some 59,[(57,false)],.load none (.t 58)⟩,⟨some 60,[(57,false)],.bin .gtr (.t 59) (.c (.I 999))⟩,z 61 (.pick (.t 57) (.c (.b true)) (.t
 60))]) (.ite (.t 61) (.seq (.dv [] [z 4 (.gm (.c (.I 1)))]) (.ret)) (.skip))) (.seq (.dv [] [z 63 (.bin .eql (.t 8) (.c (.I 3))),zm 62 63]) (.ite (.t 62) (.seq (.dv
 [69,70,71,74,75,76] [zf 64 1 3,zl 65 64,z 66 (.call 161 [.t 65]),z 67 (.un .not (.t 66)),zm 68 67,⟨some 69,[(68,false)],.pq 2 (.t 3)⟩,⟨some 70,[(68,false)],.load
 none (.t 69)⟩,⟨some 71,[(68,false)],.bin .lss (.t 70) (.c (.I 1))⟩,z 72 (.pick (.t 68) (.c (.b true)) (.t 71)),zm 73 72,⟨some 74,[(73,false)],.pq 2 (.t 3)⟩,⟨some
 75,[(73,false)],.load none (.t 74)⟩,⟨some 76,[(73,false)],.bin .gtr (.t 75) (.c (.I 999))⟩,z 77 (.pick (.t 73) (.c (.b true)) (.t 76))]) (.ite (.t 77) (.seq (.dv [] [z
 4 (.gm (.c (.I 1)))]) (.ret)) (.skip))) (.seq (.dv [] [z 4 (.gm (.c (.I 1)))]) (.ret)))))))))))) (.seq (.seq (.dv [] [zm 78 0,z 79 (.len false (.t 78)),z 80 (.gm
 (.c (.I 0)))]) (.block 1 (.loop nB))) (.seq (.dv [] [z 4 (.gm (.c (.I 0)))]) (.ret))))⟩
def acd:dY prog f103=some QW:=by kernel_rfl
def q46:=(⟨_,by cbv⟩:Nf (dY prog f46))
def wP:bK:=(⟨_,by cbv⟩:Nf (dV q46.1 0 [])).1
def p46:bj prog f46:=⟨(λa=>(⟨_,by cbv⟩:Nf (eL q46.1 [a])).1) wP,by kernel_rfl⟩
def Qn:=(⟨_,by cbv⟩:Nf (dY prog f102))
def rU:bK:=(⟨_,by cbv⟩:Nf (dV Qn.1 0 [])).1
def QX:bj prog f102:=⟨(λa=>(⟨_,by cbv⟩:Nf (eL Qn.1 [a])).1) rU,by kernel_rfl⟩
def q89:=(⟨_,by cbv⟩:Nf (dY prog f89))
def DX:bK:=(⟨_,by cbv⟩:Nf (dV q89.1 0 [])).1
def p89:bj prog f89:=⟨(λa=>(⟨_,by cbv⟩:Nf (eL q89.1 [a])).1) DX,by kernel_rfl⟩
def QL:bj prog f164:=⟨_,by cbv⟩
def Qk:=(⟨_,by cbv⟩:Nf (dY prog f139))
def rQ:bK:=(⟨_,by cbv⟩:Nf (dV Qk.1 0 [])).1
def QP:bj prog f139:=⟨(λa=>(⟨_,by cbv⟩:Nf (eL Qk.1 [a])).1) rQ,by kernel_rfl⟩
def q74:=(⟨_,by cbv⟩:Nf (dY prog f74))
def wN:bK:=(⟨_,by cbv⟩:Nf (dV q74.1 0 [])).1
def p74:bj prog f74:=⟨(λa=>(⟨_,by cbv⟩:Nf (eL q74.1 [a])).1) wN,by kernel_rfl⟩
def IW:=(⟨_,by cbv⟩:Nf (dY prog f104))
def o8:bK:=(⟨_,by cbv⟩:Nf (dV IW.1 0 [])).1
def rT:bK:=(⟨_,by cbv⟩:Nf (dV IW.1 1 [])).1
def QV:bj prog f104:=⟨(λa b=>(⟨_,by cbv⟩:Nf (eL IW.1 [a,b])).1) o8 rT,by kernel_rfl⟩
def IV:=(⟨_,by cbv⟩:Nf (dY prog f163))
def rO:bK:=(⟨_,by cbv⟩:Nf (dV IV.1 0 [])).1
def oZ:bK:=(⟨_,by cbv⟩:Nf (dV IV.1 1 [])).1
def QM:bj prog f163:=⟨(λa b=>(⟨_,by cbv⟩:Nf (eL IV.1 [a,b])).1) rO oZ,by kernel_rfl⟩
def q47:=(⟨_,by cbv⟩:Nf (dY prog f47))
def wO:bK:=(⟨_,by cbv⟩:Nf (dV q47.1 0 [])).1
def p47:bj prog f47:=⟨(λa=>(⟨_,by cbv⟩:Nf (eL q47.1 [a])).1) wO,by kernel_rfl⟩
def Qm:=(⟨_,by cbv⟩:Nf (dY prog f114))
def rS:bK:=(⟨_,by cbv⟩:Nf (dV Qm.1 0 [])).1
def QU:bj prog f114:=⟨(λa=>(⟨_,by cbv⟩:Nf (eL Qm.1 [a])).1) rS,by kernel_rfl⟩
def Ql:=(⟨_,by cbv⟩:Nf (dY prog f115))
def rR:bK:=(⟨_,by cbv⟩:Nf (dV Ql.1 0 [])).1
def QT:bj prog f115:=⟨(λa=>(⟨_,by cbv⟩:Nf (eL Ql.1 [a])).1) rR,by kernel_rfl⟩
def QS:bj prog f116:=⟨_,by cbv⟩
def p56:bj prog f56:=⟨_,by cbv⟩
def q91:=(⟨_,by cbv⟩:Nf (dY prog f91))
def DV:bK:=(⟨_,by cbv⟩:Nf (dV q91.1 0 [])).1
def p91:bj prog f91:=⟨(λa=>(⟨_,by cbv⟩:Nf (eL q91.1 [a])).1) DV,by kernel_rfl⟩
def q92:=(⟨_,by cbv⟩:Nf (dY prog f92))
def DU:bK:=(⟨_,by cbv⟩:Nf (dV q92.1 0 [])).1
def p92:bj prog f92:=⟨(λa=>(⟨_,by cbv⟩:Nf (eL q92.1 [a])).1) DU,by kernel_rfl⟩
def ZJ:=(⟨_,by cbv⟩:Nf (dY prog f152))
def zo:bK:=(⟨_,by cbv⟩:Nf (dV ZJ.1 0 [])).1
def ZX:bj prog f152:=⟨(λa=>(⟨_,by cbv⟩:Nf (eL ZJ.1 [a])).1) zo,by kernel_rfl⟩
def q90:=(⟨_,by cbv⟩:Nf (dY prog f90))
def DW:bK:=(⟨_,by cbv⟩:Nf (dV q90.1 0 [])).1
def p90:bj prog f90:=⟨(λa=>(⟨_,by cbv⟩:Nf (eL q90.1 [a])).1) DW,by kernel_rfl⟩
def q88:=(⟨_,by cbv⟩:Nf (dY prog f88))
def rN:bK:=(⟨_,by cbv⟩:Nf (dV q88.1 0 [])).1
def p88:bj prog f88:=⟨(λa=>(⟨_,by cbv⟩:Nf (eL q88.1 [a])).1) rN,by kernel_rfl⟩
def q93:=(⟨_,by cbv⟩:Nf (dY prog f93))
def DT:bK:=(⟨_,by cbv⟩:Nf (dV q93.1 0 [])).1
def p93:bj prog f93:=⟨(λa=>(⟨_,by cbv⟩:Nf (eL q93.1 [a])).1) DT,by kernel_rfl⟩
def q40:=(⟨_,by cbv⟩:Nf (dY prog f40))
def D3:bK:=(⟨_,by cbv⟩:Nf (dV q40.1 0 [])).1
def p40:bj prog f40:=⟨(λa=>(⟨_,by cbv⟩:Nf (eL q40.1 [a])).1) D3,by kernel_rfl⟩
def q22:=(⟨_,by cbv⟩:Nf (dY prog f22))
def wQ:bK:=(⟨_,by cbv⟩:Nf (dV q22.1 0 [])).1
def p22:bj prog f22:=⟨(λa=>(⟨_,by cbv⟩:Nf (eL q22.1 [a])).1) wQ,by kernel_rfl⟩
def Vq:bK:=.seq (.dv [] [z 69 (.bin .lss (.t 68) (.t 67))]) (.seq (.ite (.t 69) (.skip) (.exit 0)) (.seq (.block 1 (.seq (.dv [] [z 70 (.idx 5 (.t 66) (.t 68)),zL 71 5 70,z 16 (.alloc 44
 [.I 0,.I 0,.I 0,.I 0,.I 0]),zs (.store 5 [none,none,none,none,none] (.t 16) (.t 71))]) (.seq (.seq (.dv [76,77,78,79,80,83,84,85] [zf 72 0
 16,zl 73 72,z 74 (.bin .lss (.t 73) (.c (.I 0))),zm 75 74,⟨some 76,[(75,false)],.pq 0 (.t 16)⟩,⟨some 77,[(75,false)],.load none (.t 76)⟩,⟨some 78,[(75,false)],
 .gm (.t 9)⟩,⟨some 79,[(75,false)],.len false (.t 78)⟩,⟨some 80,[(75,false)],.bin .geq (.t 77) (.t 79)⟩,z 81 (.pick (.t 75) (.c (.b true)) (.t 80)),zm 82 81,⟨some 83,
 [(82,false)],.pq 4 (.t 16)⟩,⟨some 84,[(82,false)],.load none (.t 83)⟩,⟨some 85,[(82,false)],.bin .neq (.t 84) (.c (.I 102))⟩,z 86 (.pick (.t 82) (.c (.b true)) (.t
 85))]) (.ite (.t 86) (.seq (.dv [] [z 4 (.gm (.c (.b false)))]) (.ret)) (.skip))) (.jH [] [zm 87 14,zm 88 87,⟨some 89,[(88,false)],.gm (.t 9)⟩,⟨some 90,[(88,false)],
 .pq 0 (.t 16)⟩,⟨some 91,[(88,false)],.load none (.t 90)⟩,⟨some 92,[(88,false)],.idx 8 (.t 89) (.t 91)⟩,⟨some 93,[(88,false)],.load (some 8) (.t 92)⟩,⟨some 94,[(88,
 false)],.load (some 8) (.t 6)⟩] [89,90,91,92,93,94,95] [⟨some 95,[(88,false)],.call 42 [.t 93,.t 94]⟩,z 96 (.pick (.t 88) (.c (.b true)) (.t 95)),zm 14 96])))) (.dv []
 [z 97 (.bin .add (.t 68) (.c (.I 1))),zm 68 97])))
def p10:ux:=⟨118,[.t 4],.seq (.dv [] [z 4 (.gm (.c (.b false)))]) (.seq (.seq (.dv [] [zm 19 0,z 20 (.len false (.t 19)),z 21 (.bin .gtr (.t 20) (.c (.I 300)))]) (.ite (.t 21) (.seq
 (.dv [] [z 22 (.call 12 []),zm 4 22]) (.ret)) (.skip))) (.seq (.dv [] [zm 23 0,z 24 (.build [.nil,.I 0] [(0,1,.t 23)]),z 25 (.box 31 (.t 24)),zm 5 25]) (.seq (.dv []
 [zm 26 5,z 27 (.call 41 [.t 26]),z 6 (.alloc 37 [.nil,.nil,.s [],.s [],.s [],.s [],.I 0,.I 0]),zs (.store 8 [some 3,some 3,none,none,none,none,none,none]
 (.t 6) (.t 27))]) (.seq (.dv [] [zf 28 2 6,zs (.store 1 [none] (.t 28) (.c (.s [97]))),zf 29 3 6,zs (.store 1 [none] (.t 29) (.c (.s [98])))]) (.seq (.jH [([zm 30 5,zL 32 8
 6,z 33 (.dH 8 [some 3,some 3,none,none,none,none,none,none] [.t 32])],z 31 (.call 17 [.t 30,.c (.I 4)]),[zL 32 8 6,z 33 (.dH 8 [some 3,some 3,none,none,
 none,none,none,none] [.t 32])])] [] [] [z 34 (.app 37 8 128 (.t 31) (.t 33)),zm 7 34]) (.seq (.dv [] [zm 36 7,z 37 (.call 22 [.t 36]),zm 35 37,z 38 (.ext 0 (.t 35)),z 39
 (.ext 1 (.t 35)),z 40 (.ext 2 (.t 35)),zm 8 38,zm 9 39,zm 10 40]) (.seq (.YZ [(11,24,[.nil,.s [],.s [],.I 0,.I 0,.I 0])] [([zf 41 0 6,zl 42 41,zf 43 0
 6,zl 44 43,z 46 (.dH 1 [none] [.c (.I 5),.c (.I 9),.c (.I 2),.c (.I 7),.c (.I 40),.c (.I 8),.c (.I 3)])],z 45 (.call 36 [.t 44]),[zf
 41 0 6,zl 42 41,z 46 (.dH 1 [none] [.c (.I 5),.c (.I 9),.c (.I 2),.c (.I 7),.c (.I 40),.c (.I 8),.c (.I 3)])]),([],z 47 (.call 35
 [.t 42,.t 45,.t 46]),[])] [] [z 48 (.build [.nil,.s [],.s [],.I 0,.I 0,.I 0] [(0,1,.t 47),(1,1,.c (.s [97])),(2,1,.c (.s [98])),(4,1,.c (.i .i64
 102)),(5,1,.c (.I 10))])] [] [zs (.store 6 [some 3,none,none,none,none,none] (.t 11) (.t 48))]) (.seq (.dv [] [zm 50 8,zL 51 6 11,z 52 (.call 23 [.t 50,.c .nil,.t
 51]),zm 49 52,z 53 (.ext 0 (.t 49)),z 54 (.ext 1 (.t 49)),zm 12 53,zm 13 54]) (.seq (.seq (.dv [58,59,62,63,64] [zm 55 10,z 56 (.un .not (.t 55)),zm 57 56,⟨some 58,
 [(57,false)],.gm (.t 13)⟩,⟨some 59,[(57,false)],.bin .neq (.t 58) (.c (.I 0))⟩,z 60 (.pick (.t 57) (.c (.b true)) (.t 59)),zm 61 60,⟨some 62,[(61,false)],.gm (.t
 12)⟩,⟨some 63,[(61,false)],.len false (.t 62)⟩,⟨some 64,[(61,false)],.bin .lss (.t 63) (.c (.I 1))⟩,z 65 (.pick (.t 61) (.c (.b true)) (.t 64))]) (.ite (.t 65) (.seq
 (.dv [] [z 4 (.gm (.c (.b false)))]) (.ret)) (.skip))) (.seq (.dv [] [z 14 (.gm (.c (.b false)))]) (.seq (.seq (.dv [] [zm 66 12,z 67 (.len false (.t 66)),z 68 (.gm (.c (.i
 .i64 0)))]) (.block 0 (.loop Vq))) (.seq (.dv [] [zL 99 8 6,zf 100 0 11,zl 101 100,z 102 (.call 37 [.t 99,.t 101]),zm 98 102,z 103 (.ext 0 (.t 98)),z 104 (.ext 1 (.t
 98)),zm 17 103,zm 18 104]) (.seq (.dv [107,110,111,112,113,116] [zm 105 14,zm 106 105,⟨some 107,[(106,true)],.gm (.t 18)⟩,z 108 (.pick (.t 106) (.t 107) (.c (.b
 false))),zm 109 108,⟨some 110,[(109,true)],.pq 0 (.t 11)⟩,⟨some 111,[(109,true)],.load none (.t 110)⟩,⟨some 112,[(109,true)],.gm (.t 17)⟩,⟨some 113,[(109,true)],
 .call 40 [.t 111,.t 112]⟩,z 114 (.pick (.t 109) (.t 113) (.c (.b false))),zm 115 114,⟨some 116,[(115,true)],.call 12 []⟩,z 117 (.pick (.t 115) (.t 116) (.c (.b false))),zm
 4 117]) (.ret))))))))))))))⟩
def c10:dY prog f10=some p10:=by kernel_rfl
def QQ:bj prog f138:=⟨_,by cbv⟩
def p73:bj prog f73:=⟨_,by cbv⟩
def p30:bj prog f30:=⟨_,by cbv⟩
end Go.Proofs.Tryz
namespace Go.Bt
open Go Go.Pm
def Lw:En:=⟨[],[],[],[],[],[],0,0⟩
def leB(x y:aG):Bool:=decide (x<=y)
def B4(a b:En):Bool:=gL a.awc b.awc&&(gL a.awf b.awf&&(a.bU==b.bU&&(a.next==b.next&&(a.c8==b.c8&&(a.cA==b.cA&&(a.awh==b.awh&&a.awq==b.awq))))))
def Kl{a b:En}:B4 a b=true<->a=b:=by
 obtain⟨h,i,o,c,q,r,k,d⟩:=a;obtain⟨f,m,p,n,g,l,e,j⟩:=b;simp[B4,sW]
def x7:∀c:UInt8,qM c=true->c≠92/\c≠60/\c≠123:=eP (by decide +kernel)
def EL:∀c:UInt8,fQ (gn (c.toNat / 16)) (gn (c.toNat % 16))=c/\(gE (gn (c.toNat / 16))).2=true/\(gE (gn (c.toNat % 16))).2=true:=eP (by decide +kernel)
def EM:∀c:UInt8,qM c=false->c≠10->c≠9->¬(c=92\/c=60\/c=123)->(c==13||ei c==1)=true:=eP (by decide +kernel)
def iV(a d:UInt8)(r:aG):dj (a::d::r)=if d=92\/d=60\/d=123 then(d,2,true)else if d=110 then(10,2,true)else if d=116 then(9,2,true)else if d=120 then
  (if r.length<2 then(0,0,false)else(fQ (r.getD 0 0) (r.getD 1 0),4,(gE (r.getD 0 0)).2&&(gE (r.getD 1 0)).2&&(fQ (r.getD 0 0) (r.getD 1 0)==13||ei (fQ (r.getD 0 0) (r.getD 1 0))==1)))else(0,0,false):=by
 simp only[dj,ai,aA,aR];rw[an (by omega)];have e:(r.length+1+1<4)=(r.length<2):=by rw[KS];omega
 simp only[e]
def mO(d:UInt8)(r:aG):aX (92::d::r)=(⟨1,[(dj (92::d::r)).1],0⟩,(dj (92::d::r)).2.1,(dj (92::d::r)).2.2):=by
 simp only[aX,aA,aT]
def yD(c:UInt8)(rest:aG):aX (du c++rest)=(⟨1,[c],0⟩,((du c).length:Int),true):=by
 unfold du;split
 .rename_i h;have g:=x7 c h;simp[aX,g,h]
 .rename_i h;have h:qM c=false:=by simpa using h
  split
  .rename_i a;subst a;simp only[bJ,bc,mO,iV];rfl
  .split
   .rename_i a b;subst b;simp only[bJ,bc,mO,iV];rfl
   .split
    .rename_i a b e;simp only[bJ,bc,mO,iV,az e];rfl
    .rename_i a b e;have d:=EL c;have f:=EM c h a b e;simp only[bJ,bc,mO,iV];rw[an (by decide),an (by decide),an (by decide),az (by decide),an (by simp)];simp only[aA,aR,d.1,d.2.1,d.2.2,f,df];rfl
def tP:∀c:UInt8,fw c=true->c≠62/\c≠125/\c≠58/\c≠47/\c≠32/\fT c=false:=eP (by decide +kernel)
def yc:∀c:UInt8,(97<=c.toNat/\c.toNat<=122)->fw c=true:=eP (by decide +kernel)
def vD{s:aG}(h:awj s=true):∀c∈s,fw c=true:=by
 cases s with
 |nil=>simp[awj]at h
 |cons c r =>
  simp only[awj,aJ,aV,bY]at h;intro x a;rcases bC.1 a with rfl|a
  .exact yc _ h.1.2
  .exact h.2 x a
def yC(t rest:aG)(h:awj t=true):aX (123::(t++125::rest))=(⟨5,t,0⟩,(t.length:Int)+2,true):=by
 have b:Lib.indexByte (123::(t++125::rest)) 125=((123::t:aG).length:Int):=by
  have:=nX (c:=125) (rest:=rest) (pre:=123::t) (by
   intro a;rcases bC.1 a with a|a
   .exact absurd a (by decide)
   .exact(tP _ (vD h _ a)).2.1 rfl)
  simpa using this
 have e:((123::(t++125::rest)).take (Lib.indexByte (123::(t++125::rest)) 125).toNat).drop 1=t:=by
  rw[b];simp
 simp only[aX,aA,e,h];rw[an (by decide),an (by decide),az (by decide),an (by rw[b];simp;omega),b];simp;omega
def tZ{c:UInt8}{a b:aG}(h:c ∉ a):cutAt (a++c::b) c=(a,b,true):=by
 simp only[cutAt,nX h];rw[az (by omega)];simp
def d3(n:Nat):aG:=if n<10 then[UInt8.ofNat (48+n)]else if n<100 then[UInt8.ofNat (48+n / 10),UInt8.ofNat (48+n % 10)]else[UInt8.ofNat (48+n / 100),UInt8.ofNat (48+n / 10 % 10),UInt8.ofNat (48+n % 10)]
def oH(n:Nat)(h:n<1000):Lib.itoa (n:Int)=d3 n:=by
 unfold Lib.itoa;rw[an (by omega)];simp only[ao,d3]
 by_cases a:n<10
 .rw[az a,Lib.decDigits_one a]
 .rw[an a]
  by_cases b:n<100
  .rw[az b,Lib.decDigits_two a b]
  .rw[an b,Lib.decDigits,YA a,Lib.decDigits_two (by omega) (by omega)];simp only[bJ,bc];have e:n / 10 / 10=n / 100:=by omega
   rw[e]
def Kp:∀n:Fin 1000,1<=n.val->awn (d3 n.val)=((n.val:Int),true)/\(d3 n.val).all cQ=true/\(d3 n.val)≠[]:=by decide +kernel
def AP(n:Int)(h:1<=n/\n<=999):awn (Lib.itoa n)=(n,true)/\(∀c∈Lib.itoa n,cQ c=true)/\Lib.itoa n≠[]:=by
 obtain⟨m,rfl⟩:∃m:Nat,n=m:=⟨n.toNat,by omega⟩;have:=Kp ⟨m,by omega⟩ (by show 1<=m;omega);rw[oH m (by omega)];exact⟨this.1,λc a=>bY.1 this.2.1 c a,this.2.2⟩
def nu(m:List (Int×It))(x:It):List (Int×It):=if tagged x then iZ m x.id x else m
def jh(f:List It):List (Int×It):=f.foldl nu []
def kT(f:List It)(t:aG):Rd:=⟨f,t,awr f+t.length,jh f⟩
def ka(a b:List It):awr (a++b)=awr a+awr b:=by simp[awr]
def nr(x:It):awr [x]=wid x:=by simp[awr]
def kS(f:List It)(x:It):jh (f++[x])=nu (jh f) x:=by simp[jh]
def tz{m:List (Int×It)}{t:aG}{i:Int}:nu m ⟨1,t,i⟩=m:=by simp[nu,tagged]
def pW(f:List It)(t:aG):jh (closed f t)=jh f:=by
 simp only[closed];split
 .rfl
 .rw[kS,tz]
def mH(f:List It)(t:aG):awr (closed f t)=awr f+t.length:=by
 simp only[closed];split
 .rename_i h;simp[h]
 .rw[ka,nr];simp[wid]
def px(f:List It)(t:aG):(closed f t).length=f.length+(if 0<t.length then 1 else 0):=by
 simp only[closed];split
 .rename_i h;simp[h]
 .rename_i h;have:0<t.length:=cT.2 h;simp[this]
def vi(f:List It)(t:aG):(ig (kT f t)).f=closed f t:=by
 by_cases h:t=[]
 .subst h;rfl
 .have a:0<t.length:=cT.2 h;have e:ig (kT f t)=⟨f++[⟨1,t,0⟩],[],awr f+t.length,jh f⟩:=az a;rw[e,closed,an h]
def vk(f:List It)(t:aG)(c:UInt8):lG (kT f t) ⟨1,[c],0⟩=if ic f t ⟨1,[c],0⟩then(3,kT f t)else(0,kT f (t++[c])):=by
 simp only[lG,tagged,mQ,ic,kT];simp only[lA,dR,aI,aS,aj,ai,al,aT];rfl
def vj(f:List It)(t:aG)(x:It)(a:x.awb≠1):lG (kT f t) x =
  if tagged x&&vT (kT f t) x then(7,kT f t)else if ic f t x then(3,kT f t)else(0,kT (closed f t++[x]) []):=by
 simp only[lG,mQ,ic,a,aS]
 have e:Ax (ig (rf (kT f t) x)) x=kT (closed f t++[x]) []:=by
  have c:wid x=1:=by simp[wid,a]
  simp only[kT,ka,nr,mH,kS,pW,c,al,de]
  by_cases h:t=[]
  .subst h;rfl
  .have b:0<t.length:=cT.2 h;have e:ig (rf ⟨f,t,awr f+t.length,jh f⟩ x)=⟨f++[⟨1,t,0⟩],[],awr f+t.length+1,nu (jh f) x⟩:=az b;rw[e,closed,an h];rfl
 rw[e];rfl
def iT{x:It}(h:bG none x=true):b9 x=tagged x:=by
 simp only[bG]at h
 by_cases b:x.awb=1
 .simp[b9,tagged,b]
 .by_cases c:x.awb=5
  .simp[b9,tagged,c]
  .by_cases a:x.awb=2\/x.awb=4
   .rcases a with a|a<;>simp[b9,tagged,a]
   .by_cases d:x.awb=3
    .simp[b9,tagged,d]
    .simp[b,c,a,d]at h
def vS{f:List It}{t:aG}{x:It}(v:bQ [] f=0)(s:bG none x=true):(tagged x&&vT (kT f t) x)=(b9 x&&!fits (closed f t) x):=by
 rw[iT s]
 by_cases l:tagged x=true
 .rw[l,cc,cc];have A:b9 x=true:=by rw[iT s];exact l
  have n:fits (closed f t) x=fits f x:=by
   simp only[closed];split
   .rfl
   .simp[fits,dP,b9]
  rw[n];simp only[vT,kT]
  have m:∀f:List It,bQ [] f=0->(match cX x.id (jh f)with|some b=>x.awb != 3||b.awb != 2||cW b.awd != x.awd|none=>false)=!fits f x:=by
   intro f
   induction f using Bw with
   |h0=>intro _;simp[jh,yz,fits]
   |h1 f y ih =>
    intro h;rw[fp]at h;obtain⟨h1,g,i⟩:=h;have ih:=ih h1;simp only[bc]at g i
    have r:bG none y=true:=by
     by_cases q:y.awb=1
     .simp only[bG,q,aT,aJ]at g |-;exact⟨g.1,trivial⟩
     .rw[<- jv (p:=f.getLast?) q];exact g
    have e:fits (f++[y]) x=(fits f x&&!dP x y):=by simp[fits]
    rw[kS,e];simp only[nu]
    by_cases k:tagged y=true
    .rw[az k,jy];have j:b9 y=true:=by rw[iT r];exact k
     by_cases d:x.id=y.id
     .rw[az d];rw[j,cc,dQ]at i;have c:dP x y=(x.awb != 3||y.awb != 2||!(cW y.awd==x.awd)):=by simp[dP,j,d]
      rw[c]
      by_cases a:(x.awb != 3||y.awb != 2||!(cW y.awd==x.awd))=true
      .simp only[bne]at a |-;rw[a];simp
      .have a:(x.awb != 3||y.awb != 2||!(cW y.awd==x.awd))=false:=by simpa using a
       have w:fits f x=true:=by
        simp only[fits,bY,dm]at i |-;intro z u;have o:=i z u;simp only[iv,BT]at a;simp only[dP]at o |-;have:(y.awb != 3)=true:=by rw[a.1.2];decide
        rw[this,xK,xK,df]at o;rw[d,o,dR]
       rw[w];simp only[bne]at a |-;rw[a];simp
     .rw[an d,ih]
      have c:dP x y=false:=by
       have:(y.id != x.id)=true:=by simpa using λe=>d e.symm
       simp[dP,this]
      rw[c];simp
    .rw[an k,ih];have j:b9 y=false:=by rw[iT r];simpa using k
     have c:dP x y=false:=by simp[dP,j]
     rw[c];simp
  exact m f v
 .have h0:tagged x=false:=by simpa using l
  simp[h0]
def rm:∀p:UInt8,(gE p).2=true->gn (gE p).1.toNat=p:=eP (by decide +kernel)
def A7:∀b:UInt8,(b==13||ei b==1)=true->du b=[92,120,gn (b.toNat / 16),gn (b.toNat % 16)]:=eP (by decide +kernel)
def qh(p q:UInt8):(fQ p q).toNat / 16=(gE p).1.toNat/\(fQ p q).toNat % 16=(gE q).1.toNat:=by
 have a:=tT p;have b:=tT q
 have:(fQ p q).toNat=16*(gE p).1.toNat+(gE q).1.toNat:=by
  simp only[fQ,C8];omega
 omega
def je:∀c:UInt8,cQ c=true->∃i:Fin 10,c=UInt8.ofNat (48+i.val)/\((c.toNat:Int) - 48)=i.val:=by
 intro c h;refine⟨⟨c.toNat - 48,by simp[cQ]at h;omega⟩,?_,?_⟩
 .simp only[cQ,aJ,aV]at h;have:48+(c.toNat - 48)=c.toNat:=by omega
  simp[this]
 .simp only[cQ,aJ,aV]at h;simp only;omega
def EW:∀i:Fin 10,i.val≠0->d3 i.val=[UInt8.ofNat (48+i.val)]:=by decide +kernel
def EU:∀i j:Fin 10,i.val≠0->d3 (10*i.val+j.val)=[UInt8.ofNat (48+i.val),UInt8.ofNat (48+j.val)]:=by decide +kernel
def ET:∀i j k:Fin 10,i.val≠0->d3 (100*i.val+10*j.val+k.val)=[UInt8.ofNat (48+i.val),UInt8.ofNat (48+j.val),UInt8.ofNat (48+k.val)]:=by decide +kernel
def iS{a:aG}(h:(awn a).2=true):a=Lib.itoa (awn a).1/\1<=(awn a).1/\(awn a).1<=999:=by
 simp only[awn]at h |-
 by_cases c:a.length<1\/3<a.length\/a.getD 0 0=48
 .rw[az c]at h;simp at h
 .rw[an c]at h |-
  by_cases b:a.all cQ=true
  .rw[az b]
   match a,c,b with
   |[x],c,b =>
    simp only[gO,oL,df]at b;obtain⟨i,d,l⟩:=je x b
    have f:i.val≠0:=by
     intro e;apply c;right;right;rw[aA,d,e];rfl
    have e:cR 0 [x]=(i.val:Int):=by simp[cR];omega
    simp only[e];rw[oH _ (by omega),EW i f,<- d];exact⟨rfl,by omega,by omega⟩
   |[x,y],c,b =>
    simp only[gO,oL,df,aJ]at b;obtain⟨i,d,l⟩:=je x b.1;obtain⟨j,g,m⟩:=je y b.2
    have f:i.val≠0:=by
     intro e;apply c;right;right;rw[aA,d,e];rfl
    have e:cR 0 [x,y]=((10*i.val+j.val:Nat):Int):=by simp[cR];omega
    simp only[e];rw[oH _ (by omega),EU i j f,<- d,<- g];exact⟨rfl,by omega,by omega⟩
   |[x,y,z],c,b =>
    simp only[gO,oL,df,aJ]at b;obtain⟨i,d,l⟩:=je x b.1;obtain⟨j,g,m⟩:=je y b.2.1;obtain⟨k,n,o⟩:=je z b.2.2
    have f:i.val≠0:=by
     intro e;apply c;right;right;rw[aA,d,e];rfl
    have e:cR 0 [x,y,z]=((100*i.val+10*j.val+k.val:Nat):Int):=by simp[cR];omega
    simp only[e];rw[oH _ (by omega),ET i j k f,<- d,<- g,<- n];exact⟨rfl,by omega,by omega⟩
   |[],c,_=>simp at c
   |_::_::_::_::_,c,_=>simp at c
  .rw[an b]at h;simp at h
def gW{s:aG}{c:UInt8}(h:(cutAt s c).2.2=true):s=(cutAt s c).1++c::(cutAt s c).2.1:=by
 simp only[cutAt]at h |-
 by_cases d:0<=Lib.indexByte s c
 .rw[az d]
  have b:∀s:aG,0<=Lib.indexByte s c->s=s.take (Lib.indexByte s c).toNat++c::s.drop ((Lib.indexByte s c).toNat+1):=by
   intro s
   induction s with
   |nil=>intro h;simp[Lib.indexByte]at h
   |cons a s ih =>
    intro h;have j:=mZ c s
    by_cases f:a=c
    .subst f;simp[Lib.indexByte]
    .have i:(a==c)=false:=by simpa using f
     simp only[Lib.indexByte,i,aI,aS]at h |-
     by_cases e:(Lib.indexByte s c == -1)=true
     .rw[az e]at h;omega
     .rw[an e]at h |-;have k:Lib.indexByte s c ≠ -1:=by simpa using e
      have g:(Lib.indexByte s c+1).toNat=(Lib.indexByte s c).toNat+1:=by omega
      rw[g];simp only[dt,iJ,bJ];rw[<- ih (by omega)]
  exact b s d
 .rw[an d]at h;simp at h
def qj{s:aG}{c:UInt8}(h:awt s [c]=true):s=s.take (s.length - 1)++[c]:=by
 simp only[awt,aJ,aV,cE,ai,al,aY]at h;rw[<- h.2,dZ]
def ql{s:aG}{c:UInt8}(h:aws s [c]=true):s=c::s.drop 1:=by
 simp only[aws,aJ,aV,cE,ai,al,aY]at h;cases s with
 |nil=>simp at h
 |cons a s=>simp at h;simp[h]
def xP{t:aG}(h:(iL t).2=true):(iL t).1.awb≠1/\bG none (iL t).1=true/\cK (iL t).1=60::(t++[62]):=by
 unfold iL at h |-;dsimp only at h |-;cases f:aws t [47]with
 |true =>
  simp only[f,aT,fO,dR,aI,aS]at h |-
  by_cases a:((cutAt (t.drop 1) 58).2.2&&(awn (cutAt (t.drop 1) 58).1).2)=true
  .rw[az a]at h |-;dsimp only at h |-;simp only[aJ]at a;obtain⟨d,c,e⟩:=iS a.2;have b:=gW a.1;have i:=ql f;refine⟨by decide,?_,?_⟩
   .simp only[bG];rw[an (by decide),an (by decide),an (by decide),az (by decide)];simp only[h,c,e,fW,df]
   .simp only[cK];rw[an (by decide),an (by decide),az (by decide),<- d]
    conv=>rhs;rw[i,b]
    simp
  .rw[an a]at h;simp at h
 |false =>
  simp only[f,aI,aS,iw,cc]at h |-;cases g:awt (cutAt t 58).2.1 [47]with
  |true =>
   simp only[g,aT]at h |-
   by_cases a:((cutAt t 58).2.2&&(awn (cutAt t 58).1).2)=true
   .rw[az a]at h |-;dsimp only at h |-;simp only[aJ]at a;obtain⟨d,c,e⟩:=iS a.2;have b:=gW a.1;have i:=qj g;have h:cV ((cutAt t 58).2.1.take ((cutAt t 58).2.1.length - 1))=true:=by simpa using h
    refine⟨by decide,?_,?_⟩
    .simp only[bG];rw[an (by decide),an (by decide),az (.inr (by decide))];simp only[h,c,e,fW,df]
    .simp only[cK];rw[an (by decide),an (by decide),an (by decide),az (by decide),<- d]
     conv=>rhs;rw[b]
     conv=>rhs;rw[i]
     simp
   .rw[an a]at h;simp at h
  |false =>
   simp only[g,aI,aS]at h |-
   by_cases a:((cutAt t 58).2.2&&(awn (cutAt t 58).1).2)=true
   .rw[az a]at h |-;dsimp only at h |-;simp only[aJ]at a;obtain⟨d,c,e⟩:=iS a.2;have b:=gW a.1;have h:cV (cutAt t 58).2.1=true:=by simpa using h
    refine⟨by decide,?_,?_⟩
    .simp only[bG];rw[an (by decide),an (by decide),az (.inl (by decide))];simp only[h,c,e,fW,df]
    .simp only[cK];rw[an (by decide),az (by decide),<- d]
     conv=>rhs;rw[b]
     simp
   .rw[an a]at h;simp at h
def mN{s:aG}(l:s≠[])(h:(aX s).2.2=true):
  ((∃c,(aX s).1=⟨1,[c],0⟩/\s=du c++s.drop (aX s).2.1.toNat) \/
   ((aX s).1.awb≠1/\bG none (aX s).1=true/\s=cK (aX s).1++s.drop (aX s).2.1.toNat)):=by
 simp only[aX]at h |-
 by_cases f:s.getD 0 0=92
 .left;rw[az f]at h |-;simp only at h |-;refine⟨_,rfl,?_⟩
  match s,l,f,h with
  |[a],_,f,h=>simp[dj]at h
  |a::d::r,_,f,h =>
   simp only[aA]at f;subst f
   by_cases o:d=92\/d=60\/d=123
   .have e:dj (92::d::r)=(d,2,true):=by simp only[iV,az o]
    rw[e];rcases o with rfl|rfl|rfl<;>simp[show du 92=[92,92]by decide,show du 60=[92,60]by decide,show du 123=[92,123]by decide]
   .by_cases y:d=110
    .subst y;have e:dj (92::110::r)=(10,2,true):=by simp only[iV];rfl
     rw[e];simp[show du 10=[92,110]by decide]
    .by_cases d3:d=116
     .subst d3;have e:dj (92::116::r)=(9,2,true):=by simp only[iV];rfl
      rw[e];simp[show du 9=[92,116]by decide]
     .by_cases z:d=120
      .subst z
       match r,h with
       |[],h=>simp[dj]at h
       |[_],h=>simp[dj]at h
       |p::q::r,h =>
        have e:dj (92::120::p::q::r)=(fQ p q,4,(gE p).2&&(gE q).2&&(fQ p q==13||ei (fQ p q)==1)):=by
         simp only[iV];rw[an (by decide),an (by decide),an (by decide),az (by decide),an (by simp)];simp only[aA,aR]
        rw[e]at h |-;simp only[aJ]at h;have n:=qh p q;rw[A7 _ h.2,n.1,n.2,rm p h.1.1,rm q h.1.2];simp
      .have e:dj (92::d::r)=(0,0,false):=by simp only[iV,o,y,d3,z,aS]
       rw[e]at h;simp at h
  |[],l,_,_=>exact absurd rfl l
 .rw[an f]at h |-
  by_cases g:s.getD 0 0=60
  .right;rw[az g]at h |-
   by_cases i:Lib.indexByte s 62<0
   .rw[az i]at h;simp at h
   .rw[an i]at h |-;simp only at h |-;have x:(cutAt s 62).2.2=true:=by simp only[cutAt];rw[az (by omega)]
    have v:=gW x;have k:(cutAt s 62).1=s.take (Lib.indexByte s 62).toNat:=by simp only[cutAt];rw[az (by omega)]
    have j:(cutAt s 62).2.1=s.drop ((Lib.indexByte s 62).toNat+1):=by simp only[cutAt];rw[az (by omega)]
    obtain⟨C,A,B⟩:=xP h;refine⟨C,A,?_⟩;have n:=lW s 62 (by rw[g];decide) i
    have t:s.take (Lib.indexByte s 62).toNat=60::(s.take (Lib.indexByte s 62).toNat).drop 1:=by
     cases s with
     |nil=>exact absurd rfl l
     |cons a s =>
      simp only[aA]at g;subst g;obtain⟨m,u⟩:∃m,(Lib.indexByte (60::s) 62).toNat=m+1:=⟨(Lib.indexByte (60::s) 62).toNat - 1,by omega⟩;rw[u];simp
    rw[B];have w:(Lib.indexByte s 62+1).toNat=(Lib.indexByte s 62).toNat+1:=by omega
    rw[w]
    conv=>lhs;rw[v,k,j,t]
    simp
  .rw[an g]at h |-
   by_cases b:s.getD 0 0=123
   .right;rw[az b]at h |-
    by_cases i:Lib.indexByte s 125<0\/awj ((s.take (Lib.indexByte s 125).toNat).drop 1)=false
    .rw[az i]at h;simp at h
    .rw[an i]at h |-;simp only[uy]at i;simp only;have D:awj ((s.take (Lib.indexByte s 125).toNat).drop 1)=true:=by simpa using i.2
     have x:(cutAt s 125).2.2=true:=by simp only[cutAt];rw[az (by omega)]
     have v:=gW x;have k:(cutAt s 125).1=s.take (Lib.indexByte s 125).toNat:=by simp only[cutAt];rw[az (by omega)]
     have j:(cutAt s 125).2.1=s.drop ((Lib.indexByte s 125).toNat+1):=by simp only[cutAt];rw[az (by omega)]
     have n:=lW s 125 (by rw[b];decide) i.1;refine⟨by decide,?_,?_⟩
     .simp only[bG];rw[an (by decide),az (by decide),D];rfl
     .have t:s.take (Lib.indexByte s 125).toNat=123::(s.take (Lib.indexByte s 125).toNat).drop 1:=by
       cases s with
       |nil=>exact absurd rfl l
       |cons a s =>
        simp only[aA]at b;subst b;obtain⟨m,u⟩:∃m,(Lib.indexByte (123::s) 125).toNat=m+1:=⟨(Lib.indexByte (123::s) 125).toNat - 1,by omega⟩;rw[u];simp
      simp only[cK];rw[an (by decide),an (by decide),an (by decide),an (by decide),az (by decide)];have w:(Lib.indexByte s 125+1).toNat=(Lib.indexByte s 125).toNat+1:=by omega
      rw[w]
      conv=>lhs;rw[v,k,j,t]
      simp
   .left;rw[an b]at h |-;simp only at h |-;cases s with
    |nil=>exact absurd rfl l
    |cons a s =>
     simp only[aA]at h;refine⟨a,by simp,?_⟩;simp[du,h]
def cY(before:List It)(x:It):Int:=if bG before.getLast? x=false then 1 else if(b9 x&&!fits before x)=true then 7 else 0
def kY:∀(rest pre:List It) (x:It),bQ pre (x::rest)=if cY pre x≠0 then cY pre x else bQ (pre++[x]) rest:=by
 intro rest pre x;simp only[bQ,cY];split
 .simp
 .split<;>simp
def eW(s:aG):It×Int:=if(aX s).2.2=true then((aX s).1,(aX s).2.1)else(gH,0)
def nv{s:aG}(h:(aX s).2.2=false):eW s=(gH,0):=by simp[eW,h]
def kV(a:Int)(t:aG):It×Bool :=
 let k:=min 4 (t.takeWhile cQ).length
 if k=0\/t.length<=k\/t.getD 0 0=48\/999<cR 0 (t.take k)\/t.getD k 0≠58 then(gH,false)else
 if(a=3/\awj (t.drop (k+1))=false)\/(a≠3/\cV (t.drop (k+1))=false)then(gH,false)else(⟨a,t.drop (k+1),cR 0 (t.take k)⟩,true)
def rC(t:aG):It×Bool :=
 if aws t [47]=true then kV 3 (t.drop 1)else if awt t [47]=true then kV 4 (t.take (t.length - 1))else kV 2 t
def tL(c:Int)(a b:aG)(cut:Bool):It×Bool :=
 if(cut&&(awn a).2)=true then(if(if c=3 then awj b else cV b)=true then(⟨c,b,(awn a).1⟩,true)else(gH,false))else(gH,false)
def pV{a b:aG}(h:∀c∈a,cQ c=true):(a++58::b).takeWhile cQ=a:=by
 induction a with
 |nil=>simp[show cQ 58=false by decide]
 |cons x a ih =>
  have e:cQ x=true:=h x (by simp);simp[e,ih λc d=>h c (by simp[d])]
def oN{n:Nat}{t:aG}(h:n<=(t.takeWhile cQ).length):∀c∈t.take n,cQ c=true:=by
 intro c a
 have e:t.take n=(t.takeWhile cQ).take n:=by
  have:=lQ (p:=cQ) (l:=t)
  conv=>lhs;rw[<- this]
  rw[dL h]
 rw[e]at a;have b:=cF a;exact bY.1 (UG (p:=cQ) (l:=t)) c b
def A5{a b c d:UInt8}{r:aG}(h:cQ a=true)(f:a≠48)(i:cQ b=true)(j:cQ c=true)(g:cQ d=true):999<cR 0 [a,b,c,d]:=by
 simp only[cQ,aJ,aV]at h i j g;have:a.toNat≠48:=λe=>f (uV.1 e);simp only[cR,dW,tf];omega
def kU(g:Int)(t:aG):kV g t=tL g (cutAt t 58).1 (cutAt t 58).2.1 (cutAt t 58).2.2:=by
 by_cases q:((cutAt t 58).2.2&&(awn (cutAt t 58).1).2)=true
 .have p:=q;simp only[aJ]at p;obtain⟨P,Q,I⟩:=iS p.2;have f:=gW p.1;generalize S:(cutAt t 58).1=a at *;generalize o:(cutAt t 58).2.1=b at *;have y:=AP (awn a).1 ⟨Q,I⟩;rw[<- P]at y;have B:=p.2;simp only[awn]at B
  by_cases i:a.length<1\/3<a.length\/a.getD 0 0=48
  .rw[az i]at B;simp at B
  .have e:a.all cQ=true:=bY.2 y.2.1;have A:(awn a).1=cR 0 a:=by simp only[awn,an i,e,aT]
   have C:min 4 (t.takeWhile cQ).length=a.length:=by rw[f,pV y.2.1];omega
   have G:t.take a.length=a:=by rw[f];simp
   have F:t.drop (a.length+1)=b:=by rw[f];simp
   have N:¬t.length<=a.length:=by rw[f];simp
   have H:t.getD 0 0=a.getD 0 0:=by
    rw[f];cases a with
    |nil=>simp at i
    |cons x a=>rfl
   have z:t.getD a.length 0=58:=by rw[f];simp[aq]
   simp only[kV,tL,q,aT,C,G,F,H,z]
   rw[an (by
    simp only[uy]at i |-;exact⟨by omega,N,i.2.2,by rw[<- A];omega,by simp⟩)]
   by_cases l:g=3
   .simp only[l,gA,aT,fc,eN,HG,s8,A]
    by_cases o:awj b=true<;>simp[o]
   .simp only[l,HG,aS,fc,cP,gA,nk,A]
    by_cases o:cV b=true<;>simp[o]
 .simp only[tL,an q,kV];refine az ?_;apply bN;intro D;apply q;simp only[uy,Dd,Nat.not_le,YJ]at D;obtain⟨R,u,s,w,E⟩:=D;generalize C:min 4 (t.takeWhile cQ).length=k at *;have e:=oN (n:=k) (t:=t) (by omega)
  have f:t=t.take k++58::t.drop (k+1):=by
   conv=>lhs;rw[<- List.take_append_drop k t]
   congr 1;rw[dG u];congr 1;rw[aq,ax u]at E;simpa using E
  have K:(58:UInt8) ∉ t.take k:=λO=>absurd (e _ O) (by decide)
  have v:cutAt t 58=(t.take k,t.drop (k+1),true):=by
   conv=>lhs;rw[f]
   exact tZ K
  rw[v];have j:(t.take k).length=k:=by rw[aP];omega
  have J:(t.take k).getD 0 0=t.getD 0 0:=by
   cases t with
   |nil=>simp
   |cons x t =>
    obtain⟨m,rfl⟩:∃m,k=m+1:=⟨k - 1,by omega⟩;rfl
  have M:k<=3:=by
   apply bN;intro h;have L:k=4:=by omega
   subst L
   match t,u,e,s,w with
   |a::b::c::d::r,_,e,s,w =>
    have:=A5 (r:=r) (e a (by simp)) (by simpa using s) (e b (by simp)) (e c (by simp)) (e d (by simp));simp only[dt,mA]at w;omega
   |[],h,_,_,_=>simp at h
   |[_],h,_,_,_=>simp at h
   |[_,_],h,_,_,_=>simp at h
   |[_,_,_],h,_,_,_=>simp at h
  simp only[cc,awn];rw[an (by rw[j,J];simp only[uy];exact⟨by omega,by omega,s⟩),az (bY.2 e)]
def AL(p:It×Bool):It×Bool:=if p.2=true then p else(gH,false)
def nC(c:Int)(a b:aG)(cut:Bool):
  AL (if(cut&&(awn a).2)=true then(⟨c,b,(awn a).1⟩,if c=3 then awj b else cV b)else(⟨0,[],0⟩,false))=tL c a b cut:=by
 simp only[tL]
 by_cases d:(cut&&(awn a).2)=true
 .rw[az d,az d];simp only[AL];generalize (if c=3 then awj b else cV b)=X;cases X<;>rfl
 .rw[an d,an d];rfl
def gr{t:aG}{x c:UInt8}:awt (t++[x]) [c]=(x==c):=by
 simp[awt]
def qk{a b:aG}:awt (a++58::b) [47]=awt b [47]:=by
 rcases dn b with c|⟨d,x,c⟩
 .subst c;rw[gr];rfl
 .rw[da]at c;subst c;rw[gr,show a++58::(d++[x])=(a++58::d)++[x]by simp,gr]
def mf{s:aG}{c:UInt8}(h:c ∉ s):cutAt s c=(s,[],false):=by
 simp only[cutAt,rX h];rfl
def yG{s:aG}{c:UInt8}(h:c∈s):(cutAt s c).2.2=true:=by
 simp only[cutAt];rw[az (mb h)]
def km{c:UInt8}:∀{s:aG},c ∉ s.take (Lib.indexByte s c).toNat
 |[]=>by simp
 |a::s=>by
  by_cases d:a=c
  .subst d;simp[Lib.indexByte]
  .have g:(a==c)=false:=by simpa using d
   have h:=mZ c s;simp only[Lib.indexByte,g,aI,aS]
   by_cases e:(Lib.indexByte s c == -1)=true
   .rw[az e];simp
   .rw[an e];have i:Lib.indexByte s c ≠ -1:=by simpa using e
    have f:(Lib.indexByte s c+1).toNat=(Lib.indexByte s c).toNat+1:=by omega
    rw[f,dt];intro b;rcases bC.1 b with b|b
    .exact d b.symm
    .exact km b
def r8{s:aG}{c:UInt8}(h:c∈s):c ∉ (cutAt s c).1:=by
 simp only[cutAt];rw[az (mb h)];exact km
def DC(t:aG):rC t=AL (iL t):=by
 unfold rC iL;dsimp only;cases s:aws t [47]with
 |true =>
  simp only[aT,fO,dR,aI,aS];rw[kU,<- nC];rfl
 |false =>
  simp only[aI,aS,iw,cc]
  by_cases c:(58:UInt8)∈t
  .have g:=yG c;have l:=r8 c;have i:=gW g;generalize p:(cutAt t 58).1=a at *;generalize q:(cutAt t 58).2.1=b at *;have o:awt t [47]=awt b [47]:=by conv=>lhs;rw[i,qk]
   rw[o];cases d:awt b [47]with
   |true =>
    simp only[aT];have f:b≠[]:=by rintro rfl;simp[awt]at d
    have n:t.take (t.length - 1)=a++58::b.take (b.length - 1):=by
     have r:=cT.2 f;rw[i];simp only[aj,ai];rw[acw,bW (by omega)];have:a.length+(b.length+1) - 1 - a.length=(b.length - 1)+1:=by omega
     rw[this,dt]
    rw[kU,n,tZ l,<- nC,g]
   |false =>
    simp only[aI,aS];rw[kU,p,q,g,<- nC]
  .have e:(58:UInt8) ∉ t.take (t.length - 1):=λh=>c (cF h);have j:∀k,kV k t=(gH,false):=λk=>by rw[kU,mf c];rfl
   have m:kV 4 (t.take (t.length - 1))=(gH,false):=by rw[kU,mf e];rfl
   rw[mf c,j,m];simp[AL]
def xW{s:aG}(h0:s.getD 0 0=60):eW s=if Lib.indexByte s 62<0 then(gH,0)else
  (if(rC ((s.take (Lib.indexByte s 62).toNat).drop 1)).2=true then((rC ((s.take (Lib.indexByte s 62).toNat).drop 1)).1,Lib.indexByte s 62+1)else(gH,0)):=by
 have e:aX s=if Lib.indexByte s 62<0 then(gH,0,false)else((iL ((s.take (Lib.indexByte s 62).toNat).drop 1)).1,Lib.indexByte s 62+1,(iL ((s.take (Lib.indexByte s 62).toNat).drop 1)).2):=by
  simp only[aX,h0];rw[an (by decide),az trivial]
 rw[eW,e]
 by_cases a:Lib.indexByte s 62<0
 .simp[a]
 .rw[an a,an a,DC,AL];generalize iL ((s.take (Lib.indexByte s 62).toNat).drop 1)=p;obtain⟨x,b⟩:=p;cases b<;>rfl
def vg{s:aG}{c:UInt8}(h:aws s (du c)=true):eW s=(⟨1,[c],0⟩,((du c).length:Int)):=by
 have e:s=du c++s.drop (du c).length:=by
  simp only[aws,aJ,aV,cE]at h
  conv=>lhs;rw[<- List.take_append_drop (du c).length s,h.2]
 rw[eW,e,yD];simp
def kZ{x:It}(c:x.awb≠1)(h:bG none x=true):∃r,cK x=60::r\/(cK x=123::(x.awd++[125])/\awj x.awd=true):=by
 simp only[bG,an c]at h;simp only[cK,an c]
 by_cases b:x.awb=5
 .rw[az b,aJ]at h;refine⟨[],.inr ⟨?_,h.1⟩⟩;simp[b]
 .rw[an b]at h
  by_cases a:x.awb=2
  .exact⟨_,.inl (by rw[az a])⟩
  .by_cases e:x.awb=4
   .exact⟨_,.inl (by rw[an a,an (by omega),az e])⟩
   .rw[an (by omega)]at h
    by_cases d:x.awb=3
    .exact⟨_,.inl (by rw[an a,az d])⟩
    .rw[an d]at h;simp at h
def vf{s:aG}(j:s≠[])(d:s.getD 0 0≠60)(e:s.getD 0 0≠123)(h:∀c,aws s (du c)=false):eW s=(gH,0):=by
 refine nv ?_;apply bN;intro i;rcases mN j (by simpa using i)with⟨c,_,a⟩|⟨f,g,a⟩
 .have:=h c;rw[a]at this;simp[aws]at this
 .obtain⟨r,b|⟨b,_⟩⟩:=kZ f g
  .rw[b]at a;rw[a]at d;simp at d
  .rw[b]at a;rw[a]at e;simp at e
def uY:∀c:UInt8,(du c).getD 0 0≠123/\du c≠[]:=eP (by decide +kernel)
def u9{s:aG}{k:Nat}(d:s.getD 0 0=123)(i:1<=k)(c:k<s.length)(f:s.getD k 0=125)(h:awj ((s.take k).drop 1)=true):
  eW s=(⟨5,(s.take k).drop 1,0⟩,(k:Int)+1):=by
 have e:s=123::((s.take k).drop 1++125::s.drop (k+1)):=by
  cases s with
  |nil=>simp at c
  |cons a s =>
   simp only[aA]at d;subst d;obtain⟨m,rfl⟩:∃m,k=m+1:=⟨k - 1,by omega⟩;simp only[ai]at c;have b:m<s.length:=by omega
   simp only[dt,iJ,mD];congr 1
   conv=>lhs;rw[<- List.take_append_drop m s]
   congr 1;rw[dG b];congr 1;rw[aR,aq,ax b]at f;simpa using f
 have g:((s.take k).drop 1).length=k - 1:=by rw[bA,aP];omega
 have:=yC ((s.take k).drop 1) (s.drop (k+1)) h;rw[<- e]at this;rw[eW,this];simp only[aT,g];congr 1;omega
def rD{s:aG}(g:s.getD 0 0=123)(h:∀k,1<=k->k<s.length->k<=25->¬(s.getD k 0=125/\awj ((s.take k).drop 1)=true)):eW s=(gH,0):=by
 have o:s≠[]:=by rintro rfl;simp at g
 refine nv ?_;apply bN;intro l;rcases mN o (by simpa using l)with⟨c,_,f⟩|⟨m,n,f⟩
 .have b:=uY c;rw[f]at g;cases j:du c with
  |nil=>exact b.2 j
  |cons a w =>
   rw[j]at g b;exact b.1 (by simpa using g)
 .obtain⟨r,b|⟨b,i⟩⟩:=kZ m n
  .rw[b]at f;rw[f]at g;simp at g
  .rw[b]at f;generalize (aX s).1.awd=t at *
   have p:t.length<=24:=by
    cases t with
    |nil=>simp
    |cons c t =>
     simp only[awj,aJ,aV]at i;exact i.1.1
   generalize s.drop (aX s).2.1.toNat=d at f;have e:s=(123::t)++125::d:=by rw[f];simp
   refine h (t.length+1) (by omega) (by rw[e];simp) (by omega) ⟨?_,?_⟩
   .rw[e];rw[show t.length+1=(123::t).length by simp,WJ]
   .rw[e];rw[show t.length+1=(123::t).length by simp];simpa using i
end Go.Bt
