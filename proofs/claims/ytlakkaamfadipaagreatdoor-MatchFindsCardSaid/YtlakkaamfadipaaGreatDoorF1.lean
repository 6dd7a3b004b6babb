/- A part of a proof; the claim's last text says of what. -/
import Derived.Shelf.SlLaysE0
import Derived.Ground.SlgnProg
import Derived.Test.YtlakkaamfadipaaGreatDoorB13
import Derived.Test.YtlakkaamfadipaaGreatDoorB14
import Derived.Test.YtlakkaamfadipaaGreatDoorB15
import Derived.Test.YtlakkaamfadipaaGreatDoorB17
set_option linter.all false
set_option maxRecDepth 20000

namespace Go.Proofs
open Go.Shelf
def Tryz.abX:Go.Shelf.Ren:=⟨λ| 45=>76|n=>n,λ| 22=>103|23=>108|3=>3|4=>4|0=>0|n=>n,λ| n=>n⟩
def Tryz.ark:Go.Proofs.SlLaysE0.n45 prog abX:=⟨by kernel_rfl,⟨f76.name,by decide,func76.trans (congrArg some (by kernel_rfl))⟩,underlying0,isAgg0,sizeOf0,zeroValue0,underlying3,isAgg3,sizeOf3,zeroValue3,underlying4,isAgg4,sizeOf4,zeroValue4,underlying103,isAgg103,sizeOf103,zeroValue103⟩
end Go.Proofs
namespace Go.Proofs.Tryz
open Go Go.Pm
set_option maxRecDepth 100000
def p32:bj prog f32:=⟨_,by cbv⟩
def q28:=(⟨_,by cbv⟩:Nf (dY prog f28))
def Vn:bK:=(⟨_,by cbv⟩:Nf (dV q28.1 0 [])).1
def p28:bj prog f28:=⟨(λa=>(⟨_,by cbv⟩:Nf (eL q28.1 [a])).1) Vn,by kernel_rfl⟩
def q29:=(⟨_,by cbv⟩:Nf (dY prog f29))
def Vm:bK:=(⟨_,by cbv⟩:Nf (dV q29.1 0 [])).1
def p29:bj prog f29:=⟨(λa=>(⟨_,by cbv⟩:Nf (eL q29.1 [a])).1) Vm,by kernel_rfl⟩
def p42:bj prog f42:=⟨_,by cbv⟩
def QJ:bj prog f212:=⟨_,by cbv⟩
def Qj:=(⟨_,by cbv⟩:Nf (dY prog f161))
def o7:bK:=(⟨_,by cbv⟩:Nf (dV Qj.1 0 [])).1
def QO:bj prog f161:=⟨(λa=>(⟨_,by cbv⟩:Nf (eL Qj.1 [a])).1) o7,by kernel_rfl⟩
def QK:bj prog f204:=⟨_,by cbv⟩
def Qh:=(⟨_,by cbv⟩:Nf (dY prog f244))
def oY:bK:=(⟨_,by cbv⟩:Nf (dV Qh.1 0 [])).1
def QH:bj prog f244:=⟨(λa=>(⟨_,by cbv⟩:Nf (eL Qh.1 [a])).1) oY,by kernel_rfl⟩
def Qi:=(⟨_,by cbv⟩:Nf (dY prog f162))
def rP:bK:=(⟨_,by cbv⟩:Nf (dV Qi.1 0 [])).1
def QN:bj prog f162:=⟨(λa=>(⟨_,by cbv⟩:Nf (eL Qi.1 [a])).1) rP,by kernel_rfl⟩
def nB:bK:=.seq (.dv [] [z 81 (.bin .lss (.t 80) (.t 79))]) (.seq (.ite (.t 81) (.skip) (.exit 1)) (.seq (.block 2 (.seq (.dv [] [zm 82 80,zm 5 82]) (.seq (.dv [] [zm 83 0,zm 84 5,z 85
 (.idx 3 (.t 83) (.t 84)),zL 86 3 85,z 6 (.alloc 61 [.I 0,.s [],.I 0]),zs (.store 3 [none,none,none] (.t 6) (.t 86))]) (.seq (.seq (.dv [91,92,93,94,95] [zL 87
 3 6,z 88 (.call 81 [.t 87]),z 89 (.un .not (.t 88)),zm 90 89,⟨some 91,[(90,false)],.pq 2 (.t 6)⟩,⟨some 92,[(90,false)],.load none (.t 91)⟩,⟨some 93,[(90,false)],.pq
 2 (.t 3)⟩,⟨some 94,[(90,false)],.load none (.t 93)⟩,⟨some 95,[(90,false)],.bin .neq (.t 92) (.t 94)⟩,z 96 (.pick (.t 90) (.c (.b true)) (.t 95))]) (.ite (.t 96) (.exit 2)
 (.skip))) (.seq (.jH [([zf 97 0 3,zl 98 97,z 99 (.bin .neq (.t 98) (.c (.I 3))),zm 100 99,⟨some 101,[(100,false)],.pq 0 (.t 6)⟩,⟨some 102,[(100,false)],.load none
 (.t 101)⟩,⟨some 103,[(100,false)],.bin .neq (.t 102) (.c (.I 2))⟩,z 104 (.pick (.t 100) (.c (.b true)) (.t 103)),zm 105 104,⟨some 106,[(105,false)],.pq 1 (.t 6)⟩,
 ⟨some 107,[(105,false)],.load none (.t 106)⟩,⟨some 109,[(105,false)],.pq 1 (.t 3)⟩,⟨some 110,[(105,false)],.load none (.t 109)⟩],⟨some 108,[(105,false)],.call 80 [.t
 107]⟩,[⟨some 109,[(105,false)],.pq 1 (.t 3)⟩,⟨some 110,[(105,false)],.load none (.t 109)⟩])] [] [101,102,103,106,107,108,109,110,111] [⟨some 111,[(105,false)],
 .bin .neq (.t 108) (.t 110)⟩,z 112 (.pick (.t 105) (.c (.b true)) (.t 111))]) (.ite (.t 112) (.seq (.dv [] [z 4 (.gm (.c (.I 7)))]) (.ret)) (.skip))))))) (.dv [] [z 113
 (.bin .add (.t 80) (.c (.I 1))),zm 80 113])))
def QW:ux:=⟨114,[.t 4],.seq (.dv [] [z 3 (.box 61 (.t 1)),z 4 (.gm (.c (.I 0)))]) (.seq (.seq (.dv [] [zf 7 0 3,zl 8 7]) (.block 0 (.seq (.dv [] [z 10 (.bin .eql (.t 8) (.c (.i
 .i64 1))),zm 9 10]) (.ite (.t 9) (.seq (.seq (.dv [15,16,17,20,21,22,23,24,25,26,27,28,29,30,31,32] [zf 11 1 3,zl 12 11,z 13 (.bin .eql (.t 12) (.c (.s []))),zm
 14 13,⟨some 15,[(14,false)],.pq 2 (.t 3)⟩,⟨some 16,[(14,false)],.load none (.t 15)⟩,⟨some 17,[(14,false)],.bin .neq (.t 16) (.c (.I 0))⟩,z 18 (.pick (.t 14) (.c
 (.b true)) (.t 17)),zm 19 18,⟨some 20,[(19,false)],.gm (.t 0)⟩,⟨some 21,[(19,false)],.len false (.t 20)⟩,⟨some 22,[(19,false)],.bin .gtr (.t 21) (.c (.I 0))⟩,
 ⟨some 23,[(19,false)],.gm (.t 22)⟩,⟨some 24,[(19,false),(23,true)],.gm (.t 0)⟩,⟨some 25,[(19,false),(23,true)],.gm (.t 0)⟩,⟨some 26,[(19,false),(23,true)],
 .len false (.t 25)⟩,⟨some 27,[(19,false),(23,true)],.bin .sub (.t 26) (.c (.I 1))⟩,⟨some 28,[(19,false),(23,true)],.idx 3 (.t 24) (.t 27)⟩,⟨some 29,[(19,false),
 (23,true)],.pq 0 (.t 28)⟩,⟨some 30,[(19,false),(23,true)],.load none (.t 29)⟩,⟨some 31,[(19,false),(23,true)],.bin .eql (.t 30) (.c (.I 1))⟩,⟨some 32,[(19,
 false)],.pick (.t 23) (.t 31) (.c (.b false))⟩,z 33 (.pick (.t 19) (.c (.b true)) (.t 32))]) (.ite (.t 33) (.seq (.dv [] [z 4 (.gm (.c (.I 1)))]) (.ret)) (.skip))) (.seq
 (.dv [] [z 4 (.gm (.c (.I 0)))]) (.ret))) (.seq (.dv [] [z 35 (.bin .eql (.t 8) (.c (.I 5))),zm 34 35]) (.ite (.t 34) (.seq (.seq (.dv [41,42,43] [zf 36 1 3,zl 37
 36,z 38 (.call 161 [.t 37]),z 39 (.un .not (.t 38)),zm 40 39,⟨some 41,[(40,false)],.pq 2 (.t 3)⟩,⟨some 42,[(40,false)],.load none (.t 41)⟩,⟨some 43,[(40,false)],.bin
 .neq (.t 42) (.c (.I 0))⟩,z 44 (.pick (.t 40) (.c (.b true)) (.t 43))]) (.ite (.t 44) (.seq (.dv [] [z 4 (.gm (.c (.I 1)))]) (.ret)) (.skip))) (.seq (.dv [] [z 4 (.gm
 (.c (.I 0)))]) (.ret))) (.seq (.seq (.dv [] [z 46 (.bin .eql (.t 8) (.c (.I 2))),zm 45 46]) (.ite (.t 45) (.skip) (.dv [] [z 47 (.bin .eql (.t 8) (.c (.I 4))),zm
 45 47]))) (.ite (.t 45) (.seq (.dv [53,54,55,58,59,60] [zf 48 1 3,zl 49 48,z 50 (.call 162 [.t 49]),z 51 (.un .not (.t 50)),zm 52 51,⟨some 53,[(52,false)],.pq 2 (.t
 3)⟩,⟨some 54,[(52,false)],.load none (.t 53)⟩,⟨some 55,[(52,false)],.bin .lss (.t 54) (.c (.I 1))⟩,z 56 (.pick (.t 52) (.c (.b true)) (.t 55)),zm 57 56,⟨some 58,
 [(57,false)],.pq 2 (.t 3)⟩,⟨some 59,[(57,false)],.load none (.t 58)⟩,⟨some 60,[(57,false)],.bin .gtr (.t 59) (.c (.I 999))⟩,z 61 (.pick (.t 57) (.c (.b true)) (.t
 60))]) (.ite (.t 61) (.seq (.dv [] [z 4 (.gm (.c (.I 1)))]) (.ret)) (.skip))) (.seq (.dv [] [z 63 (.bin .eql (.t 8) (.c (.I 3))),zm 62 63]) (.ite (.t 62) (.seq (.dv
 [69,70,71,74,75,76] [zf 64 1 3,zl 65 64,z 66 (.call 161 [.t 65]),z 67 (.un .not (.t 66)),zm 68 67,⟨some 69,[(68,false)],.pq 2 (.t 3)⟩,⟨some 70,[(68,false)],.load
 none (.t 69)⟩,⟨some 71,[(68,false)],.bin .lss (.t 70) (.c (.I 1))⟩,z 72 (.pick (.t 68) (.c (.b true)) (.t 71)),zm 73 72,⟨some 74,[(73,false)],.pq 2 (.t 3)⟩,⟨some
 75,[(73,false)],.load none (.t 74)⟩,⟨some 76,[(73,false)],.bin .gtr (.t 75) (.c (.I 999))⟩,z 77 (.pick (.t 73) (.c (.b true)) (.t 76))]) (.ite (.t 77) (.seq (.dv [] [z
 4 (.gm (.c (.I 1)))]) (.ret)) (.skip))) (.seq (.dv [] [z 4 (.gm (.c (.I 1)))]) (.ret)))))))))))) (.seq (.seq (.dv [] [zm 78 0,z 79 (.len false (.t 78)),z 80 (.gm
 (.c (.I 0)))]) (.block 1 (.loop nB))) (.seq (.dv [] [z 4 (.gm (.c (.I 0)))]) (.ret))))⟩
def acd:dY prog f103=some QW:=by kernel_rfl
def q46:=(⟨_,by cbv⟩:Nf (dY prog f46))
def wP:bK:=(⟨_,by cbv⟩:Nf (dV q46.1 0 [])).1
def p46:bj prog f46:=⟨(λa=>(⟨_,by cbv⟩:Nf (eL q46.1 [a])).1) wP,by kernel_rfl⟩
def Qn:=(⟨_,by cbv⟩:Nf (dY prog f102))
def rU:bK:=(⟨_,by cbv⟩:Nf (dV Qn.1 0 [])).1
def QX:bj prog f102:=⟨(λa=>(⟨_,by cbv⟩:Nf (eL Qn.1 [a])).1) rU,by kernel_rfl⟩
def QL:bj prog f164:=⟨_,by cbv⟩
def Qk:=(⟨_,by cbv⟩:Nf (dY prog f139))
def rQ:bK:=(⟨_,by cbv⟩:Nf (dV Qk.1 0 [])).1
def QP:bj prog f139:=⟨(λa=>(⟨_,by cbv⟩:Nf (eL Qk.1 [a])).1) rQ,by kernel_rfl⟩
def q74:=(⟨_,by cbv⟩:Nf (dY prog f74))
def wN:bK:=(⟨_,by cbv⟩:Nf (dV q74.1 0 [])).1
def p74:bj prog f74:=⟨(λa=>(⟨_,by cbv⟩:Nf (eL q74.1 [a])).1) wN,by kernel_rfl⟩
def IW:=(⟨_,by cbv⟩:Nf (dY prog f104))
def o8:bK:=(⟨_,by cbv⟩:Nf (dV IW.1 0 [])).1
def rT:bK:=(⟨_,by cbv⟩:Nf (dV IW.1 1 [])).1
def QV:bj prog f104:=⟨(λa b=>(⟨_,by cbv⟩:Nf (eL IW.1 [a,b])).1) o8 rT,by kernel_rfl⟩
def IV:=(⟨_,by cbv⟩:Nf (dY prog f163))
def rO:bK:=(⟨_,by cbv⟩:Nf (dV IV.1 0 [])).1
def oZ:bK:=(⟨_,by cbv⟩:Nf (dV IV.1 1 [])).1
def QM:bj prog f163:=⟨(λa b=>(⟨_,by cbv⟩:Nf (eL IV.1 [a,b])).1) rO oZ,by kernel_rfl⟩
def q47:=(⟨_,by cbv⟩:Nf (dY prog f47))
def wO:bK:=(⟨_,by cbv⟩:Nf (dV q47.1 0 [])).1
def p47:bj prog f47:=⟨(λa=>(⟨_,by cbv⟩:Nf (eL q47.1 [a])).1) wO,by kernel_rfl⟩
def aky:=(⟨_,by cbv⟩:Nf (dY prog f175))
def I7:bK:=(⟨_,by cbv⟩:Nf (dV aky.1 0 [])).1
def alJ:bj prog f175:=⟨(λa=>(⟨_,by cbv⟩:Nf (eL aky.1 [a])).1) I7,by kernel_rfl⟩
def akx:=(⟨_,by cbv⟩:Nf (dY prog f176))
def I6:bK:=(⟨_,by cbv⟩:Nf (dV akx.1 0 [])).1
def alI:bj prog f176:=⟨(λa=>(⟨_,by cbv⟩:Nf (eL akx.1 [a])).1) I6,by kernel_rfl⟩
def akw:=(⟨_,by cbv⟩:Nf (dY prog f177))
def NR:bK:=(⟨_,by cbv⟩:Nf (dV akw.1 0 [])).1
def alH:bj prog f177:=⟨(λa=>(⟨_,by cbv⟩:Nf (eL akw.1 [a])).1) NR,by kernel_rfl⟩
def akG:=(⟨_,by cbv⟩:Nf (dY prog f112))
def Jd:bK:=(⟨_,by cbv⟩:Nf (dV akG.1 0 [])).1
def amo:bj prog f112:=⟨(λa=>(⟨_,by cbv⟩:Nf (eL akG.1 [a])).1) Jd,by kernel_rfl⟩
def q53:=(⟨_,by cbv⟩:Nf (dY prog f53))
def I0:bK:=(⟨_,by cbv⟩:Nf (dV q53.1 0 [])).1
def p53:bj prog f53:=⟨(λa=>(⟨_,by cbv⟩:Nf (eL q53.1 [a])).1) I0,by kernel_rfl⟩
def alf:bj prog f217:=⟨_,by cbv⟩
def akz:=(⟨_,by cbv⟩:Nf (dY prog f172))
def NV:bK:=(⟨_,by cbv⟩:Nf (dV akz.1 0 [])).1
def alM:bj prog f172:=⟨(λa=>(⟨_,by cbv⟩:Nf (eL akz.1 [a])).1) NV,by kernel_rfl⟩
def akX:bj prog f254:=⟨_,by cbv⟩
def akW:bj prog f255:=⟨_,by cbv⟩
def alc:bj prog f220:=⟨_,by cbv⟩
def ale:bj prog f218:=⟨_,by cbv⟩
def ako:=(⟨_,by cbv⟩:Nf (dY prog f221))
def NH:bK:=(⟨_,by cbv⟩:Nf (dV ako.1 0 [])).1
def alb:bj prog f221:=⟨(λa=>(⟨_,by cbv⟩:Nf (eL ako.1 [a])).1) NH,by kernel_rfl⟩
def ald:bj prog f219:=⟨_,by cbv⟩
def CP:bK:=.seq (.seq (.dv [] [zm 33 7,z 34 (.bin .geq (.t 33) (.c (.I 0)))]) (.ite (.t 34) (.skip) (.exit 2))) (.seq (.block 3 (.seq (.dv [] [z 8 (.gm (.c (.I 0))),z 9 (.gm
 (.c (.b false)))]) (.seq (.seq (.dv [42,43,44,45] [zm 37 6,zm 38 0,z 39 (.len false (.t 38)),z 40 (.bin .lss (.t 37) (.t 39)),zm 41 40,⟨some 42,[(41,true)],.gm (.t 7)⟩,
 ⟨some 43,[(41,true)],.gm (.t 1)⟩,⟨some 44,[(41,true)],.len false (.t 43)⟩,⟨some 45,[(41,true)],.bin .lss (.t 42) (.t 44)⟩,z 46 (.pick (.t 41) (.t 45) (.c (.b false)))])
 (.ite (.t 46) (.seq (.jH [([zm 48 0,zm 49 6,z 50 (.idx 3 (.t 48) (.t 49)),zL 51 3 50,zm 52 1,zm 53 7,z 54 (.idx 3 (.t 52) (.t 53)),zL 55 3 54],z 56 (.call 218 [.t 51,.t
 55]),[])] [zm 47 56,z 57 (.ext 0 (.t 47)),z 58 (.ext 1 (.t 47)),zm 10 57] [] [zm 11 58]) (.seq (.dv [] [zm 59 11]) (.ite (.t 59) (.dv [] [zm 60 10,zm 61 5,zm 62 6,z 63
 (.bin .add (.t 62) (.c (.I 1))),z 64 (.idx 1 (.t 61) (.t 63)),zl 65 64,zm 66 7,z 67 (.bin .add (.t 66) (.c (.I 1))),z 68 (.idx 1 (.t 65) (.t 67)),zl 69 68,z 70
 (.bin .add (.t 60) (.t 69)),zm 8 70,z 9 (.gm (.c (.b true)))]) (.skip)))) (.skip))) (.seq (.seq (.dv [] [zm 71 6,zm 72 0,z 73 (.len false (.t 72)),z 74 (.bin .lss (.t 71) (.t
 73))]) (.ite (.t 74) (.seq (.jH [([zm 75 0,zm 76 6,z 77 (.idx 3 (.t 75) (.t 76)),zL 78 3 77,zm 80 5,zm 81 6,z 82 (.bin .add (.t 81) (.c (.I 1))),z 83 (.idx 1 (.t 80)
 (.t 82)),zl 84 83,zm 85 7,z 86 (.idx 1 (.t 84) (.t 85)),zl 87 86],z 79 (.call 219 [.t 78]),[z 83 (.idx 1 (.t 80) (.t 82)),zl 84 83,z 86 (.idx 1 (.t 84) (.t 85)),zl 87 86])]
 [] [] [z 88 (.bin .add (.t 79) (.t 87)),zm 12 88]) (.seq (.dv [92,93,94] [zm 89 9,z 90 (.un .not (.t 89)),zm 91 90,⟨some 92,[(91,false)],.gm (.t 12)⟩,⟨some 93,[(91,
 false)],.gm (.t 8)⟩,⟨some 94,[(91,false)],.bin .lss (.t 92) (.t 93)⟩,z 95 (.pick (.t 91) (.c (.b true)) (.t 94))]) (.ite (.t 95) (.dv [] [zm 96 12,zm 8 96,z 9 (.gm (.c
 (.b true)))]) (.skip)))) (.skip))) (.seq (.seq (.dv [] [zm 97 7,zm 98 1,z 99 (.len false (.t 98)),z 100 (.bin .lss (.t 97) (.t 99))]) (.ite (.t 100) (.seq (.jH [([zm 101 1,zm
 102 7,z 103 (.idx 3 (.t 101) (.t 102)),zL 104 3 103,zm 106 5,zm 107 6,z 108 (.idx 1 (.t 106) (.t 107)),zl 109 108,zm 110 7,z 111 (.bin .add (.t 110) (.c (.I 1))),z 112
 (.idx 1 (.t 109) (.t 111)),zl 113 112],z 105 (.call 219 [.t 104]),[z 108 (.idx 1 (.t 106) (.t 107)),zl 109 108,z 112 (.idx 1 (.t 109) (.t 111)),zl 113 112])] [] [] [z 114
 (.bin .add (.t 105) (.t 113)),zm 13 114]) (.seq (.dv [118,119,120] [zm 115 9,z 116 (.un .not (.t 115)),zm 117 116,⟨some 118,[(117,false)],.gm (.t 13)⟩,⟨some 119,[(117,
 false)],.gm (.t 8)⟩,⟨some 120,[(117,false)],.bin .lss (.t 118) (.t 119)⟩,z 121 (.pick (.t 117) (.c (.b true)) (.t 120))]) (.ite (.t 121) (.dv [] [zm 122 13,zm 8 122,z 9
 (.gm (.c (.b true)))]) (.skip)))) (.skip))) (.dv [] [zm 123 5,zm 124 6,z 125 (.idx 1 (.t 123) (.t 124)),zl 126 125,zm 127 7,zm 128 8,z 129 (.idx 1 (.t 126) (.t 127)),zs
 (.store 1 [none] (.t 129) (.t 128))])))))) (.dv [] [zm 35 7,z 36 (.bin .sub (.t 35) (.c (.I 1))),zm 7 36]))
def NU:bK:=.seq (.seq (.dv [] [zm 20 6,z 21 (.bin .geq (.t 20) (.c (.I 0)))]) (.ite (.t 21) (.skip) (.exit 0))) (.seq (.block 1 (.seq (.dv [] [zm 24 5,zm 25 6,zm 26 1,z 27 (.len
 false (.t 26)),z 28 (.bin .add (.t 27) (.c (.I 1))),z 29 (.mk 3 1 8 [.I 0] (.t 28) (.t 28)),z 30 (.idx 1 (.t 24) (.t 25)),zs (.store 1 [some 1] (.t 30) (.t 29))])
 (.seq (.dv [] [zm 31 1,z 32 (.len false (.t 31)),zm 7 32]) (.block 2 (.loop CP))))) (.dv [] [zm 22 6,z 23 (.bin .sub (.t 22) (.c (.I 1))),zm 6 23]))
def alL:ux:=⟨131,[.t 4],.seq (.dv [] [z 4 (.gm (.c .nil))]) (.seq (.dv [] [zm 14 0,z 15 (.len false (.t 14)),z 16 (.bin .add (.t 15) (.c (.I 1))),z 17 (.mkb 25 24 (.t 16) (.t 16)),
 zm 5 17]) (.seq (.seq (.dv [] [zm 18 0,z 19 (.len false (.t 18)),zm 6 19]) (.block 0 (.loop NU))) (.seq (.dv [] [zm 130 5,zm 4 130]) (.ret))))⟩
def art:dY prog f173=some alL:=by kernel_rfl
def NT:bK:=.seq (.dv [] [z 14 (.bin .lss (.t 13) (.t 12))]) (.seq (.ite (.t 14) (.skip) (.exit 0)) (.seq (.block 1 (.seq (.dv [] [zm 15 13,z 16 (.idx 3 (.t 11) (.t 13)),zL 17 3 16,z 7
 (.alloc 150 [.I 0,.s [],.I 0]),zm 6 15,zs (.store 3 [none,none,none] (.t 7) (.t 17))]) (.seq (.jH [([zL 18 3 7],z 19 (.call 220 [.t 18]),[])] [zm 20 19,⟨some
 21,[(20,true)],.gm (.t 0)⟩,⟨some 22,[(20,true)],.gm (.t 6)⟩,⟨some 23,[(20,true)],.slice 3 (.t 21) none (some (.t 22))⟩,⟨some 24,[(20,true)],.load (some 3) (.t 7)⟩]
 [21,22,23,24,25,26] [⟨some 25,[(20,true)],.call 221 [.t 23,.t 24]⟩,⟨some 26,[(20,true)],.bin .eql (.t 25) (.c (.I 0))⟩,z 27 (.pick (.t 20) (.t 26) (.c (.b
 false)))]) (.ite (.t 27) (.seq (.jH [([zm 28 0,zL 29 3 7,zm 31 1,zL 32 3 7],z 30 (.call 221 [.t 28,.t 29]),[zL 32 3 7])] [] [] [z 33 (.call 221 [.t 31,.t 32]),z 34 (.bin
 .sub (.t 30) (.t 33)),zm 8 34]) (.dv [] [zm 35 5,zm 36 8,zm 37 8,z 38 (.un .neg (.t 37)),z 39 (.max2 (.t 36) (.t 38)),z 40 (.bin .add (.t 35) (.t 39)),zm 5 40])) (.skip)))))
 (.dv [] [z 41 (.bin .add (.t 13) (.c (.I 1))),zm 13 41])))
def NS:bK:=.seq (.dv [] [z 45 (.bin .lss (.t 44) (.t 43))]) (.seq (.ite (.t 45) (.skip) (.exit 2)) (.seq (.block 3 (.seq (.dv [] [zm 46 44,z 47 (.idx 3 (.t 42) (.t 44)),zL 48 3 47,z 10
 (.alloc 150 [.I 0,.s [],.I 0]),zm 9 46,zs (.store 3 [none,none,none] (.t 10) (.t 48))]) (.seq (.jH [([zL 49 3 10],z 50 (.call 220 [.t 49]),[]),([zm 51 50,⟨some
 52,[(51,true)],.gm (.t 1)⟩,⟨some 53,[(51,true)],.gm (.t 9)⟩,⟨some 54,[(51,true)],.slice 3 (.t 52) none (some (.t 53))⟩,⟨some 55,[(51,true)],.load (some 3) (.t
 10)⟩],⟨some 56,[(51,true)],.call 221 [.t 54,.t 55]⟩,[])] [⟨some 57,[(51,true)],.bin .eql (.t 56) (.c (.I 0))⟩,z 58 (.pick (.t 51) (.t 57) (.c (.b false))),zm 59 58,
 ⟨some 60,[(59,true)],.gm (.t 0)⟩,⟨some 61,[(59,true)],.load (some 3) (.t 10)⟩] [52,53,54,55,56,57,60,61,62,63] [⟨some 62,[(59,true)],.call 221 [.t 60,.t 61]⟩,
 ⟨some 63,[(59,true)],.bin .eql (.t 62) (.c (.I 0))⟩,z 64 (.pick (.t 59) (.t 63) (.c (.b false)))]) (.ite (.t 64) (.dv [] [zm 65 5,zm 66 1,zL 67 3 10,z 68 (.call 221 [.t
 66,.t 67]),z 69 (.bin .add (.t 65) (.t 68)),zm 5 69]) (.skip))))) (.dv [] [z 70 (.bin .add (.t 44) (.c (.I 1))),zm 44 70])))
def alK:ux:=⟨72,[.t 4],.seq (.dv [] [z 4 (.gm (.c (.I 0)))]) (.seq (.dv [] [z 5 (.gm (.c (.I 0)))]) (.seq (.seq (.dv [] [zm 11 0,z 12 (.len false (.t 11)),z 13 (.gm (.c (.i
 .i64 0)))]) (.block 0 (.loop NT))) (.seq (.seq (.dv [] [zm 42 1,z 43 (.len false (.t 42)),z 44 (.gm (.c (.I 0)))]) (.block 2 (.loop NS))) (.seq (.dv [] [zm 71 5,
 zm 4 71]) (.ret)))))⟩
def ars:dY prog f174=some alK:=by kernel_rfl
def amp:bj prog f111:=⟨_,by cbv⟩
def amq:bj prog f110:=⟨_,by cbv⟩
def p52:bj prog f52:=⟨_,by cbv⟩
def p55:bj prog f55:=⟨_,by cbv⟩
def alG:bj prog f178:=⟨_,by cbv⟩
def amn:bj prog f113:=⟨_,by cbv⟩
def q54:=(⟨_,by cbv⟩:Nf (dY prog f54))
def Vf:bK:=(⟨_,by cbv⟩:Nf (dV q54.1 0 [])).1
def p54:bj prog f54:=⟨(λa=>(⟨_,by cbv⟩:Nf (eL q54.1 [a])).1) Vf,by kernel_rfl⟩
def p16:bj prog f16:=⟨_,by cbv⟩
def q77:=(⟨_,by cbv⟩:Nf (dY prog f77))
def U8:bK:=(⟨_,by cbv⟩:Nf (dV q77.1 0 [])).1
def p77:bj prog f77:=⟨(λa=>(⟨_,by cbv⟩:Nf (eL q77.1 [a])).1) U8,by kernel_rfl⟩
def p21:bj prog f21:=⟨_,by cbv⟩
def U7:bK:=.seq (.dv [] [z 39 (.bin .lss (.t 38) (.c (.I 4)))]) (.seq (.ite (.t 39) (.skip) (.exit 0)) (.seq (.block 1 (.seq (.dv [] [z 40 (.SJ 4 (.t 37) (.t 38)),zm 8 40]) (.seq
 (.dv [] [zm 41 8,z 42 (.bin .neq (.t 41) (.c (.I 0)))]) (.ite (.t 42) (.seq (.dv [] [zm 43 8,z 44 (.bin .lss (.t 43) (.c (.I 0))),zm 6 44]) (.ret)) (.skip))))) (.dv
 [] [z 45 (.bin .add (.t 38) (.c (.I 1))),zm 38 45])))
def p78:ux:=⟨46,[.t 6],.seq (.dv [] [z 4 (.box 44 (.t 1)),z 5 (.box 44 (.t 2)),z 6 (.gm (.c (.b false)))]) (.seq (.seq (.jH [([zf 9 4 5,zl 10 9,zf 11 4 4,zl 12 11,zf 14 1 5,zl 15
 14,zf 16 1 4,zl 17 16,zm 19 0,zf 20 0 5,zl 21 20,z 22 (.idx 8 (.t 19) (.t 21)),zf 23 6 22,zl 24 23,zm 25 0,zf 26 0 4,zl 27 26,z 28 (.idx 8 (.t 25) (.t 27)),zf 29 6 28,
 zl 30 29,zf 32 0 4,zl 33 32,zf 34 0 5,zl 35 34,z 38 (.gm (.c (.I 0)))],z 13 (.call 140 [.t 10,.t 12]),[zf 14 1 5,zl 15 14,zf 16 1 4,zl 17 16,zf 20 0 5,zl 21 20,z
 22 (.idx 8 (.t 19) (.t 21)),zf 23 6 22,zl 24 23,zf 26 0 4,zl 27 26,z 28 (.idx 8 (.t 25) (.t 27)),zf 29 6 28,zl 30 29,zf 32 0 4,zl 33 32,zf 34 0 5,zl 35 34]),([],z 18
 (.call 140 [.t 15,.t 17]),[zf 20 0 5,zl 21 20,z 22 (.idx 8 (.t 19) (.t 21)),zf 23 6 22,zl 24 23,zf 26 0 4,zl 27 26,z 28 (.idx 8 (.t 25) (.t 27)),zf 29 6 28,zl 30 29,zf
 32 0 4,zl 33 32,zf 34 0 5,zl 35 34]),([],z 31 (.call 140 [.t 24,.t 30]),[zf 32 0 4,zl 33 32,zf 34 0 5,zl 35 34]),([],z 36 (.call 140 [.t 33,.t 35]),[])] [z 37 (.build
 [.I 0,.I 0,.I 0,.I 0] [(0,1,.t 13),(1,1,.t 18),(2,1,.t 31),(3,1,.t 36)])] [] []) (.block 0 (.loop U7))) (.seq (.dv [] [z 6 (.gm (.c (.b
 false)))]) (.ret)))⟩
def c78:dY prog f78=some p78:=by kernel_rfl
def Vl:bK:=.seq (.seq (.jH [] [zm 44 13,zm 45 10,z 46 (.len false (.t 45)),z 47 (.bin .lss (.t 44) (.t 46)),zm 48 47,⟨some 49,[(48,true)],.gm (.t 0)⟩,⟨some 50,[(48,true)],.gm
 (.t 10)⟩,⟨some 51,[(48,true)],.gm (.t 13)⟩,⟨some 52,[(48,true)],.idx 5 (.t 50) (.t 51)⟩,⟨some 53,[(48,true)],.load (some 5) (.t 52)⟩,⟨some 54,[(48,true)],.load
 (some 5) (.t 12)⟩] [49,50,51,52,53,54,55] [⟨some 55,[(48,true)],.call 78 [.t 49,.t 53,.t 54]⟩,z 56 (.pick (.t 48) (.t 55) (.c (.b false)))]) (.ite (.t 56) (.skip) (.exit
 2))) (.block 3 (.dv [] [zm 57 13,z 58 (.bin .add (.t 57) (.c (.I 1))),zm 13 58]))
def Vk:bK:=.seq (.dv [] [z 28 (.bin .lss (.t 27) (.t 26))]) (.seq (.ite (.t 28) (.skip) (.exit 0)) (.seq (.block 1 (.seq (.dv [] [zm 29 27,zm 11 29]) (.seq (.YZ [(12,44,[.I 0,.i
 .i64 0,.I 0,.I 0,.I 0])] [([zm 30 0,zm 31 11,z 32 (.idx 8 (.t 30) (.t 31)),zL 33 8 32,zm 34 1,zL 35 6 5],z 36 (.call 21 [.t 33,.t 34,.t 35]),[])] [] [] []
 [zs (.store 5 [none,none,none,none,none] (.t 12) (.t 36))]) (.seq (.dv [] [zm 37 11,zf 38 0 12,zs (.store 1 [none] (.t 38) (.t 37))]) (.seq (.seq (.dv [] [zf 39 4 12,zl 40
 39,zf 41 4 5,zl 42 41,z 43 (.bin .lss (.t 40) (.t 42))]) (.ite (.t 43) (.exit 1) (.skip))) (.seq (.dv [] [z 13 (.gm (.c (.I 0)))]) (.seq (.block 2 (.loop Vl)) (.seq
 (.jH [] [zL 59 5 12,z 60 (.dH 5 [none,none,none,none,none] [.t 59]),zm 61 10,zm 62 13,z 63 (.slice 5 (.t 61) (some (.t 62)) none)] [] [z 64 (.app 44 5 40 (.t 60) (.t
 63)),zm 14 64]) (.dv [] [zm 65 10,zm 66 13,z 67 (.slice 5 (.t 65) none (some (.t 66))),z 68 (.app 44 5 40 (.c .nil) (.t 67)),zm 69 14,z 70 (.app 44 5 40 (.t 68) (.t 69)),zm
 10 70]))))))))) (.dv [] [z 71 (.bin .add (.t 27) (.c (.I 1))),zm 27 71])))
def p33:ux:=⟨79,[.t 6,.t 7],.seq (.dv [] [z 5 (.box 24 (.t 2)),z 6 (.gm (.c .nil)),z 7 (.gm (.c (.I 0)))]) (.seq (.seq (.dv [] [zL 15 6 5,z 16 (.call 16 [.t 15]),zm 8 16]) (.seq
 (.dv [] [zm 17 8,z 18 (.bin .neq (.t 17) (.c (.I 0)))]) (.ite (.t 18) (.seq (.dv [] [zm 19 8,z 6 (.gm (.c .nil)),zm 7 19]) (.ret)) (.skip)))) (.seq (.seq (.dv [] [zm 20
 1,z 21 (.call 77 [.t 20]),zm 9 21]) (.seq (.dv [] [zm 22 9,z 23 (.bin .neq (.t 22) (.c (.I 0)))]) (.ite (.t 23) (.seq (.dv [] [zm 24 9,z 6 (.gm (.c .nil)),zm 7 24])
 (.ret)) (.skip)))) (.seq (.dv [] [z 10 (.gm (.c .nil))]) (.seq (.seq (.dv [] [zm 25 0,z 26 (.len false (.t 25)),z 27 (.gm (.c (.I 0)))]) (.block 0 (.loop Vk))) (.seq
 (.dv [] [zm 72 10,zm 73 10,z 74 (.len false (.t 73)),zf 75 5 5,zl 76 75,z 77 (.min2 (.t 74) (.t 76)),z 78 (.slice 5 (.t 72) none (some (.t 77))),zm 6 78,z 7 (.gm (.c (.i
 .i64 0)))]) (.ret))))))⟩
def c33:dY prog f33=some p33:=by kernel_rfl
def q25:=(⟨_,by cbv⟩:Nf (dY prog f25))
def D4:bK:=(⟨_,by cbv⟩:Nf (dV q25.1 0 [])).1
def p25:bj prog f25:=⟨(λa=>(⟨_,by cbv⟩:Nf (eL q25.1 [a])).1) D4,by kernel_rfl⟩
def Qm:=(⟨_,by cbv⟩:Nf (dY prog f114))
def rS:bK:=(⟨_,by cbv⟩:Nf (dV Qm.1 0 [])).1
def QU:bj prog f114:=⟨(λa=>(⟨_,by cbv⟩:Nf (eL Qm.1 [a])).1) rS,by kernel_rfl⟩
def Ql:=(⟨_,by cbv⟩:Nf (dY prog f115))
def rR:bK:=(⟨_,by cbv⟩:Nf (dV Ql.1 0 [])).1
def QT:bj prog f115:=⟨(λa=>(⟨_,by cbv⟩:Nf (eL Ql.1 [a])).1) rR,by kernel_rfl⟩
def QS:bj prog f116:=⟨_,by cbv⟩
def p56:bj prog f56:=⟨_,by cbv⟩
def p75:bj prog f75:=⟨_,by cbv⟩
def p31:bj prog f31:=⟨_,by cbv⟩
def al6:bj prog f140:=⟨_,by cbv⟩
def p13:bj prog f13:=⟨_,by cbv⟩
def D5:bK:=.seq (.seq (.dv [] [zm 11 6,z 12 (.bin .gtr (.t 11) (.c (.I 0)))]) (.ite (.t 12) (.skip) (.exit 0))) (.seq (.block 1 (.jH [([zm 15 5,zm 16 0,z 18 (.dH 1 [none] [.c
 (.s []),.c (.s []),.c (.s [97,110,110])]),zm 19 0,z 23 (.dH 1 [none] [.c (.s []),.c (.s []),.c (.s [113])]),zm 24 0,zm 28 0,zm 30 0,zm 33 0],z 17 (.call 43 [.t 16,
 .c (.I 4)]),[z 18 (.dH 1 [none] [.c (.s []),.c (.s []),.c (.s [97,110,110])]),z 23 (.dH 1 [none] [.c (.s []),.c (.s []),.c (.s [113])])]),([],z 20 (.call 43
 [.t 19,.c (.I 3)]),[z 18 (.dH 1 [none] [.c (.s []),.c (.s []),.c (.s [97,110,110])]),z 23 (.dH 1 [none] [.c (.s []),.c (.s []),.c (.s [113])])]),([z 21 (.idx
 1 (.t 18) (.t 20)),zl 22 21],z 25 (.call 43 [.t 24,.c (.I 3)]),[z 18 (.dH 1 [none] [.c (.s []),.c (.s []),.c (.s [97,110,110])]),z 21 (.idx 1 (.t 18) (.t 20)),zl
 22 21,z 23 (.dH 1 [none] [.c (.s []),.c (.s []),.c (.s [113])])]),([z 26 (.idx 1 (.t 23) (.t 25)),zl 27 26],z 29 (.call 43 [.t 28,.c (.I 3)]),[z 18 (.dH 1
 [none] [.c (.s []),.c (.s []),.c (.s [97,110,110])]),z 21 (.idx 1 (.t 18) (.t 20)),zl 22 21,z 23 (.dH 1 [none] [.c (.s []),.c (.s []),.c (.s [113])]),z 26 (.idx 1 (.t
 23) (.t 25)),zl 27 26]),([],z 31 (.call 43 [.t 30,.c (.I 30)]),[z 18 (.dH 1 [none] [.c (.s []),.c (.s []),.c (.s [97,110,110])]),z 21 (.idx 1 (.t 18) (.t 20)),zl
 22 21,z 23 (.dH 1 [none] [.c (.s []),.c (.s []),.c (.s [113])]),z 26 (.idx 1 (.t 23) (.t 25)),zl 27 26]),([z 32 (.bin .mul (.t 29) (.t 31))],z 34 (.call 43 [.t 33,.c (.i
 .i64 12)]),[z 18 (.dH 1 [none] [.c (.s []),.c (.s []),.c (.s [97,110,110])]),z 21 (.idx 1 (.t 18) (.t 20)),zl 22 21,z 23 (.dH 1 [none] [.c (.s []),.c (.s []),.c
 (.s [113])]),z 26 (.idx 1 (.t 23) (.t 25)),zl 27 26])] [z 35 (.build [.I 0,.s [],.s [],.I 0,.I 0] [(0,1,.t 17),(1,1,.t 22),(2,1,.t 27),(3,1,.t 32),
 (4,1,.t 34)]),z 36 (.dH 5 [none,none,none,none,none] [.t 35])] [] [z 37 (.app 84 5 56 (.t 15) (.t 36)),zm 5 37])) (.dv [] [zm 13 6,z 14 (.bin .sub (.t 13) (.c (.i .i64
 1))),zm 6 14]))
def p18:ux:=⟨39,[.t 4],.seq (.dv [] [z 4 (.gm (.c .nil))]) (.seq (.dv [] [z 5 (.gm (.c .nil))]) (.seq (.seq (.dv [] [zm 7 0,zm 8 1,z 9 (.bin .add (.t 8) (.c (.I 1))),z 10 (.call
 43 [.t 7,.t 9]),zm 6 10]) (.block 0 (.loop D5))) (.seq (.dv [] [zm 38 5,zm 4 38]) (.ret))))⟩
def c18:dY prog f18=some p18:=by kernel_rfl
def p19:bj prog f19:=⟨_,by cbv⟩
def q22:=(⟨_,by cbv⟩:Nf (dY prog f22))
def wQ:bK:=(⟨_,by cbv⟩:Nf (dV q22.1 0 [])).1
def p22:bj prog f22:=⟨(λa=>(⟨_,by cbv⟩:Nf (eL q22.1 [a])).1) wQ,by kernel_rfl⟩
def q8:=(⟨_,by cbv⟩:Nf (dY prog f8))
def adr:bK:=(⟨_,by cbv⟩:Nf (dV q8.1 0 [])).1
def p8:bj prog f8:=⟨(λa=>(⟨_,by cbv⟩:Nf (eL q8.1 [a])).1) adr,by kernel_rfl⟩
def QQ:bj prog f138:=⟨_,by cbv⟩
def p73:bj prog f73:=⟨_,by cbv⟩
def p30:bj prog f30:=⟨_,by cbv⟩
end Go.Proofs.Tryz
namespace Go.Bt
open Go Go.Pm
def Il(a b:List It)(t:It):fe (a++b) t=fe a t+fe b t:=by
 induction a with
 |nil=>simp[fe]
 |cons x a ih=>simp only[bJ,fe,ih];omega
def Zl(a b:List It)(i k:Nat):0<=ru a b i k/\ru a b i k<=4*a.length+4*b.length:=by
 have:=Dk (a.drop i) (b.drop k);simp only[ru,bA]at *;omega
def ZD(a b:List It)(i c:Nat):(P5 a b i c).length=b.length+1 - c:=by simp[P5]
def FC(a b:List It)(i j:Nat)(c:j<=b.length+1):(kH a b i j).length=b.length+1:=by
 simp[kH,ZD];omega
def Xb{a b:List It}{i j k:Nat}(h:j<=k)(c:k<=b.length):(kH a b i j)[k]?=some (ru a b i k):=by
 unfold kH P5;rw[aU (by simp;omega)];simp only[yS,ck];rw[List.getElem?_range' (by omega)];simp;congr 1;omega
def AF{a b:List It}{i j k:Nat}(h:j<=k)(c:k<=b.length):gj ((kH a b i j).map bV) k 0=some (.i .i64 (ru a b i k)):=by
 simp[gj,Xb h c,bV]
def Tj{a b:List It}{i j:Nat}(h:j<=b.length):((kH a b i (j+1)).map bV).getD j []=[.i .i64 0]:=by
 unfold kH;simp[aq,ay,wu,bV]
def WS{a b:List It}{i j:Nat}(h:j<=b.length):P5 a b i j=ru a b i j::P5 a b i (j+1):=by
 unfold P5;have:b.length+1 - j=(b.length+1 - (j+1))+1:=by omega
 rw[this,List.range'_succ];rfl
def Xa{a b:List It}{i j:Nat}(h:j<=b.length):(kH a b i (j+1)).set j (ru a b i j)=kH a b i j:=by
 unfold kH;rw[WS h,List.replicate_succ',bk,dA _ _ (by simp)];simp
def Qy(a b:List It)(i:Nat):kH a b i (b.length+1)=List.replicate (b.length+1) 0:=by
 simp[kH,P5]
def ag5(a b:List It):ru a b a.length b.length=0:=by simp[ru,tv]
def ag4{a b:List It}{k:Nat}{u:It}(c:b[k]?=some u):ru a b a.length k=single u+ru a b a.length (k+1):=by
 obtain⟨h,rfl⟩:=ah.1 c;unfold ru;rw[dG h];simp only[ug,tv]
def ac7{a b:List It}{i:Nat}{x:It}(hi:a[i]?=some x):ru a b i b.length=single x+ru a b (i+1) b.length:=by
 obtain⟨h,rfl⟩:=ah.1 hi;unfold ru;rw[dG h];simp only[ug,tv]
def ag3{a b:List It}{i k:Nat}{x u:It}(hi:a[i]?=some x)(d:b[k]?=some u):
  ru a b i k=rq ((gh x u).map (·+ru a b (i+1) (k+1))) (single x+ru a b (i+1) k) (single u+ru a b i (k+1)):=by
 obtain⟨h,rfl⟩:=ah.1 hi;obtain⟨c,rfl⟩:=ah.1 d;unfold ru;rw[dG h,dG c];simp only[tv]
def B4(a b:En):Bool:=gL a.awc b.awc&&(gL a.awf b.awf&&(a.bU==b.bU&&(a.next==b.next&&(a.c8==b.c8&&(a.cA==b.cA&&(a.awh==b.awh&&a.awq==b.awq))))))
def Kl{a b:En}:B4 a b=true<->a=b:=by
 obtain⟨h,i,o,c,q,r,k,d⟩:=a;obtain⟨f,m,p,n,g,l,e,j⟩:=b;simp[B4,sW]
def sE:List En->List En->Bool
 |[],[]=>true
 |a::x,b::y=>B4 a b&&sE x y
 |_,_=>false
def BM:∀{a b:List En},sE a b=true<->a=b
 |[],[]=>by simp[sE]
 |a::x,b::y=>by simp[sE,Kl,BM (a:=x) (b:=y)]
 |[],b::y=>by simp[sE]
 |a::x,[]=>by simp[sE]
def Yj:∀{a b:List En},sE a b=true->a.length=b.length:=λh=>by rw[BM.1 h]
def x7:∀c:UInt8,qM c=true->c≠92/\c≠60/\c≠123:=eP (by decide +kernel)
def EL:∀c:UInt8,fQ (gn (c.toNat / 16)) (gn (c.toNat % 16))=c/\(gE (gn (c.toNat / 16))).2=true/\(gE (gn (c.toNat % 16))).2=true:=eP (by decide +kernel)
def EM:∀c:UInt8,qM c=false->c≠10->c≠9->¬(c=92\/c=60\/c=123)->(c==13||ei c==1)=true:=eP (by decide +kernel)
def iV(a d:UInt8)(r:aG):dj (a::d::r)=if d=92\/d=60\/d=123 then(d,2,true)else if d=110 then(10,2,true)else if d=116 then(9,2,true)else if d=120 then
  (if r.length<2 then(0,0,false)else(fQ (r.getD 0 0) (r.getD 1 0),4,(gE (r.getD 0 0)).2&&(gE (r.getD 1 0)).2&&(fQ (r.getD 0 0) (r.getD 1 0)==13||ei (fQ (r.getD 0 0) (r.getD 1 0))==1)))else(0,0,false):=by
 simp only[dj,ai,aA,aR];rw[an (by omega)];have e:(r.length+1+1<4)=(r.length<2):=by rw[KS];omega
 simp only[e]
def mO(d:UInt8)(r:aG):aX (92::d::r)=(⟨1,[(dj (92::d::r)).1],0⟩,(dj (92::d::r)).2.1,(dj (92::d::r)).2.2):=by
 simp only[aX,aA,aT]
def yD(c:UInt8)(rest:aG):aX (du c++rest)=(⟨1,[c],0⟩,((du c).length:Int),true):=by
 unfold du;split
 .rename_i h;have g:=x7 c h;simp[aX,g,h]
 .rename_i h;have h:qM c=false:=by simpa using h
  split
  .rename_i a;subst a;simp only[bJ,bc,mO,iV];rfl
  .split
   .rename_i a b;subst b;simp only[bJ,bc,mO,iV];rfl
   .split
    .rename_i a b e;simp only[bJ,bc,mO,iV,az e];rfl
    .rename_i a b e;have d:=EL c;have f:=EM c h a b e;simp only[bJ,bc,mO,iV];rw[an (by decide),an (by decide),an (by decide),az (by decide),an (by simp)];simp only[aA,aR,d.1,d.2.1,d.2.2,f,df];rfl
def tP:∀c:UInt8,fw c=true->c≠62/\c≠125/\c≠58/\c≠47/\c≠32/\fT c=false:=eP (by decide +kernel)
def yc:∀c:UInt8,(97<=c.toNat/\c.toNat<=122)->fw c=true:=eP (by decide +kernel)
def vD{s:aG}(h:awj s=true):∀c∈s,fw c=true:=by
 cases s with
 |nil=>simp[awj]at h
 |cons c r =>
  simp only[awj,aJ,aV,bY]at h;intro x a;rcases bC.1 a with rfl|a
  .exact yc _ h.1.2
  .exact h.2 x a
def yC(t rest:aG)(h:awj t=true):aX (123::(t++125::rest))=(⟨5,t,0⟩,(t.length:Int)+2,true):=by
 have b:Lib.indexByte (123::(t++125::rest)) 125=((123::t:aG).length:Int):=by
  have:=nX (c:=125) (rest:=rest) (pre:=123::t) (by
   intro a;rcases bC.1 a with a|a
   .exact absurd a (by decide)
   .exact(tP _ (vD h _ a)).2.1 rfl)
  simpa using this
 have e:((123::(t++125::rest)).take (Lib.indexByte (123::(t++125::rest)) 125).toNat).drop 1=t:=by
  rw[b];simp
 simp only[aX,aA,e,h];rw[an (by decide),an (by decide),az (by decide),an (by rw[b];simp;omega),b];simp;omega
def tZ{c:UInt8}{a b:aG}(h:c ∉ a):cutAt (a++c::b) c=(a,b,true):=by
 simp only[cutAt,nX h];rw[az (by omega)];simp
def d3(n:Nat):aG:=if n<10 then[UInt8.ofNat (48+n)]else if n<100 then[UInt8.ofNat (48+n / 10),UInt8.ofNat (48+n % 10)]else[UInt8.ofNat (48+n / 100),UInt8.ofNat (48+n / 10 % 10),UInt8.ofNat (48+n % 10)]
def oH(n:Nat)(h:n<1000):Lib.itoa (n:Int)=d3 n:=by
 unfold Lib.itoa;rw[an (by omega)];simp only[ao,d3]
 by_cases a:n<10
 .rw[az a,Lib.decDigits_one a]
 .rw[an a]
  by_cases b:n<100
  .rw[az b,Lib.decDigits_two a b]
  .rw[an b,Lib.decDigits,YA a,Lib.decDigits_two (by omega) (by omega)];simp only[bJ,bc];have e:n / 10 / 10=n / 100:=by omega
   rw[e]
def Kp:∀n:Fin 1000,1<=n.val->awn (d3 n.val)=((n.val:Int),true)/\(d3 n.val).all cQ=true/\(d3 n.val)≠[]:=by decide +kernel
def AP(n:Int)(h:1<=n/\n<=999):awn (Lib.itoa n)=(n,true)/\(∀c∈Lib.itoa n,cQ c=true)/\Lib.itoa n≠[]:=by
 obtain⟨m,rfl⟩:∃m:Nat,n=m:=⟨n.toNat,by omega⟩;have:=Kp ⟨m,by omega⟩ (by show 1<=m;omega);rw[oH m (by omega)];exact⟨this.1,λc a=>bY.1 this.2.1 c a,this.2.2⟩
def nu(m:List (Int×It))(x:It):List (Int×It):=if tagged x then iZ m x.id x else m
def jh(f:List It):List (Int×It):=f.foldl nu []
def kT(f:List It)(t:aG):Rd:=⟨f,t,awr f+t.length,jh f⟩
def ka(a b:List It):awr (a++b)=awr a+awr b:=by simp[awr]
def nr(x:It):awr [x]=wid x:=by simp[awr]
def kS(f:List It)(x:It):jh (f++[x])=nu (jh f) x:=by simp[jh]
def tz{m:List (Int×It)}{t:aG}{i:Int}:nu m ⟨1,t,i⟩=m:=by simp[nu,tagged]
def pW(f:List It)(t:aG):jh (closed f t)=jh f:=by
 simp only[closed];split
 .rfl
 .rw[kS,tz]
def mH(f:List It)(t:aG):awr (closed f t)=awr f+t.length:=by
 simp only[closed];split
 .rename_i h;simp[h]
 .rw[ka,nr];simp[wid]
def px(f:List It)(t:aG):(closed f t).length=f.length+(if 0<t.length then 1 else 0):=by
 simp only[closed];split
 .rename_i h;simp[h]
 .rename_i h;have:0<t.length:=cT.2 h;simp[this]
def vi(f:List It)(t:aG):(ig (kT f t)).f=closed f t:=by
 by_cases h:t=[]
 .subst h;rfl
 .have a:0<t.length:=cT.2 h;have e:ig (kT f t)=⟨f++[⟨1,t,0⟩],[],awr f+t.length,jh f⟩:=az a;rw[e,closed,an h]
def vk(f:List It)(t:aG)(c:UInt8):lG (kT f t) ⟨1,[c],0⟩=if ic f t ⟨1,[c],0⟩then(3,kT f t)else(0,kT f (t++[c])):=by
 simp only[lG,tagged,mQ,ic,kT];simp only[lA,dR,aI,aS,aj,ai,al,aT];rfl
def vj(f:List It)(t:aG)(x:It)(a:x.awb≠1):lG (kT f t) x =
  if tagged x&&vT (kT f t) x then(7,kT f t)else if ic f t x then(3,kT f t)else(0,kT (closed f t++[x]) []):=by
 simp only[lG,mQ,ic,a,aS]
 have e:Ax (ig (rf (kT f t) x)) x=kT (closed f t++[x]) []:=by
  have c:wid x=1:=by simp[wid,a]
  simp only[kT,ka,nr,mH,kS,pW,c,al,de]
  by_cases h:t=[]
  .subst h;rfl
  .have b:0<t.length:=cT.2 h;have e:ig (rf ⟨f,t,awr f+t.length,jh f⟩ x)=⟨f++[⟨1,t,0⟩],[],awr f+t.length+1,nu (jh f) x⟩:=az b;rw[e,closed,an h];rfl
 rw[e];rfl
def iT{x:It}(h:bG none x=true):b9 x=tagged x:=by
 simp only[bG]at h
 by_cases b:x.awb=1
 .simp[b9,tagged,b]
 .by_cases c:x.awb=5
  .simp[b9,tagged,c]
  .by_cases a:x.awb=2\/x.awb=4
   .rcases a with a|a<;>simp[b9,tagged,a]
   .by_cases d:x.awb=3
    .simp[b9,tagged,d]
    .simp[b,c,a,d]at h
def vS{f:List It}{t:aG}{x:It}(v:bQ [] f=0)(s:bG none x=true):(tagged x&&vT (kT f t) x)=(b9 x&&!fits (closed f t) x):=by
 rw[iT s]
 by_cases l:tagged x=true
 .rw[l,cc,cc];have A:b9 x=true:=by rw[iT s];exact l
  have n:fits (closed f t) x=fits f x:=by
   simp only[closed];split
   .rfl
   .simp[fits,dP,b9]
  rw[n];simp only[vT,kT]
  have m:∀f:List It,bQ [] f=0->(match cX x.id (jh f)with|some b=>x.awb != 3||b.awb != 2||cW b.awd != x.awd|none=>false)=!fits f x:=by
   intro f
   induction f using Bw with
   |h0=>intro _;simp[jh,yz,fits]
   |h1 f y ih =>
    intro h;rw[fp]at h;obtain⟨h1,g,i⟩:=h;have ih:=ih h1;simp only[bc]at g i
    have r:bG none y=true:=by
     by_cases q:y.awb=1
     .simp only[bG,q,aT,aJ]at g |-;exact⟨g.1,trivial⟩
     .rw[<- jv (p:=f.getLast?) q];exact g
    have e:fits (f++[y]) x=(fits f x&&!dP x y):=by simp[fits]
    rw[kS,e];simp only[nu]
    by_cases k:tagged y=true
    .rw[az k,jy];have j:b9 y=true:=by rw[iT r];exact k
     by_cases d:x.id=y.id
     .rw[az d];rw[j,cc,dQ]at i;have c:dP x y=(x.awb != 3||y.awb != 2||!(cW y.awd==x.awd)):=by simp[dP,j,d]
      rw[c]
      by_cases a:(x.awb != 3||y.awb != 2||!(cW y.awd==x.awd))=true
      .simp only[bne]at a |-;rw[a];simp
      .have a:(x.awb != 3||y.awb != 2||!(cW y.awd==x.awd))=false:=by simpa using a
       have w:fits f x=true:=by
        simp only[fits,bY,dm]at i |-;intro z u;have o:=i z u;simp only[iv,BT]at a;simp only[dP]at o |-;have:(y.awb != 3)=true:=by rw[a.1.2];decide
        rw[this,xK,xK,df]at o;rw[d,o,dR]
       rw[w];simp only[bne]at a |-;rw[a];simp
     .rw[an d,ih]
      have c:dP x y=false:=by
       have:(y.id != x.id)=true:=by simpa using λe=>d e.symm
       simp[dP,this]
      rw[c];simp
    .rw[an k,ih];have j:b9 y=false:=by rw[iT r];simpa using k
     have c:dP x y=false:=by simp[dP,j]
     rw[c];simp
  exact m f v
 .have h0:tagged x=false:=by simpa using l
  simp[h0]
end Go.Bt
