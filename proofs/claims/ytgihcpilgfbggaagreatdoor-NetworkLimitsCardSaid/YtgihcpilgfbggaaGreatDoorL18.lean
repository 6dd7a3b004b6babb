/- A part of the proof that for every input the law NetworkLimits returns true and leaves its argument as it was. -/
import Derived.Test.YtgihcpilgfbggaaGreatDoorProg
import Derived.KernelRfl
import Derived.Test.YtgihcpilgfbggaaGreatDoorL14
import Derived.Test.YtgihcpilgfbggaaGreatDoorL17
set_option linter.all false

namespace Go.Proofs.Tryz
open Go Go.Pm
def U7:bM:=⟨9,[.t 2],.seq (.aj [] [z 2 (.aK (.c (.b false)))]) (.seq (.aj [6,7] [zm 3 0,z 4 (.bin .eql (.t 3) (.c (.s []))),zm 5 4,⟨some 6,[(5,false)],.aK (.t 0)⟩,⟨some 7,[(5,
 false)],.call 229 [.t 6]⟩,z 8 (.pick (.t 5) (.c (.b true)) (.t 7)),zm 2 8]) (.ret))⟩
theorem ZX:bL prog f202=some U7:=by kernel_rfl
def Vl:bM:=⟨99,[.t 2],.seq (.aj [] [z 1 (.box 34 (.t 0)),z 2 (.aK (.c (.i .i64 0)))]) (.seq (.seq (.aj [] [zf 13 0 1,zl 14 13,z 15 (.call 199 [.t 14]),zm 3 15]) (.seq (.aj [] [zm 16
 3,z 17 (.bin .neq (.t 16) (.c (.i .i64 0)))]) (.ite (.t 17) (.seq (.aj [] [zm 18 3,zm 2 18]) (.ret)) (.skip)))) (.seq (.seq (.aj [] [zf 19 1 1,zl 20 19,z 21 (.call 199 [.t
 20]),zm 4 21]) (.seq (.aj [] [zm 22 4,z 23 (.bin .neq (.t 22) (.c (.i .i64 0)))]) (.ite (.t 23) (.seq (.aj [] [zm 24 4,zm 2 24]) (.ret)) (.skip)))) (.seq (.aj [] [zf 26 0 1,
 zl 27 26,zf 28 1 1,zl 29 28,z 30 (.call 200 [.t 27,.t 29]),zm 25 30,z 31 (.ext 0 (.t 25)),z 32 (.ext 1 (.t 25)),zm 5 31,zm 6 32]) (.seq (.seq (.aj [38,39,40,41,42,45,
 46,47,48,49] [zf 33 0 1,zl 34 33,z 35 (.len false (.t 34)),z 36 (.bin .eql (.t 35) (.c (.i .i64 0))),zm 37 36,⟨some 38,[(37,false)],.aK (.t 5)⟩,⟨some 39,[(37,false)],
 .eG 0 (.t 1)⟩,⟨some 40,[(37,false)],.load none (.t 39)⟩,⟨some 41,[(37,false)],.call 71 [.t 38,.t 40]⟩,⟨some 42,[(37,false)],.un .not (.t 41)⟩,z 43 (.pick (.t 37) (.c
 (.b true)) (.t 42)),zm 44 43,⟨some 45,[(44,false)],.aK (.t 6)⟩,⟨some 46,[(44,false)],.eG 1 (.t 1)⟩,⟨some 47,[(44,false)],.load none (.t 46)⟩,⟨some 48,[(44,false)],
 .call 71 [.t 45,.t 47]⟩,⟨some 49,[(44,false)],.un .not (.t 48)⟩,z 50 (.pick (.t 44) (.c (.b true)) (.t 49))]) (.ite (.t 50) (.seq (.aj [] [z 2 (.aK (.c (.i .i64 1)))])
 (.ret)) (.skip))) (.seq (.seq (.aj [] [zf 52 2 1,zl 53 52,z 54 (.call 201 [.t 53]),zm 51 54,z 55 (.ext 0 (.t 51)),z 56 (.ext 1 (.t 51)),z 57 (.ext 2 (.t 51)),zm 7 55,zm 8
 56,zm 9 57]) (.seq (.aj [] [zm 58 9,z 59 (.bin .neq (.t 58) (.c (.i .i64 0)))]) (.ite (.t 59) (.seq (.aj [] [zm 60 9,zm 2 60]) (.ret)) (.skip)))) (.seq (.seq (.aj [] [zf 62 3
 1,zl 63 62,z 64 (.call 201 [.t 63]),zm 61 64,z 65 (.ext 0 (.t 61)),z 66 (.ext 1 (.t 61)),z 67 (.ext 2 (.t 61)),zm 10 65,zm 11 66,zm 12 67]) (.seq (.aj [] [zm 68 12,z 69
 (.bin .neq (.t 68) (.c (.i .i64 0)))]) (.ite (.t 69) (.seq (.aj [] [zm 70 12,zm 2 70]) (.ret)) (.skip)))) (.seq (.seq (.aj [76,77,78,79] [zf 71 4 1,zl 72 71,z 73 (.call 202
 [.t 72]),z 74 (.un .not (.t 73)),zm 75 74,⟨some 76,[(75,false)],.eG 5 (.t 1)⟩,⟨some 77,[(75,false)],.load none (.t 76)⟩,⟨some 78,[(75,false)],.call 202 [.t 77]⟩,
 ⟨some 79,[(75,false)],.un .not (.t 78)⟩,z 80 (.pick (.t 75) (.c (.b true)) (.t 79))]) (.ite (.t 80) (.seq (.aj [] [z 2 (.aK (.c (.i .i64 4)))]) (.ret)) (.skip))) (.seq (.seq
 (.aj [85,86,87,90,91,92,95,96,97] [zf 81 6 1,zl 82 81,z 83 (.bin .lss (.t 82) (.c (.i .i64 0))),zm 84 83,⟨some 85,[(84,false)],.eG 6 (.t 1)⟩,⟨some 86,[(84,
 false)],.load none (.t 85)⟩,⟨some 87,[(84,false)],.bin .gtr (.t 86) (.c (.i .i64 1073741824))⟩,z 88 (.pick (.t 84) (.c (.b true)) (.t 87)),zm 89 88,⟨some 90,[(89,false)],
 .eG 7 (.t 1)⟩,⟨some 91,[(89,false)],.load none (.t 90)⟩,⟨some 92,[(89,false)],.bin .lss (.t 91) (.c (.i .i64 1))⟩,z 93 (.pick (.t 89) (.c (.b true)) (.t 92)),zm 94 93,
 ⟨some 95,[(94,false)],.eG 7 (.t 1)⟩,⟨some 96,[(94,false)],.load none (.t 95)⟩,⟨some 97,[(94,false)],.bin .gtr (.t 96) (.c (.i .i64 3))⟩,z 98 (.pick (.t 94) (.c (.b
 true)) (.t 97))]) (.ite (.t 98) (.seq (.aj [] [z 2 (.aK (.c (.i .i64 1)))]) (.ret)) (.skip))) (.seq (.aj [] [z 2 (.aK (.c (.i .i64 0)))]) (.ret))))))))))⟩
theorem aab:bL prog f181=some Vl:=by kernel_rfl
def VI:bM:=⟨23,[.t 2],.seq (.aj [] [z 1 (.box 34 (.t 0)),z 2 (.aK (.c (.s [])))]) (.seq (.seq (.aj [] [zL 5 8 1,z 6 (.call 181 [.t 5]),z 7 (.bin .neq (.t 6) (.c (.i .i64 0)))]) (.ite
 (.t 7) (.seq (.aj [] [z 2 (.aK (.c (.s [])))]) (.ret)) (.skip))) (.seq (.aj [] [zf 9 0 1,zl 10 9,z 11 (.call 182 [.t 10]),zm 8 11,z 12 (.ext 0 (.t 8)),z 13 (.ext 1 (.t 8)),
 zm 3 12,zm 4 13]) (.seq (.aj [] [zm 14 3,z 15 (.bin .add (.t 14) (.c (.s [10]))),zf 16 2 1,zl 17 16,z 18 (.bin .add (.t 15) (.t 17)),z 19 (.bin .add (.t 18) (.c (.s [10]))),
 zf 20 3 1,zl 21 20,z 22 (.bin .add (.t 19) (.t 21)),zm 2 22]) (.ret))))⟩
theorem aay:bL prog f147=some VI:=by kernel_rfl
def Vp:bM:=⟨31,[.t 2],.seq (.aj [] [z 1 (.box 62 (.t 0)),z 2 (.aK (.c (.i .i64 0)))]) (.seq (.seq (.aj [7,8,9,12,13,14,17,18,19,22,23,24,27,28,29] [zf 3 0 1,zl 4 3,z 5
 (.bin .lss (.t 4) (.c (.i .i64 1))),zm 6 5,⟨some 7,[(6,false)],.eG 0 (.t 1)⟩,⟨some 8,[(6,false)],.load none (.t 7)⟩,⟨some 9,[(6,false)],.bin .gtr (.t 8) (.c (.i .i64
 1073741824))⟩,z 10 (.pick (.t 6) (.c (.b true)) (.t 9)),zm 11 10,⟨some 12,[(11,false)],.eG 1 (.t 1)⟩,⟨some 13,[(11,false)],.load none (.t 12)⟩,⟨some 14,[(11,false)],
 .bin .lss (.t 13) (.c (.i .i64 0))⟩,z 15 (.pick (.t 11) (.c (.b true)) (.t 14)),zm 16 15,⟨some 17,[(16,false)],.eG 1 (.t 1)⟩,⟨some 18,[(16,false)],.load none (.t 17)⟩,
 ⟨some 19,[(16,false)],.bin .geq (.t 18) (.c (.i .i64 8))⟩,z 20 (.pick (.t 16) (.c (.b true)) (.t 19)),zm 21 20,⟨some 22,[(21,false)],.eG 2 (.t 1)⟩,⟨some 23,[(21,
 false)],.load none (.t 22)⟩,⟨some 24,[(21,false)],.bin .lss (.t 23) (.c (.i .i64 1))⟩,z 25 (.pick (.t 21) (.c (.b true)) (.t 24)),zm 26 25,⟨some 27,[(26,false)],.eG 2
 (.t 1)⟩,⟨some 28,[(26,false)],.load none (.t 27)⟩,⟨some 29,[(26,false)],.bin .gtr (.t 28) (.c (.i .i64 128))⟩,z 30 (.pick (.t 26) (.c (.b true)) (.t 29))]) (.ite (.t 30)
 (.seq (.aj [] [z 2 (.aK (.c (.i .i64 1)))]) (.ret)) (.skip))) (.seq (.aj [] [z 2 (.aK (.c (.i .i64 0)))]) (.ret)))⟩
theorem aaf:bL prog f177=some Vp:=by kernel_rfl
def Vj:bM:=⟨11,[.t 4],.seq (.aj [] [z 4 (.aK (.c (.i .i64 0)))]) (.seq (.seq (.aj [] [zm 5 0,zm 6 1,z 7 (.bin .lss (.t 5) (.t 6))]) (.ite (.t 7) (.seq (.aj [] [z 4 (.aK (.c (.i .i64
 (-1))))]) (.ret)) (.skip))) (.seq (.seq (.aj [] [zm 8 0,zm 9 1,z 10 (.bin .gtr (.t 8) (.t 9))]) (.ite (.t 10) (.seq (.aj [] [z 4 (.aK (.c (.i .i64 1)))]) (.ret)) (.skip)))
 (.seq (.aj [] [z 4 (.aK (.c (.i .i64 0)))]) (.ret))))⟩
theorem Z9:bL prog f183=some Vj:=by kernel_rfl
def VG:bM:=⟨28,[.t 4],.seq (.aj [] [z 2 (.box 62 (.t 0)),z 3 (.box 62 (.t 1)),z 4 (.aK (.c (.i .i64 0)))]) (.seq (.seq (.aj [] [zf 7 0 2,zl 8 7,zf 9 0 3,zl 10 9,z 11 (.call 183 [.t
 8,.t 10]),zm 5 11]) (.seq (.aj [] [zm 12 5,z 13 (.bin .neq (.t 12) (.c (.i .i64 0)))]) (.ite (.t 13) (.seq (.aj [] [zm 14 5,zm 4 14]) (.ret)) (.skip)))) (.seq (.seq (.aj []
 [zf 15 1 2,zl 16 15,zf 17 1 3,zl 18 17,z 19 (.call 183 [.t 16,.t 18]),zm 6 19]) (.seq (.aj [] [zm 20 6,z 21 (.bin .neq (.t 20) (.c (.i .i64 0)))]) (.ite (.t 21) (.seq (.aj
 [] [zm 22 6,zm 4 22]) (.ret)) (.skip)))) (.seq (.aj [] [zf 23 2 2,zl 24 23,zf 25 2 3,zl 26 25,z 27 (.call 183 [.t 24,.t 26]),zm 4 27]) (.ret))))⟩
theorem aaw:bL prog f149=some VG:=by kernel_rfl
def Vm:bM:=⟨22,[.t 4],.seq (.aj [] [z 4 (.aK (.c (.i .i64 0)))]) (.seq (.seq (.aj [8,9,10,11,14,15] [zm 5 1,z 6 (.bin .lss (.t 5) (.c (.i .i64 0))),zm 7 6,⟨some 8,[(7,false)],
 .aK (.t 1)⟩,⟨some 9,[(7,false)],.aK (.t 0)⟩,⟨some 10,[(7,false)],.len false (.t 9)⟩,⟨some 11,[(7,false)],.bin .geq (.t 8) (.t 10)⟩,z 12 (.pick (.t 7) (.c (.b true))
 (.t 11)),zm 13 12,⟨some 14,[(13,false)],.aK (.t 1)⟩,⟨some 15,[(13,false)],.bin .geq (.t 14) (.c (.i .i64 8))⟩,z 16 (.pick (.t 13) (.c (.b true)) (.t 15))]) (.ite (.t 16)
 (.seq (.aj [] [z 4 (.aK (.c (.i .i64 0)))]) (.ret)) (.skip))) (.seq (.aj [] [zm 17 0,zm 18 1,z 19 (.idx 1 (.t 17) (.t 18)),zl 20 19,z 21 (.max2 (.t 20) (.c (.i .i64 0))),zm
 4 21]) (.ret)))⟩
theorem aac:bL prog f180=some Vm:=by kernel_rfl
def BL:bj:=.seq (.seq (.aj [] [zm 13 3,z 14 (.len false (.t 13)),zm 15 4,z 16 (.bin .lss (.t 14) (.t 15))]) (.ite (.t 16) (.skip) (.exit 2))) (.block 3 (.aj [] [zm 17 3,zm 18 0,zm 19 3,
 z 20 (.len false (.t 19)),z 21 (.call 180 [.t 18,.t 20]),z 22 (.bQ 1 [none] [.t 21]),z 23 (.app 3 1 8 (.t 17) (.t 22)),zm 3 23]))
def BK:bj:=.seq (.seq (.aj [] [zm 5 4,z 6 (.bin .lss (.t 5) (.c (.i .i64 8)))]) (.ite (.t 6) (.skip) (.exit 0))) (.seq (.block 1 (.seq (.aj [] [zm 9 0,zm 10 4,z 11 (.call 180 [.t 9,.t
 10]),z 12 (.bin .gtr (.t 11) (.c (.i .i64 0)))]) (.ite (.t 12) (.seq (.block 2 (.loop BL)) (.aj [] [zm 24 3,zm 25 0,zm 26 4,z 27 (.call 180 [.t 25,.t 26]),z 28 (.bQ 1
 [none] [.t 27]),z 29 (.app 3 1 8 (.t 24) (.t 28)),zm 3 29])) (.skip)))) (.aj [] [zm 7 4,z 8 (.bin .add (.t 7) (.c (.i .i64 1))),zm 4 8]))
def Vn:bM:=⟨31,[.t 2],.seq (.aj [] [z 2 (.aK (.c .nil))]) (.seq (.aj [] [z 3 (.aK (.c .nil))]) (.seq (.seq (.aj [] [z 4 (.aK (.c (.i .i64 0)))]) (.block 0 (.loop BK))) (.seq (.aj
 [] [zm 30 3,zm 2 30]) (.ret))))⟩
theorem aad:bL prog f179=some Vn:=by kernel_rfl
def VH:bM:=⟨12,[.c 2 (some 8)],.seq (.aj [] [z 1 (.box 34 (.t 0)),z 2 (.alloc 34 [.nil,.nil,.s [],.s [],.s [],.s [],.i .i64 0,.i .i64 0])]) (.seq (.aj [] [zf 3 0 1,zl 4 3,zf 5 0
 1,zl 6 5,zf 7 2 1,zl 8 7,zf 9 3 1,zl 10 9,z 11 (.build [.nil,.nil,.s [],.s [],.s [],.s [],.i .i64 0,.i .i64 0] [(0,1,.t 4),(1,1,.t 6),(2,1,.t 8),(3,1,.t 10),
 (7,1,.c (.i .i64 1))]),zs (.store 8 [some 3,some 3,none,none,none,none,none,none] (.t 2) (.t 11))]) (.ret))⟩
theorem aax:bL prog f148=some VH:=by kernel_rfl
def BU:bj:=.seq (.aj [] [z 34 (.bin .lss (.t 33) (.t 32))]) (.seq (.ite (.t 34) (.skip) (.exit 0)) (.seq (.block 1 (.seq (.aj [] [z 35 (.idx 1 (.t 31) (.t 33)),zl 36 35,zm 5 36]) (.seq
 (.aj [] [zm 37 5,z 38 (.bin .gtr (.t 37) (.c (.i .i64 128)))]) (.ite (.t 38) (.seq (.aj [] [z 2 (.aK (.c (.i .i64 1)))]) (.ret)) (.skip))))) (.aj [] [z 39 (.bin .add (.t 33)
 (.c (.i .i64 1))),zm 33 39])))
def VJ:bM:=⟨86,[.t 2],.seq (.aj [] [z 1 (.box 65 (.t 0)),z 2 (.aK (.c (.i .i64 0)))]) (.seq (.seq (.aj [] [zf 7 0 1,zL 8 3 7,z 9 (.call 177 [.t 8]),zm 3 9]) (.seq (.aj [] [zm 10 3,z
 11 (.bin .neq (.t 10) (.c (.i .i64 0)))]) (.ite (.t 11) (.seq (.aj [] [zm 12 3,zm 2 12]) (.ret)) (.skip)))) (.seq (.seq (.df [([zf 13 3 1,zl 14 13,z 15 (.bin .neq (.t 14) (.c
 (.i .i64 1))),zm 16 15,⟨some 17,[(16,true)],.eG 3 (.t 1)⟩,⟨some 18,[(16,true)],.load none (.t 17)⟩,⟨some 19,[(16,true)],.bin .neq (.t 18) (.c (.i .i64 2))⟩,z 20
 (.pick (.t 16) (.t 19) (.c (.b false))),zm 21 20,⟨some 22,[(21,false)],.eG 12 (.t 1)⟩,⟨some 23,[(21,false)],.load none (.t 22)⟩,⟨some 25,[(21,false)],.eG 12 (.t 1)⟩,
 ⟨some 26,[(21,false)],.load none (.t 25)⟩],⟨some 24,[(21,false)],.call 179 [.t 23]⟩,[⟨some 25,[(21,false)],.eG 12 (.t 1)⟩,⟨some 26,[(21,false)],.load none (.t
 25)⟩])] [] [17,18,19,22,23,24,25,26,27,28] [⟨some 27,[(21,false)],.call 178 [.t 24,.t 26]⟩,⟨some 28,[(21,false)],.un .not (.t 27)⟩,z 29 (.pick (.t 21) (.c (.b
 true)) (.t 28))]) (.ite (.t 29) (.seq (.aj [] [z 2 (.aK (.c (.i .i64 1)))]) (.ret)) (.skip))) (.seq (.seq (.aj [] [zf 30 12 1,zl 31 30,z 32 (.len false (.t 31)),z 33 (.aK (.c
 (.i .i64 0)))]) (.block 0 (.loop BU))) (.seq (.seq (.df [([zf 40 12 1,zl 41 40,zf 42 0 1,zf 43 1 42,zl 44 43,zf 46 0 1,zf 47 2 46,zl 48 47,z 49 (.bin .sub (.t 48) (.c
 (.i .i64 1)))],z 45 (.call 180 [.t 41,.t 44]),[zf 46 0 1,zf 47 2 46,zl 48 47])] [] [] [z 50 (.bin .neq (.t 45) (.t 49))]) (.ite (.t 50) (.seq (.aj [] [z 2 (.aK (.c (.i .i64
 11)))]) (.ret)) (.skip))) (.seq (.seq (.aj [] [zf 51 3 1,zl 52 51,z 53 (.bin .eql (.t 52) (.c (.i .i64 1)))]) (.ite (.t 53) (.seq (.aj [] [zf 54 4 1,zL 55 8 54,z 56 (.call 181
 [.t 55]),zm 2 56]) (.ret)) (.skip))) (.seq (.aj [] [zf 57 4 1,zL 58 8 57,z 6 (.alloc 34 [.nil,.nil,.s [],.s [],.s [],.s [],.i .i64 0,.i .i64 0]),zs (.store 8 [some 3,
 some 3,none,none,none,none,none,none] (.t 6) (.t 58))]) (.seq (.seq (.aj [64,65,66,69,70,71,74,75,76,79,80,81] [zf 59 1 6,zl 60 59,z 61 (.len false (.t 60)),z
 62 (.bin .gtr (.t 61) (.c (.i .i64 0))),zm 63 62,⟨some 64,[(63,false)],.eG 4 (.t 6)⟩,⟨some 65,[(63,false)],.load none (.t 64)⟩,⟨some 66,[(63,false)],.bin .neq (.t 65)
 (.c (.s []))⟩,z 67 (.pick (.t 63) (.c (.b true)) (.t 66)),zm 68 67,⟨some 69,[(68,false)],.eG 5 (.t 6)⟩,⟨some 70,[(68,false)],.load none (.t 69)⟩,⟨some 71,[(68,false)],
 .bin .neq (.t 70) (.c (.s []))⟩,z 72 (.pick (.t 68) (.c (.b true)) (.t 71)),zm 73 72,⟨some 74,[(73,false)],.eG 6 (.t 6)⟩,⟨some 75,[(73,false)],.load none (.t 74)⟩,⟨some
 76,[(73,false)],.bin .neq (.t 75) (.c (.i .i64 0))⟩,z 77 (.pick (.t 73) (.c (.b true)) (.t 76)),zm 78 77,⟨some 79,[(78,false)],.eG 7 (.t 6)⟩,⟨some 80,[(78,false)],
 .load none (.t 79)⟩,⟨some 81,[(78,false)],.bin .neq (.t 80) (.c (.i .i64 0))⟩,z 82 (.pick (.t 78) (.c (.b true)) (.t 81))]) (.ite (.t 82) (.seq (.aj [] [z 2 (.aK (.c (.i .i64
 1)))]) (.ret)) (.skip))) (.seq (.aj [] [zL 83 8 6,z 84 (.call 148 [.t 83]),z 85 (.call 181 [.t 84]),zm 2 85]) (.ret)))))))))⟩
theorem aaz:bL prog f146=some VJ:=by kernel_rfl
def Wa:bM:=⟨10,[.t 2],.seq (.aj [] [z 1 (.box 65 (.t 0)),z 2 (.aK (.c (.s [])))]) (.seq (.seq (.aj [] [zL 3 13 1,z 4 (.call 146 [.t 3]),z 5 (.bin .neq (.t 4) (.c (.i .i64 0)))]) (.ite
 (.t 5) (.seq (.aj [] [z 2 (.aK (.c (.s [])))]) (.ret)) (.skip))) (.seq (.aj [] [zf 6 4 1,zL 7 8 6,z 8 (.call 148 [.t 7]),z 9 (.call 147 [.t 8]),zm 2 9]) (.ret)))⟩
theorem aaU:bL prog f100=some Wa:=by kernel_rfl
def V9:bM:=⟨23,[.t 4],.seq (.aj [] [z 2 (.box 65 (.t 0)),z 3 (.box 65 (.t 1)),z 4 (.aK (.c (.b false)))]) (.seq (.aj [] [zf 6 0 2,zL 7 3 6,zf 8 0 3,zL 9 3 8,z 10 (.call 149 [.t 7,
 .t 9]),zm 5 10]) (.seq (.aj [14,15,16,17,18,19,20,21] [zm 11 5,z 12 (.bin .gtr (.t 11) (.c (.i .i64 0))),zm 13 12,⟨some 14,[(13,false)],.aK (.t 5)⟩,⟨some 15,[(13,
 false)],.bin .eql (.t 14) (.c (.i .i64 0))⟩,⟨some 16,[(13,false)],.aK (.t 15)⟩,⟨some 17,[(13,false),(16,true)],.load (some 13) (.t 2)⟩,⟨some 18,[(13,false),(16,
 true)],.load (some 13) (.t 3)⟩,⟨some 19,[(13,false),(16,true)],.call 150 [.t 17,.t 18]⟩,⟨some 20,[(13,false),(16,true)],.bin .gtr (.t 19) (.c (.i .i64 0))⟩,⟨some 21,
 [(13,false)],.pick (.t 16) (.t 20) (.c (.b false))⟩,z 22 (.pick (.t 13) (.c (.b true)) (.t 21)),zm 4 22]) (.ret)))⟩
theorem aaT:bL prog f101=some V9:=by kernel_rfl
def Hs:bj:=.seq (.seq (.aj [26,27,28,29,30,31,32] [zm 21 7,zm 22 3,z 23 (.len false (.t 22)),z 24 (.bin .lss (.t 21) (.t 23)),zm 25 24,⟨some 26,[(25,true)],.aK (.t 3)⟩,⟨some
 27,[(25,true)],.aK (.t 7)⟩,⟨some 28,[(25,true)],.idx 13 (.t 26) (.t 27)⟩,⟨some 29,[(25,true)],.load (some 13) (.t 28)⟩,⟨some 30,[(25,true)],.call 100 [.t 29]⟩,⟨some
 31,[(25,true)],.aK (.t 6)⟩,⟨some 32,[(25,true)],.bin .lss (.t 30) (.t 31)⟩,z 33 (.pick (.t 25) (.t 32) (.c (.b false)))]) (.ite (.t 33) (.skip) (.exit 2))) (.block 3 (.aj
 [] [zm 34 7,z 35 (.bin .add (.t 34) (.c (.i .i64 1))),zm 7 35]))
def Hr:bj:=.seq (.aj [] [z 14 (.bin .lss (.t 13) (.t 12))]) (.seq (.ite (.t 14) (.skip) (.exit 0)) (.seq (.block 1 (.seq (.aj [] [z 15 (.idx 13 (.t 11) (.t 13)),zL 16 13 15,z 5 (.alloc 65
 [.i .i64 0,.i .i64 0,.i .i64 0,.i .i64 0,.nil,.nil,.s [],.s [],.s [],.s [],.i .i64 0,.i .i64 0,.nil]),zs (.store 13 [none,none,none,none,some 3,some 3,none,none,
 none,none,none,none,some 1] (.t 5) (.t 16))]) (.seq (.aj [] [zL 17 13 5,z 18 (.call 100 [.t 17]),zm 6 18]) (.seq (.seq (.aj [] [zm 19 6,z 20 (.bin .eql (.t 19) (.c (.s
 [])))]) (.ite (.t 20) (.exit 1) (.skip))) (.seq (.aj [] [z 7 (.aK (.c (.i .i64 0)))]) (.seq (.block 2 (.loop Hs)) (.seq (.aj [41,42,43,44,45,46,47] [zm 36 7,zm 37 3,z
 38 (.len false (.t 37)),z 39 (.bin .eql (.t 36) (.t 38)),zm 40 39,⟨some 41,[(40,false)],.aK (.t 3)⟩,⟨some 42,[(40,false)],.aK (.t 7)⟩,⟨some 43,[(40,false)],.idx 13
 (.t 41) (.t 42)⟩,⟨some 44,[(40,false)],.load (some 13) (.t 43)⟩,⟨some 45,[(40,false)],.call 100 [.t 44]⟩,⟨some 46,[(40,false)],.aK (.t 6)⟩,⟨some 47,[(40,false)],
 .bin .neq (.t 45) (.t 46)⟩,z 48 (.pick (.t 40) (.c (.b true)) (.t 47))]) (.ite (.t 48) (.df [([z 49 (.bQ 13 [none,none,none,none,some 3,some 3,none,none,none,none,
 none,none,some 1] []),zm 50 3,zm 51 7,z 52 (.slice 13 (.t 50) none (some (.t 51))),zL 54 13 5,z 55 (.bQ 13 [none,none,none,none,some 3,some 3,none,none,none,
 none,none,none,some 1] [.t 54]),zm 57 3,zm 58 7,z 59 (.slice 13 (.t 57) (some (.t 58)) none)],z 53 (.app 65 13 184 (.t 49) (.t 52)),[zL 54 13 5,z 55 (.bQ 13 [none,
 none,none,none,some 3,some 3,none,none,none,none,none,none,some 1] [.t 54]),z 59 (.slice 13 (.t 57) (some (.t 58)) none)]),([],z 56 (.app 65 13 184 (.t 53) (.t 55)),
 [z 59 (.slice 13 (.t 57) (some (.t 58)) none)])] [] [] [z 60 (.app 65 13 184 (.t 56) (.t 59)),zm 3 60]) (.seq (.df [] [zL 61 13 5,zm 62 3,zm 63 7,z 64 (.idx 13 (.t 62) (.t
 63)),zL 65 13 64] [] [z 66 (.call 101 [.t 61,.t 65])]) (.ite (.t 66) (.aj [] [zm 67 3,zm 68 7,zL 69 13 5,z 70 (.idx 13 (.t 67) (.t 68)),zs (.store 13 [none,none,none,none,
 some 3,some 3,none,none,none,none,none,none,some 1] (.t 70) (.t 69))]) (.skip))))))))))) (.aj [] [z 71 (.bin .add (.t 13) (.c (.i .i64 1))),zm 13 71])))
def p72:bM:=⟨73,[.t 2],.seq (.aj [] [z 2 (.aK (.c .nil))]) (.seq (.seq (.aj [] [zm 8 0,z 9 (.len false (.t 8)),z 10 (.bin .gtr (.t 9) (.c (.i .i64 1024)))]) (.ite (.t 10) (.seq (.aj []
 [z 2 (.aK (.c .nil))]) (.ret)) (.skip))) (.seq (.aj [] [z 3 (.aK (.c .nil))]) (.seq (.seq (.aj [] [zm 11 0,z 12 (.len false (.t 11)),z 13 (.aK (.c (.i .i64 0)))]) (.block 0
 (.loop Hr))) (.seq (.aj [] [zm 72 3,zm 2 72]) (.ret)))))⟩
theorem c72:bL prog f72=some p72:=by kernel_rfl
def DZ:bj:=.seq (.aj [] [z 10 (.bin .lss (.t 9) (.t 8))]) (.seq (.ite (.t 10) (.skip) (.exit 0)) (.seq (.block 1 (.seq (.aj [] [z 11 (.idx 13 (.t 7) (.t 9)),zL 12 13 11,z 5 (.alloc 65 [.i
 .i64 0,.i .i64 0,.i .i64 0,.i .i64 0,.nil,.nil,.s [],.s [],.s [],.s [],.i .i64 0,.i .i64 0,.nil]),zs (.store 13 [none,none,none,none,some 3,some 3,none,none,
 none,none,none,none,some 1] (.t 5) (.t 12))]) (.seq (.aj [] [zf 13 3 5,zl 14 13,z 15 (.bin .eql (.t 14) (.c (.i .i64 1)))]) (.ite (.t 15) (.aj [] [zm 16 3,zf 17 4 5,zL 18
 8 17,z 19 (.bQ 8 [some 3,some 3,none,none,none,none,none,none] [.t 18]),z 20 (.app 34 8 128 (.t 16) (.t 19)),zm 3 20]) (.skip))))) (.aj [] [z 21 (.bin .add (.t 9) (.c
 (.i .i64 1))),zm 9 21])))
def p45:bM:=⟨23,[.t 2],.seq (.aj [] [z 2 (.aK (.c .nil))]) (.seq (.aj [] [z 3 (.aK (.c .nil))]) (.seq (.seq (.aj [] [zm 6 0,z 7 (.call 72 [.t 6]),z 8 (.len false (.t 7)),z 9 (.aK (.c
 (.i .i64 0)))]) (.block 0 (.loop DZ))) (.seq (.aj [] [zm 22 3,zm 2 22]) (.ret))))⟩
theorem c45:bL prog f45=some p45:=by kernel_rfl
def BT:bj:=.seq (.aj [] [z 40 (.bin .lss (.t 39) (.t 38))]) (.seq (.ite (.t 40) (.skip) (.exit 0)) (.seq (.block 1 (.seq (.aj [] [z 41 (.idx 1 (.t 37) (.t 39)),zl 42 41,zm 6 42]) (.seq
 (.aj [] [zm 43 6,z 44 (.bin .neq (.t 43) (.c (.i .i64 0)))]) (.ite (.t 44) (.seq (.aj [] [zm 45 6,zm 4 45]) (.ret)) (.skip))))) (.aj [] [z 46 (.bin .add (.t 39) (.c (.i .i64
 1))),zm 39 46])))
def VF:bM:=⟨67,[.t 4],.seq (.aj [] [z 2 (.box 65 (.t 0)),z 3 (.box 65 (.t 1)),z 4 (.aK (.c (.i .i64 0)))]) (.seq (.seq (.df [([zf 11 0 2,zf 12 1 11,zl 13 12,zf 14 0 3,zf 15 1 14,
 zl 16 15,zf 18 0 2,zf 19 2 18,zl 20 19,zf 21 0 3,zf 22 2 21,zl 23 22,zf 25 0 2,zf 26 0 25,zl 27 26,zf 28 0 3,zf 29 0 28,zl 30 29,zf 32 3 2,zl 33 32,zf 34 3 3,zl 35
 34,z 39 (.aK (.c (.i .i64 0)))],z 17 (.call 183 [.t 13,.t 16]),[zf 18 0 2,zf 19 2 18,zl 20 19,zf 21 0 3,zf 22 2 21,zl 23 22,zf 25 0 2,zf 26 0 25,zl 27 26,zf 28 0 3,zf
 29 0 28,zl 30 29,zf 32 3 2,zl 33 32,zf 34 3 3,zl 35 34]),([],z 24 (.call 183 [.t 20,.t 23]),[zf 25 0 2,zf 26 0 25,zl 27 26,zf 28 0 3,zf 29 0 28,zl 30 29,zf 32 3 2,zl
 33 32,zf 34 3 3,zl 35 34]),([],z 31 (.call 183 [.t 27,.t 30]),[zf 32 3 2,zl 33 32,zf 34 3 3,zl 35 34]),([],z 36 (.call 183 [.t 33,.t 35]),[])] [z 37 (.bQ 1 [none]
 [.t 17,.t 24,.t 31,.t 36]),z 38 (.len false (.t 37))] [] []) (.block 0 (.loop BT))) (.seq (.aj [] [zL 48 13 2,z 49 (.call 184 [.t 48]),zm 47 49,z 50 (.ext 0 (.t 47)),z
 51 (.ext 1 (.t 47)),zm 7 50,zm 8 51]) (.seq (.aj [] [zL 53 13 3,z 54 (.call 184 [.t 53]),zm 52 54,z 55 (.ext 0 (.t 52)),z 56 (.ext 1 (.t 52)),zm 9 55,zm 10 56]) (.seq (.seq
 (.aj [] [zm 57 7,z 58 (.yx (.t 57)),zm 59 9,z 60 (.yx (.t 59)),z 61 (.bin .lss (.t 58) (.t 60))]) (.ite (.t 61) (.seq (.aj [] [z 4 (.aK (.c (.i .i64 (-1))))]) (.ret))
 (.skip))) (.seq (.seq (.aj [] [zm 62 7,z 63 (.yx (.t 62)),zm 64 9,z 65 (.yx (.t 64)),z 66 (.bin .gtr (.t 63) (.t 65))]) (.ite (.t 66) (.seq (.aj [] [z 4 (.aK (.c (.i .i64
 1)))]) (.ret)) (.skip))) (.seq (.aj [] [z 4 (.aK (.c (.i .i64 0)))]) (.ret)))))))⟩
theorem aav:bL prog f150=some VF:=by kernel_rfl
def BD:bj:=.seq (.seq (.aj [] [zm 9 6,z 10 (.bin .geq (.t 9) (.c (.i .i64 0)))]) (.ite (.t 10) (.skip) (.exit 0))) (.seq (.block 1 (.aj [] [zm 13 5,zm 14 0,zm 15 6,z 16 (.bin .mul (.c
 (.i .i64 8)) (.t 15)),z 17 (.bin .shr (.t 14) (.t 16)),z 18 (.rn .u8 (.t 17)),z 19 (.bQ 1 [none] [.t 18]),z 20 (.app 5 1 1 (.t 13) (.t 19)),zm 5 20])) (.aj [] [zm 11 6,z
 12 (.bin .sub (.t 11) (.c (.i .i64 1))),zm 6 12]))
def U5:bM:=⟨22,[.t 4],.seq (.aj [] [z 4 (.aK (.c .nil))]) (.seq (.aj [] [z 5 (.aK (.c .nil))]) (.seq (.seq (.aj [] [zm 7 1,z 8 (.bin .sub (.t 7) (.c (.i .i64 1))),zm 6 8]) (.block 0
 (.loop BD))) (.seq (.aj [] [zm 21 5,zm 4 21]) (.ret))))⟩
theorem ZV:bL prog f204=some U5:=by kernel_rfl
def U3:bM:=⟨8,[.t 2],.seq (.aj [] [z 2 (.aK (.c .nil))]) (.seq (.aj [] [zm 3 0,z 4 (.len true (.t 3)),z 5 (.call 204 [.t 4,.c (.i .i64 4)]),zm 6 0,z 7 (.apps 5 (.t 5) (.t 6)),zm 2
 7]) (.ret))⟩
theorem ZT:bL prog f206=some U3:=by kernel_rfl
def U4:bM:=⟨12,[.t 2],.seq (.aj [] [z 2 (.aK (.c .nil))]) (.seq (.aj [] [zm 6 0,z 7 (.call 182 [.t 6]),zm 5 7,z 8 (.ext 0 (.t 5)),z 9 (.ext 1 (.t 5)),zm 3 8,zm 4 9]) (.seq (.aj []
 [zm 10 3,z 11 (.call 206 [.t 10]),zm 2 11]) (.ret)))⟩
theorem ZU:bL prog f205=some U4:=by kernel_rfl
def BI:bj:=.seq (.aj [] [z 48 (.bin .lss (.t 47) (.t 46))]) (.seq (.ite (.t 48) (.skip) (.exit 0)) (.seq (.block 1 (.seq (.aj [] [z 49 (.idx 1 (.t 45) (.t 47)),zl 50 49,zm 7 50]) (.aj []
 [zm 51 5,zm 52 7,z 53 (.call 204 [.t 52,.c (.i .i64 2)]),z 54 (.app 5 1 1 (.t 51) (.t 53)),zm 5 54]))) (.aj [] [z 55 (.bin .add (.t 47) (.c (.i .i64 1))),zm 47 55])))
def Vi:bM:=⟨100,[.t 2,.t 3],.seq (.aj [] [z 1 (.box 65 (.t 0)),z 2 (.aK (.c .nil)),z 3 (.aK (.c (.i .i64 0)))]) (.seq (.seq (.aj [] [zL 9 13 1,z 10 (.call 146 [.t 9]),zm 4 10])
 (.seq (.aj [] [zm 11 4,z 12 (.bin .neq (.t 11) (.c (.i .i64 0)))]) (.ite (.t 12) (.seq (.aj [] [zm 13 4,z 2 (.aK (.c .nil)),zm 3 13]) (.ret)) (.skip)))) (.seq (.aj [] [zf 14
 3 1,zl 15 14,z 16 (.rn .u8 (.t 15)),z 17 (.bQ 1 [none] [.c (.i .u8 1),.t 16]),zm 5 17]) (.seq (.aj [] [zm 18 5,zf 19 0 1,zf 20 0 19,zl 21 20,z 22 (.call 204 [.t 21,
 .c (.i .i64 4)]),z 23 (.app 5 1 1 (.t 18) (.t 22)),zm 5 23]) (.seq (.aj [] [zm 24 5,zf 25 0 1,zf 26 1 25,zl 27 26,z 28 (.rn .u8 (.t 27)),z 29 (.bQ 1 [none] [.t 28]),z
 30 (.app 5 1 1 (.t 24) (.t 29)),zm 5 30]) (.seq (.aj [] [zm 31 5,zf 32 0 1,zf 33 2 32,zl 34 33,z 35 (.call 204 [.t 34,.c (.i .i64 2)]),z 36 (.app 5 1 1 (.t 31) (.t 35)),zm
 5 36]) (.seq (.aj [] [zm 37 5,zf 38 12 1,zl 39 38,z 40 (.len false (.t 39)),z 41 (.rn .u8 (.t 40)),z 42 (.bQ 1 [none] [.t 41]),z 43 (.app 5 1 1 (.t 37) (.t 42)),zm 5
 43]) (.seq (.seq (.aj [] [zf 44 12 1,zl 45 44,z 46 (.len false (.t 45)),z 47 (.aK (.c (.i .i64 0)))]) (.block 0 (.loop BI))) (.seq (.aj [] [zf 56 4 1,zL 57 8 56,z 8
 (.alloc 34 [.nil,.nil,.s [],.s [],.s [],.s [],.i .i64 0,.i .i64 0]),zs (.store 8 [some 3,some 3,none,none,none,none,none,none] (.t 8) (.t 57))]) (.seq (.aj [] [zm 58
 5,zf 59 0 8,zl 60 59,z 61 (.call 205 [.t 60]),z 62 (.app 5 1 1 (.t 58) (.t 61)),zm 5 62]) (.seq (.df [([zm 63 5,zf 64 2 8,zl 65 64,zf 68 3 8,zl 69 68],z 66 (.call 206
 [.t 65]),[zf 68 3 8,zl 69 68]),([],z 67 (.app 5 1 1 (.t 63) (.t 66)),[zf 68 3 8,zl 69 68])] [] [] [z 70 (.call 206 [.t 69]),z 71 (.app 5 1 1 (.t 67) (.t 70)),zm 5 71]) (.seq
 (.seq (.aj [] [zf 72 3 1,zl 73 72,z 74 (.bin .eql (.t 73) (.c (.i .i64 1)))]) (.ite (.t 74) (.seq (.aj [] [zm 75 5,zf 76 1 8,zl 77 76,z 78 (.call 205 [.t 77]),z 79 (.app 5 1
 1 (.t 75) (.t 78)),zm 5 79]) (.seq (.df [([zm 80 5,zf 81 4 8,zl 82 81,zf 85 5 8,zl 86 85],z 83 (.call 206 [.t 82]),[zf 85 5 8,zl 86 85]),([],z 84 (.app 5 1 1 (.t 80) (.t
 83)),[zf 85 5 8,zl 86 85])] [] [] [z 87 (.call 206 [.t 86]),z 88 (.app 5 1 1 (.t 84) (.t 87)),zm 5 88]) (.df [([zm 89 5,zf 90 6 8,zl 91 90,zf 94 7 8,zl 95 94,z 96 (.rn
 .u8 (.t 95)),z 97 (.bQ 1 [none] [.t 96])],z 92 (.call 204 [.t 91,.c (.i .i64 4)]),[zf 94 7 8,zl 95 94,z 97 (.bQ 1 [none] [.t 96])]),([],z 93 (.app 5 1 1 (.t 89) (.t
 92)),[zf 94 7 8,zl 95 94,z 97 (.bQ 1 [none] [.t 96])])] [] [] [z 98 (.app 5 1 1 (.t 93) (.t 97)),zm 5 98]))) (.skip))) (.seq (.aj [] [zm 99 5,zm 2 99,z 3 (.aK (.c (.i
 .i64 0)))]) (.ret)))))))))))))⟩
theorem Z8:bL prog f184=some Vi:=by kernel_rfl
def p19:bM:=⟨6,[.t 2],.seq (.aj [] [z 1 (.box 44 (.t 0)),z 2 (.aK (.c .nil))]) (.seq (.aj [] [zf 3 2 1,zl 4 3,z 5 (.call 45 [.t 4]),zm 2 5]) (.ret))⟩
theorem c19:bL prog f19=some p19:=by kernel_rfl
theorem tI:Ti prog 3 1 8:=kY (by kernel_rfl)
end Go.Proofs.Tryz
