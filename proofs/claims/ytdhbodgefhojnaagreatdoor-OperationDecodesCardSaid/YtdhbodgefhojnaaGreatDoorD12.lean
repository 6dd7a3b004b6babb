/- A part of the proof that OperationDecodes returns true and leaves its arguments as they were, for every input. -/
import Derived.Test.YtdhbodgefhojnaaGreatDoorProg
import Derived.KernelRfl
import Derived.Test.YtdhbodgefhojnaaGreatDoorD9
import Derived.Test.YtdhbodgefhojnaaGreatDoorD11
set_option linter.all false

namespace Go.Proofs.Tryz
open Go Go.Pm
def p107 : PFun := ⟨9,[.t 2],.seq (.reg [] [z 2 (.mov (.c (.b false)))]) (.seq (.reg [6,7] [zm 3 0,z 4 (.bin .eql (.t 3) (.c (.s []))),zm 5 4,⟨some 6,[(5,false)],.mov (.t 0)⟩,⟨some 7,[(5,
 false)],.call 142 [.t 6]⟩,z 8 (.pick (.t 5) (.c (.b true)) (.t 7)),zm 2 8]) (.ret))⟩
theorem c107 : cFun Tryz.prog Tryz.f107 = some p107 := by kernel_rfl
def p61 : PFun := ⟨99,[.t 2],.seq (.reg [] [z 1 (.box 26 (.t 0)),z 2 (.mov (.c (.i .i64 0)))]) (.seq (.seq (.reg [] [zf 13 0 1,zl 14 13,z 15 (.call 105 [.t 14]),zm 3 15]) (.seq (.reg [] [zm 16
 3,z 17 (.bin .neq (.t 16) (.c (.i .i64 0)))]) (.ite (.t 17) (.seq (.reg [] [zm 18 3,zm 2 18]) (.ret)) (.skip)))) (.seq (.seq (.reg [] [zf 19 1 1,zl 20 19,z 21 (.call 105 [.t
 20]),zm 4 21]) (.seq (.reg [] [zm 22 4,z 23 (.bin .neq (.t 22) (.c (.i .i64 0)))]) (.ite (.t 23) (.seq (.reg [] [zm 24 4,zm 2 24]) (.ret)) (.skip)))) (.seq (.reg [] [zf 26 0 1,
 zl 27 26,zf 28 1 1,zl 29 28,z 30 (.call 98 [.t 27,.t 29]),zm 25 30,z 31 (.ext 0 (.t 25)),z 32 (.ext 1 (.t 25)),zm 5 31,zm 6 32]) (.seq (.seq (.reg [38,39,40,41,42,45,
 46,47,48,49] [zf 33 0 1,zl 34 33,z 35 (.len false (.t 34)),z 36 (.bin .eql (.t 35) (.c (.i .i64 0))),zm 37 36,⟨some 38,[(37,false)],.mov (.t 5)⟩,⟨some 39,[(37,false)],
 .fld 0 (.t 1)⟩,⟨some 40,[(37,false)],.load none (.t 39)⟩,⟨some 41,[(37,false)],.call 76 [.t 38,.t 40]⟩,⟨some 42,[(37,false)],.un .not (.t 41)⟩,z 43 (.pick (.t 37) (.c
 (.b true)) (.t 42)),zm 44 43,⟨some 45,[(44,false)],.mov (.t 6)⟩,⟨some 46,[(44,false)],.fld 1 (.t 1)⟩,⟨some 47,[(44,false)],.load none (.t 46)⟩,⟨some 48,[(44,false)],
 .call 76 [.t 45,.t 47]⟩,⟨some 49,[(44,false)],.un .not (.t 48)⟩,z 50 (.pick (.t 44) (.c (.b true)) (.t 49))]) (.ite (.t 50) (.seq (.reg [] [z 2 (.mov (.c (.i .i64 1)))])
 (.ret)) (.skip))) (.seq (.seq (.reg [] [zf 52 2 1,zl 53 52,z 54 (.call 106 [.t 53]),zm 51 54,z 55 (.ext 0 (.t 51)),z 56 (.ext 1 (.t 51)),z 57 (.ext 2 (.t 51)),zm 7 55,zm 8
 56,zm 9 57]) (.seq (.reg [] [zm 58 9,z 59 (.bin .neq (.t 58) (.c (.i .i64 0)))]) (.ite (.t 59) (.seq (.reg [] [zm 60 9,zm 2 60]) (.ret)) (.skip)))) (.seq (.seq (.reg [] [zf 62 3
 1,zl 63 62,z 64 (.call 106 [.t 63]),zm 61 64,z 65 (.ext 0 (.t 61)),z 66 (.ext 1 (.t 61)),z 67 (.ext 2 (.t 61)),zm 10 65,zm 11 66,zm 12 67]) (.seq (.reg [] [zm 68 12,z 69
 (.bin .neq (.t 68) (.c (.i .i64 0)))]) (.ite (.t 69) (.seq (.reg [] [zm 70 12,zm 2 70]) (.ret)) (.skip)))) (.seq (.seq (.reg [76,77,78,79] [zf 71 4 1,zl 72 71,z 73 (.call 107
 [.t 72]),z 74 (.un .not (.t 73)),zm 75 74,⟨some 76,[(75,false)],.fld 5 (.t 1)⟩,⟨some 77,[(75,false)],.load none (.t 76)⟩,⟨some 78,[(75,false)],.call 107 [.t 77]⟩,
 ⟨some 79,[(75,false)],.un .not (.t 78)⟩,z 80 (.pick (.t 75) (.c (.b true)) (.t 79))]) (.ite (.t 80) (.seq (.reg [] [z 2 (.mov (.c (.i .i64 4)))]) (.ret)) (.skip))) (.seq (.seq
 (.reg [85,86,87,90,91,92,95,96,97] [zf 81 6 1,zl 82 81,z 83 (.bin .lss (.t 82) (.c (.i .i64 0))),zm 84 83,⟨some 85,[(84,false)],.fld 6 (.t 1)⟩,⟨some 86,[(84,
 false)],.load none (.t 85)⟩,⟨some 87,[(84,false)],.bin .gtr (.t 86) (.c (.i .i64 1073741824))⟩,z 88 (.pick (.t 84) (.c (.b true)) (.t 87)),zm 89 88,⟨some 90,[(89,false)],
 .fld 7 (.t 1)⟩,⟨some 91,[(89,false)],.load none (.t 90)⟩,⟨some 92,[(89,false)],.bin .lss (.t 91) (.c (.i .i64 1))⟩,z 93 (.pick (.t 89) (.c (.b true)) (.t 92)),zm 94 93,
 ⟨some 95,[(94,false)],.fld 7 (.t 1)⟩,⟨some 96,[(94,false)],.load none (.t 95)⟩,⟨some 97,[(94,false)],.bin .gtr (.t 96) (.c (.i .i64 3))⟩,z 98 (.pick (.t 94) (.c (.b
 true)) (.t 97))]) (.ite (.t 98) (.seq (.reg [] [z 2 (.mov (.c (.i .i64 1)))]) (.ret)) (.skip))) (.seq (.reg [] [z 2 (.mov (.c (.i .i64 0)))]) (.ret))))))))))⟩
theorem c61 : cFun Tryz.prog Tryz.f61 = some p61 := by kernel_rfl
def p58 : PFun := ⟨31,[.t 2],.seq (.reg [] [z 1 (.box 30 (.t 0)),z 2 (.mov (.c (.i .i64 0)))]) (.seq (.seq (.reg [7,8,9,12,13,14,17,18,19,22,23,24,27,28,29] [zf 3 0 1,zl 4 3,z 5
 (.bin .lss (.t 4) (.c (.i .i64 1))),zm 6 5,⟨some 7,[(6,false)],.fld 0 (.t 1)⟩,⟨some 8,[(6,false)],.load none (.t 7)⟩,⟨some 9,[(6,false)],.bin .gtr (.t 8) (.c (.i .i64
 1073741824))⟩,z 10 (.pick (.t 6) (.c (.b true)) (.t 9)),zm 11 10,⟨some 12,[(11,false)],.fld 1 (.t 1)⟩,⟨some 13,[(11,false)],.load none (.t 12)⟩,⟨some 14,[(11,false)],
 .bin .lss (.t 13) (.c (.i .i64 0))⟩,z 15 (.pick (.t 11) (.c (.b true)) (.t 14)),zm 16 15,⟨some 17,[(16,false)],.fld 1 (.t 1)⟩,⟨some 18,[(16,false)],.load none (.t 17)⟩,
 ⟨some 19,[(16,false)],.bin .geq (.t 18) (.c (.i .i64 8))⟩,z 20 (.pick (.t 16) (.c (.b true)) (.t 19)),zm 21 20,⟨some 22,[(21,false)],.fld 2 (.t 1)⟩,⟨some 23,[(21,
 false)],.load none (.t 22)⟩,⟨some 24,[(21,false)],.bin .lss (.t 23) (.c (.i .i64 1))⟩,z 25 (.pick (.t 21) (.c (.b true)) (.t 24)),zm 26 25,⟨some 27,[(26,false)],.fld 2
 (.t 1)⟩,⟨some 28,[(26,false)],.load none (.t 27)⟩,⟨some 29,[(26,false)],.bin .gtr (.t 28) (.c (.i .i64 128))⟩,z 30 (.pick (.t 26) (.c (.b true)) (.t 29))]) (.ite (.t 30)
 (.seq (.reg [] [z 2 (.mov (.c (.i .i64 1)))]) (.ret)) (.skip))) (.seq (.reg [] [z 2 (.mov (.c (.i .i64 0)))]) (.ret)))⟩
theorem c58 : cFun Tryz.prog Tryz.f58 = some p58 := by kernel_rfl
def p60 : PFun := ⟨22,[.t 4],.seq (.reg [] [z 4 (.mov (.c (.i .i64 0)))]) (.seq (.seq (.reg [8,9,10,11,14,15] [zm 5 1,z 6 (.bin .lss (.t 5) (.c (.i .i64 0))),zm 7 6,⟨some 8,[(7,false)],
 .mov (.t 1)⟩,⟨some 9,[(7,false)],.mov (.t 0)⟩,⟨some 10,[(7,false)],.len false (.t 9)⟩,⟨some 11,[(7,false)],.bin .geq (.t 8) (.t 10)⟩,z 12 (.pick (.t 7) (.c (.b true))
 (.t 11)),zm 13 12,⟨some 14,[(13,false)],.mov (.t 1)⟩,⟨some 15,[(13,false)],.bin .geq (.t 14) (.c (.i .i64 8))⟩,z 16 (.pick (.t 13) (.c (.b true)) (.t 15))]) (.ite (.t 16)
 (.seq (.reg [] [z 4 (.mov (.c (.i .i64 0)))]) (.ret)) (.skip))) (.seq (.reg [] [zm 17 0,zm 18 1,z 19 (.idx 1 (.t 17) (.t 18)),zl 20 19,z 21 (.max2 (.t 20) (.c (.i .i64 0))),zm
 4 21]) (.ret)))⟩
theorem c60 : cFun Tryz.prog Tryz.f60 = some p60 := by kernel_rfl
def p50_0 : PCode := .seq (.seq (.reg [] [zm 13 3,z 14 (.len false (.t 13)),zm 15 4,z 16 (.bin .lss (.t 14) (.t 15))]) (.ite (.t 16) (.skip) (.exit 2))) (.block 3 (.reg [] [zm 17 3,zm 18 0,zm 19 3,
 z 20 (.len false (.t 19)),z 21 (.call 60 [.t 18,.t 20]),z 22 (.bslice 1 [none] [.t 21]),z 23 (.app 3 1 8 (.t 17) (.t 22)),zm 3 23]))
def p50_1 : PCode := .seq (.seq (.reg [] [zm 5 4,z 6 (.bin .lss (.t 5) (.c (.i .i64 8)))]) (.ite (.t 6) (.skip) (.exit 0))) (.seq (.block 1 (.seq (.reg [] [zm 9 0,zm 10 4,z 11 (.call 60 [.t 9,.t
 10]),z 12 (.bin .gtr (.t 11) (.c (.i .i64 0)))]) (.ite (.t 12) (.seq (.block 2 (.loop p50_0)) (.reg [] [zm 24 3,zm 25 0,zm 26 4,z 27 (.call 60 [.t 25,.t 26]),z 28 (.bslice 1
 [none] [.t 27]),z 29 (.app 3 1 8 (.t 24) (.t 28)),zm 3 29])) (.skip)))) (.reg [] [zm 7 4,z 8 (.bin .add (.t 7) (.c (.i .i64 1))),zm 4 8]))
def p50 : PFun := ⟨31,[.t 2],.seq (.reg [] [z 2 (.mov (.c .nil))]) (.seq (.reg [] [z 3 (.mov (.c .nil))]) (.seq (.seq (.reg [] [z 4 (.mov (.c (.i .i64 0)))]) (.block 0 (.loop p50_1))) (.seq (.reg
 [] [zm 30 3,zm 2 30]) (.ret))))⟩
theorem c50 : cFun Tryz.prog Tryz.f50 = some p50 := by kernel_rfl
def p62 : PFun := ⟨12,[.c 2 (some 8)],.seq (.reg [] [z 1 (.box 26 (.t 0)),z 2 (.alloc 26 [.nil,.nil,.s [],.s [],.s [],.s [],.i .i64 0,.i .i64 0])]) (.seq (.reg [] [zf 3 0 1,zl 4 3,zf 5 0
 1,zl 6 5,zf 7 2 1,zl 8 7,zf 9 3 1,zl 10 9,z 11 (.build [.nil,.nil,.s [],.s [],.s [],.s [],.i .i64 0,.i .i64 0] [(0,1,.t 4),(1,1,.t 6),(2,1,.t 8),(3,1,.t 10),
 (7,1,.c (.i .i64 1))]),zs (.store 8 [some 3,some 3,none,none,none,none,none,none] (.t 2) (.t 11))]) (.ret))⟩
theorem c62 : cFun Tryz.prog Tryz.f62 = some p62 := by kernel_rfl
def p22_0 : PCode := .seq (.reg [] [z 34 (.bin .lss (.t 33) (.t 32))]) (.seq (.ite (.t 34) (.skip) (.exit 0)) (.seq (.block 1 (.seq (.reg [] [z 35 (.idx 1 (.t 31) (.t 33)),zl 36 35,zm 5 36]) (.seq
 (.reg [] [zm 37 5,z 38 (.bin .gtr (.t 37) (.c (.i .i64 128)))]) (.ite (.t 38) (.seq (.reg [] [z 2 (.mov (.c (.i .i64 1)))]) (.ret)) (.skip))))) (.reg [] [z 39 (.bin .add (.t 33)
 (.c (.i .i64 1))),zm 33 39])))
def p22 : PFun := ⟨86,[.t 2],.seq (.reg [] [z 1 (.box 33 (.t 0)),z 2 (.mov (.c (.i .i64 0)))]) (.seq (.seq (.reg [] [zf 7 0 1,zL 8 3 7,z 9 (.call 58 [.t 8]),zm 3 9]) (.seq (.reg [] [zm 10 3,z
 11 (.bin .neq (.t 10) (.c (.i .i64 0)))]) (.ite (.t 11) (.seq (.reg [] [zm 12 3,zm 2 12]) (.ret)) (.skip)))) (.seq (.seq (.dreg [([zf 13 3 1,zl 14 13,z 15 (.bin .neq (.t 14) (.c
 (.i .i64 1))),zm 16 15,⟨some 17,[(16,true)],.fld 3 (.t 1)⟩,⟨some 18,[(16,true)],.load none (.t 17)⟩,⟨some 19,[(16,true)],.bin .neq (.t 18) (.c (.i .i64 2))⟩,z 20
 (.pick (.t 16) (.t 19) (.c (.b false))),zm 21 20,⟨some 22,[(21,false)],.fld 12 (.t 1)⟩,⟨some 23,[(21,false)],.load none (.t 22)⟩,⟨some 25,[(21,false)],.fld 12 (.t 1)⟩,
 ⟨some 26,[(21,false)],.load none (.t 25)⟩],⟨some 24,[(21,false)],.call 50 [.t 23]⟩,[⟨some 25,[(21,false)],.fld 12 (.t 1)⟩,⟨some 26,[(21,false)],.load none (.t 25)⟩])]
 [] [17,18,19,22,23,24,25,26,27,28] [⟨some 27,[(21,false)],.call 59 [.t 24,.t 26]⟩,⟨some 28,[(21,false)],.un .not (.t 27)⟩,z 29 (.pick (.t 21) (.c (.b true)) (.t
 28))]) (.ite (.t 29) (.seq (.reg [] [z 2 (.mov (.c (.i .i64 1)))]) (.ret)) (.skip))) (.seq (.seq (.reg [] [zf 30 12 1,zl 31 30,z 32 (.len false (.t 31)),z 33 (.mov (.c (.i .i64
 0)))]) (.block 0 (.loop p22_0))) (.seq (.seq (.dreg [([zf 40 12 1,zl 41 40,zf 42 0 1,zf 43 1 42,zl 44 43,zf 46 0 1,zf 47 2 46,zl 48 47,z 49 (.bin .sub (.t 48) (.c (.i .i64
 1)))],z 45 (.call 60 [.t 41,.t 44]),[zf 46 0 1,zf 47 2 46,zl 48 47])] [] [] [z 50 (.bin .neq (.t 45) (.t 49))]) (.ite (.t 50) (.seq (.reg [] [z 2 (.mov (.c (.i .i64 11)))])
 (.ret)) (.skip))) (.seq (.seq (.reg [] [zf 51 3 1,zl 52 51,z 53 (.bin .eql (.t 52) (.c (.i .i64 1)))]) (.ite (.t 53) (.seq (.reg [] [zf 54 4 1,zL 55 8 54,z 56 (.call 61 [.t
 55]),zm 2 56]) (.ret)) (.skip))) (.seq (.reg [] [zf 57 4 1,zL 58 8 57,z 6 (.alloc 26 [.nil,.nil,.s [],.s [],.s [],.s [],.i .i64 0,.i .i64 0]),zs (.store 8 [some 3,some
 3,none,none,none,none,none,none] (.t 6) (.t 58))]) (.seq (.seq (.reg [64,65,66,69,70,71,74,75,76,79,80,81] [zf 59 1 6,zl 60 59,z 61 (.len false (.t 60)),z 62
 (.bin .gtr (.t 61) (.c (.i .i64 0))),zm 63 62,⟨some 64,[(63,false)],.fld 4 (.t 6)⟩,⟨some 65,[(63,false)],.load none (.t 64)⟩,⟨some 66,[(63,false)],.bin .neq (.t 65) (.c
 (.s []))⟩,z 67 (.pick (.t 63) (.c (.b true)) (.t 66)),zm 68 67,⟨some 69,[(68,false)],.fld 5 (.t 6)⟩,⟨some 70,[(68,false)],.load none (.t 69)⟩,⟨some 71,[(68,false)],
 .bin .neq (.t 70) (.c (.s []))⟩,z 72 (.pick (.t 68) (.c (.b true)) (.t 71)),zm 73 72,⟨some 74,[(73,false)],.fld 6 (.t 6)⟩,⟨some 75,[(73,false)],.load none (.t 74)⟩,⟨some
 76,[(73,false)],.bin .neq (.t 75) (.c (.i .i64 0))⟩,z 77 (.pick (.t 73) (.c (.b true)) (.t 76)),zm 78 77,⟨some 79,[(78,false)],.fld 7 (.t 6)⟩,⟨some 80,[(78,false)],
 .load none (.t 79)⟩,⟨some 81,[(78,false)],.bin .neq (.t 80) (.c (.i .i64 0))⟩,z 82 (.pick (.t 78) (.c (.b true)) (.t 81))]) (.ite (.t 82) (.seq (.reg [] [z 2 (.mov (.c (.i .i64
 1)))]) (.ret)) (.skip))) (.seq (.reg [] [zL 83 8 6,z 84 (.call 62 [.t 83]),z 85 (.call 61 [.t 84]),zm 2 85]) (.ret)))))))))⟩
theorem c22 : cFun Tryz.prog Tryz.f22 = some p22 := by kernel_rfl
def p32 : PFun := ⟨31,[.t 4],.seq (.reg [] [z 2 (.box 33 (.t 0)),z 3 (.box 33 (.t 1)),z 4 (.mov (.c (.b false)))]) (.seq (.reg [11,12,13,14,15,18,19,20,21,22,25,26,27,28,29] [zf 5 0
 2,zL 6 3 5,zf 7 0 3,zL 8 3 7,z 9 (.beq false [0,0,0] (.t 6) (.t 8)),zm 10 9,⟨some 11,[(10,true)],.fld 3 (.t 2)⟩,⟨some 12,[(10,true)],.load none (.t 11)⟩,⟨some 13,
 [(10,true)],.fld 3 (.t 3)⟩,⟨some 14,[(10,true)],.load none (.t 13)⟩,⟨some 15,[(10,true)],.bin .eql (.t 12) (.t 14)⟩,z 16 (.pick (.t 10) (.t 15) (.c (.b false))),zm 17
 16,⟨some 18,[(17,true)],.fld 4 (.t 2)⟩,⟨some 19,[(17,true)],.load (some 8) (.t 18)⟩,⟨some 20,[(17,true)],.fld 4 (.t 3)⟩,⟨some 21,[(17,true)],.load (some 8) (.t 20)⟩,
 ⟨some 22,[(17,true)],.call 38 [.t 19,.t 21]⟩,z 23 (.pick (.t 17) (.t 22) (.c (.b false))),zm 24 23,⟨some 25,[(24,true)],.fld 12 (.t 2)⟩,⟨some 26,[(24,true)],.load none
 (.t 25)⟩,⟨some 27,[(24,true)],.fld 12 (.t 3)⟩,⟨some 28,[(24,true)],.load none (.t 27)⟩,⟨some 29,[(24,true)],.call 59 [.t 26,.t 28]⟩,z 30 (.pick (.t 24) (.t 29) (.c (.b
 false))),zm 4 30]) (.ret))⟩
theorem c32 : cFun Tryz.prog Tryz.f32 = some p32 := by kernel_rfl
def p81_0 : PCode := .seq (.seq (.reg [] [zm 9 6,z 10 (.bin .geq (.t 9) (.c (.i .i64 0)))]) (.ite (.t 10) (.skip) (.exit 0))) (.seq (.block 1 (.reg [] [zm 13 5,zm 14 0,zm 15 6,z 16 (.bin .mul (.c
 (.i .i64 8)) (.t 15)),z 17 (.bin .shr (.t 14) (.t 16)),z 18 (.cvi .u8 (.t 17)),z 19 (.bslice 1 [none] [.t 18]),z 20 (.app 5 1 1 (.t 13) (.t 19)),zm 5 20])) (.reg [] [zm 11 6,z
 12 (.bin .sub (.t 11) (.c (.i .i64 1))),zm 6 12]))
def p81 : PFun := ⟨22,[.t 4],.seq (.reg [] [z 4 (.mov (.c .nil))]) (.seq (.reg [] [z 5 (.mov (.c .nil))]) (.seq (.seq (.reg [] [zm 7 1,z 8 (.bin .sub (.t 7) (.c (.i .i64 1))),zm 6 8]) (.block 0
 (.loop p81_0))) (.seq (.reg [] [zm 21 5,zm 4 21]) (.ret))))⟩
theorem c81 : cFun Tryz.prog Tryz.f81 = some p81 := by kernel_rfl
def p83 : PFun := ⟨8,[.t 2],.seq (.reg [] [z 2 (.mov (.c .nil))]) (.seq (.reg [] [zm 3 0,z 4 (.len true (.t 3)),z 5 (.call 81 [.t 4,.c (.i .i64 4)]),zm 6 0,z 7 (.apps 5 (.t 5) (.t 6)),zm 2
 7]) (.ret))⟩
theorem c83 : cFun Tryz.prog Tryz.f83 = some p83 := by kernel_rfl
def p82 : PFun := ⟨12,[.t 2],.seq (.reg [] [z 2 (.mov (.c .nil))]) (.seq (.reg [] [zm 6 0,z 7 (.call 109 [.t 6]),zm 5 7,z 8 (.ext 0 (.t 5)),z 9 (.ext 1 (.t 5)),zm 3 8,zm 4 9]) (.seq (.reg []
 [zm 10 3,z 11 (.call 83 [.t 10]),zm 2 11]) (.ret)))⟩
theorem c82 : cFun Tryz.prog Tryz.f82 = some p82 := by kernel_rfl
def p40_0 : PCode := .seq (.reg [] [z 48 (.bin .lss (.t 47) (.t 46))]) (.seq (.ite (.t 48) (.skip) (.exit 0)) (.seq (.block 1 (.seq (.reg [] [z 49 (.idx 1 (.t 45) (.t 47)),zl 50 49,zm 7 50]) (.reg []
 [zm 51 5,zm 52 7,z 53 (.call 81 [.t 52,.c (.i .i64 2)]),z 54 (.app 5 1 1 (.t 51) (.t 53)),zm 5 54]))) (.reg [] [z 55 (.bin .add (.t 47) (.c (.i .i64 1))),zm 47 55])))
def p40 : PFun := ⟨100,[.t 2,.t 3],.seq (.reg [] [z 1 (.box 33 (.t 0)),z 2 (.mov (.c .nil)),z 3 (.mov (.c (.i .i64 0)))]) (.seq (.seq (.reg [] [zL 9 13 1,z 10 (.call 22 [.t 9]),zm 4 10]) (.seq
 (.reg [] [zm 11 4,z 12 (.bin .neq (.t 11) (.c (.i .i64 0)))]) (.ite (.t 12) (.seq (.reg [] [zm 13 4,z 2 (.mov (.c .nil)),zm 3 13]) (.ret)) (.skip)))) (.seq (.reg [] [zf 14 3 1,
 zl 15 14,z 16 (.cvi .u8 (.t 15)),z 17 (.bslice 1 [none] [.c (.i .u8 1),.t 16]),zm 5 17]) (.seq (.reg [] [zm 18 5,zf 19 0 1,zf 20 0 19,zl 21 20,z 22 (.call 81 [.t 21,.c (.i
 .i64 4)]),z 23 (.app 5 1 1 (.t 18) (.t 22)),zm 5 23]) (.seq (.reg [] [zm 24 5,zf 25 0 1,zf 26 1 25,zl 27 26,z 28 (.cvi .u8 (.t 27)),z 29 (.bslice 1 [none] [.t 28]),z 30
 (.app 5 1 1 (.t 24) (.t 29)),zm 5 30]) (.seq (.reg [] [zm 31 5,zf 32 0 1,zf 33 2 32,zl 34 33,z 35 (.call 81 [.t 34,.c (.i .i64 2)]),z 36 (.app 5 1 1 (.t 31) (.t 35)),zm 5
 36]) (.seq (.reg [] [zm 37 5,zf 38 12 1,zl 39 38,z 40 (.len false (.t 39)),z 41 (.cvi .u8 (.t 40)),z 42 (.bslice 1 [none] [.t 41]),z 43 (.app 5 1 1 (.t 37) (.t 42)),zm 5 43])
 (.seq (.seq (.reg [] [zf 44 12 1,zl 45 44,z 46 (.len false (.t 45)),z 47 (.mov (.c (.i .i64 0)))]) (.block 0 (.loop p40_0))) (.seq (.reg [] [zf 56 4 1,zL 57 8 56,z 8 (.alloc 26
 [.nil,.nil,.s [],.s [],.s [],.s [],.i .i64 0,.i .i64 0]),zs (.store 8 [some 3,some 3,none,none,none,none,none,none] (.t 8) (.t 57))]) (.seq (.reg [] [zm 58 5,zf 59 0
 8,zl 60 59,z 61 (.call 82 [.t 60]),z 62 (.app 5 1 1 (.t 58) (.t 61)),zm 5 62]) (.seq (.dreg [([zm 63 5,zf 64 2 8,zl 65 64,zf 68 3 8,zl 69 68],z 66 (.call 83 [.t 65]),[zf
 68 3 8,zl 69 68]),([],z 67 (.app 5 1 1 (.t 63) (.t 66)),[zf 68 3 8,zl 69 68])] [] [] [z 70 (.call 83 [.t 69]),z 71 (.app 5 1 1 (.t 67) (.t 70)),zm 5 71]) (.seq (.seq (.reg []
 [zf 72 3 1,zl 73 72,z 74 (.bin .eql (.t 73) (.c (.i .i64 1)))]) (.ite (.t 74) (.seq (.reg [] [zm 75 5,zf 76 1 8,zl 77 76,z 78 (.call 82 [.t 77]),z 79 (.app 5 1 1 (.t 75) (.t
 78)),zm 5 79]) (.seq (.dreg [([zm 80 5,zf 81 4 8,zl 82 81,zf 85 5 8,zl 86 85],z 83 (.call 83 [.t 82]),[zf 85 5 8,zl 86 85]),([],z 84 (.app 5 1 1 (.t 80) (.t 83)),[zf 85 5
 8,zl 86 85])] [] [] [z 87 (.call 83 [.t 86]),z 88 (.app 5 1 1 (.t 84) (.t 87)),zm 5 88]) (.dreg [([zm 89 5,zf 90 6 8,zl 91 90,zf 94 7 8,zl 95 94,z 96 (.cvi .u8 (.t 95)),z
 97 (.bslice 1 [none] [.t 96])],z 92 (.call 81 [.t 91,.c (.i .i64 4)]),[zf 94 7 8,zl 95 94,z 97 (.bslice 1 [none] [.t 96])]),([],z 93 (.app 5 1 1 (.t 89) (.t 92)),[zf 94 7 8,
 zl 95 94,z 97 (.bslice 1 [none] [.t 96])])] [] [] [z 98 (.app 5 1 1 (.t 93) (.t 97)),zm 5 98]))) (.skip))) (.seq (.reg [] [zm 99 5,zm 2 99,z 3 (.mov (.c (.i .i64 0)))])
 (.ret)))))))))))))⟩
theorem c40 : cFun Tryz.prog Tryz.f40 = some p40 := by kernel_rfl
def p131_0 : PCode := .seq (.reg [] [z 11 (.bin .lss (.t 10) (.t 9))]) (.seq (.ite (.t 11) (.skip) (.exit 0)) (.seq (.block 1 (.seq (.reg [] [z 12 (.idx 3 (.t 8) (.t 10)),zL 13 3 12,z 6 (.alloc 23 [.i
 .i64 0,.s [],.i .i64 0]),zs (.store 3 [none,none,none] (.t 6) (.t 13))]) (.seq (.reg [17,18,19,20,21] [zL 14 3 6,z 15 (.call 129 [.t 14]),zm 16 15,⟨some 17,[(16,
 true)],.mov (.t 4)⟩,⟨some 18,[(16,true)],.fld 2 (.t 6)⟩,⟨some 19,[(16,true)],.load none (.t 18)⟩,⟨some 20,[(16,true)],.look 0 (.b false) false (.t 17) (.t 19)⟩,⟨some
 21,[(16,true)],.un .not (.t 20)⟩,z 22 (.pick (.t 16) (.t 21) (.c (.b false)))]) (.ite (.t 22) (.seq (.reg [] [zm 23 4,zf 24 2 6,zl 25 24,zs (.mupd 0 [none] (.t 23) (.t 25)
 (.c (.b true)))]) (.reg [] [zm 26 3,zf 27 2 6,zl 28 27,z 29 (.bslice 1 [none] [.t 28]),z 30 (.app 3 1 8 (.t 26) (.t 29)),zm 3 30])) (.skip))))) (.reg [] [z 31 (.bin .add (.t
 10) (.c (.i .i64 1))),zm 10 31])))
def p131 : PFun := ⟨33,[.t 2],.seq (.reg [] [z 2 (.mov (.c .nil))]) (.seq (.reg [] [z 3 (.mov (.c .nil))]) (.seq (.reg [] [z 7 (.mkmap 3 4),zm 4 7]) (.seq (.seq (.reg [] [zm 8 0,z 9 (.len false
 (.t 8)),z 10 (.mov (.c (.i .i64 0)))]) (.block 0 (.loop p131_0))) (.seq (.reg [] [zm 32 3,zm 2 32]) (.ret)))))⟩
theorem c131 : cFun Tryz.prog Tryz.f131 = some p131 := by kernel_rfl
def p134_0 : PCode := .seq (.reg [] [z 10 (.bin .lss (.t 9) (.t 8))]) (.seq (.ite (.t 10) (.skip) (.exit 0)) (.seq (.block 1 (.seq (.reg [] [zm 11 9,zm 4 11]) (.reg [] [zm 12 3,zm 13 4,zm 14 4,z 15
 (.bin .add (.t 14) (.c (.i .i64 1))),z 16 (.idx 1 (.t 12) (.t 13)),zs (.store 1 [none] (.t 16) (.t 15))]))) (.reg [] [z 17 (.bin .add (.t 9) (.c (.i .i64 1))),zm 9 17])))
def p134 : PFun := ⟨19,[.t 2],.seq (.reg [] [z 2 (.mov (.c .nil))]) (.seq (.reg [] [zm 5 0,z 6 (.mk 3 1 8 [.i .i64 0] (.t 5) (.t 5)),zm 3 6]) (.seq (.seq (.reg [] [zm 7 3,z 8 (.len false (.t 7)),
 z 9 (.mov (.c (.i .i64 0)))]) (.block 0 (.loop p134_0))) (.seq (.reg [] [zm 18 3,zm 2 18]) (.ret))))⟩
theorem c134 : cFun Tryz.prog Tryz.f134 = some p134 := by kernel_rfl
def p165_0 : PCode := .seq (.seq (.reg [30,31,32,33,34,35] [zm 25 4,zm 26 0,z 27 (.len false (.t 26)),z 28 (.bin .lss (.t 25) (.t 27)),zm 29 28,⟨some 30,[(29,true)],.mov (.t 0)⟩,⟨some 31,
 [(29,true)],.mov (.t 4)⟩,⟨some 32,[(29,true)],.idx 3 (.t 30) (.t 31)⟩,⟨some 33,[(29,true)],.fld 0 (.t 32)⟩,⟨some 34,[(29,true)],.load none (.t 33)⟩,⟨some 35,[(29,
 true)],.bin .eql (.t 34) (.c (.i .i64 1))⟩,z 36 (.pick (.t 29) (.t 35) (.c (.b false)))]) (.ite (.t 36) (.skip) (.exit 2))) (.block 3 (.seq (.reg [] [zm 37 5,zm 38 0,zm 39 4,z
 40 (.idx 3 (.t 38) (.t 39)),zf 41 1 40,zl 42 41,z 43 (.apps 5 (.t 37) (.t 42)),zm 5 43]) (.reg [] [zm 44 4,z 45 (.bin .add (.t 44) (.c (.i .i64 1))),zm 4 45])))
def p165_1 : PCode := .seq (.seq (.reg [] [zm 6 4,zm 7 0,z 8 (.len false (.t 7)),z 9 (.bin .lss (.t 6) (.t 8))]) (.ite (.t 9) (.skip) (.exit 0))) (.block 1 (.seq (.seq (.reg [] [zm 10 0,zm 11 4,z 12
 (.idx 3 (.t 10) (.t 11)),zf 13 0 12,zl 14 13,z 15 (.bin .neq (.t 14) (.c (.i .i64 1)))]) (.ite (.t 15) (.seq (.reg [] [zm 16 3,zm 17 0,zm 18 4,z 19 (.idx 3 (.t 17) (.t 18)),
 zL 20 3 19,z 21 (.bslice 3 [none,none,none] [.t 20]),z 22 (.app 23 3 32 (.t 16) (.t 21)),zm 3 22]) (.seq (.reg [] [zm 23 4,z 24 (.bin .add (.t 23) (.c (.i .i64 1))),zm 4 24])
 (.exit 1))) (.skip))) (.seq (.reg [] [z 5 (.mov (.c .nil))]) (.seq (.block 2 (.loop p165_0)) (.seq (.reg [] [zm 46 5,z 47 (.len false (.t 46)),z 48 (.bin .gtr (.t 47) (.c (.i .i64
 0)))]) (.ite (.t 48) (.reg [] [zm 49 3,zm 50 5,z 51 (.b2s (.t 50)),z 52 (.build [.i .i64 0,.s [],.i .i64 0] [(0,1,.c (.i .i64 1)),(1,1,.t 51)]),z 53 (.bslice 3 [none,
 none,none] [.t 52]),z 54 (.app 23 3 32 (.t 49) (.t 53)),zm 3 54]) (.skip)))))))
def p165 : PFun := ⟨56,[.t 2],.seq (.reg [] [z 2 (.mov (.c .nil))]) (.seq (.reg [] [z 3 (.mov (.c .nil))]) (.seq (.seq (.reg [] [z 4 (.mov (.c (.i .i64 0)))]) (.block 0 (.loop p165_1))) (.seq (.reg
 [] [zm 55 3,zm 2 55]) (.ret))))⟩
theorem c165 : cFun Tryz.prog Tryz.f165 = some p165 := by kernel_rfl
def p133_0 : PCode := .seq (.seq (.reg [] [zm 21 8,z 22 (.bin .geq (.t 21) (.c (.i .i64 0)))]) (.ite (.t 22) (.skip) (.exit 0))) (.seq (.block 1 (.dreg [] [zm 25 7,zm 26 1,zm 27 8,z 28 (.idx 1 (.t
 26) (.t 27)),zl 29 28,zm 30 2,zm 31 8,z 32 (.idx 1 (.t 30) (.t 31)),zl 33 32] [] [zs (.mupd 0 [none] (.t 25) (.t 29) (.t 33))])) (.reg [] [zm 23 8,z 24 (.bin .sub (.t 23) (.c
 (.i .i64 1))),zm 8 24]))
def p133_1 : PCode := .seq (.reg [] [z 37 (.bin .lss (.t 36) (.t 35))]) (.seq (.ite (.t 37) (.skip) (.exit 2)) (.seq (.block 3 (.seq (.reg [] [z 38 (.idx 3 (.t 34) (.t 36)),zL 39 3 38,z 11 (.alloc 23
 [.i .i64 0,.s [],.i .i64 0]),zs (.store 3 [none,none,none] (.t 11) (.t 39))]) (.seq (.seq (.reg [] [zL 40 3 11,z 41 (.call 129 [.t 40])]) (.ite (.t 41) (.seq (.reg [] [zm 43
 7,zf 44 2 11,zl 45 44,z 46 (.look 0 (.i .i64 0) true (.t 43) (.t 45)),zm 42 46,z 47 (.ext 0 (.t 42)),z 48 (.ext 1 (.t 42)),zm 12 47,zm 13 48]) (.seq (.seq (.reg [] [zm 49
 13,z 50 (.un .not (.t 49))]) (.ite (.t 50) (.exit 3) (.skip))) (.reg [] [zm 51 12,zf 52 2 11,zs (.store 1 [none] (.t 52) (.t 51))]))) (.skip))) (.reg [] [zm 53 9,zL 54 3 11,z
 55 (.bslice 3 [none,none,none] [.t 54]),z 56 (.app 23 3 32 (.t 53) (.t 55)),zm 9 56])))) (.reg [] [z 57 (.bin .add (.t 36) (.c (.i .i64 1))),zm 36 57])))
def p133 : PFun := ⟨60,[.t 6],.seq (.reg [] [z 6 (.mov (.c .nil))]) (.seq (.reg [] [z 14 (.mkmap 3 3),zm 7 14]) (.seq (.seq (.reg [] [zm 15 1,z 16 (.len false (.t 15)),zm 17 2,z 18 (.len false
 (.t 17)),z 19 (.min2 (.t 16) (.t 18)),z 20 (.bin .sub (.t 19) (.c (.i .i64 1))),zm 8 20]) (.block 0 (.loop p133_0))) (.seq (.reg [] [z 9 (.mov (.c .nil))]) (.seq (.seq (.reg []
 [zm 34 0,z 35 (.len false (.t 34)),z 36 (.mov (.c (.i .i64 0)))]) (.block 2 (.loop p133_1))) (.seq (.reg [] [zm 58 9,z 59 (.call 165 [.t 58]),zm 6 59]) (.ret))))))⟩
theorem c133 : cFun Tryz.prog Tryz.f133 = some p133 := by kernel_rfl
def p101_0 : PCode := .seq (.reg [] [z 15 (.bin .lss (.t 14) (.t 13))]) (.seq (.ite (.t 15) (.skip) (.exit 0)) (.seq (.block 1 (.seq (.reg [] [z 16 (.idx 1 (.t 12) (.t 14)),zl 17 16,zm 8 17]) (.seq
 (.reg [] [zm 18 6,zm 19 8,z 20 (.call 132 [.t 18,.t 19]),z 21 (.un .not (.t 20))]) (.ite (.t 21) (.reg [] [zm 22 6,zm 23 8,z 24 (.bslice 1 [none] [.t 23]),z 25 (.app 3 1 8
 (.t 22) (.t 24)),zm 6 25]) (.skip))))) (.reg [] [z 26 (.bin .add (.t 14) (.c (.i .i64 1))),zm 14 26])))
def p101 : PFun := ⟨39,[.t 4,.t 5],.seq (.reg [] [z 4 (.mov (.c .nil)),z 5 (.mov (.c .nil))]) (.seq (.reg [] [zm 9 0,z 10 (.call 131 [.t 9]),zm 6 10]) (.seq (.seq (.reg [] [zm 11 1,z 12 (.call
 131 [.t 11]),z 13 (.len false (.t 12)),z 14 (.mov (.c (.i .i64 0)))]) (.block 0 (.loop p101_0))) (.seq (.reg [] [zm 27 0,zm 28 6,zm 29 6,z 30 (.len false (.t 29)),z 31 (.call
 134 [.t 30]),z 32 (.call 133 [.t 27,.t 28,.t 31]),zm 33 1,zm 34 6,zm 35 6,z 36 (.len false (.t 35)),z 37 (.call 134 [.t 36]),z 38 (.call 133 [.t 33,.t 34,.t 37]),zm 4
 32,zm 5 38]) (.ret))))⟩
theorem c101 : cFun Tryz.prog Tryz.f101 = some p101 := by kernel_rfl
def p102 : PFun := ⟨8,[.t 4],.seq (.reg [] [z 4 (.mov (.c (.b false)))]) (.seq (.reg [] [zm 5 0,zm 6 1,z 7 (.call 135 [.t 5,.t 6]),zm 4 7]) (.ret))⟩
theorem c102 : cFun Tryz.prog Tryz.f102 = some p102 := by kernel_rfl
def p132 : PFun := ⟨9,[.t 4],.seq (.reg [] [z 4 (.mov (.c (.b false)))]) (.seq (.reg [] [zm 5 0,zm 6 1,z 7 (.call 164 [.t 5,.t 6]),z 8 (.bin .geq (.t 7) (.c (.i .i64 0))),zm 4 8]) (.ret))⟩
theorem c132 : cFun Tryz.prog Tryz.f132 = some p132 := by kernel_rfl
def p164_0 : PCode := .seq (.reg [] [z 9 (.bin .lss (.t 8) (.t 7))]) (.seq (.ite (.t 9) (.skip) (.exit 0)) (.seq (.block 1 (.seq (.reg [] [zm 10 8,zm 5 10]) (.seq (.reg [] [zm 11 1,zm 12 0,zm 13 5,z
 14 (.idx 1 (.t 12) (.t 13)),zl 15 14,z 16 (.bin .eql (.t 11) (.t 15))]) (.ite (.t 16) (.seq (.reg [] [zm 17 5,zm 4 17]) (.ret)) (.skip))))) (.reg [] [z 18 (.bin .add (.t 8) (.c
 (.i .i64 1))),zm 8 18])))
def p164 : PFun := ⟨19,[.t 4],.seq (.reg [] [z 4 (.mov (.c (.i .i64 0)))]) (.seq (.seq (.reg [] [zm 6 0,z 7 (.len false (.t 6)),z 8 (.mov (.c (.i .i64 0)))]) (.block 0 (.loop p164_0))) (.seq (.reg
 [] [z 4 (.mov (.c (.i .i64 (-1))))]) (.ret)))⟩
theorem c164 : cFun Tryz.prog Tryz.f164 = some p164 := by kernel_rfl
def p135_0 : PCode := .seq (.reg [] [z 14 (.bin .lss (.t 13) (.t 12))]) (.seq (.ite (.t 14) (.skip) (.exit 0)) (.seq (.block 1 (.seq (.reg [] [zm 15 13,zm 5 15]) (.seq (.dreg [] [zm 16 0,zm 17 5,z 18
 (.idx 3 (.t 16) (.t 17)),zL 19 3 18,zm 20 1,zm 21 5,z 22 (.idx 3 (.t 20) (.t 21)),zL 23 3 22] [] [z 24 (.beq true [0,1,0] (.t 19) (.t 23))]) (.ite (.t 24) (.seq (.reg [] [z 4
 (.mov (.c (.b false)))]) (.ret)) (.skip))))) (.reg [] [z 25 (.bin .add (.t 13) (.c (.i .i64 1))),zm 13 25])))
def p135 : PFun := ⟨26,[.t 4],.seq (.reg [] [z 4 (.mov (.c (.b false)))]) (.seq (.seq (.reg [] [zm 6 0,z 7 (.len false (.t 6)),zm 8 1,z 9 (.len false (.t 8)),z 10 (.bin .neq (.t 7) (.t 9))])
 (.ite (.t 10) (.seq (.reg [] [z 4 (.mov (.c (.b false)))]) (.ret)) (.skip))) (.seq (.seq (.reg [] [zm 11 0,z 12 (.len false (.t 11)),z 13 (.mov (.c (.i .i64 0)))]) (.block 0
 (.loop p135_0))) (.seq (.reg [] [z 4 (.mov (.c (.b true)))]) (.ret))))⟩
theorem c135 : cFun Tryz.prog Tryz.f135 = some p135 := by kernel_rfl
def p56 : PFun := ⟨109,[.t 2],.seq (.reg [] [z 1 (.box 26 (.t 0)),z 2 (.mov (.c (.i .i64 0)))]) (.seq (.seq (.reg [] [zf 13 0 1,zl 14 13,z 15 (.call 100 [.t 14]),zm 3 15]) (.seq (.reg [] [zm 16
 3,z 17 (.bin .neq (.t 16) (.c (.i .i64 0)))]) (.ite (.t 17) (.seq (.reg [] [zm 18 3,zm 2 18]) (.ret)) (.skip)))) (.seq (.seq (.reg [] [zf 19 1 1,zl 20 19,z 21 (.call 100 [.t
 20]),zm 4 21]) (.seq (.reg [] [zm 22 4,z 23 (.bin .neq (.t 22) (.c (.i .i64 0)))]) (.ite (.t 23) (.seq (.reg [] [zm 24 4,zm 2 24]) (.ret)) (.skip)))) (.seq (.reg [] [zf 26 0 1,
 zl 27 26,zf 28 1 1,zl 29 28,z 30 (.call 101 [.t 27,.t 29]),zm 25 30,z 31 (.ext 0 (.t 25)),z 32 (.ext 1 (.t 25)),zm 5 31,zm 6 32]) (.seq (.seq (.reg [38,39,40,41,42,45,
 46,47,48,49] [zf 33 0 1,zl 34 33,z 35 (.len false (.t 34)),z 36 (.bin .eql (.t 35) (.c (.i .i64 0))),zm 37 36,⟨some 38,[(37,false)],.mov (.t 5)⟩,⟨some 39,[(37,false)],
 .fld 0 (.t 1)⟩,⟨some 40,[(37,false)],.load none (.t 39)⟩,⟨some 41,[(37,false)],.call 102 [.t 38,.t 40]⟩,⟨some 42,[(37,false)],.un .not (.t 41)⟩,z 43 (.pick (.t 37) (.c
 (.b true)) (.t 42)),zm 44 43,⟨some 45,[(44,false)],.mov (.t 6)⟩,⟨some 46,[(44,false)],.fld 1 (.t 1)⟩,⟨some 47,[(44,false)],.load none (.t 46)⟩,⟨some 48,[(44,false)],
 .call 102 [.t 45,.t 47]⟩,⟨some 49,[(44,false)],.un .not (.t 48)⟩,z 50 (.pick (.t 44) (.c (.b true)) (.t 49))]) (.ite (.t 50) (.seq (.reg [] [z 2 (.mov (.c (.i .i64 1)))])
 (.ret)) (.skip))) (.seq (.seq (.reg [] [zf 52 2 1,zl 53 52,z 54 (.call 103 [.t 53]),zm 51 54,z 55 (.ext 0 (.t 51)),z 56 (.ext 1 (.t 51)),z 57 (.ext 2 (.t 51)),zm 7 55,zm 8
 56,zm 9 57]) (.seq (.reg [] [zm 58 9,z 59 (.bin .neq (.t 58) (.c (.i .i64 0)))]) (.ite (.t 59) (.seq (.reg [] [zm 60 9,zm 2 60]) (.ret)) (.skip)))) (.seq (.seq (.reg [] [zf 62 3
 1,zl 63 62,z 64 (.call 103 [.t 63]),zm 61 64,z 65 (.ext 0 (.t 61)),z 66 (.ext 1 (.t 61)),z 67 (.ext 2 (.t 61)),zm 10 65,zm 11 66,zm 12 67]) (.seq (.reg [] [zm 68 12,z 69
 (.bin .neq (.t 68) (.c (.i .i64 0)))]) (.ite (.t 69) (.seq (.reg [] [zm 70 12,zm 2 70]) (.ret)) (.skip)))) (.seq (.seq (.reg [75,76,77,78,81,82,83,84,85,86,87,88,89]
 [zf 71 4 1,zl 72 71,z 73 (.bin .neq (.t 72) (.c (.s []))),zm 74 73,⟨some 75,[(74,true)],.fld 4 (.t 1)⟩,⟨some 76,[(74,true)],.load none (.t 75)⟩,⟨some 77,[(74,true)],
 .call 104 [.t 76]⟩,⟨some 78,[(74,true)],.un .not (.t 77)⟩,z 79 (.pick (.t 74) (.t 78) (.c (.b false))),zm 80 79,⟨some 81,[(80,false)],.fld 5 (.t 1)⟩,⟨some 82,[(80,
 false)],.load none (.t 81)⟩,⟨some 83,[(80,false)],.bin .neq (.t 82) (.c (.s []))⟩,⟨some 84,[(80,false)],.mov (.t 83)⟩,⟨some 85,[(80,false),(84,true)],.fld 5 (.t 1)⟩,
 ⟨some 86,[(80,false),(84,true)],.load none (.t 85)⟩,⟨some 87,[(80,false),(84,true)],.call 104 [.t 86]⟩,⟨some 88,[(80,false),(84,true)],.un .not (.t 87)⟩,⟨some 89,
 [(80,false)],.pick (.t 84) (.t 88) (.c (.b false))⟩,z 90 (.pick (.t 80) (.c (.b true)) (.t 89))]) (.ite (.t 90) (.seq (.reg [] [z 2 (.mov (.c (.i .i64 4)))]) (.ret)) (.skip)))
 (.seq (.seq (.reg [95,96,97,100,101,102,105,106,107] [zf 91 6 1,zl 92 91,z 93 (.bin .lss (.t 92) (.c (.i .i64 0))),zm 94 93,⟨some 95,[(94,false)],.fld 6 (.t 1)⟩,
 ⟨some 96,[(94,false)],.load none (.t 95)⟩,⟨some 97,[(94,false)],.bin .gtr (.t 96) (.c (.i .i64 1073741824))⟩,z 98 (.pick (.t 94) (.c (.b true)) (.t 97)),zm 99 98,⟨some
 100,[(99,false)],.fld 7 (.t 1)⟩,⟨some 101,[(99,false)],.load none (.t 100)⟩,⟨some 102,[(99,false)],.bin .lss (.t 101) (.c (.i .i64 1))⟩,z 103 (.pick (.t 99) (.c (.b
 true)) (.t 102)),zm 104 103,⟨some 105,[(104,false)],.fld 7 (.t 1)⟩,⟨some 106,[(104,false)],.load none (.t 105)⟩,⟨some 107,[(104,false)],.bin .gtr (.t 106) (.c (.i .i64
 3))⟩,z 108 (.pick (.t 104) (.c (.b true)) (.t 107))]) (.ite (.t 108) (.seq (.reg [] [z 2 (.mov (.c (.i .i64 1)))]) (.ret)) (.skip))) (.seq (.reg [] [z 2 (.mov (.c (.i .i64 0)))])
 (.ret))))))))))⟩
theorem c56 : cFun Tryz.prog Tryz.f56 = some p56 := by kernel_rfl
def p108 : PFun := ⟨20,[.t 2],.seq (.reg [] [z 1 (.box 26 (.t 0)),z 2 (.mov (.c (.s [])))]) (.seq (.reg [] [zf 6 0 1,zl 7 6,z 8 (.call 79 [.t 7]),zm 5 8,z 9 (.ext 0 (.t 5)),z 10 (.ext 1 (.t
 5)),zm 3 9,zm 4 10]) (.seq (.reg [] [zm 11 3,z 12 (.bin .add (.t 11) (.c (.s [10]))),zf 13 2 1,zl 14 13,z 15 (.bin .add (.t 12) (.t 14)),z 16 (.bin .add (.t 15) (.c (.s
 [10]))),zf 17 3 1,zl 18 17,z 19 (.bin .add (.t 16) (.t 18)),zm 2 19]) (.ret)))⟩
theorem c108 : cFun Tryz.prog Tryz.f108 = some p108 := by kernel_rfl
def p63 : PFun := ⟨8,[.t 2],.seq (.reg [] [z 1 (.box 26 (.t 0)),z 2 (.mov (.c (.s [])))]) (.seq (.seq (.reg [] [zL 3 8 1,z 4 (.call 56 [.t 3]),z 5 (.bin .neq (.t 4) (.c (.i .i64 0)))]) (.ite (.t
 5) (.seq (.reg [] [z 2 (.mov (.c (.s [])))]) (.ret)) (.skip))) (.seq (.reg [] [zL 6 8 1,z 7 (.call 108 [.t 6]),zm 2 7]) (.ret)))⟩
theorem c63 : cFun Tryz.prog Tryz.f63 = some p63 := by kernel_rfl
def p57 : PFun := ⟨20,[.c 2 (some 8)],.seq (.reg [] [z 1 (.box 33 (.t 0)),z 2 (.alloc 26 [.nil,.nil,.s [],.s [],.s [],.s [],.i .i64 0,.i .i64 0])]) (.seq (.seq (.reg [] [zf 4 3 1,zl 5 4,z
 6 (.bin .neq (.t 5) (.c (.i .i64 2)))]) (.ite (.t 6) (.seq (.reg [] [zf 7 4 1,zL 8 8 7,zs (.store 8 [some 3,some 3,none,none,none,none,none,none] (.t 2) (.t 8))]) (.ret))
 (.skip))) (.seq (.reg [] [zf 9 4 1,zL 10 8 9,z 3 (.alloc 26 [.nil,.nil,.s [],.s [],.s [],.s [],.i .i64 0,.i .i64 0]),zs (.store 8 [some 3,some 3,none,none,none,none,
 none,none] (.t 3) (.t 10))]) (.seq (.reg [] [zf 11 0 3,zl 12 11,zf 13 0 3,zl 14 13,zf 15 2 3,zl 16 15,zf 17 3 3,zl 18 17,z 19 (.build [.nil,.nil,.s [],.s [],.s [],.s
 [],.i .i64 0,.i .i64 0] [(0,1,.t 12),(1,1,.t 14),(2,1,.t 16),(3,1,.t 18),(7,1,.c (.i .i64 1))]),zs (.store 8 [some 3,some 3,none,none,none,none,none,none]
 (.t 2) (.t 19))]) (.ret))))⟩
theorem c57 : cFun Tryz.prog Tryz.f57 = some p57 := by kernel_rfl
def p55 : PFun := ⟨27,[.t 2],.seq (.reg [] [z 1 (.box 26 (.t 0)),z 2 (.mov (.c (.b false)))]) (.seq (.reg [8,9,10,13,14,15,18,19,20,23,24,25] [zf 3 1 1,zl 4 3,z 5 (.len false (.t 4)),
 z 6 (.bin .eql (.t 5) (.c (.i .i64 0))),zm 7 6,⟨some 8,[(7,true)],.fld 4 (.t 1)⟩,⟨some 9,[(7,true)],.load none (.t 8)⟩,⟨some 10,[(7,true)],.bin .eql (.t 9) (.c (.s
 []))⟩,z 11 (.pick (.t 7) (.t 10) (.c (.b false))),zm 12 11,⟨some 13,[(12,true)],.fld 5 (.t 1)⟩,⟨some 14,[(12,true)],.load none (.t 13)⟩,⟨some 15,[(12,true)],.bin .eql
 (.t 14) (.c (.s []))⟩,z 16 (.pick (.t 12) (.t 15) (.c (.b false))),zm 17 16,⟨some 18,[(17,true)],.fld 6 (.t 1)⟩,⟨some 19,[(17,true)],.load none (.t 18)⟩,⟨some 20,[(17,
 true)],.bin .eql (.t 19) (.c (.i .i64 0))⟩,z 21 (.pick (.t 17) (.t 20) (.c (.b false))),zm 22 21,⟨some 23,[(22,true)],.fld 7 (.t 1)⟩,⟨some 24,[(22,true)],.load none (.t
 23)⟩,⟨some 25,[(22,true)],.bin .eql (.t 24) (.c (.i .i64 0))⟩,z 26 (.pick (.t 22) (.t 25) (.c (.b false))),zm 2 26]) (.ret))⟩
theorem c55 : cFun Tryz.prog Tryz.f55 = some p55 := by kernel_rfl
def p21_0 : PCode := .seq (.reg [] [z 33 (.bin .lss (.t 32) (.t 31))]) (.seq (.ite (.t 33) (.skip) (.exit 0)) (.seq (.block 1 (.seq (.reg [] [z 34 (.idx 1 (.t 30) (.t 32)),zl 35 34,zm 5 35]) (.seq
 (.reg [] [zm 36 5,z 37 (.bin .gtr (.t 36) (.c (.i .i64 128)))]) (.ite (.t 37) (.seq (.reg [] [z 2 (.mov (.c (.i .i64 1)))]) (.ret)) (.skip))))) (.reg [] [z 38 (.bin .add (.t 32)
 (.c (.i .i64 1))),zm 32 38])))
def p21 : PFun := ⟨62,[.t 2],.seq (.reg [] [z 1 (.box 33 (.t 0)),z 2 (.mov (.c (.i .i64 0)))]) (.seq (.seq (.reg [] [zf 6 0 1,zL 7 3 6,z 8 (.call 51 [.t 7]),zm 3 8]) (.seq (.reg [] [zm 9 3,z
 10 (.bin .neq (.t 9) (.c (.i .i64 0)))]) (.ite (.t 10) (.seq (.reg [] [zm 11 3,zm 2 11]) (.ret)) (.skip)))) (.seq (.seq (.dreg [([zf 12 3 1,zl 13 12,z 14 (.bin .neq (.t 13) (.c
 (.i .i64 1))),zm 15 14,⟨some 16,[(15,true)],.fld 3 (.t 1)⟩,⟨some 17,[(15,true)],.load none (.t 16)⟩,⟨some 18,[(15,true)],.bin .neq (.t 17) (.c (.i .i64 2))⟩,z 19
 (.pick (.t 15) (.t 18) (.c (.b false))),zm 20 19,⟨some 21,[(20,false)],.fld 12 (.t 1)⟩,⟨some 22,[(20,false)],.load none (.t 21)⟩,⟨some 24,[(20,false)],.fld 12 (.t 1)⟩,
 ⟨some 25,[(20,false)],.load none (.t 24)⟩],⟨some 23,[(20,false)],.call 53 [.t 22]⟩,[⟨some 24,[(20,false)],.fld 12 (.t 1)⟩,⟨some 25,[(20,false)],.load none (.t 24)⟩])]
 [] [16,17,18,21,22,23,24,25,26,27] [⟨some 26,[(20,false)],.call 52 [.t 23,.t 25]⟩,⟨some 27,[(20,false)],.un .not (.t 26)⟩,z 28 (.pick (.t 20) (.c (.b true)) (.t
 27))]) (.ite (.t 28) (.seq (.reg [] [z 2 (.mov (.c (.i .i64 1)))]) (.ret)) (.skip))) (.seq (.seq (.reg [] [zf 29 12 1,zl 30 29,z 31 (.len false (.t 30)),z 32 (.mov (.c (.i .i64
 0)))]) (.block 0 (.loop p21_0))) (.seq (.seq (.dreg [([zf 39 12 1,zl 40 39,zf 41 0 1,zf 42 1 41,zl 43 42,zf 45 0 1,zf 46 2 45,zl 47 46,z 48 (.bin .sub (.t 47) (.c (.i .i64
 1)))],z 44 (.call 54 [.t 40,.t 43]),[zf 45 0 1,zf 46 2 45,zl 47 46])] [] [] [z 49 (.bin .neq (.t 44) (.t 48))]) (.ite (.t 49) (.seq (.reg [] [z 2 (.mov (.c (.i .i64 11)))])
 (.ret)) (.skip))) (.seq (.seq (.reg [54,55,56,57] [zf 50 3 1,zl 51 50,z 52 (.bin .eql (.t 51) (.c (.i .i64 2))),zm 53 52,⟨some 54,[(53,true)],.fld 4 (.t 1)⟩,⟨some 55,
 [(53,true)],.load (some 8) (.t 54)⟩,⟨some 56,[(53,true)],.call 55 [.t 55]⟩,⟨some 57,[(53,true)],.un .not (.t 56)⟩,z 58 (.pick (.t 53) (.t 57) (.c (.b false)))]) (.ite (.t
 58) (.seq (.reg [] [z 2 (.mov (.c (.i .i64 1)))]) (.ret)) (.skip))) (.seq (.reg [] [zL 59 13 1,z 60 (.call 57 [.t 59]),z 61 (.call 56 [.t 60]),zm 2 61]) (.ret)))))))⟩
theorem c21 : cFun Tryz.prog Tryz.f21 = some p21 := by kernel_rfl
def p23 : PFun := ⟨9,[.t 2],.seq (.reg [] [z 1 (.box 33 (.t 0)),z 2 (.mov (.c (.s [])))]) (.seq (.seq (.reg [] [zL 3 13 1,z 4 (.call 21 [.t 3]),z 5 (.bin .neq (.t 4) (.c (.i .i64 0)))]) (.ite
 (.t 5) (.seq (.reg [] [z 2 (.mov (.c (.s [])))]) (.ret)) (.skip))) (.seq (.reg [] [zL 6 13 1,z 7 (.call 57 [.t 6]),z 8 (.call 63 [.t 7]),zm 2 8]) (.ret)))⟩
theorem c23 : cFun Tryz.prog Tryz.f23 = some p23 := by kernel_rfl
def p103_0 : PCode := .seq (.seq (.reg [] [zm 12 3,zm 13 0,z 14 (.len true (.t 13)),z 15 (.bin .lss (.t 12) (.t 14))]) (.ite (.t 15) (.skip) (.exit 0))) (.block 1 (.seq (.reg [] [zm 17 0,zm 18 3,z
 19 (.sslice (.t 17) (some (.t 18)) none),z 20 (.call 136 [.t 19]),zm 16 20,z 21 (.ext 0 (.t 16)),z 22 (.ext 1 (.t 16)),z 23 (.ext 2 (.t 16)),z 6 (.alloc 23 [.i .i64 0,.s [],
 .i .i64 0]),zs (.store 3 [none,none,none] (.t 6) (.t 21)),zm 7 22,zm 8 23]) (.seq (.seq (.reg [] [zm 24 8,z 25 (.un .not (.t 24))]) (.ite (.t 25) (.seq (.reg [] [zm 26 3,z 2
 (.mov (.c .nil)),zm 3 26,z 4 (.mov (.c (.i .i64 2)))]) (.ret)) (.skip))) (.seq (.seq (.reg [] [zL 27 3 6,z 28 (.call 137 [.t 5,.t 27]),zm 9 28]) (.seq (.reg [] [zm 29 9,z 30
 (.bin .neq (.t 29) (.c (.i .i64 0)))]) (.ite (.t 30) (.seq (.reg [] [zm 31 3,zm 32 9,z 2 (.mov (.c .nil)),zm 3 31,zm 4 32]) (.ret)) (.skip)))) (.reg [] [zm 33 3,zm 34 7,z 35
 (.bin .add (.t 33) (.t 34)),zm 3 35])))))
def p103 : PFun := ⟨39,[.t 2,.t 3,.t 4],.seq (.reg [] [z 2 (.mov (.c .nil)),z 3 (.mov (.c (.i .i64 0))),z 4 (.mov (.c (.i .i64 0)))]) (.seq (.reg [] [z 10 (.mkmap 3 23),z 11 (.build [.nil,
 .nil,.i .i64 0,.nilmap] [(3,1,.t 10)]),z 5 (.alloc 149 [.nil,.nil,.i .i64 0,.nilmap]),zs (.store 4 [some 3,some 1,none,none] (.t 5) (.t 11))]) (.seq (.block 0 (.loop
 p103_0)) (.seq (.reg [] [z 36 (.call 138 [.t 5])]) (.seq (.reg [] [zf 37 0 5,zl 38 37,zm 2 38,z 3 (.mov (.c (.i .i64 0))),z 4 (.mov (.c (.i .i64 0)))]) (.ret)))))⟩
theorem c103 : cFun Tryz.prog Tryz.f103 = some p103 := by kernel_rfl
def p137 : PFun := ⟨123,[.t 4],.seq (.reg [] [z 3 (.box 23 (.t 1)),z 4 (.mov (.c (.i .i64 0)))]) (.seq (.reg [13,14,15] [zf 9 0 3,zl 10 9,z 11 (.bin .neq (.t 10) (.c (.i .i64 1))),zm 12 11,
 ⟨some 13,[(12,true)],.fld 0 (.t 3)⟩,⟨some 14,[(12,true)],.load none (.t 13)⟩,⟨some 15,[(12,true)],.bin .neq (.t 14) (.c (.i .i64 5))⟩,z 16 (.pick (.t 12) (.t 15) (.c (.b
 false))),zm 5 16]) (.seq (.seq (.reg [] [zm 17 5]) (.ite (.t 17) (.seq (.dreg [([zm 19 0,z 20 (.nilck (.t 19)),zf 21 3 20,zl 22 21,zf 23 2 3,zl 24 23,z 25 (.look 0 (.agg [.i
 .i64 0,.s [],.i .i64 0]) true (.t 22) (.t 24)),zm 18 25,z 26 (.ext 0 (.t 18)),z 27 (.ext 1 (.t 18))],z 6 (.alloc 23 [.i .i64 0,.s [],.i .i64 0]),[z 20 (.nilck (.t 19)),zf
 21 3 20,zl 22 21,zf 23 2 3,zl 24 23,z 25 (.look 0 (.agg [.i .i64 0,.s [],.i .i64 0]) true (.t 22) (.t 24))]),([],zs (.store 3 [none,none,none] (.t 6) (.t 26)),[])] [] []
 [zm 7 27]) (.seq (.dreg [([zm 28 7,zm 29 28,⟨some 30,[(29,true)],.fld 0 (.t 3)⟩,⟨some 31,[(29,true)],.load none (.t 30)⟩,⟨some 32,[(29,true)],.bin .neq (.t 31) (.c (.i
 .i64 3))⟩,⟨some 33,[(29,true)],.mov (.t 32)⟩,⟨some 34,[(29,true),(33,false)],.fld 0 (.t 6)⟩,⟨some 35,[(29,true),(33,false)],.load none (.t 34)⟩,⟨some 36,[(29,
 true),(33,false)],.bin .neq (.t 35) (.c (.i .i64 2))⟩,⟨some 37,[(29,true)],.pick (.t 33) (.c (.b true)) (.t 36)⟩,⟨some 38,[(29,true)],.mov (.t 37)⟩,⟨some 39,[(29,
 true),(38,false)],.fld 1 (.t 6)⟩,⟨some 40,[(29,true),(38,false)],.load none (.t 39)⟩,⟨some 42,[(29,true),(38,false)],.fld 1 (.t 3)⟩,⟨some 43,[(29,true),(38,
 false)],.load none (.t 42)⟩],⟨some 41,[(29,true),(38,false)],.call 169 [.t 40]⟩,[⟨some 42,[(29,true),(38,false)],.fld 1 (.t 3)⟩,⟨some 43,[(29,true),(38,false)],
 .load none (.t 42)⟩])] [] [30,31,32,33,34,35,36,37,38,39,40,41,42,43,44,45] [⟨some 44,[(29,true),(38,false)],.bin .neq (.t 41) (.t 43)⟩,⟨some 45,[(29,true)],
 .pick (.t 38) (.c (.b true)) (.t 44)⟩,z 46 (.pick (.t 29) (.t 45) (.c (.b false)))]) (.ite (.t 46) (.seq (.reg [] [z 4 (.mov (.c (.i .i64 7)))]) (.ret)) (.skip)))) (.skip))) (.seq
 (.reg [] [zm 47 0,z 48 (.nilck (.t 47)),zf 49 0 48,zl 50 49,z 51 (.len false (.t 50)),zm 8 51]) (.seq (.seq (.reg [] [zm 52 0,z 53 (.nilck (.t 52)),zf 54 1 53,zl 55 54,z 56
 (.len false (.t 55)),z 57 (.bin .gtr (.t 56) (.c (.i .i64 0)))]) (.ite (.t 57) (.reg [] [zm 58 8,z 59 (.bin .add (.t 58) (.c (.i .i64 1))),zm 8 59]) (.skip))) (.seq (.seq (.reg
 [64,65,66,67,68,69] [zf 60 0 3,zl 61 60,z 62 (.bin .neq (.t 61) (.c (.i .i64 1))),zm 63 62,⟨some 64,[(63,false)],.mov (.t 0)⟩,⟨some 65,[(63,false)],.nilck (.t 64)⟩,
 ⟨some 66,[(63,false)],.fld 1 (.t 65)⟩,⟨some 67,[(63,false)],.load none (.t 66)⟩,⟨some 68,[(63,false)],.len false (.t 67)⟩,⟨some 69,[(63,false)],.bin .eql (.t 68) (.c
 (.i .i64 0))⟩,z 70 (.pick (.t 63) (.c (.b true)) (.t 69))]) (.ite (.t 70) (.reg [] [zm 71 8,z 72 (.bin .add (.t 71) (.c (.i .i64 1))),zm 8 72]) (.skip))) (.seq (.seq (.reg [76,
 77,78,79,80,81] [zm 73 8,z 74 (.bin .gtr (.t 73) (.c (.i .i64 512))),zm 75 74,⟨some 76,[(75,false)],.mov (.t 0)⟩,⟨some 77,[(75,false)],.nilck (.t 76)⟩,⟨some 78,[(75,
 false)],.fld 2 (.t 77)⟩,⟨some 79,[(75,false)],.load none (.t 78)⟩,⟨some 80,[(75,false)],.bin .add (.t 79) (.c (.i .i64 1))⟩,⟨some 81,[(75,false)],.bin .gtr (.t 80) (.c
 (.i .i64 1024))⟩,z 82 (.pick (.t 75) (.c (.b true)) (.t 81))]) (.ite (.t 82) (.seq (.reg [] [z 4 (.mov (.c (.i .i64 3)))]) (.ret)) (.skip))) (.seq (.reg [] [zm 83 0,z 84 (.nilck
 (.t 83)),zf 85 2 84,zl 86 85,z 87 (.bin .add (.t 86) (.c (.i .i64 1))),z 88 (.nilck (.t 83)),zf 89 2 88,zs (.store 1 [none] (.t 89) (.t 87))]) (.seq (.seq (.reg [] [zf 90 0 3,
 zl 91 90,z 92 (.bin .eql (.t 91) (.c (.i .i64 1)))]) (.ite (.t 92) (.seq (.dreg [([zm 93 0,zm 94 0,z 95 (.nilck (.t 94)),zf 96 1 95,zl 97 96,zf 98 1 3,zl 99 98],z 100 (.apps
 5 (.t 97) (.t 99)),[])] [] [] [z 101 (.nilck (.t 93)),zf 102 1 101,zs (.store 1 [some 1] (.t 102) (.t 100))]) (.seq (.reg [] [z 4 (.mov (.c (.i .i64 0)))]) (.ret))) (.skip)))
 (.seq (.seq (.reg [] [zm 103 5]) (.ite (.t 103) (.dreg [] [zm 104 0,z 105 (.nilck (.t 104)),zf 106 3 105,zl 107 106,zf 108 2 3,zl 109 108,zL 110 3 3] [] [zs (.mupd 0 [none,
 none,none] (.t 107) (.t 109) (.t 110))]) (.skip))) (.seq (.reg [] [zm 111 0,z 112 (.call 138 [.t 111])]) (.seq (.dreg [([zm 113 0,zm 114 0,z 115 (.nilck (.t 114)),zf 116 0 115,
 zl 117 116,zL 118 3 3,z 119 (.bslice 3 [none,none,none] [.t 118])],z 120 (.app 23 3 32 (.t 117) (.t 119)),[])] [] [] [z 121 (.nilck (.t 113)),zf 122 0 121,zs (.store 1 [some
 3] (.t 122) (.t 120))]) (.seq (.reg [] [z 4 (.mov (.c (.i .i64 0)))]) (.ret)))))))))))))⟩
theorem c137 : cFun Tryz.prog Tryz.f137 = some p137 := by kernel_rfl
def p138 : PFun := ⟨26,[],.seq (.reg [] [zm 2 0,z 3 (.nilck (.t 2)),zf 4 1 3,zl 5 4,z 6 (.len false (.t 5)),z 7 (.bin .gtr (.t 6) (.c (.i .i64 0)))]) (.ite (.t 7) (.seq (.dreg [([zm 8 0,zm 9
 0,z 10 (.nilck (.t 9)),zf 11 0 10,zl 12 11,zm 13 0,z 14 (.nilck (.t 13)),zf 15 1 14,zl 16 15,z 17 (.b2s (.t 16)),z 18 (.build [.i .i64 0,.s [],.i .i64 0] [(0,1,.c (.i
 .i64 1)),(1,1,.t 17)]),z 19 (.bslice 3 [none,none,none] [.t 18])],z 20 (.app 23 3 32 (.t 12) (.t 19)),[])] [] [] [z 21 (.nilck (.t 8)),zf 22 0 21,zs (.store 1 [some 3] (.t
 22) (.t 20))]) (.reg [] [zm 23 0,z 24 (.nilck (.t 23)),zf 25 1 24,zs (.store 1 [some 1] (.t 25) (.c .nil))])) (.skip))⟩
theorem c138 : cFun Tryz.prog Tryz.f138 = some p138 := by kernel_rfl
def p79_0 : PCode := .seq (.reg [] [z 17 (.bin .lss (.t 16) (.t 15))]) (.seq (.ite (.t 17) (.skip) (.exit 0)) (.seq (.block 1 (.seq (.reg [] [z 18 (.idx 3 (.t 14) (.t 16)),zL 19 3 18,z 7 (.alloc 23
 [.i .i64 0,.s [],.i .i64 0]),zs (.store 3 [none,none,none] (.t 7) (.t 19))]) (.seq (.reg [] [zf 20 2 7,zl 21 20,z 22 (.call 114 [.t 21]),zm 8 22]) (.seq (.reg [] [zf 23 0 7,
 zl 24 23]) (.block 2 (.seq (.reg [] [z 26 (.bin .eql (.t 24) (.c (.i .i64 1))),zm 25 26]) (.ite (.t 25) (.reg [] [zm 27 5,zf 28 1 7,zl 29 28,z 30 (.call 115 [.t 27,.t 29]),zm
 5 30]) (.seq (.reg [] [z 32 (.bin .eql (.t 24) (.c (.i .i64 2))),zm 31 32]) (.ite (.t 31) (.reg [] [zm 33 5,zm 34 8,z 35 (.bin .add (.c (.s [60])) (.t 34)),z 36 (.bin .add (.t
 35) (.c (.s [58]))),zf 37 1 7,zl 38 37,z 39 (.bin .add (.t 36) (.t 38)),z 40 (.bin .add (.t 39) (.c (.s [62]))),z 41 (.apps 5 (.t 33) (.t 40)),zm 5 41]) (.seq (.reg [] [z 43
 (.bin .eql (.t 24) (.c (.i .i64 3))),zm 42 43]) (.ite (.t 42) (.reg [] [zm 44 5,zm 45 8,z 46 (.bin .add (.c (.s [60,47])) (.t 45)),z 47 (.bin .add (.t 46) (.c (.s [58]))),zf
 48 1 7,zl 49 48,z 50 (.bin .add (.t 47) (.t 49)),z 51 (.bin .add (.t 50) (.c (.s [62]))),z 52 (.apps 5 (.t 44) (.t 51)),zm 5 52]) (.seq (.reg [] [z 54 (.bin .eql (.t 24) (.c
 (.i .i64 4))),zm 53 54]) (.ite (.t 53) (.reg [] [zm 55 5,zm 56 8,z 57 (.bin .add (.c (.s [60])) (.t 56)),z 58 (.bin .add (.t 57) (.c (.s [58]))),zf 59 1 7,zl 60 59,z 61 (.bin
 .add (.t 58) (.t 60)),z 62 (.bin .add (.t 61) (.c (.s [47,62]))),z 63 (.apps 5 (.t 55) (.t 62)),zm 5 63]) (.seq (.reg [] [z 65 (.bin .eql (.t 24) (.c (.i .i64 5))),zm 64 65])
 (.ite (.t 64) (.reg [] [zm 66 5,zf 67 1 7,zl 68 67,z 69 (.bin .add (.c (.s [123])) (.t 68)),z 70 (.bin .add (.t 69) (.c (.s [125]))),z 71 (.apps 5 (.t 66) (.t 70)),zm 5 71])
 (.skip)))))))))))))))) (.reg [] [z 72 (.bin .add (.t 16) (.c (.i .i64 1))),zm 16 72])))
def p79 : PFun := ⟨75,[.t 2,.t 3],.seq (.reg [] [z 2 (.mov (.c (.s []))),z 3 (.mov (.c (.i .i64 0)))]) (.seq (.seq (.reg [] [zm 9 0,z 10 (.call 100 [.t 9]),zm 4 10]) (.seq (.reg [] [zm 11 4,z
 12 (.bin .neq (.t 11) (.c (.i .i64 0)))]) (.ite (.t 12) (.seq (.reg [] [zm 13 4,z 2 (.mov (.c (.s []))),zm 3 13]) (.ret)) (.skip)))) (.seq (.reg [] [z 5 (.mov (.c .nil))]) (.seq
 (.seq (.reg [] [zm 14 0,z 15 (.len false (.t 14)),z 16 (.mov (.c (.i .i64 0)))]) (.block 0 (.loop p79_0))) (.seq (.reg [] [zm 73 5,z 74 (.b2s (.t 73)),zm 2 74,z 3 (.mov (.c (.i
 .i64 0)))]) (.ret)))))⟩
theorem c79 : cFun Tryz.prog Tryz.f79 = some p79 := by kernel_rfl
def p116 : PFun := ⟨38,[.t 4],.seq (.reg [] [z 4 (.mov (.c .nil))]) (.seq (.seq (.reg [] [zm 6 1,zm 7 0,z 8 (.nilck (.t 7)),zf 9 0 8,zl 10 9,z 11 (.len false (.t 10)),z 12 (.bin .gtr (.t 6)
 (.t 11))]) (.ite (.t 12) (.seq (.reg [] [zm 13 0,zm 14 0,z 15 (.nilck (.t 13)),zf 16 1 15,zs (.store 1 [none] (.t 16) (.c (.b true))),z 17 (.nilck (.t 14)),zf 18 0 17,zs
 (.store 1 [some 1] (.t 18) (.c .nil))]) (.seq (.reg [] [zm 19 1,z 20 (.min2 (.t 19) (.c (.i .i64 4))),z 21 (.mk 5 1 1 [.i .u8 0] (.t 20) (.t 20)),zm 4 21]) (.ret))) (.skip)))
 (.seq (.reg [] [zm 22 0,z 23 (.nilck (.t 22)),zf 24 0 23,zl 25 24,zm 26 1,z 27 (.slice 1 (.t 25) none (some (.t 26))),zm 5 27]) (.seq (.reg [] [zm 28 0,zm 29 0,z 30 (.nilck
 (.t 29)),zf 31 0 30,zl 32 31,zm 33 1,z 34 (.slice 1 (.t 32) (some (.t 33)) none),z 35 (.nilck (.t 28)),zf 36 0 35,zs (.store 1 [some 1] (.t 36) (.t 34))]) (.seq (.reg [] [zm
 37 5,zm 4 37]) (.ret)))))⟩
theorem c116 : cFun Tryz.prog Tryz.f116 = some p116 := by kernel_rfl
def p84_0 : PCode := .seq (.reg [] [z 13 (.bin .lss (.t 12) (.t 11))]) (.seq (.ite (.t 13) (.skip) (.exit 0)) (.seq (.block 1 (.seq (.reg [] [z 14 (.idx 1 (.t 10) (.t 12)),zl 15 14,zm 7 15]) (.reg []
 [zm 16 5,z 17 (.bin .shl (.t 16) (.c (.i .u64 8))),zm 18 7,z 19 (.cvi .i64 (.t 18)),z 20 (.bin .or (.t 17) (.t 19)),zm 5 20]))) (.reg [] [z 21 (.bin .add (.t 12) (.c (.i .i64
 1))),zm 12 21])))
def p84 : PFun := ⟨23,[.t 4],.seq (.reg [] [z 4 (.mov (.c (.i .i64 0)))]) (.seq (.reg [] [z 5 (.mov (.c (.i .i64 0)))]) (.seq (.seq (.reg [] [zm 8 0,zm 9 1,z 10 (.call 116 [.t 8,.t 9]),z 11
 (.len false (.t 10)),z 12 (.mov (.c (.i .i64 0)))]) (.block 0 (.loop p84_0))) (.seq (.reg [] [zm 22 5,zm 4 22]) (.ret))))⟩
theorem c84 : cFun Tryz.prog Tryz.f84 = some p84 := by kernel_rfl
def p86 : PFun := ⟨20,[.t 2],.seq (.reg [] [z 2 (.mov (.c (.s [])))]) (.seq (.reg [] [zm 4 0,z 5 (.call 84 [.t 4,.c (.i .i64 4)]),zm 3 5]) (.seq (.seq (.reg [] [zm 6 3,zm 7 0,z 8 (.nilck (.t
 7)),zf 9 0 8,zl 10 9,z 11 (.len false (.t 10)),z 12 (.bin .gtr (.t 6) (.t 11))]) (.ite (.t 12) (.seq (.reg [] [zm 13 0,z 14 (.nilck (.t 13)),zf 15 1 14,zs (.store 1 [none]
 (.t 15) (.c (.b true)))]) (.seq (.reg [] [z 2 (.mov (.c (.s [])))]) (.ret))) (.skip))) (.seq (.reg [] [zm 16 0,zm 17 3,z 18 (.call 116 [.t 16,.t 17]),z 19 (.b2s (.t 18)),zm 2
 19]) (.ret))))⟩
theorem c86 : cFun Tryz.prog Tryz.f86 = some p86 := by kernel_rfl
def p85 : PFun := ⟨25,[.t 2],.seq (.reg [] [z 2 (.mov (.c .nil))]) (.seq (.reg [] [zm 7 0,z 8 (.call 86 [.t 7]),z 9 (.call 103 [.t 8]),zm 6 9,z 10 (.ext 0 (.t 6)),z 11 (.ext 1 (.t 6)),z 12
 (.ext 2 (.t 6)),zm 3 10,zm 4 11,zm 5 12]) (.seq (.reg [19,20] [zm 13 0,zm 14 0,z 15 (.nilck (.t 14)),zf 16 1 15,zl 17 16,zm 18 17,⟨some 19,[(18,false)],.mov (.t 5)⟩,
 ⟨some 20,[(18,false)],.bin .neq (.t 19) (.c (.i .i64 0))⟩,z 21 (.pick (.t 18) (.c (.b true)) (.t 20)),z 22 (.nilck (.t 13)),zf 23 1 22,zs (.store 1 [none] (.t 23) (.t 21))])
 (.seq (.reg [] [zm 24 3,zm 2 24]) (.ret))))⟩
theorem c85 : cFun Tryz.prog Tryz.f85 = some p85 := by kernel_rfl
def p42_0 : PCode := .seq (.reg [] [z 28 (.bin .lss (.t 27) (.t 26))]) (.seq (.ite (.t 28) (.skip) (.exit 0)) (.seq (.block 1 (.dreg [([zf 29 12 5,zl 30 29,zm 31 4],z 32 (.call 84 [.t 31,.c (.i .i64
 2)]),[zf 29 12 5,zl 30 29])] [z 33 (.bslice 1 [none] [.t 32])] [] [z 34 (.app 3 1 8 (.t 30) (.t 33)),zf 35 12 5,zs (.store 1 [some 1] (.t 35) (.t 34))])) (.reg [] [z 36 (.bin
 .add (.t 27) (.c (.i .i64 1))),zm 27 36])))
def p42 : PFun := ⟨104,[.c 2 (some 13),.t 3],.seq (.reg [] [z 2 (.alloc 33 [.i .i64 0,.i .i64 0,.i .i64 0,.i .i64 0,.nil,.nil,.s [],.s [],.s [],.s [],.i .i64 0,.i .i64 0,.nil]),z 3
 (.mov (.c (.i .i64 0)))]) (.seq (.reg [] [zm 9 0,z 10 (.build [.nil,.b false] [(0,1,.t 9)]),z 11 (.box 110 (.t 10)),zm 4 11]) (.seq (.reg [] [z 5 (.alloc 33 [.i .i64 0,.i
 .i64 0,.i .i64 0,.i .i64 0,.nil,.nil,.s [],.s [],.s [],.s [],.i .i64 0,.i .i64 0,.nil])]) (.seq (.reg [] [zm 12 4,z 13 (.call 84 [.t 12,.c (.i .i64 1)]),zm 6 13])
 (.seq (.reg [] [zm 14 4,z 15 (.call 84 [.t 14,.c (.i .i64 1)]),zf 16 3 5,zs (.store 1 [none] (.t 16) (.t 15))]) (.seq (.reg [] [zm 17 4,z 18 (.call 84 [.t 17,.c (.i .i64 4)]),
 zm 19 4,z 20 (.call 84 [.t 19,.c (.i .i64 1)]),zm 21 4,z 22 (.call 84 [.t 21,.c (.i .i64 2)]),z 23 (.build [.i .i64 0,.i .i64 0,.i .i64 0] [(0,1,.t 18),(1,1,.t 20),(2,
 1,.t 22)]),zf 24 0 5,zs (.store 3 [none,none,none] (.t 24) (.t 23))]) (.seq (.seq (.reg [] [zm 25 4,z 26 (.call 84 [.t 25,.c (.i .i64 1)]),z 27 (.mov (.c (.i .i64 0)))])
 (.block 0 (.loop p42_0))) (.seq (.reg [] [zm 37 4,z 38 (.call 85 [.t 37]),zf 39 4 5,zf 40 0 39,zs (.store 1 [some 3] (.t 40) (.t 38))]) (.seq (.reg [] [zm 41 4,z 42 (.call 86
 [.t 41]),zf 43 4 5,zf 44 2 43,zs (.store 1 [none] (.t 44) (.t 42))]) (.seq (.reg [] [zm 45 4,z 46 (.call 86 [.t 45]),zf 47 4 5,zf 48 3 47,zs (.store 1 [none] (.t 48) (.t
 46))]) (.seq (.seq (.reg [] [zf 49 3 5,zl 50 49,z 51 (.bin .eql (.t 50) (.c (.i .i64 1)))]) (.ite (.t 51) (.seq (.reg [] [zm 52 4,z 53 (.call 85 [.t 52]),zf 54 4 5,zf 55 1 54,
 zs (.store 1 [some 3] (.t 55) (.t 53))]) (.seq (.reg [] [zm 56 4,z 57 (.call 86 [.t 56]),zf 58 4 5,zf 59 4 58,zs (.store 1 [none] (.t 59) (.t 57))]) (.seq (.reg [] [zm 60 4,z
 61 (.call 86 [.t 60]),zf 62 4 5,zf 63 5 62,zs (.store 1 [none] (.t 63) (.t 61))]) (.seq (.reg [] [zm 64 4,z 65 (.call 84 [.t 64,.c (.i .i64 4)]),zf 66 4 5,zf 67 6 66,zs
 (.store 1 [none] (.t 67) (.t 65))]) (.reg [] [zm 68 4,z 69 (.call 84 [.t 68,.c (.i .i64 1)]),zf 70 4 5,zf 71 7 70,zs (.store 1 [none] (.t 71) (.t 69))]))))) (.skip))) (.seq
 (.seq (.reg [77,78,79,80,81,82,85,86] [zm 72 4,z 73 (.nilck (.t 72)),zf 74 1 73,zl 75 74,zm 76 75,⟨some 77,[(76,false)],.mov (.t 4)⟩,⟨some 78,[(76,false)],.nilck
 (.t 77)⟩,⟨some 79,[(76,false)],.fld 0 (.t 78)⟩,⟨some 80,[(76,false)],.load none (.t 79)⟩,⟨some 81,[(76,false)],.len false (.t 80)⟩,⟨some 82,[(76,false)],.bin .gtr
 (.t 81) (.c (.i .i64 0))⟩,z 83 (.pick (.t 76) (.c (.b true)) (.t 82)),zm 84 83,⟨some 85,[(84,false)],.mov (.t 6)⟩,⟨some 86,[(84,false)],.bin .neq (.t 85) (.c (.i .i64
 1))⟩,z 87 (.pick (.t 84) (.c (.b true)) (.t 86))]) (.ite (.t 87) (.seq (.reg [] [z 88 (.build [.i .i64 0,.i .i64 0,.i .i64 0,.i .i64 0,.nil,.nil,.s [],.s [],.s [],.s [],
 .i .i64 0,.i .i64 0,.nil] []),zs (.store 13 [none,none,none,none,some 3,some 3,none,none,none,none,none,none,some 1] (.t 2) (.t 88)),z 3 (.mov (.c (.i .i64 12)))])
 (.ret)) (.skip))) (.seq (.reg [] [zL 90 13 5,z 91 (.call 39 [.t 90]),zm 89 91,z 92 (.ext 0 (.t 89)),z 93 (.ext 1 (.t 89)),zm 7 92,zm 8 93]) (.seq (.seq (.reg [97,98,99,100]
 [zm 94 8,z 95 (.bin .neq (.t 94) (.c (.i .i64 0))),zm 96 95,⟨some 97,[(96,false)],.mov (.t 7)⟩,⟨some 98,[(96,false)],.mov (.t 0)⟩,⟨some 99,[(96,false)],.call 87 [.t
 97,.t 98]⟩,⟨some 100,[(96,false)],.un .not (.t 99)⟩,z 101 (.pick (.t 96) (.c (.b true)) (.t 100))]) (.ite (.t 101) (.seq (.reg [] [z 102 (.build [.i .i64 0,.i .i64 0,.i .i64
 0,.i .i64 0,.nil,.nil,.s [],.s [],.s [],.s [],.i .i64 0,.i .i64 0,.nil] []),zs (.store 13 [none,none,none,none,some 3,some 3,none,none,none,none,none,none,
 some 1] (.t 2) (.t 102)),z 3 (.mov (.c (.i .i64 12)))]) (.ret)) (.skip))) (.seq (.reg [] [zL 103 13 5,zs (.store 13 [none,none,none,none,some 3,some 3,none,none,none,
 none,none,none,some 1] (.t 2) (.t 103)),z 3 (.mov (.c (.i .i64 0)))]) (.ret)))))))))))))))⟩
theorem c42 : cFun Tryz.prog Tryz.f42 = some p42 := by kernel_rfl
def p87 : PFun := ⟨10,[.t 4],.seq (.reg [] [z 4 (.mov (.c (.b false)))]) (.seq (.reg [] [zm 5 0,z 6 (.b2s (.t 5)),zm 7 1,z 8 (.b2s (.t 7)),z 9 (.bin .eql (.t 6) (.t 8)),zm 4 9]) (.ret))⟩
theorem c87 : cFun Tryz.prog Tryz.f87 = some p87 := by kernel_rfl
def p88_0 : PCode := .seq (.reg [] [z 26 (.bin .lss (.t 25) (.t 24))]) (.seq (.ite (.t 26) (.skip) (.exit 0)) (.seq (.block 1 (.seq (.reg [] [z 27 (.idx 1 (.t 23) (.t 25)),zl 28 27,zm 7 28]) (.reg []
 [zm 29 5,z 30 (.bin .shl (.t 29) (.c (.i .u64 8))),zm 31 7,z 32 (.cvi .i64 (.t 31)),z 33 (.bin .or (.t 30) (.t 32)),zm 5 33]))) (.reg [] [z 34 (.bin .add (.t 25) (.c (.i .i64
 1))),zm 25 34])))
def p88 : PFun := ⟨45,[.t 4],.seq (.reg [] [z 4 (.mov (.c (.i .i64 0)))]) (.seq (.seq (.reg [] [zm 8 0,z 9 (.nilck (.t 8)),zf 10 0 9,zl 11 10,z 12 (.len false (.t 11)),zm 13 1,z 14 (.bin .lss
 (.t 12) (.t 13))]) (.ite (.t 14) (.seq (.reg [] [zm 15 0,z 16 (.nilck (.t 15)),zf 17 1 16,zs (.store 1 [none] (.t 17) (.c (.b true)))]) (.seq (.reg [] [z 4 (.mov (.c (.i .i64
 0)))]) (.ret))) (.skip))) (.seq (.reg [] [z 5 (.mov (.c (.i .i64 0)))]) (.seq (.seq (.reg [] [zm 18 0,z 19 (.nilck (.t 18)),zf 20 0 19,zl 21 20,zm 22 1,z 23 (.slice 1 (.t 21)
 none (some (.t 22))),z 24 (.len false (.t 23)),z 25 (.mov (.c (.i .i64 0)))]) (.block 0 (.loop p88_0))) (.seq (.reg [] [zm 35 0,zm 36 0,z 37 (.nilck (.t 36)),zf 38 0 37,zl 39
 38,zm 40 1,z 41 (.slice 1 (.t 39) (some (.t 40)) none),z 42 (.nilck (.t 35)),zf 43 0 42,zs (.store 1 [some 1] (.t 43) (.t 41))]) (.seq (.reg [] [zm 44 5,zm 4 44]) (.ret))))))⟩
theorem c88 : cFun Tryz.prog Tryz.f88 = some p88 := by kernel_rfl
def p90 : PFun := ⟨40,[.t 2],.seq (.reg [] [z 2 (.mov (.c (.s [])))]) (.seq (.reg [] [zm 5 0,z 6 (.call 88 [.t 5,.c (.i .i64 4)]),zm 3 6]) (.seq (.seq (.reg [12,13,14,15,16,17,18] [zm 7 0,
 z 8 (.nilck (.t 7)),zf 9 1 8,zl 10 9,zm 11 10,⟨some 12,[(11,false)],.mov (.t 3)⟩,⟨some 13,[(11,false)],.mov (.t 0)⟩,⟨some 14,[(11,false)],.nilck (.t 13)⟩,⟨some 15,
 [(11,false)],.fld 0 (.t 14)⟩,⟨some 16,[(11,false)],.load none (.t 15)⟩,⟨some 17,[(11,false)],.len false (.t 16)⟩,⟨some 18,[(11,false)],.bin .gtr (.t 12) (.t 17)⟩,z 19
 (.pick (.t 11) (.c (.b true)) (.t 18))]) (.ite (.t 19) (.seq (.reg [] [zm 20 0,z 21 (.nilck (.t 20)),zf 22 1 21,zs (.store 1 [none] (.t 22) (.c (.b true)))]) (.seq (.reg [] [z 2
 (.mov (.c (.s [])))]) (.ret))) (.skip))) (.seq (.reg [] [zm 23 0,z 24 (.nilck (.t 23)),zf 25 0 24,zl 26 25,zm 27 3,z 28 (.slice 1 (.t 26) none (some (.t 27))),z 29 (.b2s (.t
 28)),zm 4 29]) (.seq (.reg [] [zm 30 0,zm 31 0,z 32 (.nilck (.t 31)),zf 33 0 32,zl 34 33,zm 35 3,z 36 (.slice 1 (.t 34) (some (.t 35)) none),z 37 (.nilck (.t 30)),zf 38 0
 37,zs (.store 1 [some 1] (.t 38) (.t 36))]) (.seq (.reg [] [zm 39 4,zm 2 39]) (.ret))))))⟩
theorem c90 : cFun Tryz.prog Tryz.f90 = some p90 := by kernel_rfl
def p89 : PFun := ⟨25,[.t 2],.seq (.reg [] [z 2 (.mov (.c .nil))]) (.seq (.reg [] [zm 7 0,z 8 (.call 90 [.t 7]),z 9 (.call 106 [.t 8]),zm 6 9,z 10 (.ext 0 (.t 6)),z 11 (.ext 1 (.t 6)),z 12
 (.ext 2 (.t 6)),zm 3 10,zm 4 11,zm 5 12]) (.seq (.reg [19,20] [zm 13 0,zm 14 0,z 15 (.nilck (.t 14)),zf 16 1 15,zl 17 16,zm 18 17,⟨some 19,[(18,false)],.mov (.t 5)⟩,
 ⟨some 20,[(18,false)],.bin .neq (.t 19) (.c (.i .i64 0))⟩,z 21 (.pick (.t 18) (.c (.b true)) (.t 20)),z 22 (.nilck (.t 13)),zf 23 1 22,zs (.store 1 [none] (.t 23) (.t 21))])
 (.seq (.reg [] [zm 24 3,zm 2 24]) (.ret))))⟩
theorem c89 : cFun Tryz.prog Tryz.f89 = some p89 := by kernel_rfl
def p43_0 : PCode := .seq (.seq (.reg [36,37,38,39,40] [zm 33 6,z 34 (.bin .gtr (.t 33) (.c (.i .i64 0))),zm 35 34,⟨some 36,[(35,true)],.mov (.t 4)⟩,⟨some 37,[(35,true)],.nilck (.t 36)⟩,
 ⟨some 38,[(35,true)],.fld 1 (.t 37)⟩,⟨some 39,[(35,true)],.load none (.t 38)⟩,⟨some 40,[(35,true)],.un .not (.t 39)⟩,z 41 (.pick (.t 35) (.t 40) (.c (.b false)))]) (.ite
 (.t 41) (.skip) (.exit 0))) (.seq (.block 1 (.dreg [([zf 44 12 5,zl 45 44,zm 46 4],z 47 (.call 88 [.t 46,.c (.i .i64 2)]),[zf 44 12 5,zl 45 44])] [z 48 (.bslice 1 [none] [.t
 47])] [] [z 49 (.app 3 1 8 (.t 45) (.t 48)),zf 50 12 5,zs (.store 1 [some 1] (.t 50) (.t 49))])) (.reg [] [zm 42 6,z 43 (.bin .sub (.t 42) (.c (.i .i64 1))),zm 6 43]))
def p43 : PFun := ⟨105,[.c 2 (some 13),.t 3],.seq (.reg [] [z 2 (.alloc 33 [.i .i64 0,.i .i64 0,.i .i64 0,.i .i64 0,.nil,.nil,.s [],.s [],.s [],.s [],.i .i64 0,.i .i64 0,.nil]),z 3
 (.mov (.c (.i .i64 0)))]) (.seq (.reg [] [zm 7 0,z 8 (.build [.nil,.b false] [(0,1,.t 7)]),z 9 (.box 115 (.t 8)),zm 4 9]) (.seq (.reg [] [zm 10 4,zm 11 4,z 12 (.call 88 [.t
 11,.c (.i .i64 1)]),z 13 (.bin .neq (.t 12) (.c (.i .i64 1))),z 14 (.nilck (.t 10)),zf 15 1 14,zs (.store 1 [none] (.t 15) (.t 13))]) (.seq (.reg [] [zm 16 4,z 17 (.call 88
 [.t 16,.c (.i .i64 1)]),z 18 (.build [.i .i64 0,.i .i64 0,.i .i64 0,.i .i64 0,.nil,.nil,.s [],.s [],.s [],.s [],.i .i64 0,.i .i64 0,.nil] [(3,1,.t 17)]),z 5 (.alloc
 33 [.i .i64 0,.i .i64 0,.i .i64 0,.i .i64 0,.nil,.nil,.s [],.s [],.s [],.s [],.i .i64 0,.i .i64 0,.nil]),zs (.store 13 [none,none,none,none,some 3,some 3,none,
 none,none,none,none,none,some 1] (.t 5) (.t 18))]) (.seq (.reg [] [zm 19 4,z 20 (.call 88 [.t 19,.c (.i .i64 4)]),zf 21 0 5,zf 22 0 21,zs (.store 1 [none] (.t 22) (.t
 20))]) (.seq (.reg [] [zm 23 4,z 24 (.call 88 [.t 23,.c (.i .i64 1)]),zf 25 0 5,zf 26 1 25,zs (.store 1 [none] (.t 26) (.t 24))]) (.seq (.reg [] [zm 27 4,z 28 (.call 88 [.t
 27,.c (.i .i64 2)]),zf 29 0 5,zf 30 2 29,zs (.store 1 [none] (.t 30) (.t 28))]) (.seq (.seq (.reg [] [zm 31 4,z 32 (.call 88 [.t 31,.c (.i .i64 1)]),zm 6 32]) (.block 0
 (.loop p43_0))) (.seq (.reg [] [zm 51 4,z 52 (.call 89 [.t 51]),zf 53 4 5,zf 54 0 53,zs (.store 1 [some 3] (.t 54) (.t 52))]) (.seq (.reg [] [zm 55 4,z 56 (.call 90 [.t 55]),
 zf 57 4 5,zf 58 2 57,zs (.store 1 [none] (.t 58) (.t 56))]) (.seq (.reg [] [zm 59 4,z 60 (.call 90 [.t 59]),zf 61 4 5,zf 62 3 61,zs (.store 1 [none] (.t 62) (.t 60))]) (.seq
 (.seq (.reg [] [zf 63 3 5,zl 64 63,z 65 (.bin .eql (.t 64) (.c (.i .i64 1)))]) (.ite (.t 65) (.seq (.reg [] [zm 66 4,z 67 (.call 89 [.t 66]),zf 68 4 5,zf 69 1 68,zs (.store 1
 [some 3] (.t 69) (.t 67))]) (.seq (.reg [] [zm 70 4,z 71 (.call 90 [.t 70]),zf 72 4 5,zf 73 4 72,zs (.store 1 [none] (.t 73) (.t 71))]) (.seq (.reg [] [zm 74 4,z 75 (.call 90
 [.t 74]),zf 76 4 5,zf 77 5 76,zs (.store 1 [none] (.t 77) (.t 75))]) (.seq (.reg [] [zm 78 4,z 79 (.call 88 [.t 78,.c (.i .i64 4)]),zf 80 4 5,zf 81 6 80,zs (.store 1 [none]
 (.t 81) (.t 79))]) (.reg [] [zm 82 4,z 83 (.call 88 [.t 82,.c (.i .i64 1)]),zf 84 4 5,zf 85 7 84,zs (.store 1 [none] (.t 85) (.t 83))]))))) (.skip))) (.seq (.seq (.reg [91,92,
 93,94,95,96,99,100,101] [zm 86 4,z 87 (.nilck (.t 86)),zf 88 1 87,zl 89 88,zm 90 89,⟨some 91,[(90,false)],.mov (.t 4)⟩,⟨some 92,[(90,false)],.nilck (.t 91)⟩,⟨some
 93,[(90,false)],.fld 0 (.t 92)⟩,⟨some 94,[(90,false)],.load none (.t 93)⟩,⟨some 95,[(90,false)],.len false (.t 94)⟩,⟨some 96,[(90,false)],.bin .gtr (.t 95) (.c (.i
 .i64 0))⟩,z 97 (.pick (.t 90) (.c (.b true)) (.t 96)),zm 98 97,⟨some 99,[(98,false)],.load (some 13) (.t 5)⟩,⟨some 100,[(98,false)],.call 22 [.t 99]⟩,⟨some 101,[(98,
 false)],.bin .neq (.t 100) (.c (.i .i64 0))⟩,z 102 (.pick (.t 98) (.c (.b true)) (.t 101))]) (.ite (.t 102) (.seq (.reg [] [z 103 (.build [.i .i64 0,.i .i64 0,.i .i64 0,.i .i64
 0,.nil,.nil,.s [],.s [],.s [],.s [],.i .i64 0,.i .i64 0,.nil] []),zs (.store 13 [none,none,none,none,some 3,some 3,none,none,none,none,none,none,some 1] (.t 2)
 (.t 103)),z 3 (.mov (.c (.i .i64 12)))]) (.ret)) (.skip))) (.seq (.reg [] [zL 104 13 5,zs (.store 13 [none,none,none,none,some 3,some 3,none,none,none,none,none,none,
 some 1] (.t 2) (.t 104)),z 3 (.mov (.c (.i .i64 0)))]) (.ret))))))))))))))⟩
theorem c43 : cFun Tryz.prog Tryz.f43 = some p43 := by kernel_rfl
theorem tI : Ti Tryz.prog 3 1 8 := tiB_ok (by kernel_rfl)
end Go.Proofs.Tryz
