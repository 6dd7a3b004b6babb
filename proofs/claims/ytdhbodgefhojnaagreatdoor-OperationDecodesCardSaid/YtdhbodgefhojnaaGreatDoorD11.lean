/- A part of the proof that OperationDecodes returns true and leaves its arguments as they were, for every input. -/
import Derived.Test.YtdhbodgefhojnaaGreatDoorProg
import Derived.KernelRfl
import Derived.Test.YtdhbodgefhojnaaGreatDoorD9
set_option linter.all false

namespace Go.Proofs.Tryz
open Go Go.Pm
def p28 : PFun := ⟨23,[.t 4],.seq (.reg [] [z 2 (.box 33 (.t 0)),z 3 (.box 33 (.t 1)),z 4 (.mov (.c (.b false)))]) (.seq (.reg [] [zf 6 0 2,zL 7 3 6,zf 8 0 3,zL 9 3 8,z 10 (.call 70 [.t 7,.t
 9]),zm 5 10]) (.seq (.reg [14,15,16,17,18,19,20,21] [zm 11 5,z 12 (.bin .gtr (.t 11) (.c (.i .i64 0))),zm 13 12,⟨some 14,[(13,false)],.mov (.t 5)⟩,⟨some 15,[(13,
 false)],.bin .eql (.t 14) (.c (.i .i64 0))⟩,⟨some 16,[(13,false)],.mov (.t 15)⟩,⟨some 17,[(13,false),(16,true)],.load (some 13) (.t 2)⟩,⟨some 18,[(13,false),(16,
 true)],.load (some 13) (.t 3)⟩,⟨some 19,[(13,false),(16,true)],.call 26 [.t 17,.t 18]⟩,⟨some 20,[(13,false),(16,true)],.bin .gtr (.t 19) (.c (.i .i64 0))⟩,⟨some 21,
 [(13,false)],.pick (.t 16) (.t 20) (.c (.b false))⟩,z 22 (.pick (.t 13) (.c (.b true)) (.t 21)),zm 4 22]) (.ret)))⟩
theorem c28 : cFun Tryz.prog Tryz.f28 = some p28 := by kernel_rfl
def p30 : PFun := ⟨40,[.t 4],.seq (.reg [] [z 2 (.box 33 (.t 0)),z 3 (.box 33 (.t 1)),z 4 (.mov (.c (.b false)))]) (.seq (.reg [14,15,16,17,18,19,20] [zf 6 0 2,zf 7 1 6,zl 8 7,zf 9 0 3,
 zf 10 1 9,zl 11 10,z 12 (.bin .eql (.t 8) (.t 11)),zm 13 12,⟨some 14,[(13,true)],.fld 0 (.t 2)⟩,⟨some 15,[(13,true)],.fld 2 (.t 14)⟩,⟨some 16,[(13,true)],.load none
 (.t 15)⟩,⟨some 17,[(13,true)],.fld 0 (.t 3)⟩,⟨some 18,[(13,true)],.fld 2 (.t 17)⟩,⟨some 19,[(13,true)],.load none (.t 18)⟩,⟨some 20,[(13,true)],.bin .eql (.t 16) (.t
 19)⟩,z 21 (.pick (.t 13) (.t 20) (.c (.b false))),zm 5 21]) (.seq (.reg [25,26,27,28,29,30,33,34,35,36,37,38] [zm 22 5,z 23 (.un .not (.t 22)),zm 24 23,⟨some 25,
 [(24,true)],.fld 12 (.t 2)⟩,⟨some 26,[(24,true)],.load none (.t 25)⟩,⟨some 27,[(24,true)],.fld 0 (.t 3)⟩,⟨some 28,[(24,true)],.load (some 3) (.t 27)⟩,⟨some 29,[(24,
 true)],.call 72 [.t 26,.t 28]⟩,⟨some 30,[(24,true)],.un .not (.t 29)⟩,z 31 (.pick (.t 24) (.t 30) (.c (.b false))),zm 32 31,⟨some 33,[(32,true)],.fld 12 (.t 3)⟩,⟨some
 34,[(32,true)],.load none (.t 33)⟩,⟨some 35,[(32,true)],.fld 0 (.t 2)⟩,⟨some 36,[(32,true)],.load (some 3) (.t 35)⟩,⟨some 37,[(32,true)],.call 72 [.t 34,.t 36]⟩,
 ⟨some 38,[(32,true)],.un .not (.t 37)⟩,z 39 (.pick (.t 32) (.t 38) (.c (.b false))),zm 4 39]) (.ret)))⟩
theorem c30 : cFun Tryz.prog Tryz.f30 = some p30 := by kernel_rfl
def p78 : PFun := ⟨13,[.t 4],.seq (.reg [] [z 4 (.mov (.c .nil))]) (.seq (.reg [] [zm 5 0,zm 6 1,z 7 (.bin .shr (.t 6) (.c (.i .u64 8))),z 8 (.cvi .u8 (.t 7)),zm 9 1,z 10 (.cvi .u8 (.t 9)),z
 11 (.bslice 1 [none] [.t 8,.t 10]),z 12 (.app 5 1 1 (.t 5) (.t 11)),zm 4 12]) (.ret))⟩
theorem c78 : cFun Tryz.prog Tryz.f78 = some p78 := by kernel_rfl
def p77 : PFun := ⟨11,[.t 4],.seq (.reg [] [z 4 (.mov (.c .nil))]) (.seq (.reg [] [zm 5 0,zm 6 1,z 7 (.bin .shr (.t 6) (.c (.i .u64 16))),z 8 (.call 78 [.t 5,.t 7]),zm 9 1,z 10 (.call 78 [.t
 8,.t 9]),zm 4 10]) (.ret))⟩
theorem c77 : cFun Tryz.prog Tryz.f77 = some p77 := by kernel_rfl
def p80_0 : PCode := .seq (.reg [] [z 10 (.bin .lss (.t 9) (.t 8))]) (.seq (.ite (.t 10) (.skip) (.exit 0)) (.seq (.block 1 (.seq (.reg [] [z 11 (.idx 1 (.t 7) (.t 9)),zl 12 11,zm 6 12]) (.reg [] [zm
 13 0,zm 14 6,z 15 (.len true (.t 14)),z 16 (.call 77 [.t 13,.t 15]),zm 17 6,z 18 (.apps 5 (.t 16) (.t 17)),zm 0 18]))) (.reg [] [z 19 (.bin .add (.t 9) (.c (.i .i64 1))),zm
 9 19])))
def p80 : PFun := ⟨21,[.t 4],.seq (.reg [] [z 4 (.mov (.c .nil))]) (.seq (.seq (.reg [] [zm 7 1,z 8 (.len false (.t 7)),z 9 (.mov (.c (.i .i64 0)))]) (.block 0 (.loop p80_0))) (.seq (.reg [] [zm
 20 0,zm 4 20]) (.ret)))⟩
theorem c80 : cFun Tryz.prog Tryz.f80 = some p80 := by kernel_rfl
def p39_0 : PCode := .seq (.reg [] [z 49 (.bin .lss (.t 48) (.t 47))]) (.seq (.ite (.t 49) (.skip) (.exit 0)) (.seq (.block 1 (.seq (.reg [] [z 50 (.idx 1 (.t 46) (.t 48)),zl 51 50,zm 7 51]) (.reg []
 [zm 52 5,zm 53 7,z 54 (.call 78 [.t 52,.t 53]),zm 5 54]))) (.reg [] [z 55 (.bin .add (.t 48) (.c (.i .i64 1))),zm 48 55])))
def p39 : PFun := ⟨99,[.t 2,.t 3],.seq (.reg [] [z 1 (.box 33 (.t 0)),z 2 (.mov (.c .nil)),z 3 (.mov (.c (.i .i64 0)))]) (.seq (.seq (.reg [] [zL 13 13 1,z 14 (.call 21 [.t 13]),zm 4 14])
 (.seq (.reg [] [zm 15 4,z 16 (.bin .neq (.t 15) (.c (.i .i64 0)))]) (.ite (.t 16) (.seq (.reg [] [zm 17 4,z 2 (.mov (.c .nil)),zm 3 17]) (.ret)) (.skip)))) (.seq (.reg [] [zf 18
 3 1,zl 19 18,z 20 (.cvi .u8 (.t 19)),z 21 (.bslice 1 [none] [.c (.i .u8 1),.t 20]),zf 22 0 1,zf 23 0 22,zl 24 23,z 25 (.call 77 [.t 21,.t 24]),zm 5 25]) (.seq (.reg [] [zm
 26 5,zf 27 0 1,zf 28 1 27,zl 29 28,z 30 (.cvi .u8 (.t 29)),z 31 (.bslice 1 [none] [.t 30]),z 32 (.app 5 1 1 (.t 26) (.t 31)),zm 5 32]) (.seq (.reg [] [zm 33 5,zf 34 0 1,zf
 35 2 34,zl 36 35,z 37 (.call 78 [.t 33,.t 36]),zm 5 37]) (.seq (.reg [] [zm 38 5,zf 39 12 1,zl 40 39,z 41 (.len false (.t 40)),z 42 (.cvi .u8 (.t 41)),z 43 (.bslice 1
 [none] [.t 42]),z 44 (.app 5 1 1 (.t 38) (.t 43)),zm 5 44]) (.seq (.seq (.reg [] [zf 45 12 1,zl 46 45,z 47 (.len false (.t 46)),z 48 (.mov (.c (.i .i64 0)))]) (.block 0 (.loop
 p39_0))) (.seq (.reg [] [zf 56 4 1,zL 57 8 56,z 8 (.alloc 26 [.nil,.nil,.s [],.s [],.s [],.s [],.i .i64 0,.i .i64 0]),zs (.store 8 [some 3,some 3,none,none,none,none,
 none,none] (.t 8) (.t 57))]) (.seq (.reg [] [zf 59 0 8,zl 60 59,z 61 (.call 79 [.t 60]),zm 58 61,z 62 (.ext 0 (.t 58)),z 63 (.ext 1 (.t 58)),zm 9 62,zm 10 63]) (.seq (.reg
 [] [zm 64 5,zm 65 9,zf 66 2 8,zl 67 66,zf 68 3 8,zl 69 68,z 70 (.bslice 1 [none] [.t 65,.t 67,.t 69]),z 71 (.call 80 [.t 64,.t 70]),zm 5 71]) (.seq (.seq (.reg [] [zf 72
 3 1,zl 73 72,z 74 (.bin .eql (.t 73) (.c (.i .i64 1)))]) (.ite (.t 74) (.seq (.reg [] [zf 76 1 8,zl 77 76,z 78 (.call 79 [.t 77]),zm 75 78,z 79 (.ext 0 (.t 75)),z 80 (.ext 1
 (.t 75)),zm 11 79,zm 12 80]) (.seq (.reg [] [zm 81 5,zm 82 11,zf 83 4 8,zl 84 83,zf 85 5 8,zl 86 85,z 87 (.bslice 1 [none] [.t 82,.t 84,.t 86]),z 88 (.call 80 [.t 81,.t
 87]),zm 5 88]) (.dreg [([zm 89 5,zf 90 6 8,zl 91 90,zf 93 7 8,zl 94 93,z 95 (.cvi .u8 (.t 94)),z 96 (.bslice 1 [none] [.t 95])],z 92 (.call 77 [.t 89,.t 91]),[zf 93 7 8,
 zl 94 93,z 96 (.bslice 1 [none] [.t 95])])] [] [] [z 97 (.app 5 1 1 (.t 92) (.t 96)),zm 5 97]))) (.skip))) (.seq (.reg [] [zm 98 5,zm 2 98,z 3 (.mov (.c (.i .i64 0)))])
 (.ret))))))))))))⟩
theorem c39 : cFun Tryz.prog Tryz.f39 = some p39 := by kernel_rfl
def p44_0 : PCode := .seq (.reg [] [z 17 (.bin .lss (.t 16) (.t 15))]) (.seq (.ite (.t 17) (.skip) (.exit 0)) (.seq (.block 1 (.seq (.reg [] [z 18 (.idx 13 (.t 14) (.t 16)),zL 19 13 18,z 5 (.alloc 33
 [.i .i64 0,.i .i64 0,.i .i64 0,.i .i64 0,.nil,.nil,.s [],.s [],.s [],.s [],.i .i64 0,.i .i64 0,.nil]),zs (.store 13 [none,none,none,none,some 3,some 3,none,none,
 none,none,none,none,some 1] (.t 5) (.t 19))]) (.seq (.reg [] [zL 20 13 5,z 21 (.call 23 [.t 20]),zm 6 21]) (.seq (.seq (.reg [] [zm 22 6,z 23 (.bin .eql (.t 22) (.c (.s
 [])))]) (.ite (.t 23) (.exit 1) (.skip))) (.seq (.reg [] [zm 25 3,zm 26 6,z 27 (.look 1 (.agg [.i .i64 0,.i .i64 0,.i .i64 0,.i .i64 0,.sl 3 [],.sl 3 [],.s [],.s [],.s [],
 .s [],.i .i64 0,.i .i64 0,.sl 1 []]) true (.t 25) (.t 26)),zm 24 27,z 28 (.ext 0 (.t 24)),z 29 (.ext 1 (.t 24)),z 7 (.alloc 33 [.i .i64 0,.i .i64 0,.i .i64 0,.i .i64 0,
 .nil,.nil,.s [],.s [],.s [],.s [],.i .i64 0,.i .i64 0,.nil]),zs (.store 13 [none,none,none,none,some 3,some 3,none,none,none,none,none,none,some 1] (.t 7) (.t
 28)),zm 8 29]) (.seq (.reg [33,34,35] [zm 30 8,z 31 (.un .not (.t 30)),zm 32 31,⟨some 33,[(32,false)],.load (some 13) (.t 5)⟩,⟨some 34,[(32,false)],.load (some 13) (.t
 7)⟩,⟨some 35,[(32,false)],.call 28 [.t 33,.t 34]⟩,z 36 (.pick (.t 32) (.c (.b true)) (.t 35))]) (.ite (.t 36) (.reg [] [zm 37 3,zm 38 6,zL 39 13 5,zs (.mupd 1 [none,none,
 none,none,some 3,some 3,none,none,none,none,none,none,some 1] (.t 37) (.t 38) (.t 39))]) (.skip)))))))) (.reg [] [z 40 (.bin .add (.t 16) (.c (.i .i64 1))),zm 16 40])))
def p44 : PFun := ⟨42,[.t 2],.seq (.reg [] [z 2 (.mov (.c .nilmap))]) (.seq (.reg [] [z 9 (.mkmap 9 33),zm 3 9]) (.seq (.seq (.reg [] [zm 10 0,z 11 (.len false (.t 10)),z 12 (.bin .gtr (.t 11)
 (.c (.i .i64 1024)))]) (.ite (.t 12) (.seq (.reg [] [zm 13 3,zm 2 13]) (.ret)) (.skip))) (.seq (.seq (.reg [] [zm 14 0,z 15 (.len false (.t 14)),z 16 (.mov (.c (.i .i64 0)))])
 (.block 0 (.loop p44_0))) (.seq (.reg [] [zm 41 3,zm 2 41]) (.ret)))))⟩
theorem c44 : cFun Tryz.prog Tryz.f44 = some p44 := by kernel_rfl
def p13_0 : PCode := .seq (.reg [] [z 14 (.bin .lss (.t 13) (.t 12))]) (.seq (.ite (.t 14) (.skip) (.exit 0)) (.seq (.block 1 (.seq (.reg [] [z 15 (.idx 1 (.t 11) (.t 13)),zl 16 15,zm 6 16]) (.reg []
 [zm 17 4,zm 18 3,zm 19 6,z 20 (.look 1 (.agg [.i .i64 0,.i .i64 0,.i .i64 0,.i .i64 0,.sl 3 [],.sl 3 [],.s [],.s [],.s [],.s [],.i .i64 0,.i .i64 0,.sl 1 []]) false
 (.t 18) (.t 19)),z 21 (.call 47 [.t 20]),z 22 (.bslice 13 [none,none,none,none,some 3,some 3,none,none,none,none,none,none,some 1] [.t 21]),z 23 (.app 33 13 184 (.t
 17) (.t 22)),zm 4 23]))) (.reg [] [z 24 (.bin .add (.t 13) (.c (.i .i64 1))),zm 13 24])))
def p13 : PFun := ⟨26,[.t 2],.seq (.reg [] [z 2 (.mov (.c .nil))]) (.seq (.reg [] [zm 7 0,z 8 (.call 44 [.t 7]),zm 3 8]) (.seq (.reg [] [z 4 (.mov (.c .nil))]) (.seq (.seq (.reg [] [zm 9 3,z 10
 (.call 46 [.t 9]),z 11 (.call 45 [.t 10]),z 12 (.len false (.t 11)),z 13 (.mov (.c (.i .i64 0)))]) (.block 0 (.loop p13_0))) (.seq (.reg [] [zm 25 4,zm 2 25]) (.ret)))))⟩
theorem c13 : cFun Tryz.prog Tryz.f13 = some p13 := by kernel_rfl
def p14_0 : PCode := .seq (.reg [] [z 10 (.bin .lss (.t 9) (.t 8))]) (.seq (.ite (.t 10) (.skip) (.exit 0)) (.seq (.block 1 (.seq (.reg [] [z 11 (.idx 13 (.t 7) (.t 9)),zL 12 13 11,z 5 (.alloc 33 [.i
 .i64 0,.i .i64 0,.i .i64 0,.i .i64 0,.nil,.nil,.s [],.s [],.s [],.s [],.i .i64 0,.i .i64 0,.nil]),zs (.store 13 [none,none,none,none,some 3,some 3,none,none,
 none,none,none,none,some 1] (.t 5) (.t 12))]) (.seq (.reg [] [zf 13 3 5,zl 14 13,z 15 (.bin .eql (.t 14) (.c (.i .i64 1)))]) (.ite (.t 15) (.reg [] [zm 16 3,zf 17 4 5,zL 18
 8 17,z 19 (.bslice 8 [some 3,some 3,none,none,none,none,none,none] [.t 18]),z 20 (.app 26 8 128 (.t 16) (.t 19)),zm 3 20]) (.skip))))) (.reg [] [z 21 (.bin .add (.t 9) (.c
 (.i .i64 1))),zm 9 21])))
def p14 : PFun := ⟨23,[.t 2],.seq (.reg [] [z 2 (.mov (.c .nil))]) (.seq (.reg [] [z 3 (.mov (.c .nil))]) (.seq (.seq (.reg [] [zm 6 0,z 7 (.call 13 [.t 6]),z 8 (.len false (.t 7)),z 9 (.mov (.c
 (.i .i64 0)))]) (.block 0 (.loop p14_0))) (.seq (.reg [] [zm 22 3,zm 2 22]) (.ret))))⟩
theorem c14 : cFun Tryz.prog Tryz.f14 = some p14 := by kernel_rfl
def p47 : PFun := ⟨12,[.c 2 (some 13)],.seq (.reg [] [z 1 (.box 33 (.t 0)),z 2 (.alloc 33 [.i .i64 0,.i .i64 0,.i .i64 0,.i .i64 0,.nil,.nil,.s [],.s [],.s [],.s [],.i .i64 0,.i .i64 0,
 .nil])]) (.seq (.dreg [([zf 3 4 1,zL 4 8 3,zf 6 12 1,zl 7 6],z 5 (.call 94 [.t 4]),[zf 6 12 1,zl 7 6]),([zf 9 4 1],z 8 (.call 95 [.t 7]),[zf 9 4 1])] [] [] [zs (.store 8
 [some 3,some 3,none,none,none,none,none,none] (.t 9) (.t 5)),zf 10 12 1,zs (.store 1 [some 1] (.t 10) (.t 8))]) (.seq (.reg [] [zL 11 13 1,zs (.store 13 [none,none,none,
 none,some 3,some 3,none,none,none,none,none,none,some 1] (.t 2) (.t 11))]) (.ret)))⟩
theorem c47 : cFun Tryz.prog Tryz.f47 = some p47 := by kernel_rfl
def p94 : PFun := ⟨12,[.c 2 (some 8)],.seq (.reg [] [z 1 (.box 26 (.t 0)),z 2 (.alloc 26 [.nil,.nil,.s [],.s [],.s [],.s [],.i .i64 0,.i .i64 0])]) (.seq (.dreg [([zf 3 0 1,zl 4 3,zf 6 1
 1,zl 7 6],z 5 (.call 120 [.t 4]),[zf 6 1 1,zl 7 6]),([zf 9 0 1],z 8 (.call 120 [.t 7]),[zf 9 0 1])] [] [] [zs (.store 1 [some 3] (.t 9) (.t 5)),zf 10 1 1,zs (.store 1 [some
 3] (.t 10) (.t 8))]) (.seq (.reg [] [zL 11 8 1,zs (.store 8 [some 3,some 3,none,none,none,none,none,none] (.t 2) (.t 11))]) (.ret)))⟩
theorem c94 : cFun Tryz.prog Tryz.f94 = some p94 := by kernel_rfl
def p16_0 : PCode := .seq (.reg [] [z 14 (.bin .lss (.t 13) (.t 12))]) (.seq (.ite (.t 14) (.skip) (.exit 0)) (.seq (.block 1 (.seq (.reg [] [zm 15 13,zm 5 15]) (.seq (.dreg [] [zm 16 0,zm 17 5,z 18
 (.idx 8 (.t 16) (.t 17)),zL 19 8 18,zm 20 1,zm 21 5,z 22 (.idx 8 (.t 20) (.t 21)),zL 23 8 22] [] [z 24 (.call 38 [.t 19,.t 23]),z 25 (.un .not (.t 24))]) (.ite (.t 25) (.seq
 (.reg [] [z 4 (.mov (.c (.b false)))]) (.ret)) (.skip))))) (.reg [] [z 26 (.bin .add (.t 13) (.c (.i .i64 1))),zm 13 26])))
def p16 : PFun := ⟨27,[.t 4],.seq (.reg [] [z 4 (.mov (.c (.b false)))]) (.seq (.seq (.reg [] [zm 6 0,z 7 (.len false (.t 6)),zm 8 1,z 9 (.len false (.t 8)),z 10 (.bin .neq (.t 7) (.t 9))])
 (.ite (.t 10) (.seq (.reg [] [z 4 (.mov (.c (.b false)))]) (.ret)) (.skip))) (.seq (.seq (.reg [] [zm 11 0,z 12 (.len false (.t 11)),z 13 (.mov (.c (.i .i64 0)))]) (.block 0
 (.loop p16_0))) (.seq (.reg [] [z 4 (.mov (.c (.b true)))]) (.ret))))⟩
theorem c16 : cFun Tryz.prog Tryz.f16 = some p16 := by kernel_rfl
def p38 : PFun := ⟨59,[.t 4],.seq (.reg [] [z 2 (.box 26 (.t 0)),z 3 (.box 26 (.t 1)),z 4 (.mov (.c (.b false)))]) (.seq (.reg [11,12,13,14,15,18,19,20,21,22,25,26,27,28,29,32,33,
 34,35,36,39,40,41,42,43,46,47,48,49,50,53,54,55,56,57] [zf 5 0 2,zl 6 5,zf 7 0 3,zl 8 7,z 9 (.call 76 [.t 6,.t 8]),zm 10 9,⟨some 11,[(10,true)],.fld 1 (.t
 2)⟩,⟨some 12,[(10,true)],.load none (.t 11)⟩,⟨some 13,[(10,true)],.fld 1 (.t 3)⟩,⟨some 14,[(10,true)],.load none (.t 13)⟩,⟨some 15,[(10,true)],.call 76 [.t 12,.t
 14]⟩,z 16 (.pick (.t 10) (.t 15) (.c (.b false))),zm 17 16,⟨some 18,[(17,true)],.fld 2 (.t 2)⟩,⟨some 19,[(17,true)],.load none (.t 18)⟩,⟨some 20,[(17,true)],.fld 2 (.t
 3)⟩,⟨some 21,[(17,true)],.load none (.t 20)⟩,⟨some 22,[(17,true)],.bin .eql (.t 19) (.t 21)⟩,z 23 (.pick (.t 17) (.t 22) (.c (.b false))),zm 24 23,⟨some 25,[(24,true)],
 .fld 3 (.t 2)⟩,⟨some 26,[(24,true)],.load none (.t 25)⟩,⟨some 27,[(24,true)],.fld 3 (.t 3)⟩,⟨some 28,[(24,true)],.load none (.t 27)⟩,⟨some 29,[(24,true)],.bin .eql
 (.t 26) (.t 28)⟩,z 30 (.pick (.t 24) (.t 29) (.c (.b false))),zm 31 30,⟨some 32,[(31,true)],.fld 4 (.t 2)⟩,⟨some 33,[(31,true)],.load none (.t 32)⟩,⟨some 34,[(31,
 true)],.fld 4 (.t 3)⟩,⟨some 35,[(31,true)],.load none (.t 34)⟩,⟨some 36,[(31,true)],.bin .eql (.t 33) (.t 35)⟩,z 37 (.pick (.t 31) (.t 36) (.c (.b false))),zm 38 37,
 ⟨some 39,[(38,true)],.fld 5 (.t 2)⟩,⟨some 40,[(38,true)],.load none (.t 39)⟩,⟨some 41,[(38,true)],.fld 5 (.t 3)⟩,⟨some 42,[(38,true)],.load none (.t 41)⟩,⟨some 43,
 [(38,true)],.bin .eql (.t 40) (.t 42)⟩,z 44 (.pick (.t 38) (.t 43) (.c (.b false))),zm 45 44,⟨some 46,[(45,true)],.fld 6 (.t 2)⟩,⟨some 47,[(45,true)],.load none (.t
 46)⟩,⟨some 48,[(45,true)],.fld 6 (.t 3)⟩,⟨some 49,[(45,true)],.load none (.t 48)⟩,⟨some 50,[(45,true)],.bin .eql (.t 47) (.t 49)⟩,z 51 (.pick (.t 45) (.t 50) (.c (.b
 false))),zm 52 51,⟨some 53,[(52,true)],.fld 7 (.t 2)⟩,⟨some 54,[(52,true)],.load none (.t 53)⟩,⟨some 55,[(52,true)],.fld 7 (.t 3)⟩,⟨some 56,[(52,true)],.load none
 (.t 55)⟩,⟨some 57,[(52,true)],.bin .eql (.t 54) (.t 56)⟩,z 58 (.pick (.t 52) (.t 57) (.c (.b false))),zm 4 58]) (.ret))⟩
theorem c38 : cFun Tryz.prog Tryz.f38 = some p38 := by kernel_rfl
def p12 : PFun := ⟨14,[.t 4],.seq (.reg [] [z 4 (.mov (.c (.i .i64 0)))]) (.seq (.reg [] [zm 5 0,zm 6 1,z 7 (.bin .rem (.t 5) (.t 6)),zm 0 7]) (.seq (.seq (.reg [] [zm 8 0,z 9 (.bin .lss (.t 8)
 (.c (.i .i64 0)))]) (.ite (.t 9) (.reg [] [zm 10 0,zm 11 1,z 12 (.bin .add (.t 10) (.t 11)),zm 0 12]) (.skip))) (.seq (.reg [] [zm 13 0,zm 4 13]) (.ret))))⟩
theorem c12 : cFun Tryz.prog Tryz.f12 = some p12 := by kernel_rfl
def p15 : PFun := ⟨75,[.t 0],.seq (.reg [] [z 0 (.mov (.c (.b false)))]) (.seq (.reg [] [z 6 (.build [.i .i64 0,.s [],.i .i64 0] [(0,1,.c (.i .i64 1)),(1,1,.c (.s [97]))]),z 7 (.bslice 3
 [none,none,none] [.t 6]),z 8 (.build [.i .i64 0,.s [],.i .i64 0] [(0,1,.c (.i .i64 1)),(1,1,.c (.s [98]))]),z 9 (.bslice 3 [none,none,none] [.t 8]),z 10 (.build [.nil,
 .nil,.s [],.s [],.s [],.s [],.i .i64 0,.i .i64 0] [(0,1,.t 7),(1,1,.t 9),(7,1,.c (.i .i64 1))]),z 1 (.alloc 26 [.nil,.nil,.s [],.s [],.s [],.s [],.i .i64 0,.i
 .i64 0]),zs (.store 8 [some 3,some 3,none,none,none,none,none,none] (.t 1) (.t 10))]) (.seq (.reg [] [z 11 (.build [.i .i64 0,.i .i64 0,.i .i64 0] [(0,1,.c (.i .i64 4)),
 (2,1,.c (.i .i64 1))]),zL 12 8 1,z 13 (.build [.i .i64 0,.i .i64 0,.i .i64 0,.i .i64 0,.nil,.nil,.s [],.s [],.s [],.s [],.i .i64 0,.i .i64 0,.nil] [(0,3,.t 11),
 (3,1,.c (.i .i64 1)),(4,8,.t 12)]),z 2 (.alloc 33 [.i .i64 0,.i .i64 0,.i .i64 0,.i .i64 0,.nil,.nil,.s [],.s [],.s [],.s [],.i .i64 0,.i .i64 0,.nil]),zs (.store
 13 [none,none,none,none,some 3,some 3,none,none,none,none,none,none,some 1] (.t 2) (.t 13))]) (.seq (.reg [] [z 14 (.build [.i .i64 0,.i .i64 0,.i .i64 0] [(0,1,.c
 (.i .i64 5)),(1,1,.c (.i .i64 1)),(2,1,.c (.i .i64 1))]),zf 15 0 1,zl 16 15,z 17 (.build [.nil,.nil,.s [],.s [],.s [],.s [],.i .i64 0,.i .i64 0] [(0,1,.t 16)]),z
 18 (.bslice 1 [none] [.c (.i .i64 1)]),z 19 (.build [.i .i64 0,.i .i64 0,.i .i64 0,.i .i64 0,.nil,.nil,.s [],.s [],.s [],.s [],.i .i64 0,.i .i64 0,.nil] [(0,3,.t 14),
 (3,1,.c (.i .i64 2)),(4,8,.t 17),(12,1,.t 18)]),z 3 (.alloc 33 [.i .i64 0,.i .i64 0,.i .i64 0,.i .i64 0,.nil,.nil,.s [],.s [],.s [],.s [],.i .i64 0,.i .i64 0,
 .nil]),zs (.store 13 [none,none,none,none,some 3,some 3,none,none,none,none,none,none,some 1] (.t 3) (.t 19))]) (.seq (.reg [] [zL 21 13 3,z 22 (.call 39 [.t 21]),zm
 20 22,z 23 (.ext 0 (.t 20)),z 24 (.ext 1 (.t 20)),zm 4 23,zm 5 24]) (.seq (.dreg [([zL 25 13 2],z 26 (.call 21 [.t 25]),[]),([z 27 (.bin .eql (.t 26) (.c (.i .i64 0))),zm 28
 27,⟨some 29,[(28,true)],.load (some 13) (.t 3)⟩],⟨some 30,[(28,true)],.call 21 [.t 29]⟩,[]),([⟨some 31,[(28,true)],.bin .eql (.t 30) (.c (.i .i64 0))⟩,z 32 (.pick (.t
 28) (.t 31) (.c (.b false))),zm 33 32,⟨some 34,[(33,true)],.load (some 13) (.t 3)⟩,⟨some 35,[(33,true)],.load (some 13) (.t 2)⟩],⟨some 36,[(33,true)],.call 28 [.t 34,
 .t 35]⟩,[]),([z 37 (.pick (.t 33) (.t 36) (.c (.b false))),zm 38 37,⟨some 39,[(38,true)],.load (some 13) (.t 2)⟩,⟨some 40,[(38,true)],.load (some 13) (.t 3)⟩],⟨some 41,
 [(38,true)],.call 28 [.t 39,.t 40]⟩,[]),([⟨some 42,[(38,true)],.un .not (.t 41)⟩,z 43 (.pick (.t 38) (.t 42) (.c (.b false))),zm 44 43,⟨some 45,[(44,true)],.load (some
 13) (.t 2)⟩,⟨some 46,[(44,true)],.load (some 13) (.t 3)⟩],⟨some 47,[(44,true)],.call 30 [.t 45,.t 46]⟩,[]),([⟨some 48,[(44,true)],.un .not (.t 47)⟩,z 49 (.pick (.t
 44) (.t 48) (.c (.b false))),zm 50 49,⟨some 51,[(50,true)],.load (some 13) (.t 2)⟩,⟨some 52,[(50,true)],.bslice 13 [none,none,none,none,some 3,some 3,none,none,
 none,none,none,none,some 1] [.t 51]⟩,⟨some 54,[(50,true)],.load (some 8) (.t 1)⟩,⟨some 55,[(50,true)],.bslice 8 [some 3,some 3,none,none,none,none,none,none] [.t
 54]⟩],⟨some 53,[(50,true)],.call 14 [.t 52]⟩,[⟨some 54,[(50,true)],.load (some 8) (.t 1)⟩,⟨some 55,[(50,true)],.bslice 8 [some 3,some 3,none,none,none,none,none,
 none] [.t 54]⟩]),([],⟨some 56,[(50,true)],.call 16 [.t 53,.t 55]⟩,[])] [z 57 (.pick (.t 50) (.t 56) (.c (.b false))),zm 58 57,⟨some 59,[(58,true)],.load (some 13) (.t
 3)⟩,⟨some 60,[(58,true)],.load (some 13) (.t 2)⟩] [29,30,31,34,35,36,39,40,41,42,45,46,47,48,51,52,53,54,55,56,59,60,61,62,63,64,67,68,71,72,73]
 [⟨some 61,[(58,true)],.bslice 13 [none,none,none,none,some 3,some 3,none,none,none,none,none,none,some 1] [.t 59,.t 60]⟩,⟨some 62,[(58,true)],.call 14 [.t 61]⟩,
 ⟨some 63,[(58,true)],.len false (.t 62)⟩,⟨some 64,[(58,true)],.bin .eql (.t 63) (.c (.i .i64 0))⟩,z 65 (.pick (.t 58) (.t 64) (.c (.b false))),zm 66 65,⟨some 67,[(66,
 true)],.mov (.t 5)⟩,⟨some 68,[(66,true)],.bin .eql (.t 67) (.c (.i .i64 0))⟩,z 69 (.pick (.t 66) (.t 68) (.c (.b false))),zm 70 69,⟨some 71,[(70,true)],.mov (.t 4)⟩,
 ⟨some 72,[(70,true)],.len false (.t 71)⟩,⟨some 73,[(70,true)],.bin .eql (.t 72) (.c (.i .i64 25))⟩,z 74 (.pick (.t 70) (.t 73) (.c (.b false))),zm 0 74]) (.ret))))))⟩
theorem c15 : cFun Tryz.prog Tryz.f15 = some p15 := by kernel_rfl
def p26 : PFun := ⟨54,[.t 4],.seq (.reg [] [z 2 (.box 33 (.t 0)),z 3 (.box 33 (.t 1)),z 4 (.mov (.c (.i .i64 0)))]) (.seq (.both (.dreg [([zf 12 0 2,zL 13 3 12,zf 14 0 3,zL 15 3 14],z 5
 (.alloc 30 [.i .i64 0,.i .i64 0,.i .i64 0]),[zf 12 0 2,zL 13 3 12,zf 14 0 3,zL 15 3 14]),([],z 6 (.alloc 30 [.i .i64 0,.i .i64 0,.i .i64 0]),[zf 12 0 2,zL 13 3 12,zf 14
 0 3,zL 15 3 14]),([],zs (.store 3 [none,none,none] (.t 5) (.t 13)),[zf 14 0 3,zL 15 3 14])] [] [] [zs (.store 3 [none,none,none] (.t 6) (.t 15))]) (.dreg [([zf 12 0 2,zL
 13 3 12,zf 14 0 3,zL 15 3 14],z 6 (.alloc 30 [.i .i64 0,.i .i64 0,.i .i64 0]),[zf 12 0 2,zL 13 3 12,zf 14 0 3,zL 15 3 14]),([],z 5 (.alloc 30 [.i .i64 0,.i .i64 0,.i
 .i64 0]),[zf 12 0 2,zL 13 3 12,zf 14 0 3,zL 15 3 14]),([],zs (.store 3 [none,none,none] (.t 5) (.t 13)),[zf 14 0 3,zL 15 3 14])] [] [] [zs (.store 3 [none,none,none] (.t
 6) (.t 15))])) (.seq (.seq (.dreg [([zf 16 1 5,zl 17 16,zf 18 1 6,zl 19 18,zf 21 2 5,zl 22 21,zf 23 2 6,zl 24 23,zf 26 0 5,zl 27 26,zf 28 0 6,zl 29 28,zf 31 3 2,zl 32
 31,zf 33 3 3,zl 34 33],z 20 (.call 67 [.t 17,.t 19]),[zf 21 2 5,zl 22 21,zf 23 2 6,zl 24 23,zf 26 0 5,zl 27 26,zf 28 0 6,zl 29 28,zf 31 3 2,zl 32 31,zf 33 3 3,zl 34
 33]),([],z 25 (.call 67 [.t 22,.t 24]),[zf 26 0 5,zl 27 26,zf 28 0 6,zl 29 28,zf 31 3 2,zl 32 31,zf 33 3 3,zl 34 33]),([],z 30 (.call 67 [.t 27,.t 29]),[zf 31 3 2,zl
 32 31,zf 33 3 3,zl 34 33])] [] [] [z 35 (.call 67 [.t 32,.t 34]),z 36 (.bslice 1 [none] [.t 20,.t 25,.t 30,.t 35]),z 37 (.call 66 [.t 36]),zm 7 37]) (.seq (.reg [] [zm 38
 7,z 39 (.bin .neq (.t 38) (.c (.i .i64 0)))]) (.ite (.t 39) (.seq (.reg [] [zm 40 7,zm 4 40]) (.ret)) (.skip)))) (.seq (.reg [] [zL 42 13 2,z 43 (.call 39 [.t 42]),zm 41 43,z
 44 (.ext 0 (.t 41)),z 45 (.ext 1 (.t 41)),zm 8 44,zm 9 45]) (.seq (.reg [] [zL 47 13 3,z 48 (.call 39 [.t 47]),zm 46 48,z 49 (.ext 0 (.t 46)),z 50 (.ext 1 (.t 46)),zm 10 49,
 zm 11 50]) (.seq (.reg [] [zm 51 8,zm 52 10,z 53 (.call 68 [.t 51,.t 52]),zm 4 53]) (.ret))))))⟩
theorem c26 : cFun Tryz.prog Tryz.f26 = some p26 := by kernel_rfl
def p48 : PFun := ⟨36,[.t 4],.seq (.reg [] [z 4 (.mov (.c (.i .i64 0)))]) (.seq (.reg [] [z 5 (.mov (.c (.i .i64 0)))]) (.seq (.seq (.dreg [] [zm 6 0,z 7 (.nilck (.t 6)),zf 8 1 7,zl 9 8,zm 10
 0,z 11 (.nilck (.t 10)),zf 12 0 11,zl 13 12,z 14 (.len false (.t 13))] [] [z 15 (.bin .lss (.t 9) (.t 14))]) (.ite (.t 15) (.dreg [] [zm 16 0,z 17 (.nilck (.t 16)),zf 18 0 17,
 zl 19 18,zm 20 0,z 21 (.nilck (.t 20)),zf 22 1 21,zl 23 22] [] [z 24 (.idx 1 (.t 19) (.t 23)),zl 25 24,zm 5 25]) (.skip))) (.seq (.reg [] [zm 26 0,z 27 (.nilck (.t 26)),zf
 28 1 27,zl 29 28,z 30 (.bin .add (.t 29) (.c (.i .i64 1))),z 31 (.nilck (.t 26)),zf 32 1 31,zs (.store 1 [none] (.t 32) (.t 30))]) (.seq (.reg [] [zm 33 5,zm 34 1,z 35 (.call
 12 [.t 33,.t 34]),zm 4 35]) (.ret)))))⟩
theorem c48 : cFun Tryz.prog Tryz.f48 = some p48 := by kernel_rfl
def p157 : PFun := ⟨8,[.t 2],.seq (.reg [] [z 2 (.mov (.c (.s [])))]) (.seq (.reg [] [z 3 (.bslice 1 [none] [.c (.s [114,101,100]),.c (.s [99,97,114]),.c (.s [82,101,100]),.c (.s [97]),.c
 (.s [99,97,114,115]),.c (.s [49,44,53]),.c (.s [50,50]),.c (.s [100,111,110,39,116]),.c (.s [46]),.c (.s [33]),.c (.s [32]),.c (.s [32,32]),.c (.s [60]),.c (.s
 [38]),.c (.s [123]),.c (.s [34]),.c (.s [92]),.c (.s [120,45,121]),.c (.s [10]),.c (.s [61]),.c (.s [125]),.c (.s [62]),.c (.s [9]),.c (.s [98])]),zm 4 0,z 5 (.call 48
 [.t 4,.c (.i .i64 24)]),z 6 (.idx 1 (.t 3) (.t 5)),zl 7 6,zm 2 7]) (.ret))⟩
theorem c157 : cFun Tryz.prog Tryz.f157 = some p157 := by kernel_rfl
def p121_0 : PCode := .seq (.seq (.reg [] [zm 12 6,z 13 (.bin .gtr (.t 12) (.c (.i .i64 0)))]) (.ite (.t 13) (.skip) (.exit 0))) (.seq (.block 1 (.seq (.reg [] [zm 16 0,z 17 (.call 157 [.t 16]),zm 7
 17]) (.seq (.seq (.reg [21,22,23] [zm 18 5,z 19 (.bin .neq (.t 18) (.c (.s []))),zm 20 19,⟨some 21,[(20,true)],.mov (.t 0)⟩,⟨some 22,[(20,true)],.call 48 [.t 21,.c (.i
 .i64 3)]⟩,⟨some 23,[(20,true)],.bin .gtr (.t 22) (.c (.i .i64 0))⟩,z 24 (.pick (.t 20) (.t 23) (.c (.b false)))]) (.ite (.t 24) (.reg [] [zm 25 5,z 26 (.bin .add (.t 25) (.c
 (.s [32]))),zm 5 26]) (.skip))) (.reg [] [zm 27 5,zm 28 7,z 29 (.bin .add (.t 27) (.t 28)),zm 5 29])))) (.reg [] [zm 14 6,z 15 (.bin .sub (.t 14) (.c (.i .i64 1))),zm 6 15]))
def p121 : PFun := ⟨31,[.t 4],.seq (.reg [] [z 4 (.mov (.c (.s [])))]) (.seq (.reg [] [z 5 (.mov (.c (.s [])))]) (.seq (.seq (.reg [] [zm 8 0,zm 9 1,z 10 (.bin .add (.t 9) (.c (.i .i64 1))),z 11
 (.call 48 [.t 8,.t 10]),zm 6 11]) (.block 0 (.loop p121_0))) (.seq (.reg [] [zm 30 5,zm 4 30]) (.ret))))⟩
theorem c121 : cFun Tryz.prog Tryz.f121 = some p121 := by kernel_rfl
def p96_0 : PCode := .seq (.seq (.reg [] [zm 20 12,z 21 (.bin .gtr (.t 20) (.c (.i .i64 0)))]) (.ite (.t 21) (.skip) (.exit 0))) (.seq (.block 1 (.seq (.reg [] [zm 24 0,z 25 (.call 121 [.t 24,.c (.i
 .i64 3)]),z 26 (.build [.i .i64 0,.s [],.i .i64 0] [(0,1,.c (.i .i64 1)),(1,1,.t 25)]),z 13 (.alloc 23 [.i .i64 0,.s [],.i .i64 0]),zs (.store 3 [none,none,none] (.t
 13) (.t 26))]) (.seq (.seq (.reg [] [zm 27 0,z 28 (.call 48 [.t 27,.c (.i .i64 8)])]) (.block 2 (.seq (.seq (.reg [] [z 30 (.bin .eql (.t 28) (.c (.i .i64 0))),zm 29 30]) (.ite
 (.t 29) (.skip) (.reg [] [z 31 (.bin .eql (.t 28) (.c (.i .i64 1))),zm 29 31]))) (.ite (.t 29) (.reg [] [z 32 (.bslice 1 [none] [.c (.s [110]),.c (.s [110,97,109,101]),.c (.s
 [120,49])]),zm 33 0,z 34 (.call 48 [.t 33,.c (.i .i64 3)]),z 35 (.idx 1 (.t 32) (.t 34)),zl 36 35,z 37 (.build [.i .i64 0,.s [],.i .i64 0] [(0,1,.c (.i .i64 5)),(1,1,
 .t 36)]),zs (.store 3 [none,none,none] (.t 13) (.t 37))]) (.seq (.reg [] [z 39 (.bin .eql (.t 28) (.c (.i .i64 2))),zm 38 39]) (.ite (.t 38) (.seq (.reg [] [zm 40 2]) (.ite (.t
 40) (.seq (.reg [] [zm 41 11,z 42 (.bin .add (.t 41) (.c (.i .i64 1))),zm 11 42]) (.reg [] [z 43 (.bslice 1 [none] [.c (.s [98,114]),.c (.s [105,109,103,32,97])]),zm 44 0,
 z 45 (.call 48 [.t 44,.c (.i .i64 2)]),z 46 (.idx 1 (.t 43) (.t 45)),zl 47 46,zm 48 11,z 49 (.build [.i .i64 0,.s [],.i .i64 0] [(0,1,.c (.i .i64 4)),(1,1,.t 47),(2,1,
 .t 48)]),zs (.store 3 [none,none,none] (.t 13) (.t 49))])) (.skip))) (.seq (.seq (.reg [] [z 51 (.bin .eql (.t 28) (.c (.i .i64 3))),zm 50 51]) (.ite (.t 50) (.skip) (.reg [] [z
 52 (.bin .eql (.t 28) (.c (.i .i64 4))),zm 50 52]))) (.ite (.t 50) (.seq (.reg [] [zm 53 2]) (.ite (.t 53) (.seq (.reg [] [zm 54 11,z 55 (.bin .add (.t 54) (.c (.i .i64 1))),zm
 11 55]) (.seq (.reg [] [z 56 (.bslice 1 [none] [.c (.s [98]),.c (.s [105]),.c (.s [97,32,104,61,49])]),zm 57 0,z 58 (.call 48 [.t 57,.c (.i .i64 3)]),z 59 (.idx 1 (.t 56)
 (.t 58)),zl 60 59,zm 61 11,z 62 (.build [.i .i64 0,.s [],.i .i64 0] [(0,1,.c (.i .i64 2)),(1,1,.t 60),(2,1,.t 61)]),zs (.store 3 [none,none,none] (.t 13) (.t 62))])
 (.reg [] [zm 63 10,zL 64 3 13,z 65 (.bslice 3 [none,none,none] [.t 64]),z 66 (.app 23 3 32 (.t 63) (.t 65)),zm 10 66]))) (.skip))) (.seq (.seq (.reg [] [z 68 (.bin .eql (.t
 28) (.c (.i .i64 5))),zm 67 68]) (.ite (.t 67) (.skip) (.reg [] [z 69 (.bin .eql (.t 28) (.c (.i .i64 6))),zm 67 69]))) (.ite (.t 67) (.seq (.reg [] [zm 70 10,z 71 (.len false
 (.t 70)),z 72 (.bin .sub (.t 71) (.c (.i .i64 1))),zm 14 72]) (.seq (.reg [] [zm 73 14,z 74 (.bin .geq (.t 73) (.c (.i .i64 0)))]) (.ite (.t 74) (.seq (.seq (.reg [] [zm 75 3,z
 76 (.un .not (.t 75))]) (.ite (.t 76) (.reg [] [zm 77 0,zm 78 14,z 79 (.bin .add (.t 78) (.c (.i .i64 1))),z 80 (.call 48 [.t 77,.t 79]),zm 14 80]) (.skip))) (.seq (.dreg [([zm
 81 10,zm 82 14,z 83 (.idx 3 (.t 81) (.t 82)),zf 84 1 83,zl 85 84,zm 87 10,zm 88 14,z 89 (.idx 3 (.t 87) (.t 88)),zf 90 2 89,zl 91 90],z 86 (.call 122 [.t 85]),[z 89 (.idx
 3 (.t 87) (.t 88)),zf 90 2 89,zl 91 90])] [] [] [z 92 (.build [.i .i64 0,.s [],.i .i64 0] [(0,1,.c (.i .i64 3)),(1,1,.t 86),(2,1,.t 91)]),zs (.store 3 [none,none,
 none] (.t 13) (.t 92))]) (.dreg [([zm 93 10,zm 94 14,z 95 (.slice 3 (.t 93) none (some (.t 94))),zm 97 10,zm 98 14,z 99 (.bin .add (.t 98) (.c (.i .i64 1))),z 100 (.slice 3
 (.t 97) (some (.t 99)) none)],z 96 (.app 23 3 32 (.c .nil) (.t 95)),[z 100 (.slice 3 (.t 97) (some (.t 99)) none)])] [] [] [z 101 (.app 23 3 32 (.t 96) (.t 100)),zm 10 101])))
 (.seq (.reg [104,105] [zm 102 2,zm 103 102,⟨some 104,[(103,true)],.mov (.t 3)⟩,⟨some 105,[(103,true)],.un .not (.t 104)⟩,z 106 (.pick (.t 103) (.t 105) (.c (.b false)))])
 (.ite (.t 106) (.seq (.reg [] [zm 107 11,z 108 (.bin .add (.t 107) (.c (.i .i64 1))),zm 11 108]) (.reg [] [zm 109 11,z 110 (.build [.i .i64 0,.s [],.i .i64 0] [(0,1,.c (.i
 .i64 3)),(1,1,.c (.s [98])),(2,1,.t 109)]),zs (.store 3 [none,none,none] (.t 13) (.t 110))])) (.skip)))))) (.skip))))))))))) (.reg [] [zm 111 9,zL 112 3 13,z 113 (.bslice
 3 [none,none,none] [.t 112]),z 114 (.call 123 [.t 111,.t 113]),zm 9 114])))) (.reg [] [zm 22 12,z 23 (.bin .sub (.t 22) (.c (.i .i64 1))),zm 12 23]))
def p96_1 : PCode := .seq (.seq (.reg [121] [zm 118 15,z 119 (.bin .geq (.t 118) (.c (.i .i64 0))),zm 120 119,⟨some 121,[(120,true)],.mov (.t 3)⟩,z 122 (.pick (.t 120) (.t 121) (.c (.b false)))])
 (.ite (.t 122) (.skip) (.exit 3))) (.seq (.block 4 (.dreg [([zm 125 9,zm 126 10,zm 127 15,z 128 (.idx 3 (.t 126) (.t 127)),zf 129 1 128,zl 130 129,zm 132 10,zm 133 15,z 134
 (.idx 3 (.t 132) (.t 133)),zf 135 2 134,zl 136 135],z 131 (.call 122 [.t 130]),[z 134 (.idx 3 (.t 132) (.t 133)),zf 135 2 134,zl 136 135])] [z 137 (.build [.i .i64 0,.s [],
 .i .i64 0] [(0,1,.c (.i .i64 3)),(1,1,.t 131),(2,1,.t 136)]),z 138 (.bslice 3 [none,none,none] [.t 137])] [] [z 139 (.app 23 3 32 (.t 125) (.t 138)),zm 9 139])) (.reg []
 [zm 123 15,z 124 (.bin .sub (.t 123) (.c (.i .i64 1))),zm 15 124]))
def p96 : PFun := ⟨141,[.t 8],.seq (.reg [] [z 8 (.mov (.c .nil))]) (.seq (.reg [] [z 9 (.mov (.c .nil)),z 10 (.mov (.c .nil))]) (.seq (.reg [] [z 11 (.mov (.c (.i .i64 0)))]) (.seq (.seq (.reg []
 [zm 16 0,zm 17 1,z 18 (.bin .add (.t 17) (.c (.i .i64 1))),z 19 (.call 48 [.t 16,.t 18]),zm 12 19]) (.block 0 (.loop p96_0))) (.seq (.seq (.reg [] [zm 115 10,z 116 (.len false
 (.t 115)),z 117 (.bin .sub (.t 116) (.c (.i .i64 1))),zm 15 117]) (.block 3 (.loop p96_1))) (.seq (.reg [] [zm 140 9,zm 8 140]) (.ret))))))⟩
theorem c96 : cFun Tryz.prog Tryz.f96 = some p96 := by kernel_rfl
def p97_0 : PCode := .seq (.reg [] [z 11 (.bin .lss (.t 10) (.t 9))]) (.seq (.ite (.t 11) (.skip) (.exit 0)) (.seq (.block 1 (.seq (.reg [] [zm 12 10,zm 6 12]) (.seq (.reg [] [zm 13 1,zm 14 6,z 15
 (.idx 3 (.t 13) (.t 14)),zL 16 3 15,z 7 (.alloc 23 [.i .i64 0,.s [],.i .i64 0]),zs (.store 3 [none,none,none] (.t 7) (.t 16))]) (.seq (.seq (.reg [] [zf 17 0 7,zl 18 17,z
 19 (.bin .eql (.t 18) (.c (.i .i64 1)))]) (.ite (.t 19) (.dreg [([zf 20 1 7,zl 21 20,z 22 (.bin .add (.c (.s [101,105,110,32])) (.t 21)),zf 23 1 7,zl 24 23,z 25 (.bslice 1
 [none] [.c (.s [114,111,116]),.c (.s [100,97,115,32,65,117,116,111]),.c (.s []),.t 22,.t 24]),zm 26 0],z 27 (.call 48 [.t 26,.c (.i .i64 5)]),[zf 20 1 7,zl 21 20,
 zf 23 1 7,zl 24 23,z 25 (.bslice 1 [none] [.c (.s [114,111,116]),.c (.s [100,97,115,32,65,117,116,111]),.c (.s []),.t 22,.t 24])])] [] [] [z 28 (.idx 1 (.t 25) (.t
 27)),zl 29 28,zf 30 1 7,zs (.store 1 [none] (.t 30) (.t 29))]) (.seq (.reg [] [zm 31 0,z 32 (.call 48 [.t 31,.c (.i .i64 3)]),z 33 (.bin .eql (.t 32) (.c (.i .i64 0)))]) (.ite
 (.t 33) (.reg [] [zm 34 5,zm 35 0,z 36 (.call 121 [.t 35,.c (.i .i64 2)]),z 37 (.build [.i .i64 0,.s [],.i .i64 0] [(0,1,.c (.i .i64 1)),(1,1,.t 36)]),z 38 (.bslice 3
 [none,none,none] [.t 37]),z 39 (.call 123 [.t 34,.t 38]),zm 5 39]) (.skip))))) (.reg [] [zm 40 5,zL 41 3 7,z 42 (.bslice 3 [none,none,none] [.t 41]),z 43 (.call 123 [.t
 40,.t 42]),zm 5 43]))))) (.reg [] [z 44 (.bin .add (.t 10) (.c (.i .i64 1))),zm 10 44])))
def p97 : PFun := ⟨46,[.t 4],.seq (.reg [] [z 4 (.mov (.c .nil))]) (.seq (.reg [] [z 5 (.mov (.c .nil))]) (.seq (.seq (.reg [] [zm 8 1,z 9 (.len false (.t 8)),z 10 (.mov (.c (.i .i64 0)))])
 (.block 0 (.loop p97_0))) (.seq (.reg [] [zm 45 5,zm 4 45]) (.ret))))⟩
theorem c97 : cFun Tryz.prog Tryz.f97 = some p97 := by kernel_rfl
def p49 : PFun := ⟨56,[.c 2 (some 8)],.seq (.reg [] [z 2 (.alloc 26 [.nil,.nil,.s [],.s [],.s [],.s [],.i .i64 0,.i .i64 0])]) (.seq (.reg [] [zm 7 0,z 8 (.call 96 [.t 7,.c (.i .i64 4),.c
 (.b true),.c (.b true)]),zm 3 8]) (.seq (.seq (.reg [] [zm 9 3,z 10 (.len false (.t 9)),z 11 (.bin .eql (.t 10) (.c (.i .i64 0)))]) (.ite (.t 11) (.reg [] [z 12 (.bslice 1
 [none] [.c (.s [83,97,118,101]),.c (.s [114,101,100,32,99,97,114]),.c (.s [82,101,100,32,99,97,114,115])]),zm 13 0,z 14 (.call 48 [.t 13,.c (.i .i64 3)]),z 15
 (.idx 1 (.t 12) (.t 14)),zl 16 15,z 17 (.build [.i .i64 0,.s [],.i .i64 0] [(0,1,.c (.i .i64 1)),(1,1,.t 16)]),z 18 (.bslice 3 [none,none,none] [.t 17]),zm 3 18])
 (.skip))) (.seq (.reg [] [zm 19 0,zm 20 3,z 21 (.call 97 [.t 19,.t 20]),zm 4 21]) (.seq (.reg [] [zm 23 3,zm 24 4,z 25 (.call 98 [.t 23,.t 24]),zm 22 25,z 26 (.ext 0 (.t
 22)),z 27 (.ext 1 (.t 22)),zm 5 26,zm 6 27]) (.seq (.dreg [([zm 28 5,zm 29 6,z 30 (.bslice 1 [none] [.c (.s []),.c (.s []),.c (.s [83,97,118,101]),.c (.s [114,101,100,
 32,99,97,114])]),zm 31 0,z 35 (.bslice 1 [none] [.c (.s []),.c (.s []),.c (.s [120]),.c (.s [83,97,118,101])]),zm 36 0,z 40 (.bslice 1 [none] [.c (.s []),.c (.s [97,
 110,110]),.c (.s [98,111,98])]),zm 41 0,z 45 (.bslice 1 [none] [.c (.s []),.c (.s [112]),.c (.s [113])]),zm 46 0,zm 50 0,zm 52 0],z 32 (.call 48 [.t 31,.c (.i .i64
 4)]),[z 30 (.bslice 1 [none] [.c (.s []),.c (.s []),.c (.s [83,97,118,101]),.c (.s [114,101,100,32,99,97,114])]),z 35 (.bslice 1 [none] [.c (.s []),.c (.s []),.c (.s
 [120]),.c (.s [83,97,118,101])]),z 40 (.bslice 1 [none] [.c (.s []),.c (.s [97,110,110]),.c (.s [98,111,98])]),z 45 (.bslice 1 [none] [.c (.s []),.c (.s [112]),.c (.s
 [113])])]),([z 33 (.idx 1 (.t 30) (.t 32)),zl 34 33],z 37 (.call 48 [.t 36,.c (.i .i64 4)]),[z 30 (.bslice 1 [none] [.c (.s []),.c (.s []),.c (.s [83,97,118,101]),.c (.s
 [114,101,100,32,99,97,114])]),z 33 (.idx 1 (.t 30) (.t 32)),zl 34 33,z 35 (.bslice 1 [none] [.c (.s []),.c (.s []),.c (.s [120]),.c (.s [83,97,118,101])]),z 40
 (.bslice 1 [none] [.c (.s []),.c (.s [97,110,110]),.c (.s [98,111,98])]),z 45 (.bslice 1 [none] [.c (.s []),.c (.s [112]),.c (.s [113])])]),([z 38 (.idx 1 (.t 35) (.t
 37)),zl 39 38],z 42 (.call 48 [.t 41,.c (.i .i64 3)]),[z 30 (.bslice 1 [none] [.c (.s []),.c (.s []),.c (.s [83,97,118,101]),.c (.s [114,101,100,32,99,97,114])]),z
 33 (.idx 1 (.t 30) (.t 32)),zl 34 33,z 35 (.bslice 1 [none] [.c (.s []),.c (.s []),.c (.s [120]),.c (.s [83,97,118,101])]),z 38 (.idx 1 (.t 35) (.t 37)),zl 39 38,z 40
 (.bslice 1 [none] [.c (.s []),.c (.s [97,110,110]),.c (.s [98,111,98])]),z 45 (.bslice 1 [none] [.c (.s []),.c (.s [112]),.c (.s [113])])]),([z 43 (.idx 1 (.t 40) (.t
 42)),zl 44 43],z 47 (.call 48 [.t 46,.c (.i .i64 3)]),[z 30 (.bslice 1 [none] [.c (.s []),.c (.s []),.c (.s [83,97,118,101]),.c (.s [114,101,100,32,99,97,114])]),z
 33 (.idx 1 (.t 30) (.t 32)),zl 34 33,z 35 (.bslice 1 [none] [.c (.s []),.c (.s []),.c (.s [120]),.c (.s [83,97,118,101])]),z 38 (.idx 1 (.t 35) (.t 37)),zl 39 38,z 40
 (.bslice 1 [none] [.c (.s []),.c (.s [97,110,110]),.c (.s [98,111,98])]),z 43 (.idx 1 (.t 40) (.t 42)),zl 44 43,z 45 (.bslice 1 [none] [.c (.s []),.c (.s [112]),.c (.s
 [113])])]),([z 48 (.idx 1 (.t 45) (.t 47)),zl 49 48],z 51 (.call 48 [.t 50,.c (.i .i64 50)]),[z 30 (.bslice 1 [none] [.c (.s []),.c (.s []),.c (.s [83,97,118,101]),.c (.s
 [114,101,100,32,99,97,114])]),z 33 (.idx 1 (.t 30) (.t 32)),zl 34 33,z 35 (.bslice 1 [none] [.c (.s []),.c (.s []),.c (.s [120]),.c (.s [83,97,118,101])]),z 38 (.idx
 1 (.t 35) (.t 37)),zl 39 38,z 40 (.bslice 1 [none] [.c (.s []),.c (.s [97,110,110]),.c (.s [98,111,98])]),z 43 (.idx 1 (.t 40) (.t 42)),zl 44 43,z 45 (.bslice 1 [none]
 [.c (.s []),.c (.s [112]),.c (.s [113])]),z 48 (.idx 1 (.t 45) (.t 47)),zl 49 48]),([],z 53 (.call 48 [.t 52,.c (.i .i64 3)]),[z 30 (.bslice 1 [none] [.c (.s []),.c (.s
 []),.c (.s [83,97,118,101]),.c (.s [114,101,100,32,99,97,114])]),z 33 (.idx 1 (.t 30) (.t 32)),zl 34 33,z 35 (.bslice 1 [none] [.c (.s []),.c (.s []),.c (.s [120]),
 .c (.s [83,97,118,101])]),z 38 (.idx 1 (.t 35) (.t 37)),zl 39 38,z 40 (.bslice 1 [none] [.c (.s []),.c (.s [97,110,110]),.c (.s [98,111,98])]),z 43 (.idx 1 (.t 40) (.t
 42)),zl 44 43,z 45 (.bslice 1 [none] [.c (.s []),.c (.s [112]),.c (.s [113])]),z 48 (.idx 1 (.t 45) (.t 47)),zl 49 48])] [z 54 (.bin .add (.c (.i .i64 1)) (.t 53))] [] [z 55
 (.build [.nil,.nil,.s [],.s [],.s [],.s [],.i .i64 0,.i .i64 0] [(0,1,.t 28),(1,1,.t 29),(2,1,.t 34),(3,1,.t 39),(4,1,.t 44),(5,1,.t 49),(6,1,.t 51),(7,
 1,.t 54)]),zs (.store 8 [some 3,some 3,none,none,none,none,none,none] (.t 2) (.t 55))]) (.ret))))))⟩
theorem c49 : cFun Tryz.prog Tryz.f49 = some p49 := by kernel_rfl
def p19 : PFun := ⟨52,[.c 2 (some 13)],.seq (.reg [] [z 2 (.alloc 33 [.i .i64 0,.i .i64 0,.i .i64 0,.i .i64 0,.nil,.nil,.s [],.s [],.s [],.s [],.i .i64 0,.i .i64 0,.nil])]) (.seq (.reg
 [] [zm 5 0,z 6 (.call 48 [.t 5,.c (.i .i64 9)]),z 7 (.bin .add (.c (.i .i64 1)) (.t 6)),zm 8 0,z 9 (.call 48 [.t 8,.c (.i .i64 3)]),zm 10 0,z 11 (.call 48 [.t 10,.c (.i
 .i64 3)]),z 12 (.bin .add (.c (.i .i64 1)) (.t 11)),z 13 (.build [.i .i64 0,.i .i64 0,.i .i64 0] [(0,1,.t 7),(1,1,.t 9),(2,1,.t 12)]),zm 14 0,z 15 (.call 49 [.t 14]),
 z 16 (.build [.i .i64 0,.i .i64 0,.i .i64 0,.i .i64 0,.nil,.nil,.s [],.s [],.s [],.s [],.i .i64 0,.i .i64 0,.nil] [(0,3,.t 13),(3,1,.c (.i .i64 1)),(4,8,.t
 15)]),z 3 (.alloc 33 [.i .i64 0,.i .i64 0,.i .i64 0,.i .i64 0,.nil,.nil,.s [],.s [],.s [],.s [],.i .i64 0,.i .i64 0,.nil]),zs (.store 13 [none,none,none,none,some
 3,some 3,none,none,none,none,none,none,some 1] (.t 3) (.t 16))]) (.seq (.reg [] [zm 17 0,z 18 (.call 48 [.t 17,.c (.i .i64 3)]),zm 19 0,z 20 (.call 48 [.t 19,.c (.i
 .i64 3)]),zm 21 0,z 22 (.call 48 [.t 21,.c (.i .i64 3)]),z 23 (.bown 3 1 8 [none] [.t 18,.t 20,.t 22]),zm 4 23]) (.seq (.reg [] [zm 24 4,zf 25 0 3,zf 26 1 25,zl 27 26,zf
 28 0 3,zf 29 2 28,zl 30 29,z 31 (.bin .sub (.t 30) (.c (.i .i64 1))),z 32 (.idx 1 (.t 24) (.t 27)),zs (.store 1 [none] (.t 32) (.t 31))]) (.seq (.reg [] [zm 33 4,z 34 (.call
 50 [.t 33]),zf 35 12 3,zs (.store 1 [some 1] (.t 35) (.t 34))]) (.seq (.seq (.reg [] [zm 36 0,z 37 (.call 48 [.t 36,.c (.i .i64 3)]),z 38 (.bin .eql (.t 37) (.c (.i .i64 0)))])
 (.ite (.t 38) (.seq (.reg [] [zf 39 3 3,zs (.store 1 [none] (.t 39) (.c (.i .i64 2)))]) (.reg [] [zf 40 4 3,zf 41 0 40,zl 42 41,zf 43 4 3,zf 44 2 43,zl 45 44,zf 46 4 3,zf 47
 3 46,zl 48 47,z 49 (.build [.nil,.nil,.s [],.s [],.s [],.s [],.i .i64 0,.i .i64 0] [(0,1,.t 42),(2,1,.t 45),(3,1,.t 48)]),zf 50 4 3,zs (.store 8 [some 3,some 3,
 none,none,none,none,none,none] (.t 50) (.t 49))])) (.skip))) (.seq (.reg [] [zL 51 13 3,zs (.store 13 [none,none,none,none,some 3,some 3,none,none,none,none,none,
 none,some 1] (.t 2) (.t 51))]) (.ret)))))))⟩
theorem c19 : cFun Tryz.prog Tryz.f19 = some p19 := by kernel_rfl
def p20 : PFun := ⟨6,[.t 2],.seq (.reg [] [z 2 (.mov (.c .nilptr))]) (.seq (.reg [] [zm 3 0,z 4 (.build [.nil,.i .i64 0] [(0,1,.t 3)]),z 5 (.box 83 (.t 4)),zm 2 5]) (.ret))⟩
theorem c20 : cFun Tryz.prog Tryz.f20 = some p20 := by kernel_rfl
def p17_0 : PCode := .seq (.reg [] [z 9 (.bin .lss (.t 8) (.t 7))]) (.seq (.ite (.t 9) (.skip) (.exit 0)) (.seq (.block 1 (.seq (.reg [] [z 10 (.idx 1 (.t 6) (.t 8)),zl 11 10,zm 5 11]) (.reg [] [zm 12
 3,zm 13 5,z 14 (.len false (.t 13)),z 15 (.bin .add (.t 12) (.t 14)),zm 3 15]))) (.reg [] [z 16 (.bin .add (.t 8) (.c (.i .i64 1))),zm 8 16])))
def p17 : PFun := ⟨19,[.t 2],.seq (.reg [] [z 2 (.mov (.c (.b false)))]) (.seq (.reg [] [z 3 (.mov (.c (.i .i64 0)))]) (.seq (.seq (.reg [] [zm 6 0,z 7 (.len false (.t 6)),z 8 (.mov (.c (.i .i64
 0)))]) (.block 0 (.loop p17_0))) (.seq (.reg [] [zm 17 3,z 18 (.bin .gtr (.t 17) (.c (.i .i64 160))),zm 2 18]) (.ret))))⟩
theorem c17 : cFun Tryz.prog Tryz.f17 = some p17 := by kernel_rfl
def p11_0 : PCode := .seq (.reg [] [z 80 (.bin .lss (.t 79) (.t 78))]) (.seq (.ite (.t 80) (.skip) (.exit 1)) (.seq (.block 2 (.seq (.reg [] [z 81 (.idx 1 (.t 77) (.t 79)),zl 82 81,zm 16 82]) (.seq
 (.reg [] [zm 84 16,z 85 (.call 42 [.t 84]),zm 83 85,z 86 (.ext 0 (.t 83)),z 87 (.ext 1 (.t 83)),z 17 (.alloc 33 [.i .i64 0,.i .i64 0,.i .i64 0,.i .i64 0,.nil,.nil,.s [],
 .s [],.s [],.s [],.i .i64 0,.i .i64 0,.nil]),zs (.store 13 [none,none,none,none,some 3,some 3,none,none,none,none,none,none,some 1] (.t 17) (.t 86)),zm 18 87])
 (.seq (.reg [] [zm 89 16,z 90 (.call 43 [.t 89]),zm 88 90,z 91 (.ext 0 (.t 88)),z 92 (.ext 1 (.t 88)),z 19 (.alloc 33 [.i .i64 0,.i .i64 0,.i .i64 0,.i .i64 0,.nil,.nil,
 .s [],.s [],.s [],.s [],.i .i64 0,.i .i64 0,.nil]),zs (.store 13 [none,none,none,none,some 3,some 3,none,none,none,none,none,none,some 1] (.t 19) (.t 91)),zm 20
 92]) (.seq (.reg [97,98,99,100] [zm 93 18,zm 94 20,z 95 (.bin .neq (.t 93) (.t 94)),zm 96 95,⟨some 97,[(96,false)],.load (some 13) (.t 17)⟩,⟨some 98,[(96,false)],.load
 (some 13) (.t 19)⟩,⟨some 99,[(96,false)],.call 32 [.t 97,.t 98]⟩,⟨some 100,[(96,false)],.un .not (.t 99)⟩,z 101 (.pick (.t 96) (.c (.b true)) (.t 100))]) (.ite (.t 101)
 (.seq (.reg [] [z 10 (.mov (.c (.b false)))]) (.ret)) (.skip))))))) (.reg [] [z 102 (.bin .add (.t 79) (.c (.i .i64 1))),zm 79 102])))
def p11 : PFun := ⟨104,[.t 10],.seq (.reg [] [z 10 (.mov (.c (.b false)))]) (.seq (.seq (.reg [25,26,27] [zm 21 1,z 22 (.bslice 1 [some 1] [.t 21]),z 23 (.call 17 [.t 22]),zm 24 23,⟨some 25,
 [(24,false)],.mov (.t 0)⟩,⟨some 26,[(24,false)],.len false (.t 25)⟩,⟨some 27,[(24,false)],.bin .gtr (.t 26) (.c (.i .i64 600))⟩,z 28 (.pick (.t 24) (.c (.b true)) (.t
 27))]) (.ite (.t 28) (.seq (.reg [] [z 29 (.call 15 []),zm 10 29]) (.ret)) (.skip))) (.seq (.reg [] [zm 31 1,z 32 (.call 20 [.t 31]),z 33 (.call 19 [.t 32]),z 34 (.call 40 [.t
 33]),zm 30 34,z 35 (.ext 0 (.t 30)),z 36 (.ext 1 (.t 30)),zm 11 35,zm 12 36]) (.seq (.reg [] [zm 37 2,zm 38 11,z 39 (.len false (.t 38)),z 40 (.bin .add (.t 39) (.c (.i .i64
 1))),z 41 (.call 12 [.t 37,.t 40]),zm 13 41]) (.seq (.reg [] [z 42 (.bslice 1 [none] []),zm 43 11,zm 44 13,z 45 (.slice 1 (.t 43) none (some (.t 44))),z 46 (.app 5 1 1 (.t
 42) (.t 45)),zm 14 46]) (.seq (.seq (.reg [] [zm 47 4,z 48 (.call 12 [.t 47,.c (.i .i64 3)])]) (.block 0 (.seq (.reg [] [z 50 (.bin .eql (.t 48) (.c (.i .i64 0))),zm 49 50])
 (.ite (.t 49) (.seq (.reg [] [zm 51 13,zm 52 11,z 53 (.len false (.t 52)),z 54 (.bin .lss (.t 51) (.t 53))]) (.ite (.t 54) (.dreg [([zm 55 14,zm 56 3,z 57 (.bslice 1 [none] [.t
 56]),zm 59 11,zm 60 13,z 61 (.bin .add (.t 60) (.c (.i .i64 1))),z 62 (.slice 1 (.t 59) (some (.t 61)) none)],z 58 (.app 5 1 1 (.t 55) (.t 57)),[z 62 (.slice 1 (.t 59) (some
 (.t 61)) none)])] [] [] [z 63 (.app 5 1 1 (.t 58) (.t 62)),zm 14 63]) (.skip))) (.seq (.reg [] [z 65 (.bin .eql (.t 48) (.c (.i .i64 1))),zm 64 65]) (.ite (.t 64) (.dreg [([zm 66
 14,zm 67 3,z 68 (.bslice 1 [none] [.t 67]),zm 70 11,zm 71 13,z 72 (.slice 1 (.t 70) (some (.t 71)) none)],z 69 (.app 5 1 1 (.t 66) (.t 68)),[z 72 (.slice 1 (.t 70) (some (.t
 71)) none)])] [] [] [z 73 (.app 5 1 1 (.t 69) (.t 72)),zm 14 73]) (.skip))))))) (.seq (.seq (.reg [] [zm 74 0,zm 75 11,zm 76 14,z 77 (.bslice 1 [some 1] [.t 74,.t 75,.t 76]),
 z 78 (.len false (.t 77)),z 79 (.mov (.c (.i .i64 0)))]) (.block 1 (.loop p11_0))) (.seq (.reg [] [z 103 (.call 15 []),zm 10 103]) (.ret))))))))⟩
theorem c11 : cFun Tryz.prog Tryz.f11 = some p11 := by kernel_rfl
def p188 : PFun := ⟨51,[.t 2],.seq (.reg [] [z 2 (.mov (.c (.i .i64 0)))]) (.seq (.block 0 (.seq (.reg [7,8,11,12,15,16] [zm 4 0,z 5 (.bin .eql (.t 4) (.c (.i .u8 9))),zm 6 5,⟨some 7,[(6,
 false)],.mov (.t 0)⟩,⟨some 8,[(6,false)],.bin .eql (.t 7) (.c (.i .u8 10))⟩,z 9 (.pick (.t 6) (.c (.b true)) (.t 8)),zm 10 9,⟨some 11,[(10,false)],.mov (.t 0)⟩,⟨some 12,
 [(10,false)],.bin .eql (.t 11) (.c (.i .u8 13))⟩,z 13 (.pick (.t 10) (.c (.b true)) (.t 12)),zm 14 13,⟨some 15,[(14,false)],.mov (.t 0)⟩,⟨some 16,[(14,false)],.bin .eql
 (.t 15) (.c (.i .u8 32))⟩,z 17 (.pick (.t 14) (.c (.b true)) (.t 16)),zm 3 17]) (.ite (.t 3) (.seq (.reg [] [z 2 (.mov (.c (.i .i64 2)))]) (.ret)) (.seq (.reg [22,23] [zm 19 0,z
 20 (.bin .lss (.t 19) (.c (.i .u8 32))),zm 21 20,⟨some 22,[(21,false)],.mov (.t 0)⟩,⟨some 23,[(21,false)],.bin .eql (.t 22) (.c (.i .u8 127))⟩,z 24 (.pick (.t 21) (.c (.b
 true)) (.t 23)),zm 18 24]) (.ite (.t 18) (.seq (.reg [] [z 2 (.mov (.c (.i .i64 1)))]) (.ret)) (.seq (.reg [29,30] [zm 26 0,z 27 (.bin .geq (.t 26) (.c (.i .u8 48))),zm 28 27,
 ⟨some 29,[(28,true)],.mov (.t 0)⟩,⟨some 30,[(28,true)],.bin .leq (.t 29) (.c (.i .u8 57))⟩,z 31 (.pick (.t 28) (.t 30) (.c (.b false))),zm 25 31]) (.ite (.t 25) (.seq (.reg
 [] [z 2 (.mov (.c (.i .i64 3)))]) (.ret)) (.seq (.reg [36,37,40,41,42,43,44,45,48,49] [zm 33 0,z 34 (.bin .geq (.t 33) (.c (.i .u8 65))),zm 35 34,⟨some 36,[(35,true)],
 .mov (.t 0)⟩,⟨some 37,[(35,true)],.bin .leq (.t 36) (.c (.i .u8 90))⟩,z 38 (.pick (.t 35) (.t 37) (.c (.b false))),zm 39 38,⟨some 40,[(39,false)],.mov (.t 0)⟩,⟨some 41,
 [(39,false)],.bin .geq (.t 40) (.c (.i .u8 97))⟩,⟨some 42,[(39,false)],.mov (.t 41)⟩,⟨some 43,[(39,false),(42,true)],.mov (.t 0)⟩,⟨some 44,[(39,false),(42,true)],
 .bin .leq (.t 43) (.c (.i .u8 122))⟩,⟨some 45,[(39,false)],.pick (.t 42) (.t 44) (.c (.b false))⟩,z 46 (.pick (.t 39) (.c (.b true)) (.t 45)),zm 47 46,⟨some 48,[(47,
 false)],.mov (.t 0)⟩,⟨some 49,[(47,false)],.bin .geq (.t 48) (.c (.i .u8 128))⟩,z 50 (.pick (.t 47) (.c (.b true)) (.t 49)),zm 32 50]) (.ite (.t 32) (.seq (.reg [] [z 2 (.mov
 (.c (.i .i64 4)))]) (.ret)) (.skip)))))))))) (.seq (.reg [] [z 2 (.mov (.c (.i .i64 5)))]) (.ret)))⟩
theorem c188 : cFun Tryz.prog Tryz.f188 = some p188 := by kernel_rfl
def p142_0 : PCode := .seq (.seq (.reg [] [zm 13 3,zm 14 0,z 15 (.len true (.t 14)),z 16 (.bin .lss (.t 13) (.t 15))]) (.ite (.t 16) (.skip) (.exit 0))) (.seq (.block 1 (.seq (.reg [] [zm 19 0,zm 20
 3,z 21 (.sidx (.t 19) (.t 20)),zm 4 21]) (.seq (.seq (.reg [25,26,29,30,31,32,33,34,35,36,37,38,39,40,41,42] [zm 22 4,z 23 (.bin .geq (.t 22) (.c (.i .u8 97))),zm
 24 23,⟨some 25,[(24,true)],.mov (.t 4)⟩,⟨some 26,[(24,true)],.bin .leq (.t 25) (.c (.i .u8 122))⟩,z 27 (.pick (.t 24) (.t 26) (.c (.b false))),zm 28 27,⟨some 29,[(28,
 false)],.mov (.t 3)⟩,⟨some 30,[(28,false)],.bin .gtr (.t 29) (.c (.i .i64 0))⟩,⟨some 31,[(28,false)],.mov (.t 30)⟩,⟨some 32,[(28,false),(31,true)],.mov (.t 4)⟩,⟨some
 33,[(28,false),(31,true)],.bin .geq (.t 32) (.c (.i .u8 48))⟩,⟨some 34,[(28,false),(31,true)],.mov (.t 33)⟩,⟨some 35,[(28,false),(31,true),(34,true)],.mov (.t
 4)⟩,⟨some 36,[(28,false),(31,true),(34,true)],.bin .leq (.t 35) (.c (.i .u8 57))⟩,⟨some 37,[(28,false),(31,true)],.pick (.t 34) (.t 36) (.c (.b false))⟩,⟨some 38,
 [(28,false),(31,true)],.mov (.t 37)⟩,⟨some 39,[(28,false),(31,true),(38,false)],.mov (.t 4)⟩,⟨some 40,[(28,false),(31,true),(38,false)],.bin .eql (.t 39) (.c (.i
 .u8 45))⟩,⟨some 41,[(28,false),(31,true)],.pick (.t 38) (.c (.b true)) (.t 40)⟩,⟨some 42,[(28,false)],.pick (.t 31) (.t 41) (.c (.b false))⟩,z 43 (.pick (.t 28) (.c (.b
 true)) (.t 42))]) (.ite (.t 43) (.exit 1) (.skip))) (.seq (.reg [] [z 2 (.mov (.c (.b false)))]) (.ret))))) (.reg [] [zm 17 3,z 18 (.bin .add (.t 17) (.c (.i .i64 1))),zm 3 18]))
def p142 : PFun := ⟨44,[.t 2],.seq (.reg [] [z 2 (.mov (.c (.b false)))]) (.seq (.seq (.reg [9,10,11] [zm 5 0,z 6 (.len true (.t 5)),z 7 (.bin .lss (.t 6) (.c (.i .i64 1))),zm 8 7,⟨some 9,
 [(8,false)],.mov (.t 0)⟩,⟨some 10,[(8,false)],.len true (.t 9)⟩,⟨some 11,[(8,false)],.bin .gtr (.t 10) (.c (.i .i64 24))⟩,z 12 (.pick (.t 8) (.c (.b true)) (.t 11))])
 (.ite (.t 12) (.seq (.reg [] [z 2 (.mov (.c (.b false)))]) (.ret)) (.skip))) (.seq (.seq (.reg [] [z 3 (.mov (.c (.i .i64 0)))]) (.block 0 (.loop p142_0))) (.seq (.reg [] [z 2 (.mov
 (.c (.b true)))]) (.ret))))⟩
theorem c142 : cFun Tryz.prog Tryz.f142 = some p142 := by kernel_rfl
def p173 : PFun := ⟨16,[.t 2],.seq (.reg [] [z 2 (.mov (.c (.s [])))]) (.seq (.seq (.reg [6,7] [zm 3 0,z 4 (.bin .lss (.t 3) (.c (.i .i64 0))),zm 5 4,⟨some 6,[(5,true)],.mov (.t 0)⟩,⟨some 7,
 [(5,true)],.bin .gtr (.t 6) (.c (.i .i64 (-4611686018427387904)))⟩,z 8 (.pick (.t 5) (.t 7) (.c (.b false)))]) (.ite (.t 8) (.seq (.reg [] [zm 9 0,z 10 (.un .neg (.t 9)),z 11
 (.call 189 [.t 10]),z 12 (.bin .add (.c (.s [45])) (.t 11)),zm 2 12]) (.ret)) (.skip))) (.seq (.reg [] [zm 13 0,z 14 (.max2 (.t 13) (.c (.i .i64 0))),z 15 (.call 189 [.t 14]),
 zm 2 15]) (.ret)))⟩
theorem c173 : cFun Tryz.prog Tryz.f173 = some p173 := by kernel_rfl
def p189_0 : PCode := .block 1 (.seq (.reg [] [zm 4 0,z 5 (.bin .rem (.t 4) (.c (.i .i64 10))),z 6 (.bin .add (.c (.i .i64 48)) (.t 5)),z 7 (.cvi .u8 (.t 6)),z 8 (.bslice 1 [none] [.t 7]),z 9 (.b2s
 (.t 8)),zm 10 3,z 11 (.bin .add (.t 9) (.t 10)),zm 3 11]) (.seq (.reg [] [zm 12 0,z 13 (.bin .quo (.t 12) (.c (.i .i64 10))),zm 0 13]) (.seq (.reg [] [zm 14 0,z 15 (.bin .eql
 (.t 14) (.c (.i .i64 0)))]) (.ite (.t 15) (.seq (.reg [] [zm 16 3,zm 2 16]) (.ret)) (.skip)))))
def p189 : PFun := ⟨17,[.t 2],.seq (.reg [] [z 2 (.mov (.c (.s [])))]) (.seq (.reg [] [z 3 (.mov (.c (.s [])))]) (.block 0 (.loop p189_0)))⟩
theorem c189 : cFun Tryz.prog Tryz.f189 = some p189 := by kernel_rfl
def p76_0 : PCode := .seq (.reg [] [z 14 (.bin .lss (.t 13) (.t 12))]) (.seq (.ite (.t 14) (.skip) (.exit 0)) (.seq (.block 1 (.seq (.reg [] [zm 15 13,zm 5 15]) (.seq (.dreg [] [zm 16 0,zm 17 5,z 18
 (.idx 3 (.t 16) (.t 17)),zL 19 3 18,zm 20 1,zm 21 5,z 22 (.idx 3 (.t 20) (.t 21)),zL 23 3 22] [] [z 24 (.beq true [0,1,0] (.t 19) (.t 23))]) (.ite (.t 24) (.seq (.reg [] [z 4
 (.mov (.c (.b false)))]) (.ret)) (.skip))))) (.reg [] [z 25 (.bin .add (.t 13) (.c (.i .i64 1))),zm 13 25])))
def p76 : PFun := ⟨26,[.t 4],.seq (.reg [] [z 4 (.mov (.c (.b false)))]) (.seq (.seq (.reg [] [zm 6 0,z 7 (.len false (.t 6)),zm 8 1,z 9 (.len false (.t 8)),z 10 (.bin .neq (.t 7) (.t 9))])
 (.ite (.t 10) (.seq (.reg [] [z 4 (.mov (.c (.b false)))]) (.ret)) (.skip))) (.seq (.seq (.reg [] [zm 11 0,z 12 (.len false (.t 11)),z 13 (.mov (.c (.i .i64 0)))]) (.block 0
 (.loop p76_0))) (.seq (.reg [] [z 4 (.mov (.c (.b true)))]) (.ret))))⟩
theorem c76 : cFun Tryz.prog Tryz.f76 = some p76 := by kernel_rfl
def p159 : PFun := ⟨16,[.t 2],.seq (.reg [] [z 1 (.box 23 (.t 0)),z 2 (.mov (.c (.b false)))]) (.seq (.reg [7,8,9,12,13,14] [zf 3 0 1,zl 4 3,z 5 (.bin .eql (.t 4) (.c (.i .i64 2))),zm 6 5,
 ⟨some 7,[(6,false)],.fld 0 (.t 1)⟩,⟨some 8,[(6,false)],.load none (.t 7)⟩,⟨some 9,[(6,false)],.bin .eql (.t 8) (.c (.i .i64 3))⟩,z 10 (.pick (.t 6) (.c (.b true)) (.t
 9)),zm 11 10,⟨some 12,[(11,false)],.fld 0 (.t 1)⟩,⟨some 13,[(11,false)],.load none (.t 12)⟩,⟨some 14,[(11,false)],.bin .eql (.t 13) (.c (.i .i64 4))⟩,z 15 (.pick (.t
 11) (.c (.b true)) (.t 14)),zm 2 15]) (.ret))⟩
theorem c159 : cFun Tryz.prog Tryz.f159 = some p159 := by kernel_rfl
def p122_0 : PCode := .seq (.seq (.reg [] [zm 4 3,zm 5 0,z 6 (.len true (.t 5)),z 7 (.bin .lss (.t 4) (.t 6))]) (.ite (.t 7) (.skip) (.exit 0))) (.seq (.block 1 (.seq (.reg [] [zm 10 0,zm 11 3,z 12
 (.sidx (.t 10) (.t 11)),z 13 (.bin .eql (.t 12) (.c (.i .u8 32)))]) (.ite (.t 13) (.seq (.reg [] [zm 14 0,zm 15 3,z 16 (.sslice (.t 14) none (some (.t 15))),zm 2 16]) (.ret))
 (.skip)))) (.reg [] [zm 8 3,z 9 (.bin .add (.t 8) (.c (.i .i64 1))),zm 3 9]))
def p122 : PFun := ⟨18,[.t 2],.seq (.reg [] [z 2 (.mov (.c (.s [])))]) (.seq (.seq (.reg [] [z 3 (.mov (.c (.i .i64 0)))]) (.block 0 (.loop p122_0))) (.seq (.reg [] [zm 17 0,zm 2 17]) (.ret)))⟩
theorem c122 : cFun Tryz.prog Tryz.f122 = some p122 := by kernel_rfl
def p170_0 : PCode := .seq (.seq (.reg [] [zm 9 3,zm 10 0,z 11 (.len true (.t 10)),z 12 (.bin .lss (.t 9) (.t 11))]) (.ite (.t 12) (.skip) (.exit 0))) (.seq (.block 1 (.seq (.reg [] [zm 15 0,zm 16 3,
 z 17 (.sidx (.t 15) (.t 16)),zm 4 17]) (.seq (.reg [21,22,25,26,29,30,33,34,37,38] [zm 18 4,z 19 (.bin .lss (.t 18) (.c (.i .u8 32))),zm 20 19,⟨some 21,[(20,false)],
 .mov (.t 4)⟩,⟨some 22,[(20,false)],.bin .gtr (.t 21) (.c (.i .u8 126))⟩,z 23 (.pick (.t 20) (.c (.b true)) (.t 22)),zm 24 23,⟨some 25,[(24,false)],.mov (.t 4)⟩,⟨some 26,
 [(24,false)],.bin .eql (.t 25) (.c (.i .u8 60))⟩,z 27 (.pick (.t 24) (.c (.b true)) (.t 26)),zm 28 27,⟨some 29,[(28,false)],.mov (.t 4)⟩,⟨some 30,[(28,false)],.bin .eql
 (.t 29) (.c (.i .u8 62))⟩,z 31 (.pick (.t 28) (.c (.b true)) (.t 30)),zm 32 31,⟨some 33,[(32,false)],.mov (.t 4)⟩,⟨some 34,[(32,false)],.bin .eql (.t 33) (.c (.i .u8
 123))⟩,z 35 (.pick (.t 32) (.c (.b true)) (.t 34)),zm 36 35,⟨some 37,[(36,false)],.mov (.t 4)⟩,⟨some 38,[(36,false)],.bin .eql (.t 37) (.c (.i .u8 125))⟩,z 39 (.pick (.t
 36) (.c (.b true)) (.t 38))]) (.ite (.t 39) (.seq (.reg [] [z 2 (.mov (.c (.b false)))]) (.ret)) (.skip))))) (.reg [] [zm 13 3,z 14 (.bin .add (.t 13) (.c (.i .i64 1))),zm 3 14]))
def p170 : PFun := ⟨67,[.t 2],.seq (.reg [] [z 2 (.mov (.c (.b false)))]) (.seq (.seq (.reg [] [zm 6 0,z 7 (.len true (.t 6)),z 8 (.bin .gtr (.t 7) (.c (.i .i64 64)))]) (.ite (.t 8) (.seq (.reg []
 [z 2 (.mov (.c (.b false)))]) (.ret)) (.skip))) (.seq (.seq (.reg [] [z 3 (.mov (.c (.i .i64 0)))]) (.block 0 (.loop p170_0))) (.seq (.reg [] [zm 40 0,z 41 (.call 122 [.t 40]),zm
 5 41]) (.seq (.reg [45,46,47,48,49,50,51,52,53,54,55,56,57,60,61,62,63,64,65] [zm 42 5,z 43 (.call 142 [.t 42]),zm 44 43,⟨some 45,[(44,true)],.mov (.t 5)⟩,
 ⟨some 46,[(44,true)],.len true (.t 45)⟩,⟨some 47,[(44,true)],.mov (.t 0)⟩,⟨some 48,[(44,true)],.len true (.t 47)⟩,⟨some 49,[(44,true)],.bin .eql (.t 46) (.t 48)⟩,
 ⟨some 50,[(44,true)],.mov (.t 49)⟩,⟨some 51,[(44,true),(50,false)],.mov (.t 0)⟩,⟨some 52,[(44,true),(50,false)],.len true (.t 51)⟩,⟨some 53,[(44,true),(50,
 false)],.mov (.t 5)⟩,⟨some 54,[(44,true),(50,false)],.len true (.t 53)⟩,⟨some 55,[(44,true),(50,false)],.bin .add (.t 54) (.c (.i .i64 1))⟩,⟨some 56,[(44,true),(50,
 false)],.bin .gtr (.t 52) (.t 55)⟩,⟨some 57,[(44,true)],.pick (.t 50) (.c (.b true)) (.t 56)⟩,z 58 (.pick (.t 44) (.t 57) (.c (.b false))),zm 59 58,⟨some 60,[(59,true)],
 .mov (.t 0)⟩,⟨some 61,[(59,true)],.mov (.t 0)⟩,⟨some 62,[(59,true)],.len true (.t 61)⟩,⟨some 63,[(59,true)],.bin .sub (.t 62) (.c (.i .i64 1))⟩,⟨some 64,[(59,true)],
 .sidx (.t 60) (.t 63)⟩,⟨some 65,[(59,true)],.bin .neq (.t 64) (.c (.i .u8 47))⟩,z 66 (.pick (.t 59) (.t 65) (.c (.b false))),zm 2 66]) (.ret)))))⟩
theorem c170 : cFun Tryz.prog Tryz.f170 = some p170 := by kernel_rfl
def p140_0 : PCode := .seq (.reg [] [z 81 (.bin .lss (.t 80) (.t 79))]) (.seq (.ite (.t 81) (.skip) (.exit 1)) (.seq (.block 2 (.seq (.reg [] [zm 82 80,zm 5 82]) (.seq (.reg [] [zm 83 0,zm 84 5,z 85
 (.idx 3 (.t 83) (.t 84)),zL 86 3 85,z 6 (.alloc 23 [.i .i64 0,.s [],.i .i64 0]),zs (.store 3 [none,none,none] (.t 6) (.t 86))]) (.seq (.seq (.reg [91,92,93,94,95] [zL 87
 3 6,z 88 (.call 159 [.t 87]),z 89 (.un .not (.t 88)),zm 90 89,⟨some 91,[(90,false)],.fld 2 (.t 6)⟩,⟨some 92,[(90,false)],.load none (.t 91)⟩,⟨some 93,[(90,false)],
 .fld 2 (.t 3)⟩,⟨some 94,[(90,false)],.load none (.t 93)⟩,⟨some 95,[(90,false)],.bin .neq (.t 92) (.t 94)⟩,z 96 (.pick (.t 90) (.c (.b true)) (.t 95))]) (.ite (.t 96) (.exit
 2) (.skip))) (.seq (.dreg [([zf 97 0 3,zl 98 97,z 99 (.bin .neq (.t 98) (.c (.i .i64 3))),zm 100 99,⟨some 101,[(100,false)],.fld 0 (.t 6)⟩,⟨some 102,[(100,false)],.load
 none (.t 101)⟩,⟨some 103,[(100,false)],.bin .neq (.t 102) (.c (.i .i64 2))⟩,z 104 (.pick (.t 100) (.c (.b true)) (.t 103)),zm 105 104,⟨some 106,[(105,false)],.fld 1 (.t
 6)⟩,⟨some 107,[(105,false)],.load none (.t 106)⟩,⟨some 109,[(105,false)],.fld 1 (.t 3)⟩,⟨some 110,[(105,false)],.load none (.t 109)⟩],⟨some 108,[(105,false)],.call
 122 [.t 107]⟩,[⟨some 109,[(105,false)],.fld 1 (.t 3)⟩,⟨some 110,[(105,false)],.load none (.t 109)⟩])] [] [101,102,103,106,107,108,109,110,111] [⟨some 111,[(105,
 false)],.bin .neq (.t 108) (.t 110)⟩,z 112 (.pick (.t 105) (.c (.b true)) (.t 111))]) (.ite (.t 112) (.seq (.reg [] [z 4 (.mov (.c (.i .i64 7)))]) (.ret)) (.skip))))))) (.reg []
 [z 113 (.bin .add (.t 80) (.c (.i .i64 1))),zm 80 113])))
def p140 : PFun := ⟨114,[.t 4],.seq (.reg [] [z 3 (.box 23 (.t 1)),z 4 (.mov (.c (.i .i64 0)))]) (.seq (.seq (.reg [] [zf 7 0 3,zl 8 7]) (.block 0 (.seq (.reg [] [z 10 (.bin .eql (.t 8) (.c (.i
 .i64 1))),zm 9 10]) (.ite (.t 9) (.seq (.seq (.reg [15,16,17,20,21,22,23,24,25,26,27,28,29,30,31,32] [zf 11 1 3,zl 12 11,z 13 (.bin .eql (.t 12) (.c (.s []))),zm
 14 13,⟨some 15,[(14,false)],.fld 2 (.t 3)⟩,⟨some 16,[(14,false)],.load none (.t 15)⟩,⟨some 17,[(14,false)],.bin .neq (.t 16) (.c (.i .i64 0))⟩,z 18 (.pick (.t 14) (.c
 (.b true)) (.t 17)),zm 19 18,⟨some 20,[(19,false)],.mov (.t 0)⟩,⟨some 21,[(19,false)],.len false (.t 20)⟩,⟨some 22,[(19,false)],.bin .gtr (.t 21) (.c (.i .i64 0))⟩,
 ⟨some 23,[(19,false)],.mov (.t 22)⟩,⟨some 24,[(19,false),(23,true)],.mov (.t 0)⟩,⟨some 25,[(19,false),(23,true)],.mov (.t 0)⟩,⟨some 26,[(19,false),(23,true)],
 .len false (.t 25)⟩,⟨some 27,[(19,false),(23,true)],.bin .sub (.t 26) (.c (.i .i64 1))⟩,⟨some 28,[(19,false),(23,true)],.idx 3 (.t 24) (.t 27)⟩,⟨some 29,[(19,false),
 (23,true)],.fld 0 (.t 28)⟩,⟨some 30,[(19,false),(23,true)],.load none (.t 29)⟩,⟨some 31,[(19,false),(23,true)],.bin .eql (.t 30) (.c (.i .i64 1))⟩,⟨some 32,[(19,
 false)],.pick (.t 23) (.t 31) (.c (.b false))⟩,z 33 (.pick (.t 19) (.c (.b true)) (.t 32))]) (.ite (.t 33) (.seq (.reg [] [z 4 (.mov (.c (.i .i64 1)))]) (.ret)) (.skip))) (.seq
 (.reg [] [z 4 (.mov (.c (.i .i64 0)))]) (.ret))) (.seq (.reg [] [z 35 (.bin .eql (.t 8) (.c (.i .i64 5))),zm 34 35]) (.ite (.t 34) (.seq (.seq (.reg [41,42,43] [zf 36 1 3,zl 37
 36,z 38 (.call 142 [.t 37]),z 39 (.un .not (.t 38)),zm 40 39,⟨some 41,[(40,false)],.fld 2 (.t 3)⟩,⟨some 42,[(40,false)],.load none (.t 41)⟩,⟨some 43,[(40,false)],.bin
 .neq (.t 42) (.c (.i .i64 0))⟩,z 44 (.pick (.t 40) (.c (.b true)) (.t 43))]) (.ite (.t 44) (.seq (.reg [] [z 4 (.mov (.c (.i .i64 1)))]) (.ret)) (.skip))) (.seq (.reg [] [z 4 (.mov
 (.c (.i .i64 0)))]) (.ret))) (.seq (.seq (.reg [] [z 46 (.bin .eql (.t 8) (.c (.i .i64 2))),zm 45 46]) (.ite (.t 45) (.skip) (.reg [] [z 47 (.bin .eql (.t 8) (.c (.i .i64 4))),zm
 45 47]))) (.ite (.t 45) (.seq (.reg [53,54,55,58,59,60] [zf 48 1 3,zl 49 48,z 50 (.call 170 [.t 49]),z 51 (.un .not (.t 50)),zm 52 51,⟨some 53,[(52,false)],.fld 2 (.t
 3)⟩,⟨some 54,[(52,false)],.load none (.t 53)⟩,⟨some 55,[(52,false)],.bin .lss (.t 54) (.c (.i .i64 1))⟩,z 56 (.pick (.t 52) (.c (.b true)) (.t 55)),zm 57 56,⟨some 58,
 [(57,false)],.fld 2 (.t 3)⟩,⟨some 59,[(57,false)],.load none (.t 58)⟩,⟨some 60,[(57,false)],.bin .gtr (.t 59) (.c (.i .i64 999))⟩,z 61 (.pick (.t 57) (.c (.b true)) (.t
 60))]) (.ite (.t 61) (.seq (.reg [] [z 4 (.mov (.c (.i .i64 1)))]) (.ret)) (.skip))) (.seq (.reg [] [z 63 (.bin .eql (.t 8) (.c (.i .i64 3))),zm 62 63]) (.ite (.t 62) (.seq (.reg
 [69,70,71,74,75,76] [zf 64 1 3,zl 65 64,z 66 (.call 142 [.t 65]),z 67 (.un .not (.t 66)),zm 68 67,⟨some 69,[(68,false)],.fld 2 (.t 3)⟩,⟨some 70,[(68,false)],.load
 none (.t 69)⟩,⟨some 71,[(68,false)],.bin .lss (.t 70) (.c (.i .i64 1))⟩,z 72 (.pick (.t 68) (.c (.b true)) (.t 71)),zm 73 72,⟨some 74,[(73,false)],.fld 2 (.t 3)⟩,⟨some
 75,[(73,false)],.load none (.t 74)⟩,⟨some 76,[(73,false)],.bin .gtr (.t 75) (.c (.i .i64 999))⟩,z 77 (.pick (.t 73) (.c (.b true)) (.t 76))]) (.ite (.t 77) (.seq (.reg [] [z
 4 (.mov (.c (.i .i64 1)))]) (.ret)) (.skip))) (.seq (.reg [] [z 4 (.mov (.c (.i .i64 1)))]) (.ret)))))))))))) (.seq (.seq (.reg [] [zm 78 0,z 79 (.len false (.t 78)),z 80 (.mov
 (.c (.i .i64 0)))]) (.block 1 (.loop p140_0))) (.seq (.reg [] [z 4 (.mov (.c (.i .i64 0)))]) (.ret))))⟩
theorem c140 : cFun Tryz.prog Tryz.f140 = some p140 := by kernel_rfl
def p105_0 : PCode := .seq (.reg [] [z 16 (.bin .lss (.t 15) (.t 14))]) (.seq (.ite (.t 16) (.skip) (.exit 0)) (.seq (.block 1 (.seq (.reg [] [zm 17 15,zm 3 17]) (.seq (.dreg [] [zm 18 0,zm 19 3,z 20
 (.slice 3 (.t 18) none (some (.t 19))),zm 21 0,zm 22 3,z 23 (.idx 3 (.t 21) (.t 22)),zL 24 3 23] [] [z 25 (.call 140 [.t 20,.t 24]),zm 4 25]) (.seq (.reg [] [zm 26 4,z 27
 (.bin .neq (.t 26) (.c (.i .i64 0)))]) (.ite (.t 27) (.seq (.reg [] [zm 28 4,zm 2 28]) (.ret)) (.skip)))))) (.reg [] [z 29 (.bin .add (.t 15) (.c (.i .i64 1))),zm 15 29])))
def p105 : PFun := ⟨30,[.t 2],.seq (.reg [] [z 2 (.mov (.c (.i .i64 0)))]) (.seq (.seq (.reg [9,10,11] [zm 5 0,z 6 (.len false (.t 5)),z 7 (.bin .gtr (.t 6) (.c (.i .i64 512))),zm 8 7,⟨some 9,
 [(8,false)],.mov (.t 0)⟩,⟨some 10,[(8,false)],.call 139 [.t 9]⟩,⟨some 11,[(8,false)],.bin .gtr (.t 10) (.c (.i .i64 1024))⟩,z 12 (.pick (.t 8) (.c (.b true)) (.t 11))])
 (.ite (.t 12) (.seq (.reg [] [z 2 (.mov (.c (.i .i64 3)))]) (.ret)) (.skip))) (.seq (.seq (.reg [] [zm 13 0,z 14 (.len false (.t 13)),z 15 (.mov (.c (.i .i64 0)))]) (.block 0
 (.loop p105_0))) (.seq (.reg [] [z 2 (.mov (.c (.i .i64 0)))]) (.ret))))⟩
theorem c105 : cFun Tryz.prog Tryz.f105 = some p105 := by kernel_rfl
def p139_0 : PCode := .seq (.reg [] [z 8 (.bin .lss (.t 7) (.t 6))]) (.seq (.ite (.t 8) (.skip) (.exit 0)) (.seq (.block 1 (.seq (.reg [] [zm 9 7,zm 4 9]) (.seq (.reg [] [zm 10 0,zm 11 4,z 12 (.idx 3
 (.t 10) (.t 11)),zf 13 0 12,zl 14 13,z 15 (.bin .eql (.t 14) (.c (.i .i64 1)))]) (.ite (.t 15) (.reg [] [zm 16 3,zm 17 0,zm 18 4,z 19 (.idx 3 (.t 17) (.t 18)),zf 20 1 19,zl
 21 20,z 22 (.len true (.t 21)),z 23 (.bin .add (.t 16) (.t 22)),zm 3 23]) (.reg [] [zm 24 3,z 25 (.bin .add (.t 24) (.c (.i .i64 1))),zm 3 25]))))) (.reg [] [z 26 (.bin .add
 (.t 7) (.c (.i .i64 1))),zm 7 26])))
def p139 : PFun := ⟨28,[.t 2],.seq (.reg [] [z 2 (.mov (.c (.i .i64 0)))]) (.seq (.reg [] [z 3 (.mov (.c (.i .i64 0)))]) (.seq (.seq (.reg [] [zm 5 0,z 6 (.len false (.t 5)),z 7 (.mov (.c (.i .i64
 0)))]) (.block 0 (.loop p139_0))) (.seq (.reg [] [zm 27 3,zm 2 27]) (.ret))))⟩
theorem c139 : cFun Tryz.prog Tryz.f139 = some p139 := by kernel_rfl
def p158_0 : PCode := .seq (.reg [] [z 10 (.bin .lss (.t 9) (.t 8))]) (.seq (.ite (.t 10) (.skip) (.exit 0)) (.seq (.block 1 (.seq (.reg [] [zm 11 9,zm 4 11]) (.seq (.reg [] [zm 12 0,zm 13 4,z 14
 (.idx 3 (.t 12) (.t 13)),zL 15 3 14,z 5 (.alloc 23 [.i .i64 0,.s [],.i .i64 0]),zs (.store 3 [none,none,none] (.t 5) (.t 15))]) (.seq (.seq (.reg [] [zf 16 0 5,zl 17 16,z
 18 (.bin .neq (.t 17) (.c (.i .i64 1)))]) (.ite (.t 18) (.seq (.reg [] [zm 19 3,zL 20 3 5,z 21 (.bslice 3 [none,none,none] [.t 20]),z 22 (.app 23 3 32 (.t 19) (.t 21)),zm 3
 22]) (.exit 1)) (.skip))) (.seq (.seq (.reg [] [zf 23 1 5,zl 24 23,z 25 (.bin .eql (.t 24) (.c (.s [])))]) (.ite (.t 25) (.exit 1) (.skip))) (.seq (.reg [] [zm 26 3,z 27 (.len
 false (.t 26)),zm 6 27]) (.seq (.reg [31,32,33,34,35,36,37] [zm 28 6,z 29 (.bin .gtr (.t 28) (.c (.i .i64 0))),zm 30 29,⟨some 31,[(30,true)],.mov (.t 3)⟩,⟨some 32,
 [(30,true)],.mov (.t 6)⟩,⟨some 33,[(30,true)],.bin .sub (.t 32) (.c (.i .i64 1))⟩,⟨some 34,[(30,true)],.idx 3 (.t 31) (.t 33)⟩,⟨some 35,[(30,true)],.fld 0 (.t 34)⟩,
 ⟨some 36,[(30,true)],.load none (.t 35)⟩,⟨some 37,[(30,true)],.bin .eql (.t 36) (.c (.i .i64 1))⟩,z 38 (.pick (.t 30) (.t 37) (.c (.b false)))]) (.ite (.t 38) (.dreg [] [zm
 39 3,zm 40 6,z 41 (.bin .sub (.t 40) (.c (.i .i64 1))),zm 42 3,zm 43 6,z 44 (.bin .sub (.t 43) (.c (.i .i64 1))),z 45 (.idx 3 (.t 42) (.t 44)),zf 46 1 45,zl 47 46,zf 48 1
 5,zl 49 48,z 50 (.bin .add (.t 47) (.t 49)),z 51 (.build [.i .i64 0,.s [],.i .i64 0] [(0,1,.c (.i .i64 1)),(1,1,.t 50)])] [] [z 52 (.idx 3 (.t 39) (.t 41)),zs (.store 3
 [none,none,none] (.t 52) (.t 51))]) (.reg [] [zm 53 3,zf 54 1 5,zl 55 54,z 56 (.build [.i .i64 0,.s [],.i .i64 0] [(0,1,.c (.i .i64 1)),(1,1,.t 55)]),z 57 (.bslice 3
 [none,none,none] [.t 56]),z 58 (.app 23 3 32 (.t 53) (.t 57)),zm 3 58]))))))))) (.reg [] [z 59 (.bin .add (.t 9) (.c (.i .i64 1))),zm 9 59])))
def p158 : PFun := ⟨61,[.t 2],.seq (.reg [] [z 2 (.mov (.c .nil))]) (.seq (.reg [] [z 3 (.mov (.c .nil))]) (.seq (.seq (.reg [] [zm 7 0,z 8 (.len false (.t 7)),z 9 (.mov (.c (.i .i64 0)))])
 (.block 0 (.loop p158_0))) (.seq (.reg [] [zm 60 3,zm 2 60]) (.ret))))⟩
theorem c158 : cFun Tryz.prog Tryz.f158 = some p158 := by kernel_rfl
def p123 : PFun := ⟨10,[.t 4],.seq (.reg [] [z 4 (.mov (.c .nil))]) (.seq (.reg [] [zm 5 0,z 6 (.app 23 3 32 (.c .nil) (.t 5)),zm 7 1,z 8 (.app 23 3 32 (.t 6) (.t 7)),z 9 (.call 158 [.t 8]),zm
 4 9]) (.ret))⟩
theorem c123 : cFun Tryz.prog Tryz.f123 = some p123 := by kernel_rfl
def p59_0 : PCode := .seq (.reg [] [z 14 (.bin .lss (.t 13) (.t 12))]) (.seq (.ite (.t 14) (.skip) (.exit 0)) (.seq (.block 1 (.seq (.reg [] [zm 15 13,zm 5 15]) (.seq (.dreg [] [zm 16 0,zm 17 5,z 18
 (.idx 1 (.t 16) (.t 17)),zl 19 18,zm 20 1,zm 21 5,z 22 (.idx 1 (.t 20) (.t 21)),zl 23 22] [] [z 24 (.bin .neq (.t 19) (.t 23))]) (.ite (.t 24) (.seq (.reg [] [z 4 (.mov (.c (.b
 false)))]) (.ret)) (.skip))))) (.reg [] [z 25 (.bin .add (.t 13) (.c (.i .i64 1))),zm 13 25])))
def p59 : PFun := ⟨26,[.t 4],.seq (.reg [] [z 4 (.mov (.c (.b false)))]) (.seq (.seq (.reg [] [zm 6 0,z 7 (.len false (.t 6)),zm 8 1,z 9 (.len false (.t 8)),z 10 (.bin .neq (.t 7) (.t 9))])
 (.ite (.t 10) (.seq (.reg [] [z 4 (.mov (.c (.b false)))]) (.ret)) (.skip))) (.seq (.seq (.reg [] [zm 11 0,z 12 (.len false (.t 11)),z 13 (.mov (.c (.i .i64 0)))]) (.block 0
 (.loop p59_0))) (.seq (.reg [] [z 4 (.mov (.c (.b true)))]) (.ret))))⟩
theorem c59 : cFun Tryz.prog Tryz.f59 = some p59 := by kernel_rfl
def p160_0 : PCode := .seq (.reg [] [z 9 (.bin .lss (.t 8) (.t 7))]) (.seq (.ite (.t 9) (.skip) (.exit 0)) (.seq (.block 1 (.seq (.reg [] [zm 10 8,zm 5 10]) (.seq (.reg [] [zm 11 0,zm 12 5,z 13 (.idx
 1 (.t 11) (.t 12)),zl 14 13,zm 15 1,z 16 (.bin .eql (.t 14) (.t 15))]) (.ite (.t 16) (.seq (.reg [] [z 4 (.mov (.c (.b true)))]) (.ret)) (.skip))))) (.reg [] [z 17 (.bin .add (.t
 8) (.c (.i .i64 1))),zm 8 17])))
def p160 : PFun := ⟨18,[.t 4],.seq (.reg [] [z 4 (.mov (.c (.b false)))]) (.seq (.seq (.reg [] [zm 6 0,z 7 (.len false (.t 6)),z 8 (.mov (.c (.i .i64 0)))]) (.block 0 (.loop p160_0))) (.seq (.reg
 [] [z 4 (.mov (.c (.b false)))]) (.ret)))⟩
theorem c160 : cFun Tryz.prog Tryz.f160 = some p160 := by kernel_rfl
def p124_0 : PCode := .seq (.reg [] [z 8 (.bin .lss (.t 7) (.t 6))]) (.seq (.ite (.t 8) (.skip) (.exit 0)) (.seq (.block 1 (.seq (.reg [] [zm 9 7,zm 4 9]) (.seq (.reg [16,17,18,19,20,21,22,23]
 [zm 10 0,zm 11 4,z 12 (.idx 3 (.t 10) (.t 11)),zL 13 3 12,z 14 (.call 159 [.t 13]),zm 15 14,⟨some 16,[(15,true)],.mov (.t 3)⟩,⟨some 17,[(15,true)],.mov (.t 0)⟩,⟨some
 18,[(15,true)],.mov (.t 4)⟩,⟨some 19,[(15,true)],.idx 3 (.t 17) (.t 18)⟩,⟨some 20,[(15,true)],.fld 2 (.t 19)⟩,⟨some 21,[(15,true)],.load none (.t 20)⟩,⟨some 22,
 [(15,true)],.call 160 [.t 16,.t 21]⟩,⟨some 23,[(15,true)],.un .not (.t 22)⟩,z 24 (.pick (.t 15) (.t 23) (.c (.b false)))]) (.ite (.t 24) (.reg [] [zm 25 3,zm 26 0,zm 27 4,
 z 28 (.idx 3 (.t 26) (.t 27)),zf 29 2 28,zl 30 29,z 31 (.bslice 1 [none] [.t 30]),z 32 (.app 3 1 8 (.t 25) (.t 31)),zm 3 32]) (.skip))))) (.reg [] [z 33 (.bin .add (.t 7) (.c
 (.i .i64 1))),zm 7 33])))
def p124 : PFun := ⟨35,[.t 2],.seq (.reg [] [z 2 (.mov (.c .nil))]) (.seq (.reg [] [z 3 (.mov (.c .nil))]) (.seq (.seq (.reg [] [zm 5 0,z 6 (.len false (.t 5)),z 7 (.mov (.c (.i .i64 0)))])
 (.block 0 (.loop p124_0))) (.seq (.reg [] [zm 34 3,zm 2 34]) (.ret))))⟩
theorem c124 : cFun Tryz.prog Tryz.f124 = some p124 := by kernel_rfl
def p126_0 : PCode := .seq (.seq (.reg [32,33,34,35] [zm 27 10,zm 28 1,z 29 (.len false (.t 28)),z 30 (.bin .lss (.t 27) (.t 29)),zm 31 30,⟨some 32,[(31,true)],.mov (.t 10)⟩,⟨some 33,[(31,
 true)],.mov (.t 2)⟩,⟨some 34,[(31,true)],.len false (.t 33)⟩,⟨some 35,[(31,true)],.bin .lss (.t 32) (.t 34)⟩,z 36 (.pick (.t 31) (.t 35) (.c (.b false)))]) (.ite (.t 36)
 (.skip) (.exit 2))) (.seq (.block 3 (.seq (.dreg [] [zm 39 1,zm 40 10,z 41 (.idx 1 (.t 39) (.t 40)),zl 42 41,zf 43 2 9,zl 44 43] [] [z 45 (.bin .eql (.t 42) (.t 44))]) (.ite
 (.t 45) (.seq (.dreg [] [zm 46 7,zf 47 0 9,zl 48 47,zf 49 1 9,zl 50 49,zm 51 2,zm 52 10,z 53 (.idx 1 (.t 51) (.t 52)),zl 54 53,z 55 (.build [.i .i64 0,.s [],.i .i64 0]
 [(0,1,.t 48),(1,1,.t 50),(2,1,.t 54)]),z 56 (.bslice 3 [none,none,none] [.t 55])] [] [z 57 (.app 23 3 32 (.t 46) (.t 56)),zm 7 57]) (.exit 2)) (.skip)))) (.reg [] [zm 37
 10,z 38 (.bin .add (.t 37) (.c (.i .i64 1))),zm 10 38]))
def p126_1 : PCode := .seq (.reg [] [z 14 (.bin .lss (.t 13) (.t 12))]) (.seq (.ite (.t 14) (.skip) (.exit 0)) (.seq (.block 1 (.seq (.reg [] [zm 15 13,zm 8 15]) (.seq (.reg [] [zm 16 0,zm 17 8,z 18
 (.idx 3 (.t 16) (.t 17)),zL 19 3 18,z 9 (.alloc 23 [.i .i64 0,.s [],.i .i64 0]),zs (.store 3 [none,none,none] (.t 9) (.t 19))]) (.seq (.seq (.reg [] [zL 20 3 9,z 21 (.call
 159 [.t 20]),z 22 (.un .not (.t 21))]) (.ite (.t 22) (.seq (.reg [] [zm 23 7,zL 24 3 9,z 25 (.bslice 3 [none,none,none] [.t 24]),z 26 (.app 23 3 32 (.t 23) (.t 25)),zm 7 26])
 (.exit 1)) (.skip))) (.seq (.reg [] [z 10 (.mov (.c (.i .i64 0)))]) (.block 2 (.loop p126_0))))))) (.reg [] [z 58 (.bin .add (.t 13) (.c (.i .i64 1))),zm 13 58])))
def p126 : PFun := ⟨61,[.t 6],.seq (.reg [] [z 6 (.mov (.c .nil))]) (.seq (.reg [] [z 7 (.mov (.c .nil))]) (.seq (.seq (.reg [] [zm 11 0,z 12 (.len false (.t 11)),z 13 (.mov (.c (.i .i64 0)))])
 (.block 0 (.loop p126_1))) (.seq (.reg [] [zm 59 7,z 60 (.call 158 [.t 59]),zm 6 60]) (.ret))))⟩
theorem c126 : cFun Tryz.prog Tryz.f126 = some p126 := by kernel_rfl
def p125_0 : PCode := .seq (.seq (.reg [] [zm 5 4,zm 6 0,z 7 (.bin .leq (.t 5) (.t 6))]) (.ite (.t 7) (.skip) (.exit 0))) (.seq (.block 1 (.reg [] [zm 10 3,zm 11 4,z 12 (.bslice 1 [none] [.t 11]),z
 13 (.app 3 1 8 (.t 10) (.t 12)),zm 3 13])) (.reg [] [zm 8 4,z 9 (.bin .add (.t 8) (.c (.i .i64 1))),zm 4 9]))
def p125 : PFun := ⟨15,[.t 2],.seq (.reg [] [z 2 (.mov (.c .nil))]) (.seq (.reg [] [z 3 (.mov (.c .nil))]) (.seq (.seq (.reg [] [z 4 (.mov (.c (.i .i64 1)))]) (.block 0 (.loop p125_0))) (.seq (.reg
 [] [zm 14 3,zm 2 14]) (.ret))))⟩
theorem c125 : cFun Tryz.prog Tryz.f125 = some p125 := by kernel_rfl
def p98 : PFun := ⟨24,[.t 4,.t 5],.seq (.reg [] [z 4 (.mov (.c .nil)),z 5 (.mov (.c .nil))]) (.seq (.reg [] [zm 8 0,z 9 (.app 23 3 32 (.c .nil) (.t 8)),zm 10 1,z 11 (.app 23 3 32 (.t 9) (.t
 10)),z 12 (.call 124 [.t 11]),zm 6 12]) (.seq (.reg [] [zm 13 6,z 14 (.len false (.t 13)),z 15 (.call 125 [.t 14]),zm 7 15]) (.seq (.reg [] [zm 16 0,zm 17 6,zm 18 7,z 19
 (.call 126 [.t 16,.t 17,.t 18]),zm 20 1,zm 21 6,zm 22 7,z 23 (.call 126 [.t 20,.t 21,.t 22]),zm 4 19,zm 5 23]) (.ret))))⟩
theorem c98 : cFun Tryz.prog Tryz.f98 = some p98 := by kernel_rfl
def p172 : PFun := ⟨44,[.t 2],.seq (.reg [] [z 2 (.mov (.c (.s [])))]) (.seq (.block 0 (.seq (.reg [7,8,11,12] [zm 4 0,z 5 (.bin .eql (.t 4) (.c (.i .u8 92))),zm 6 5,⟨some 7,[(6,false)],
 .mov (.t 0)⟩,⟨some 8,[(6,false)],.bin .eql (.t 7) (.c (.i .u8 60))⟩,z 9 (.pick (.t 6) (.c (.b true)) (.t 8)),zm 10 9,⟨some 11,[(10,false)],.mov (.t 0)⟩,⟨some 12,[(10,
 false)],.bin .eql (.t 11) (.c (.i .u8 123))⟩,z 13 (.pick (.t 10) (.c (.b true)) (.t 12)),zm 3 13]) (.ite (.t 3) (.seq (.reg [] [zm 14 0,z 15 (.bslice 1 [none] [.t 14]),z 16
 (.b2s (.t 15)),z 17 (.bin .add (.c (.s [92])) (.t 16)),zm 2 17]) (.ret)) (.seq (.reg [] [zm 19 0,z 20 (.bin .eql (.t 19) (.c (.i .u8 10))),zm 18 20]) (.ite (.t 18) (.seq (.reg
 [] [z 2 (.mov (.c (.s [92,110])))]) (.ret)) (.seq (.reg [] [zm 22 0,z 23 (.bin .eql (.t 22) (.c (.i .u8 9))),zm 21 23]) (.ite (.t 21) (.seq (.reg [] [z 2 (.mov (.c (.s [92,
 116])))]) (.ret)) (.seq (.reg [28,29,30] [zm 25 0,z 26 (.bin .eql (.t 25) (.c (.i .u8 13))),zm 27 26,⟨some 28,[(27,false)],.mov (.t 0)⟩,⟨some 29,[(27,false)],.call 188
 [.t 28]⟩,⟨some 30,[(27,false)],.bin .eql (.t 29) (.c (.i .i64 1))⟩,z 31 (.pick (.t 27) (.c (.b true)) (.t 30)),zm 24 31]) (.ite (.t 24) (.seq (.dreg [] [zm 32 0,z 33 (.bin
 .quo (.t 32) (.c (.i .u8 16))),z 34 (.sidx (.c (.s [48,49,50,51,52,53,54,55,56,57,97,98,99,100,101,102])) (.t 33)),zm 35 0,z 36 (.bin .rem (.t 35) (.c (.i .u8
 16))),z 37 (.sidx (.c (.s [48,49,50,51,52,53,54,55,56,57,97,98,99,100,101,102])) (.t 36))] [] [z 38 (.bslice 1 [none] [.t 34,.t 37]),z 39 (.b2s (.t 38)),z 40
 (.bin .add (.c (.s [92,120])) (.t 39)),zm 2 40]) (.ret)) (.skip)))))))))) (.seq (.reg [] [zm 41 0,z 42 (.bslice 1 [none] [.t 41]),z 43 (.b2s (.t 42)),zm 2 43]) (.ret)))⟩
theorem c172 : cFun Tryz.prog Tryz.f172 = some p172 := by kernel_rfl
def p143_0 : PCode := .seq (.seq (.reg [] [zm 9 4,zf 10 1 1,zl 11 10,z 12 (.len true (.t 11)),z 13 (.bin .lss (.t 9) (.t 12))]) (.ite (.t 13) (.skip) (.exit 1))) (.seq (.block 2 (.reg [] [zm 16 3,zf
 17 1 1,zl 18 17,zm 19 4,z 20 (.sidx (.t 18) (.t 19)),z 21 (.call 172 [.t 20]),z 22 (.bin .add (.t 16) (.t 21)),zm 3 22])) (.reg [] [zm 14 4,z 15 (.bin .add (.t 14) (.c (.i
 .i64 1))),zm 4 15]))
def p143 : PFun := ⟨61,[.t 2],.seq (.reg [] [z 1 (.box 23 (.t 0)),z 2 (.mov (.c (.s [])))]) (.seq (.seq (.reg [] [zf 5 0 1,zl 6 5]) (.block 0 (.seq (.reg [] [z 8 (.bin .eql (.t 6) (.c (.i .i64
 1))),zm 7 8]) (.ite (.t 7) (.seq (.reg [] [z 3 (.mov (.c (.s [])))]) (.seq (.seq (.reg [] [z 4 (.mov (.c (.i .i64 0)))]) (.block 1 (.loop p143_0))) (.seq (.reg [] [zm 23 3,zm 2
 23]) (.ret)))) (.seq (.reg [] [z 25 (.bin .eql (.t 6) (.c (.i .i64 2))),zm 24 25]) (.ite (.t 24) (.seq (.dreg [([zf 26 2 1,zl 27 26,zf 31 1 1,zl 32 31],z 28 (.call 173 [.t
 27]),[zf 31 1 1,zl 32 31])] [z 29 (.bin .add (.c (.s [60])) (.t 28)),z 30 (.bin .add (.t 29) (.c (.s [58])))] [] [z 33 (.bin .add (.t 30) (.t 32)),z 34 (.bin .add (.t 33) (.c
 (.s [62]))),zm 2 34]) (.ret)) (.seq (.reg [] [z 36 (.bin .eql (.t 6) (.c (.i .i64 3))),zm 35 36]) (.ite (.t 35) (.seq (.dreg [([zf 37 2 1,zl 38 37,zf 42 1 1,zl 43 42],z 39
 (.call 173 [.t 38]),[zf 42 1 1,zl 43 42])] [z 40 (.bin .add (.c (.s [60,47])) (.t 39)),z 41 (.bin .add (.t 40) (.c (.s [58])))] [] [z 44 (.bin .add (.t 41) (.t 43)),z 45 (.bin
 .add (.t 44) (.c (.s [62]))),zm 2 45]) (.ret)) (.seq (.reg [] [z 47 (.bin .eql (.t 6) (.c (.i .i64 4))),zm 46 47]) (.ite (.t 46) (.seq (.dreg [([zf 48 2 1,zl 49 48,zf 53 1 1,zl
 54 53],z 50 (.call 173 [.t 49]),[zf 53 1 1,zl 54 53])] [z 51 (.bin .add (.c (.s [60])) (.t 50)),z 52 (.bin .add (.t 51) (.c (.s [58])))] [] [z 55 (.bin .add (.t 52) (.t 54)),z
 56 (.bin .add (.t 55) (.c (.s [47,62]))),zm 2 56]) (.ret)) (.skip))))))))))) (.seq (.reg [] [zf 57 1 1,zl 58 57,z 59 (.bin .add (.c (.s [123])) (.t 58)),z 60 (.bin .add (.t 59)
 (.c (.s [125]))),zm 2 60]) (.ret)))⟩
theorem c143 : cFun Tryz.prog Tryz.f143 = some p143 := by kernel_rfl
def p109_0 : PCode := .seq (.reg [] [z 15 (.bin .lss (.t 14) (.t 13))]) (.seq (.ite (.t 15) (.skip) (.exit 0)) (.seq (.block 1 (.seq (.reg [] [zm 16 14,zm 6 16]) (.reg [] [zm 17 5,zm 18 0,zm 19 6,z
 20 (.idx 3 (.t 18) (.t 19)),zL 21 3 20,z 22 (.call 143 [.t 21]),z 23 (.bin .add (.t 17) (.t 22)),zm 5 23]))) (.reg [] [z 24 (.bin .add (.t 14) (.c (.i .i64 1))),zm 14 24])))
def p109 : PFun := ⟨26,[.t 2,.t 3],.seq (.reg [] [z 2 (.mov (.c (.s []))),z 3 (.mov (.c (.i .i64 0)))]) (.seq (.seq (.reg [] [zm 7 0,z 8 (.call 105 [.t 7]),zm 4 8]) (.seq (.reg [] [zm 9 4,z 10
 (.bin .neq (.t 9) (.c (.i .i64 0)))]) (.ite (.t 10) (.seq (.reg [] [zm 11 4,z 2 (.mov (.c (.s []))),zm 3 11]) (.ret)) (.skip)))) (.seq (.reg [] [z 5 (.mov (.c (.s [])))]) (.seq
 (.seq (.reg [] [zm 12 0,z 13 (.len false (.t 12)),z 14 (.mov (.c (.i .i64 0)))]) (.block 0 (.loop p109_0))) (.seq (.reg [] [zm 25 5,zm 2 25,z 3 (.mov (.c (.i .i64 0)))])
 (.ret)))))⟩
theorem c109 : cFun Tryz.prog Tryz.f109 = some p109 := by kernel_rfl
def p141_0 : PCode := .seq (.seq (.reg [16,17] [zm 11 4,zm 12 0,z 13 (.len true (.t 12)),z 14 (.bin .lss (.t 11) (.t 13)),zm 15 14,⟨some 16,[(15,true)],.mov (.t 4)⟩,⟨some 17,[(15,true)],.bin
 .leq (.t 16) (.c (.i .i64 25))⟩,z 18 (.pick (.t 15) (.t 17) (.c (.b false)))]) (.ite (.t 18) (.skip) (.exit 1))) (.seq (.block 2 (.seq (.reg [26,27,28,29] [zm 21 0,zm 22 4,z
 23 (.sidx (.t 21) (.t 22)),z 24 (.bin .eql (.t 23) (.c (.i .u8 125))),zm 25 24,⟨some 26,[(25,true)],.mov (.t 0)⟩,⟨some 27,[(25,true)],.mov (.t 4)⟩,⟨some 28,[(25,true)],
 .sslice (.t 26) (some (.c (.i .i64 1))) (some (.t 27))⟩,⟨some 29,[(25,true)],.call 142 [.t 28]⟩,z 30 (.pick (.t 25) (.t 29) (.c (.b false)))]) (.ite (.t 30) (.seq (.reg [] [zm
 31 0,zm 32 4,z 33 (.sslice (.t 31) (some (.c (.i .i64 1))) (some (.t 32))),z 34 (.build [.i .i64 0,.s [],.i .i64 0] [(0,1,.c (.i .i64 5)),(1,1,.t 33)]),zm 35 4,z 36
 (.bin .add (.t 35) (.c (.i .i64 1))),zs (.store 3 [none,none,none] (.t 2) (.t 34)),zm 3 36]) (.ret)) (.skip)))) (.reg [] [zm 19 4,z 20 (.bin .add (.t 19) (.c (.i .i64 1))),zm
 4 20]))
def p141_1 : PCode := .seq (.seq (.reg [] [zm 46 5,z 47 (.bin .lss (.t 46) (.c (.i .i64 256)))]) (.ite (.t 47) (.skip) (.exit 3))) (.seq (.block 4 (.seq (.reg [] [zm 50 5,z 51 (.cvi .u8 (.t 50)),z 52
 (.call 172 [.t 51]),zm 6 52]) (.seq (.reg [59,60,61,62,63,64] [zm 53 0,z 54 (.len true (.t 53)),zm 55 6,z 56 (.len true (.t 55)),z 57 (.bin .geq (.t 54) (.t 56)),zm 58
 57,⟨some 59,[(58,true)],.mov (.t 0)⟩,⟨some 60,[(58,true)],.mov (.t 6)⟩,⟨some 61,[(58,true)],.len true (.t 60)⟩,⟨some 62,[(58,true)],.sslice (.t 59) none (some (.t
 61))⟩,⟨some 63,[(58,true)],.mov (.t 6)⟩,⟨some 64,[(58,true)],.bin .eql (.t 62) (.t 63)⟩,z 65 (.pick (.t 58) (.t 64) (.c (.b false)))]) (.ite (.t 65) (.seq (.reg [] [zm 66
 5,z 67 (.cvi .u8 (.t 66)),z 68 (.bslice 1 [none] [.t 67]),z 69 (.b2s (.t 68)),z 70 (.build [.i .i64 0,.s [],.i .i64 0] [(0,1,.c (.i .i64 1)),(1,1,.t 69)]),zm 71 6,z 72
 (.len true (.t 71)),zs (.store 3 [none,none,none] (.t 2) (.t 70)),zm 3 72]) (.ret)) (.skip))))) (.reg [] [zm 48 5,z 49 (.bin .add (.t 48) (.c (.i .i64 1))),zm 5 49]))
def p141 : PFun := ⟨74,[.c 2 (some 3),.t 3],.seq (.reg [] [z 2 (.alloc 23 [.i .i64 0,.s [],.i .i64 0]),z 3 (.mov (.c (.i .i64 0)))]) (.seq (.block 0 (.seq (.reg [] [zm 8 0,z 9 (.sidx (.t 8) (.c
 (.i .i64 0))),z 10 (.bin .eql (.t 9) (.c (.i .u8 123))),zm 7 10]) (.ite (.t 7) (.seq (.seq (.reg [] [z 4 (.mov (.c (.i .i64 1)))]) (.block 1 (.loop p141_0))) (.seq (.reg [] [z 37
 (.build [.i .i64 0,.s [],.i .i64 0] []),zs (.store 3 [none,none,none] (.t 2) (.t 37)),z 3 (.mov (.c (.i .i64 0)))]) (.ret))) (.seq (.reg [] [zm 39 0,z 40 (.sidx (.t 39) (.c
 (.i .i64 0))),z 41 (.bin .eql (.t 40) (.c (.i .u8 60))),zm 38 41]) (.ite (.t 38) (.seq (.reg [] [zm 42 0,z 43 (.call 171 [.t 42]),z 44 (.ext 0 (.t 43)),z 45 (.ext 1 (.t 43)),
 zs (.store 3 [none,none,none] (.t 2) (.t 44)),zm 3 45]) (.ret)) (.skip)))))) (.seq (.seq (.reg [] [z 5 (.mov (.c (.i .i64 0)))]) (.block 3 (.loop p141_1))) (.seq (.reg [] [z 73
 (.build [.i .i64 0,.s [],.i .i64 0] []),zs (.store 3 [none,none,none] (.t 2) (.t 73)),z 3 (.mov (.c (.i .i64 0)))]) (.ret))))⟩
theorem c141 : cFun Tryz.prog Tryz.f141 = some p141 := by kernel_rfl
def p171_0 : PCode := .seq (.seq (.reg [15,16,17,18] [zm 10 4,zm 11 0,z 12 (.len true (.t 11)),z 13 (.bin .lss (.t 10) (.t 12)),zm 14 13,⟨some 15,[(14,true)],.mov (.t 0)⟩,⟨some 16,[(14,
 true)],.mov (.t 4)⟩,⟨some 17,[(14,true)],.sidx (.t 15) (.t 16)⟩,⟨some 18,[(14,true)],.bin .neq (.t 17) (.c (.i .u8 62))⟩,z 19 (.pick (.t 14) (.t 18) (.c (.b false)))])
 (.ite (.t 19) (.skip) (.exit 0))) (.block 1 (.reg [] [zm 20 4,z 21 (.bin .add (.t 20) (.c (.i .i64 1))),zm 4 21]))
def p171_1 : PCode := .seq (.seq (.reg [61,62,65,66,67,68,71,72,73,74] [zm 56 8,zm 57 5,z 58 (.len true (.t 57)),z 59 (.bin .lss (.t 56) (.t 58)),zm 60 59,⟨some 61,[(60,true)],.mov (.t
 8)⟩,⟨some 62,[(60,true)],.bin .lss (.t 61) (.c (.i .i64 4))⟩,z 63 (.pick (.t 60) (.t 62) (.c (.b false))),zm 64 63,⟨some 65,[(64,true)],.mov (.t 5)⟩,⟨some 66,[(64,
 true)],.mov (.t 8)⟩,⟨some 67,[(64,true)],.sidx (.t 65) (.t 66)⟩,⟨some 68,[(64,true)],.bin .geq (.t 67) (.c (.i .u8 48))⟩,z 69 (.pick (.t 64) (.t 68) (.c (.b false))),zm
 70 69,⟨some 71,[(70,true)],.mov (.t 5)⟩,⟨some 72,[(70,true)],.mov (.t 8)⟩,⟨some 73,[(70,true)],.sidx (.t 71) (.t 72)⟩,⟨some 74,[(70,true)],.bin .leq (.t 73) (.c (.i
 .u8 57))⟩,z 75 (.pick (.t 70) (.t 74) (.c (.b false)))]) (.ite (.t 75) (.skip) (.exit 2))) (.block 3 (.seq (.reg [] [zm 76 7,z 77 (.bin .mul (.c (.i .i64 10)) (.t 76)),zm 78 5,
 zm 79 8,z 80 (.sidx (.t 78) (.t 79)),z 81 (.bin .sub (.t 80) (.c (.i .u8 48))),z 82 (.cvi .i64 (.t 81)),z 83 (.bin .add (.t 77) (.t 82)),zm 7 83]) (.reg [] [zm 84 8,z 85 (.bin
 .add (.t 84) (.c (.i .i64 1))),zm 8 85])))
def p171 : PFun := ⟨139,[.c 2 (some 3),.t 3],.seq (.reg [] [z 2 (.alloc 23 [.i .i64 0,.s [],.i .i64 0]),z 3 (.mov (.c (.i .i64 0)))]) (.seq (.reg [] [z 4 (.mov (.c (.i .i64 1)))]) (.seq (.block
 0 (.loop p171_0)) (.seq (.seq (.reg [] [zm 22 4,zm 23 0,z 24 (.len true (.t 23)),z 25 (.bin .geq (.t 22) (.t 24))]) (.ite (.t 25) (.seq (.reg [] [z 26 (.build [.i .i64 0,.s [],
 .i .i64 0] []),zs (.store 3 [none,none,none] (.t 2) (.t 26)),z 3 (.mov (.c (.i .i64 0)))]) (.ret)) (.skip))) (.seq (.reg [] [zm 27 0,zm 28 4,z 29 (.sslice (.t 27) (some (.c
 (.i .i64 1))) (some (.t 28))),zm 5 29,z 6 (.mov (.c (.i .i64 2)))]) (.seq (.seq (.reg [34,35,36] [zm 30 5,z 31 (.len true (.t 30)),z 32 (.bin .gtr (.t 31) (.c (.i .i64 0))),
 zm 33 32,⟨some 34,[(33,true)],.mov (.t 5)⟩,⟨some 35,[(33,true)],.sidx (.t 34) (.c (.i .i64 0))⟩,⟨some 36,[(33,true)],.bin .eql (.t 35) (.c (.i .u8 47))⟩,z 37 (.pick (.t
 33) (.t 36) (.c (.b false)))]) (.ite (.t 37) (.reg [] [zm 38 5,z 39 (.sslice (.t 38) (some (.c (.i .i64 1))) none),zm 5 39,z 6 (.mov (.c (.i .i64 3)))]) (.seq (.reg [44,45,46,
 47,48,49] [zm 40 5,z 41 (.len true (.t 40)),z 42 (.bin .gtr (.t 41) (.c (.i .i64 0))),zm 43 42,⟨some 44,[(43,true)],.mov (.t 5)⟩,⟨some 45,[(43,true)],.mov (.t 5)⟩,
 ⟨some 46,[(43,true)],.len true (.t 45)⟩,⟨some 47,[(43,true)],.bin .sub (.t 46) (.c (.i .i64 1))⟩,⟨some 48,[(43,true)],.sidx (.t 44) (.t 47)⟩,⟨some 49,[(43,true)],.bin
 .eql (.t 48) (.c (.i .u8 47))⟩,z 50 (.pick (.t 43) (.t 49) (.c (.b false)))]) (.ite (.t 50) (.reg [] [zm 51 5,zm 52 5,z 53 (.len true (.t 52)),z 54 (.bin .sub (.t 53) (.c (.i
 .i64 1))),z 55 (.sslice (.t 51) none (some (.t 54))),zm 5 55,z 6 (.mov (.c (.i .i64 4)))]) (.skip))))) (.seq (.reg [] [z 7 (.mov (.c (.i .i64 0))),z 8 (.mov (.c (.i .i64 0)))])
 (.seq (.block 2 (.loop p171_1)) (.seq (.seq (.reg [89,90,91,92,95,96,97,100,101,104,105,106,107] [zm 86 8,z 87 (.bin .eql (.t 86) (.c (.i .i64 0))),zm 88 87,⟨some 89,
 [(88,false)],.mov (.t 8)⟩,⟨some 90,[(88,false)],.mov (.t 5)⟩,⟨some 91,[(88,false)],.len true (.t 90)⟩,⟨some 92,[(88,false)],.bin .geq (.t 89) (.t 91)⟩,z 93 (.pick (.t
 88) (.c (.b true)) (.t 92)),zm 94 93,⟨some 95,[(94,false)],.mov (.t 5)⟩,⟨some 96,[(94,false)],.sidx (.t 95) (.c (.i .i64 0))⟩,⟨some 97,[(94,false)],.bin .eql (.t 96)
 (.c (.i .u8 48))⟩,z 98 (.pick (.t 94) (.c (.b true)) (.t 97)),zm 99 98,⟨some 100,[(99,false)],.mov (.t 7)⟩,⟨some 101,[(99,false)],.bin .gtr (.t 100) (.c (.i .i64 999))⟩,z
 102 (.pick (.t 99) (.c (.b true)) (.t 101)),zm 103 102,⟨some 104,[(103,false)],.mov (.t 5)⟩,⟨some 105,[(103,false)],.mov (.t 8)⟩,⟨some 106,[(103,false)],.sidx (.t 104)
 (.t 105)⟩,⟨some 107,[(103,false)],.bin .neq (.t 106) (.c (.i .u8 58))⟩,z 108 (.pick (.t 103) (.c (.b true)) (.t 107))]) (.ite (.t 108) (.seq (.reg [] [z 109 (.build [.i .i64 0,
 .s [],.i .i64 0] []),zs (.store 3 [none,none,none] (.t 2) (.t 109)),z 3 (.mov (.c (.i .i64 0)))]) (.ret)) (.skip))) (.seq (.reg [] [zm 110 6,zm 111 5,zm 112 8,z 113 (.bin
 .add (.t 112) (.c (.i .i64 1))),z 114 (.sslice (.t 111) (some (.t 113)) none),zm 115 7,z 116 (.build [.i .i64 0,.s [],.i .i64 0] [(0,1,.t 110),(1,1,.t 114),(2,1,.t
 115)]),z 9 (.alloc 23 [.i .i64 0,.s [],.i .i64 0]),zs (.store 3 [none,none,none] (.t 9) (.t 116))]) (.seq (.seq (.reg [120,121,122,123,126,127,128,129,130,131,132,
 133] [zm 117 6,z 118 (.bin .eql (.t 117) (.c (.i .i64 3))),zm 119 118,⟨some 120,[(119,true)],.fld 1 (.t 9)⟩,⟨some 121,[(119,true)],.load none (.t 120)⟩,⟨some 122,[(119,
 true)],.call 142 [.t 121]⟩,⟨some 123,[(119,true)],.un .not (.t 122)⟩,z 124 (.pick (.t 119) (.t 123) (.c (.b false))),zm 125 124,⟨some 126,[(125,false)],.mov (.t 6)⟩,
 ⟨some 127,[(125,false)],.bin .neq (.t 126) (.c (.i .i64 3))⟩,⟨some 128,[(125,false)],.mov (.t 127)⟩,⟨some 129,[(125,false),(128,true)],.fld 1 (.t 9)⟩,⟨some 130,[(125,
 false),(128,true)],.load none (.t 129)⟩,⟨some 131,[(125,false),(128,true)],.call 170 [.t 130]⟩,⟨some 132,[(125,false),(128,true)],.un .not (.t 131)⟩,⟨some 133,
 [(125,false)],.pick (.t 128) (.t 132) (.c (.b false))⟩,z 134 (.pick (.t 125) (.c (.b true)) (.t 133))]) (.ite (.t 134) (.seq (.reg [] [z 135 (.build [.i .i64 0,.s [],.i .i64 0]
 []),zs (.store 3 [none,none,none] (.t 2) (.t 135)),z 3 (.mov (.c (.i .i64 0)))]) (.ret)) (.skip))) (.seq (.reg [] [zL 136 3 9,zm 137 4,z 138 (.bin .add (.t 137) (.c (.i .i64
 1))),zs (.store 3 [none,none,none] (.t 2) (.t 136)),zm 3 138]) (.ret))))))))))))⟩
theorem c171 : cFun Tryz.prog Tryz.f171 = some p171 := by kernel_rfl
def p106_0 : PCode := .seq (.seq (.reg [] [zm 12 6,zm 13 0,z 14 (.len true (.t 13)),z 15 (.bin .lss (.t 12) (.t 14))]) (.ite (.t 15) (.skip) (.exit 0))) (.block 1 (.seq (.reg [] [zm 17 0,zm 18 6,z
 19 (.sslice (.t 17) (some (.t 18)) none),z 20 (.call 141 [.t 19]),zm 16 20,z 21 (.ext 0 (.t 16)),z 22 (.ext 1 (.t 16)),z 8 (.alloc 23 [.i .i64 0,.s [],.i .i64 0]),zs (.store
 3 [none,none,none] (.t 8) (.t 21)),zm 9 22]) (.seq (.seq (.reg [] [zm 23 9,z 24 (.bin .eql (.t 23) (.c (.i .i64 0)))]) (.ite (.t 24) (.seq (.reg [] [zm 25 6,z 2 (.mov (.c
 .nil)),zm 3 25,z 4 (.mov (.c (.i .i64 2)))]) (.ret)) (.skip))) (.seq (.seq (.reg [] [zf 26 0 8,zl 27 26,z 28 (.bin .neq (.t 27) (.c (.i .i64 1)))]) (.ite (.t 28) (.seq (.reg []
 [zm 29 5,zL 30 3 8,z 31 (.call 140 [.t 29,.t 30]),zm 10 31]) (.seq (.reg [] [zm 32 10,z 33 (.bin .neq (.t 32) (.c (.i .i64 0)))]) (.ite (.t 33) (.seq (.reg [] [zm 34 6,zm 35
 10,z 2 (.mov (.c .nil)),zm 3 34,zm 4 35]) (.ret)) (.skip)))) (.skip))) (.seq (.reg [] [zm 36 5,zL 37 3 8,z 38 (.bslice 3 [none,none,none] [.t 37]),z 39 (.call 123 [.t 36,.t
 38]),zm 11 39]) (.seq (.reg [] [zm 40 7,z 41 (.bin .add (.t 40) (.c (.i .i64 1))),zm 7 41]) (.seq (.seq (.reg [46,47] [zm 42 11,z 43 (.len false (.t 42)),z 44 (.bin .gtr (.t
 43) (.c (.i .i64 512))),zm 45 44,⟨some 46,[(45,false)],.mov (.t 7)⟩,⟨some 47,[(45,false)],.bin .gtr (.t 46) (.c (.i .i64 1024))⟩,z 48 (.pick (.t 45) (.c (.b true)) (.t
 47))]) (.ite (.t 48) (.seq (.reg [] [zm 49 6,z 2 (.mov (.c .nil)),zm 3 49,z 4 (.mov (.c (.i .i64 3)))]) (.ret)) (.skip))) (.seq (.reg [] [zm 50 11,zm 5 50]) (.reg [] [zm 51 6,
 zm 52 9,z 53 (.bin .add (.t 51) (.t 52)),zm 6 53])))))))))
def p106 : PFun := ⟨55,[.t 2,.t 3,.t 4],.seq (.reg [] [z 2 (.mov (.c .nil)),z 3 (.mov (.c (.i .i64 0))),z 4 (.mov (.c (.i .i64 0)))]) (.seq (.reg [] [z 5 (.mov (.c .nil))]) (.seq (.reg [] [z 6
 (.mov (.c (.i .i64 0))),z 7 (.mov (.c (.i .i64 0)))]) (.seq (.block 0 (.loop p106_0)) (.seq (.reg [] [zm 54 5,zm 2 54,z 3 (.mov (.c (.i .i64 0))),z 4 (.mov (.c (.i .i64 0)))])
 (.ret)))))⟩
theorem c106 : cFun Tryz.prog Tryz.f106 = some p106 := by kernel_rfl
end Go.Proofs.Tryz
