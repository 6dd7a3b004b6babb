/- A part of the proof of the statement of the last text of this claim: for every two lists of integers ReplicaCommutes returns true and leaves the memory as it was. -/
import Derived.Test.YtbfoheefppnnpaaGreatDoorProg
import Derived.KernelRfl
import Derived.Test.YtbfoheefppnnpaaGreatDoorV12
set_option linter.all false

namespace Go.Proofs.Tryz
open Go Go.Pm
def p140:PFun:=⟨23,[.t 4],.seq (.reg [] [z 2 (.box 35 (.t 0)),z 3 (.box 35 (.t 1)),z 4 (.mov (.c (.b false)))]) (.seq (.reg [] [zf 6 0 2,zL 7 3 6,zf 8 0 3,zL 9 3 8,z 10 (.call 167 [.t 7,
 .t 9]),zm 5 10]) (.seq (.reg [14,15,16,17,18,19,20,21] [zm 11 5,z 12 (.bin .gtr (.t 11) (.c (.i .i64 0))),zm 13 12,⟨some 14,[(13,false)],.mov (.t 5)⟩,⟨some 15,[(13,
 false)],.bin .eql (.t 14) (.c (.i .i64 0))⟩,⟨some 16,[(13,false)],.mov (.t 15)⟩,⟨some 17,[(13,false),(16,true)],.load (some 13) (.t 2)⟩,⟨some 18,[(13,false),(16,
 true)],.load (some 13) (.t 3)⟩,⟨some 19,[(13,false),(16,true)],.call 26 [.t 17,.t 18]⟩,⟨some 20,[(13,false),(16,true)],.bin .gtr (.t 19) (.c (.i .i64 0))⟩,⟨some 21,
 [(13,false)],.pick (.t 16) (.t 20) (.c (.b false))⟩,z 22 (.pick (.t 13) (.c (.b true)) (.t 21)),zm 4 22]) (.ret)))⟩
theorem c140:cFun Tryz.prog Tryz.f140=some p140:=by kernel_rfl
def p88:PFun:=⟨13,[.t 4],.seq (.reg [] [z 4 (.mov (.c .nil))]) (.seq (.reg [] [zm 5 0,zm 6 1,z 7 (.bin .shr (.t 6) (.c (.i .u64 8))),z 8 (.cvi .u8 (.t 7)),zm 9 1,z 10 (.cvi .u8 (.t 9)),z
 11 (.bslice 1 [none] [.t 8,.t 10]),z 12 (.app 5 1 1 (.t 5) (.t 11)),zm 4 12]) (.ret))⟩
theorem c88:cFun Tryz.prog Tryz.f88=some p88:=by kernel_rfl
def p87:PFun:=⟨11,[.t 4],.seq (.reg [] [z 4 (.mov (.c .nil))]) (.seq (.reg [] [zm 5 0,zm 6 1,z 7 (.bin .shr (.t 6) (.c (.i .u64 16))),z 8 (.call 88 [.t 5,.t 7]),zm 9 1,z 10 (.call 88 [.t
 8,.t 9]),zm 4 10]) (.ret))⟩
theorem c87:cFun Tryz.prog Tryz.f87=some p87:=by kernel_rfl
def p90_0:PCode:=.seq (.reg [] [z 10 (.bin .lss (.t 9) (.t 8))]) (.seq (.ite (.t 10) (.skip) (.exit 0)) (.seq (.block 1 (.seq (.reg [] [z 11 (.idx 1 (.t 7) (.t 9)),zl 12 11,zm 6 12]) (.reg [] [zm
 13 0,zm 14 6,z 15 (.len true (.t 14)),z 16 (.call 87 [.t 13,.t 15]),zm 17 6,z 18 (.apps 5 (.t 16) (.t 17)),zm 0 18]))) (.reg [] [z 19 (.bin .add (.t 9) (.c (.i .i64 1))),zm
 9 19])))
def p90:PFun:=⟨21,[.t 4],.seq (.reg [] [z 4 (.mov (.c .nil))]) (.seq (.seq (.reg [] [zm 7 1,z 8 (.len false (.t 7)),z 9 (.mov (.c (.i .i64 0)))]) (.block 0 (.loop p90_0))) (.seq (.reg [] [zm
 20 0,zm 4 20]) (.ret)))⟩
theorem c90:cFun Tryz.prog Tryz.f90=some p90:=by kernel_rfl
def p57_0:PCode:=.seq (.reg [] [z 49 (.bin .lss (.t 48) (.t 47))]) (.seq (.ite (.t 49) (.skip) (.exit 0)) (.seq (.block 1 (.seq (.reg [] [z 50 (.idx 1 (.t 46) (.t 48)),zl 51 50,zm 7 51]) (.reg []
 [zm 52 5,zm 53 7,z 54 (.call 88 [.t 52,.t 53]),zm 5 54]))) (.reg [] [z 55 (.bin .add (.t 48) (.c (.i .i64 1))),zm 48 55])))
def p57:PFun:=⟨99,[.t 2,.t 3],.seq (.reg [] [z 1 (.box 35 (.t 0)),z 2 (.mov (.c .nil)),z 3 (.mov (.c (.i .i64 0)))]) (.seq (.seq (.reg [] [zL 13 13 1,z 14 (.call 24 [.t 13]),zm 4 14])
 (.seq (.reg [] [zm 15 4,z 16 (.bin .neq (.t 15) (.c (.i .i64 0)))]) (.ite (.t 16) (.seq (.reg [] [zm 17 4,z 2 (.mov (.c .nil)),zm 3 17]) (.ret)) (.skip)))) (.seq (.reg [] [zf 18
 3 1,zl 19 18,z 20 (.cvi .u8 (.t 19)),z 21 (.bslice 1 [none] [.c (.i .u8 1),.t 20]),zf 22 0 1,zf 23 0 22,zl 24 23,z 25 (.call 87 [.t 21,.t 24]),zm 5 25]) (.seq (.reg [] [zm
 26 5,zf 27 0 1,zf 28 1 27,zl 29 28,z 30 (.cvi .u8 (.t 29)),z 31 (.bslice 1 [none] [.t 30]),z 32 (.app 5 1 1 (.t 26) (.t 31)),zm 5 32]) (.seq (.reg [] [zm 33 5,zf 34 0 1,zf
 35 2 34,zl 36 35,z 37 (.call 88 [.t 33,.t 36]),zm 5 37]) (.seq (.reg [] [zm 38 5,zf 39 12 1,zl 40 39,z 41 (.len false (.t 40)),z 42 (.cvi .u8 (.t 41)),z 43 (.bslice 1
 [none] [.t 42]),z 44 (.app 5 1 1 (.t 38) (.t 43)),zm 5 44]) (.seq (.seq (.reg [] [zf 45 12 1,zl 46 45,z 47 (.len false (.t 46)),z 48 (.mov (.c (.i .i64 0)))]) (.block 0 (.loop
 p57_0))) (.seq (.reg [] [zf 56 4 1,zL 57 8 56,z 8 (.alloc 33 [.nil,.nil,.s [],.s [],.s [],.s [],.i .i64 0,.i .i64 0]),zs (.store 8 [some 3,some 3,none,none,none,none,
 none,none] (.t 8) (.t 57))]) (.seq (.reg [] [zf 59 0 8,zl 60 59,z 61 (.call 89 [.t 60]),zm 58 61,z 62 (.ext 0 (.t 58)),z 63 (.ext 1 (.t 58)),zm 9 62,zm 10 63]) (.seq (.reg
 [] [zm 64 5,zm 65 9,zf 66 2 8,zl 67 66,zf 68 3 8,zl 69 68,z 70 (.bslice 1 [none] [.t 65,.t 67,.t 69]),z 71 (.call 90 [.t 64,.t 70]),zm 5 71]) (.seq (.seq (.reg [] [zf 72
 3 1,zl 73 72,z 74 (.bin .eql (.t 73) (.c (.i .i64 1)))]) (.ite (.t 74) (.seq (.reg [] [zf 76 1 8,zl 77 76,z 78 (.call 89 [.t 77]),zm 75 78,z 79 (.ext 0 (.t 75)),z 80 (.ext 1
 (.t 75)),zm 11 79,zm 12 80]) (.seq (.reg [] [zm 81 5,zm 82 11,zf 83 4 8,zl 84 83,zf 85 5 8,zl 86 85,z 87 (.bslice 1 [none] [.t 82,.t 84,.t 86]),z 88 (.call 90 [.t 81,.t
 87]),zm 5 88]) (.dreg [([zm 89 5,zf 90 6 8,zl 91 90,zf 93 7 8,zl 94 93,z 95 (.cvi .u8 (.t 94)),z 96 (.bslice 1 [none] [.t 95])],z 92 (.call 87 [.t 89,.t 91]),[zf 93 7 8,
 zl 94 93,z 96 (.bslice 1 [none] [.t 95])])] [] [] [z 97 (.app 5 1 1 (.t 92) (.t 96)),zm 5 97]))) (.skip))) (.seq (.reg [] [zm 98 5,zm 2 98,z 3 (.mov (.c (.i .i64 0)))])
 (.ret))))))))))))⟩
theorem c57:cFun Tryz.prog Tryz.f57=some p57:=by kernel_rfl
def p99_0:PCode:=.seq (.reg [] [z 17 (.bin .lss (.t 16) (.t 15))]) (.seq (.ite (.t 17) (.skip) (.exit 0)) (.seq (.block 1 (.seq (.reg [] [z 18 (.idx 13 (.t 14) (.t 16)),zL 19 13 18,z 5 (.alloc 35
 [.i .i64 0,.i .i64 0,.i .i64 0,.i .i64 0,.nil,.nil,.s [],.s [],.s [],.s [],.i .i64 0,.i .i64 0,.nil]),zs (.store 13 [none,none,none,none,some 3,some 3,none,none,
 none,none,none,none,some 1] (.t 5) (.t 19))]) (.seq (.reg [] [zL 20 13 5,z 21 (.call 139 [.t 20]),zm 6 21]) (.seq (.seq (.reg [] [zm 22 6,z 23 (.bin .eql (.t 22) (.c (.s
 [])))]) (.ite (.t 23) (.exit 1) (.skip))) (.seq (.reg [] [zm 25 3,zm 26 6,z 27 (.look 1 (.agg [.i .i64 0,.i .i64 0,.i .i64 0,.i .i64 0,.sl 3 [],.sl 3 [],.s [],.s [],.s [],
 .s [],.i .i64 0,.i .i64 0,.sl 1 []]) true (.t 25) (.t 26)),zm 24 27,z 28 (.ext 0 (.t 24)),z 29 (.ext 1 (.t 24)),z 7 (.alloc 35 [.i .i64 0,.i .i64 0,.i .i64 0,.i .i64 0,
 .nil,.nil,.s [],.s [],.s [],.s [],.i .i64 0,.i .i64 0,.nil]),zs (.store 13 [none,none,none,none,some 3,some 3,none,none,none,none,none,none,some 1] (.t 7) (.t
 28)),zm 8 29]) (.seq (.reg [33,34,35] [zm 30 8,z 31 (.un .not (.t 30)),zm 32 31,⟨some 33,[(32,false)],.load (some 13) (.t 5)⟩,⟨some 34,[(32,false)],.load (some 13) (.t
 7)⟩,⟨some 35,[(32,false)],.call 140 [.t 33,.t 34]⟩,z 36 (.pick (.t 32) (.c (.b true)) (.t 35))]) (.ite (.t 36) (.reg [] [zm 37 3,zm 38 6,zL 39 13 5,zs (.mupd 1 [none,none,
 none,none,some 3,some 3,none,none,none,none,none,none,some 1] (.t 37) (.t 38) (.t 39))]) (.skip)))))))) (.reg [] [z 40 (.bin .add (.t 16) (.c (.i .i64 1))),zm 16 40])))
def p99:PFun:=⟨42,[.t 2],.seq (.reg [] [z 2 (.mov (.c .nilmap))]) (.seq (.reg [] [z 9 (.mkmap 9 35),zm 3 9]) (.seq (.seq (.reg [] [zm 10 0,z 11 (.len false (.t 10)),z 12 (.bin .gtr (.t 11)
 (.c (.i .i64 1024)))]) (.ite (.t 12) (.seq (.reg [] [zm 13 3,zm 2 13]) (.ret)) (.skip))) (.seq (.seq (.reg [] [zm 14 0,z 15 (.len false (.t 14)),z 16 (.mov (.c (.i .i64 0)))])
 (.block 0 (.loop p99_0))) (.seq (.reg [] [zm 41 3,zm 2 41]) (.ret)))))⟩
theorem c99:cFun Tryz.prog Tryz.f99=some p99:=by kernel_rfl
def p65_0:PCode:=.seq (.reg [] [z 14 (.bin .lss (.t 13) (.t 12))]) (.seq (.ite (.t 14) (.skip) (.exit 0)) (.seq (.block 1 (.seq (.reg [] [z 15 (.idx 1 (.t 11) (.t 13)),zl 16 15,zm 6 16]) (.reg []
 [zm 17 4,zm 18 3,zm 19 6,z 20 (.look 1 (.agg [.i .i64 0,.i .i64 0,.i .i64 0,.i .i64 0,.sl 3 [],.sl 3 [],.s [],.s [],.s [],.s [],.i .i64 0,.i .i64 0,.sl 1 []]) false
 (.t 18) (.t 19)),z 21 (.call 63 [.t 20]),z 22 (.bslice 13 [none,none,none,none,some 3,some 3,none,none,none,none,none,none,some 1] [.t 21]),z 23 (.app 35 13 184 (.t
 17) (.t 22)),zm 4 23]))) (.reg [] [z 24 (.bin .add (.t 13) (.c (.i .i64 1))),zm 13 24])))
def p65:PFun:=⟨26,[.t 2],.seq (.reg [] [z 2 (.mov (.c .nil))]) (.seq (.reg [] [zm 7 0,z 8 (.call 99 [.t 7]),zm 3 8]) (.seq (.reg [] [z 4 (.mov (.c .nil))]) (.seq (.seq (.reg [] [zm 9 3,z 10
 (.call 101 [.t 9]),z 11 (.call 100 [.t 10]),z 12 (.len false (.t 11)),z 13 (.mov (.c (.i .i64 0)))]) (.block 0 (.loop p65_0))) (.seq (.reg [] [zm 25 4,zm 2 25]) (.ret)))))⟩
theorem c65:cFun Tryz.prog Tryz.f65=some p65:=by kernel_rfl
def p31_0:PCode:=.seq (.reg [] [z 10 (.bin .lss (.t 9) (.t 8))]) (.seq (.ite (.t 10) (.skip) (.exit 0)) (.seq (.block 1 (.seq (.reg [] [z 11 (.idx 13 (.t 7) (.t 9)),zL 12 13 11,z 5 (.alloc 35 [.i
 .i64 0,.i .i64 0,.i .i64 0,.i .i64 0,.nil,.nil,.s [],.s [],.s [],.s [],.i .i64 0,.i .i64 0,.nil]),zs (.store 13 [none,none,none,none,some 3,some 3,none,none,
 none,none,none,none,some 1] (.t 5) (.t 12))]) (.seq (.reg [] [zf 13 3 5,zl 14 13,z 15 (.bin .eql (.t 14) (.c (.i .i64 1)))]) (.ite (.t 15) (.reg [] [zm 16 3,zf 17 4 5,zL 18
 8 17,z 19 (.bslice 8 [some 3,some 3,none,none,none,none,none,none] [.t 18]),z 20 (.app 33 8 128 (.t 16) (.t 19)),zm 3 20]) (.skip))))) (.reg [] [z 21 (.bin .add (.t 9) (.c
 (.i .i64 1))),zm 9 21])))
def p31:PFun:=⟨23,[.t 2],.seq (.reg [] [z 2 (.mov (.c .nil))]) (.seq (.reg [] [z 3 (.mov (.c .nil))]) (.seq (.seq (.reg [] [zm 6 0,z 7 (.call 65 [.t 6]),z 8 (.len false (.t 7)),z 9 (.mov (.c
 (.i .i64 0)))]) (.block 0 (.loop p31_0))) (.seq (.reg [] [zm 22 3,zm 2 22]) (.ret))))⟩
theorem c31:cFun Tryz.prog Tryz.f31=some p31:=by kernel_rfl
def p63:PFun:=⟨12,[.c 2 (some 13)],.seq (.reg [] [z 1 (.box 35 (.t 0)),z 2 (.alloc 35 [.i .i64 0,.i .i64 0,.i .i64 0,.i .i64 0,.nil,.nil,.s [],.s [],.s [],.s [],.i .i64 0,.i .i64 0,
 .nil])]) (.seq (.dreg [([zf 3 4 1,zL 4 8 3,zf 6 12 1,zl 7 6],z 5 (.call 97 [.t 4]),[zf 6 12 1,zl 7 6]),([zf 9 4 1],z 8 (.call 98 [.t 7]),[zf 9 4 1])] [] [] [zs (.store 8
 [some 3,some 3,none,none,none,none,none,none] (.t 9) (.t 5)),zf 10 12 1,zs (.store 1 [some 1] (.t 10) (.t 8))]) (.seq (.reg [] [zL 11 13 1,zs (.store 13 [none,none,none,
 none,some 3,some 3,none,none,none,none,none,none,some 1] (.t 2) (.t 11))]) (.ret)))⟩
theorem c63:cFun Tryz.prog Tryz.f63=some p63:=by kernel_rfl
def p97:PFun:=⟨12,[.c 2 (some 8)],.seq (.reg [] [z 1 (.box 33 (.t 0)),z 2 (.alloc 33 [.nil,.nil,.s [],.s [],.s [],.s [],.i .i64 0,.i .i64 0])]) (.seq (.dreg [([zf 3 0 1,zl 4 3,zf 6 1
 1,zl 7 6],z 5 (.call 138 [.t 4]),[zf 6 1 1,zl 7 6]),([zf 9 0 1],z 8 (.call 138 [.t 7]),[zf 9 0 1])] [] [] [zs (.store 1 [some 3] (.t 9) (.t 5)),zf 10 1 1,zs (.store 1 [some
 3] (.t 10) (.t 8))]) (.seq (.reg [] [zL 11 8 1,zs (.store 8 [some 3,some 3,none,none,none,none,none,none] (.t 2) (.t 11))]) (.ret)))⟩
theorem c97:cFun Tryz.prog Tryz.f97=some p97:=by kernel_rfl
def p12_0:PCode:=.seq (.reg [] [z 14 (.bin .lss (.t 13) (.t 12))]) (.seq (.ite (.t 14) (.skip) (.exit 0)) (.seq (.block 1 (.seq (.reg [] [zm 15 13,zm 5 15]) (.seq (.dreg [] [zm 16 0,zm 17 5,z 18
 (.idx 8 (.t 16) (.t 17)),zL 19 8 18,zm 20 1,zm 21 5,z 22 (.idx 8 (.t 20) (.t 21)),zL 23 8 22] [] [z 24 (.call 30 [.t 19,.t 23]),z 25 (.un .not (.t 24))]) (.ite (.t 25) (.seq
 (.reg [] [z 4 (.mov (.c (.b false)))]) (.ret)) (.skip))))) (.reg [] [z 26 (.bin .add (.t 13) (.c (.i .i64 1))),zm 13 26])))
def p12:PFun:=⟨27,[.t 4],.seq (.reg [] [z 4 (.mov (.c (.b false)))]) (.seq (.seq (.reg [] [zm 6 0,z 7 (.len false (.t 6)),zm 8 1,z 9 (.len false (.t 8)),z 10 (.bin .neq (.t 7) (.t 9))])
 (.ite (.t 10) (.seq (.reg [] [z 4 (.mov (.c (.b false)))]) (.ret)) (.skip))) (.seq (.seq (.reg [] [zm 11 0,z 12 (.len false (.t 11)),z 13 (.mov (.c (.i .i64 0)))]) (.block 0
 (.loop p12_0))) (.seq (.reg [] [z 4 (.mov (.c (.b true)))]) (.ret))))⟩
theorem c12:cFun Tryz.prog Tryz.f12=some p12:=by kernel_rfl
def p30:PFun:=⟨59,[.t 4],.seq (.reg [] [z 2 (.box 33 (.t 0)),z 3 (.box 33 (.t 1)),z 4 (.mov (.c (.b false)))]) (.seq (.reg [11,12,13,14,15,18,19,20,21,22,25,26,27,28,29,32,33,
 34,35,36,39,40,41,42,43,46,47,48,49,50,53,54,55,56,57] [zf 5 0 2,zl 6 5,zf 7 0 3,zl 8 7,z 9 (.call 64 [.t 6,.t 8]),zm 10 9,⟨some 11,[(10,true)],.fld 1 (.t
 2)⟩,⟨some 12,[(10,true)],.load none (.t 11)⟩,⟨some 13,[(10,true)],.fld 1 (.t 3)⟩,⟨some 14,[(10,true)],.load none (.t 13)⟩,⟨some 15,[(10,true)],.call 64 [.t 12,.t
 14]⟩,z 16 (.pick (.t 10) (.t 15) (.c (.b false))),zm 17 16,⟨some 18,[(17,true)],.fld 2 (.t 2)⟩,⟨some 19,[(17,true)],.load none (.t 18)⟩,⟨some 20,[(17,true)],.fld 2 (.t
 3)⟩,⟨some 21,[(17,true)],.load none (.t 20)⟩,⟨some 22,[(17,true)],.bin .eql (.t 19) (.t 21)⟩,z 23 (.pick (.t 17) (.t 22) (.c (.b false))),zm 24 23,⟨some 25,[(24,true)],
 .fld 3 (.t 2)⟩,⟨some 26,[(24,true)],.load none (.t 25)⟩,⟨some 27,[(24,true)],.fld 3 (.t 3)⟩,⟨some 28,[(24,true)],.load none (.t 27)⟩,⟨some 29,[(24,true)],.bin .eql
 (.t 26) (.t 28)⟩,z 30 (.pick (.t 24) (.t 29) (.c (.b false))),zm 31 30,⟨some 32,[(31,true)],.fld 4 (.t 2)⟩,⟨some 33,[(31,true)],.load none (.t 32)⟩,⟨some 34,[(31,
 true)],.fld 4 (.t 3)⟩,⟨some 35,[(31,true)],.load none (.t 34)⟩,⟨some 36,[(31,true)],.bin .eql (.t 33) (.t 35)⟩,z 37 (.pick (.t 31) (.t 36) (.c (.b false))),zm 38 37,
 ⟨some 39,[(38,true)],.fld 5 (.t 2)⟩,⟨some 40,[(38,true)],.load none (.t 39)⟩,⟨some 41,[(38,true)],.fld 5 (.t 3)⟩,⟨some 42,[(38,true)],.load none (.t 41)⟩,⟨some 43,
 [(38,true)],.bin .eql (.t 40) (.t 42)⟩,z 44 (.pick (.t 38) (.t 43) (.c (.b false))),zm 45 44,⟨some 46,[(45,true)],.fld 6 (.t 2)⟩,⟨some 47,[(45,true)],.load none (.t
 46)⟩,⟨some 48,[(45,true)],.fld 6 (.t 3)⟩,⟨some 49,[(45,true)],.load none (.t 48)⟩,⟨some 50,[(45,true)],.bin .eql (.t 47) (.t 49)⟩,z 51 (.pick (.t 45) (.t 50) (.c (.b
 false))),zm 52 51,⟨some 53,[(52,true)],.fld 7 (.t 2)⟩,⟨some 54,[(52,true)],.load none (.t 53)⟩,⟨some 55,[(52,true)],.fld 7 (.t 3)⟩,⟨some 56,[(52,true)],.load none
 (.t 55)⟩,⟨some 57,[(52,true)],.bin .eql (.t 54) (.t 56)⟩,z 58 (.pick (.t 52) (.t 57) (.c (.b false))),zm 4 58]) (.ret))⟩
theorem c30:cFun Tryz.prog Tryz.f30=some p30:=by kernel_rfl
def p10:PFun:=⟨14,[.t 4],.seq (.reg [] [z 4 (.mov (.c (.i .i64 0)))]) (.seq (.reg [] [zm 5 0,zm 6 1,z 7 (.bin .rem (.t 5) (.t 6)),zm 0 7]) (.seq (.seq (.reg [] [zm 8 0,z 9 (.bin .lss (.t 8)
 (.c (.i .i64 0)))]) (.ite (.t 9) (.reg [] [zm 10 0,zm 11 1,z 12 (.bin .add (.t 10) (.t 11)),zm 0 12]) (.skip))) (.seq (.reg [] [zm 13 0,zm 4 13]) (.ret))))⟩
theorem c10:cFun Tryz.prog Tryz.f10=some p10:=by kernel_rfl
def p26:PFun:=⟨54,[.t 4],.seq (.reg [] [z 2 (.box 35 (.t 0)),z 3 (.box 35 (.t 1)),z 4 (.mov (.c (.i .i64 0)))]) (.seq (.both (.dreg [([zf 12 0 2,zL 13 3 12,zf 14 0 3,zL 15 3 14],z 5
 (.alloc 30 [.i .i64 0,.i .i64 0,.i .i64 0]),[zf 12 0 2,zL 13 3 12,zf 14 0 3,zL 15 3 14]),([],z 6 (.alloc 30 [.i .i64 0,.i .i64 0,.i .i64 0]),[zf 12 0 2,zL 13 3 12,zf 14
 0 3,zL 15 3 14]),([],zs (.store 3 [none,none,none] (.t 5) (.t 13)),[zf 14 0 3,zL 15 3 14])] [] [] [zs (.store 3 [none,none,none] (.t 6) (.t 15))]) (.dreg [([zf 12 0 2,zL
 13 3 12,zf 14 0 3,zL 15 3 14],z 6 (.alloc 30 [.i .i64 0,.i .i64 0,.i .i64 0]),[zf 12 0 2,zL 13 3 12,zf 14 0 3,zL 15 3 14]),([],z 5 (.alloc 30 [.i .i64 0,.i .i64 0,.i
 .i64 0]),[zf 12 0 2,zL 13 3 12,zf 14 0 3,zL 15 3 14]),([],zs (.store 3 [none,none,none] (.t 5) (.t 13)),[zf 14 0 3,zL 15 3 14])] [] [] [zs (.store 3 [none,none,none] (.t
 6) (.t 15))])) (.seq (.seq (.dreg [([zf 16 1 5,zl 17 16,zf 18 1 6,zl 19 18,zf 21 2 5,zl 22 21,zf 23 2 6,zl 24 23,zf 26 0 5,zl 27 26,zf 28 0 6,zl 29 28,zf 31 3 2,zl 32
 31,zf 33 3 3,zl 34 33],z 20 (.call 56 [.t 17,.t 19]),[zf 21 2 5,zl 22 21,zf 23 2 6,zl 24 23,zf 26 0 5,zl 27 26,zf 28 0 6,zl 29 28,zf 31 3 2,zl 32 31,zf 33 3 3,zl 34
 33]),([],z 25 (.call 56 [.t 22,.t 24]),[zf 26 0 5,zl 27 26,zf 28 0 6,zl 29 28,zf 31 3 2,zl 32 31,zf 33 3 3,zl 34 33]),([],z 30 (.call 56 [.t 27,.t 29]),[zf 31 3 2,zl
 32 31,zf 33 3 3,zl 34 33])] [] [] [z 35 (.call 56 [.t 32,.t 34]),z 36 (.bslice 1 [none] [.t 20,.t 25,.t 30,.t 35]),z 37 (.call 55 [.t 36]),zm 7 37]) (.seq (.reg [] [zm 38
 7,z 39 (.bin .neq (.t 38) (.c (.i .i64 0)))]) (.ite (.t 39) (.seq (.reg [] [zm 40 7,zm 4 40]) (.ret)) (.skip)))) (.seq (.reg [] [zL 42 13 2,z 43 (.call 57 [.t 42]),zm 41 43,z
 44 (.ext 0 (.t 41)),z 45 (.ext 1 (.t 41)),zm 8 44,zm 9 45]) (.seq (.reg [] [zL 47 13 3,z 48 (.call 57 [.t 47]),zm 46 48,z 49 (.ext 0 (.t 46)),z 50 (.ext 1 (.t 46)),zm 10 49,
 zm 11 50]) (.seq (.reg [] [zm 51 8,zm 52 10,z 53 (.call 58 [.t 51,.t 52]),zm 4 53]) (.ret))))))⟩
theorem c26:cFun Tryz.prog Tryz.f26=some p26:=by kernel_rfl
def p106_0:PCode:=.seq (.reg [] [z 11 (.bin .lss (.t 10) (.t 9))]) (.seq (.ite (.t 11) (.skip) (.exit 0)) (.seq (.block 1 (.seq (.reg [] [z 12 (.idx 3 (.t 8) (.t 10)),zL 13 3 12,z 6 (.alloc 79 [.i
 .i64 0,.s [],.i .i64 0]),zs (.store 3 [none,none,none] (.t 6) (.t 13))]) (.seq (.reg [17,18,19,20,21] [zL 14 3 6,z 15 (.call 104 [.t 14]),zm 16 15,⟨some 17,[(16,
 true)],.mov (.t 4)⟩,⟨some 18,[(16,true)],.fld 2 (.t 6)⟩,⟨some 19,[(16,true)],.load none (.t 18)⟩,⟨some 20,[(16,true)],.look 0 (.b false) false (.t 17) (.t 19)⟩,⟨some
 21,[(16,true)],.un .not (.t 20)⟩,z 22 (.pick (.t 16) (.t 21) (.c (.b false)))]) (.ite (.t 22) (.seq (.reg [] [zm 23 4,zf 24 2 6,zl 25 24,zs (.mupd 0 [none] (.t 23) (.t 25)
 (.c (.b true)))]) (.reg [] [zm 26 3,zf 27 2 6,zl 28 27,z 29 (.bslice 1 [none] [.t 28]),z 30 (.app 3 1 8 (.t 26) (.t 29)),zm 3 30])) (.skip))))) (.reg [] [z 31 (.bin .add (.t
 10) (.c (.i .i64 1))),zm 10 31])))
def p106:PFun:=⟨33,[.t 2],.seq (.reg [] [z 2 (.mov (.c .nil))]) (.seq (.reg [] [z 3 (.mov (.c .nil))]) (.seq (.reg [] [z 7 (.mkmap 3 4),zm 4 7]) (.seq (.seq (.reg [] [zm 8 0,z 9 (.len false
 (.t 8)),z 10 (.mov (.c (.i .i64 0)))]) (.block 0 (.loop p106_0))) (.seq (.reg [] [zm 32 3,zm 2 32]) (.ret)))))⟩
theorem c106:cFun Tryz.prog Tryz.f106=some p106:=by kernel_rfl
def p109_0:PCode:=.seq (.reg [] [z 10 (.bin .lss (.t 9) (.t 8))]) (.seq (.ite (.t 10) (.skip) (.exit 0)) (.seq (.block 1 (.seq (.reg [] [zm 11 9,zm 4 11]) (.reg [] [zm 12 3,zm 13 4,zm 14 4,z 15
 (.bin .add (.t 14) (.c (.i .i64 1))),z 16 (.idx 1 (.t 12) (.t 13)),zs (.store 1 [none] (.t 16) (.t 15))]))) (.reg [] [z 17 (.bin .add (.t 9) (.c (.i .i64 1))),zm 9 17])))
def p109:PFun:=⟨19,[.t 2],.seq (.reg [] [z 2 (.mov (.c .nil))]) (.seq (.reg [] [zm 5 0,z 6 (.mk 3 1 8 [.i .i64 0] (.t 5) (.t 5)),zm 3 6]) (.seq (.seq (.reg [] [zm 7 3,z 8 (.len false (.t 7)),
 z 9 (.mov (.c (.i .i64 0)))]) (.block 0 (.loop p109_0))) (.seq (.reg [] [zm 18 3,zm 2 18]) (.ret))))⟩
theorem c109:cFun Tryz.prog Tryz.f109=some p109:=by kernel_rfl
def p148_0:PCode:=.seq (.seq (.reg [30,31,32,33,34,35] [zm 25 4,zm 26 0,z 27 (.len false (.t 26)),z 28 (.bin .lss (.t 25) (.t 27)),zm 29 28,⟨some 30,[(29,true)],.mov (.t 0)⟩,⟨some 31,
 [(29,true)],.mov (.t 4)⟩,⟨some 32,[(29,true)],.idx 3 (.t 30) (.t 31)⟩,⟨some 33,[(29,true)],.fld 0 (.t 32)⟩,⟨some 34,[(29,true)],.load none (.t 33)⟩,⟨some 35,[(29,
 true)],.bin .eql (.t 34) (.c (.i .i64 1))⟩,z 36 (.pick (.t 29) (.t 35) (.c (.b false)))]) (.ite (.t 36) (.skip) (.exit 2))) (.block 3 (.seq (.reg [] [zm 37 5,zm 38 0,zm 39 4,z
 40 (.idx 3 (.t 38) (.t 39)),zf 41 1 40,zl 42 41,z 43 (.apps 5 (.t 37) (.t 42)),zm 5 43]) (.reg [] [zm 44 4,z 45 (.bin .add (.t 44) (.c (.i .i64 1))),zm 4 45])))
def p148_1:PCode:=.seq (.seq (.reg [] [zm 6 4,zm 7 0,z 8 (.len false (.t 7)),z 9 (.bin .lss (.t 6) (.t 8))]) (.ite (.t 9) (.skip) (.exit 0))) (.block 1 (.seq (.seq (.reg [] [zm 10 0,zm 11 4,z 12
 (.idx 3 (.t 10) (.t 11)),zf 13 0 12,zl 14 13,z 15 (.bin .neq (.t 14) (.c (.i .i64 1)))]) (.ite (.t 15) (.seq (.reg [] [zm 16 3,zm 17 0,zm 18 4,z 19 (.idx 3 (.t 17) (.t 18)),
 zL 20 3 19,z 21 (.bslice 3 [none,none,none] [.t 20]),z 22 (.app 79 3 32 (.t 16) (.t 21)),zm 3 22]) (.seq (.reg [] [zm 23 4,z 24 (.bin .add (.t 23) (.c (.i .i64 1))),zm 4 24])
 (.exit 1))) (.skip))) (.seq (.reg [] [z 5 (.mov (.c .nil))]) (.seq (.block 2 (.loop p148_0)) (.seq (.reg [] [zm 46 5,z 47 (.len false (.t 46)),z 48 (.bin .gtr (.t 47) (.c (.i .i64
 0)))]) (.ite (.t 48) (.reg [] [zm 49 3,zm 50 5,z 51 (.b2s (.t 50)),z 52 (.build [.i .i64 0,.s [],.i .i64 0] [(0,1,.c (.i .i64 1)),(1,1,.t 51)]),z 53 (.bslice 3 [none,
 none,none] [.t 52]),z 54 (.app 79 3 32 (.t 49) (.t 53)),zm 3 54]) (.skip)))))))
def p148:PFun:=⟨56,[.t 2],.seq (.reg [] [z 2 (.mov (.c .nil))]) (.seq (.reg [] [z 3 (.mov (.c .nil))]) (.seq (.seq (.reg [] [z 4 (.mov (.c (.i .i64 0)))]) (.block 0 (.loop p148_1))) (.seq (.reg
 [] [zm 55 3,zm 2 55]) (.ret))))⟩
theorem c148:cFun Tryz.prog Tryz.f148=some p148:=by kernel_rfl
def p108_0:PCode:=.seq (.seq (.reg [] [zm 21 8,z 22 (.bin .geq (.t 21) (.c (.i .i64 0)))]) (.ite (.t 22) (.skip) (.exit 0))) (.seq (.block 1 (.dreg [] [zm 25 7,zm 26 1,zm 27 8,z 28 (.idx 1 (.t
 26) (.t 27)),zl 29 28,zm 30 2,zm 31 8,z 32 (.idx 1 (.t 30) (.t 31)),zl 33 32] [] [zs (.mupd 0 [none] (.t 25) (.t 29) (.t 33))])) (.reg [] [zm 23 8,z 24 (.bin .sub (.t 23) (.c
 (.i .i64 1))),zm 8 24]))
def p108_1:PCode:=.seq (.reg [] [z 37 (.bin .lss (.t 36) (.t 35))]) (.seq (.ite (.t 37) (.skip) (.exit 2)) (.seq (.block 3 (.seq (.reg [] [z 38 (.idx 3 (.t 34) (.t 36)),zL 39 3 38,z 11 (.alloc 79
 [.i .i64 0,.s [],.i .i64 0]),zs (.store 3 [none,none,none] (.t 11) (.t 39))]) (.seq (.seq (.reg [] [zL 40 3 11,z 41 (.call 104 [.t 40])]) (.ite (.t 41) (.seq (.reg [] [zm 43
 7,zf 44 2 11,zl 45 44,z 46 (.look 0 (.i .i64 0) true (.t 43) (.t 45)),zm 42 46,z 47 (.ext 0 (.t 42)),z 48 (.ext 1 (.t 42)),zm 12 47,zm 13 48]) (.seq (.seq (.reg [] [zm 49
 13,z 50 (.un .not (.t 49))]) (.ite (.t 50) (.exit 3) (.skip))) (.reg [] [zm 51 12,zf 52 2 11,zs (.store 1 [none] (.t 52) (.t 51))]))) (.skip))) (.reg [] [zm 53 9,zL 54 3 11,z
 55 (.bslice 3 [none,none,none] [.t 54]),z 56 (.app 79 3 32 (.t 53) (.t 55)),zm 9 56])))) (.reg [] [z 57 (.bin .add (.t 36) (.c (.i .i64 1))),zm 36 57])))
def p108:PFun:=⟨60,[.t 6],.seq (.reg [] [z 6 (.mov (.c .nil))]) (.seq (.reg [] [z 14 (.mkmap 3 3),zm 7 14]) (.seq (.seq (.reg [] [zm 15 1,z 16 (.len false (.t 15)),zm 17 2,z 18 (.len false
 (.t 17)),z 19 (.min2 (.t 16) (.t 18)),z 20 (.bin .sub (.t 19) (.c (.i .i64 1))),zm 8 20]) (.block 0 (.loop p108_0))) (.seq (.reg [] [z 9 (.mov (.c .nil))]) (.seq (.seq (.reg []
 [zm 34 0,z 35 (.len false (.t 34)),z 36 (.mov (.c (.i .i64 0)))]) (.block 2 (.loop p108_1))) (.seq (.reg [] [zm 58 9,z 59 (.call 148 [.t 58]),zm 6 59]) (.ret))))))⟩
theorem c108:cFun Tryz.prog Tryz.f108=some p108:=by kernel_rfl
def p68_0:PCode:=.seq (.reg [] [z 15 (.bin .lss (.t 14) (.t 13))]) (.seq (.ite (.t 15) (.skip) (.exit 0)) (.seq (.block 1 (.seq (.reg [] [z 16 (.idx 1 (.t 12) (.t 14)),zl 17 16,zm 8 17]) (.seq
 (.reg [] [zm 18 6,zm 19 8,z 20 (.call 107 [.t 18,.t 19]),z 21 (.un .not (.t 20))]) (.ite (.t 21) (.reg [] [zm 22 6,zm 23 8,z 24 (.bslice 1 [none] [.t 23]),z 25 (.app 3 1 8
 (.t 22) (.t 24)),zm 6 25]) (.skip))))) (.reg [] [z 26 (.bin .add (.t 14) (.c (.i .i64 1))),zm 14 26])))
def p68:PFun:=⟨39,[.t 4,.t 5],.seq (.reg [] [z 4 (.mov (.c .nil)),z 5 (.mov (.c .nil))]) (.seq (.reg [] [zm 9 0,z 10 (.call 106 [.t 9]),zm 6 10]) (.seq (.seq (.reg [] [zm 11 1,z 12 (.call
 106 [.t 11]),z 13 (.len false (.t 12)),z 14 (.mov (.c (.i .i64 0)))]) (.block 0 (.loop p68_0))) (.seq (.reg [] [zm 27 0,zm 28 6,zm 29 6,z 30 (.len false (.t 29)),z 31 (.call
 109 [.t 30]),z 32 (.call 108 [.t 27,.t 28,.t 31]),zm 33 1,zm 34 6,zm 35 6,z 36 (.len false (.t 35)),z 37 (.call 109 [.t 36]),z 38 (.call 108 [.t 33,.t 34,.t 37]),zm 4
 32,zm 5 38]) (.ret))))⟩
theorem c68:cFun Tryz.prog Tryz.f68=some p68:=by kernel_rfl
def p69:PFun:=⟨8,[.t 4],.seq (.reg [] [z 4 (.mov (.c (.b false)))]) (.seq (.reg [] [zm 5 0,zm 6 1,z 7 (.call 110 [.t 5,.t 6]),zm 4 7]) (.ret))⟩
theorem c69:cFun Tryz.prog Tryz.f69=some p69:=by kernel_rfl
def p107:PFun:=⟨9,[.t 4],.seq (.reg [] [z 4 (.mov (.c (.b false)))]) (.seq (.reg [] [zm 5 0,zm 6 1,z 7 (.call 147 [.t 5,.t 6]),z 8 (.bin .geq (.t 7) (.c (.i .i64 0))),zm 4 8]) (.ret))⟩
theorem c107:cFun Tryz.prog Tryz.f107=some p107:=by kernel_rfl
def p147_0:PCode:=.seq (.reg [] [z 9 (.bin .lss (.t 8) (.t 7))]) (.seq (.ite (.t 9) (.skip) (.exit 0)) (.seq (.block 1 (.seq (.reg [] [zm 10 8,zm 5 10]) (.seq (.reg [] [zm 11 1,zm 12 0,zm 13 5,z
 14 (.idx 1 (.t 12) (.t 13)),zl 15 14,z 16 (.bin .eql (.t 11) (.t 15))]) (.ite (.t 16) (.seq (.reg [] [zm 17 5,zm 4 17]) (.ret)) (.skip))))) (.reg [] [z 18 (.bin .add (.t 8) (.c
 (.i .i64 1))),zm 8 18])))
def p147:PFun:=⟨19,[.t 4],.seq (.reg [] [z 4 (.mov (.c (.i .i64 0)))]) (.seq (.seq (.reg [] [zm 6 0,z 7 (.len false (.t 6)),z 8 (.mov (.c (.i .i64 0)))]) (.block 0 (.loop p147_0))) (.seq (.reg
 [] [z 4 (.mov (.c (.i .i64 (-1))))]) (.ret)))⟩
theorem c147:cFun Tryz.prog Tryz.f147=some p147:=by kernel_rfl
def p110_0:PCode:=.seq (.reg [] [z 14 (.bin .lss (.t 13) (.t 12))]) (.seq (.ite (.t 14) (.skip) (.exit 0)) (.seq (.block 1 (.seq (.reg [] [zm 15 13,zm 5 15]) (.seq (.dreg [] [zm 16 0,zm 17 5,z 18
 (.idx 3 (.t 16) (.t 17)),zL 19 3 18,zm 20 1,zm 21 5,z 22 (.idx 3 (.t 20) (.t 21)),zL 23 3 22] [] [z 24 (.beq true [0,1,0] (.t 19) (.t 23))]) (.ite (.t 24) (.seq (.reg [] [z 4
 (.mov (.c (.b false)))]) (.ret)) (.skip))))) (.reg [] [z 25 (.bin .add (.t 13) (.c (.i .i64 1))),zm 13 25])))
def p110:PFun:=⟨26,[.t 4],.seq (.reg [] [z 4 (.mov (.c (.b false)))]) (.seq (.seq (.reg [] [zm 6 0,z 7 (.len false (.t 6)),zm 8 1,z 9 (.len false (.t 8)),z 10 (.bin .neq (.t 7) (.t 9))])
 (.ite (.t 10) (.seq (.reg [] [z 4 (.mov (.c (.b false)))]) (.ret)) (.skip))) (.seq (.seq (.reg [] [zm 11 0,z 12 (.len false (.t 11)),z 13 (.mov (.c (.i .i64 0)))]) (.block 0
 (.loop p110_0))) (.seq (.reg [] [z 4 (.mov (.c (.b true)))]) (.ret))))⟩
theorem c110:cFun Tryz.prog Tryz.f110=some p110:=by kernel_rfl
def p33:PFun:=⟨109,[.t 2],.seq (.reg [] [z 1 (.box 33 (.t 0)),z 2 (.mov (.c (.i .i64 0)))]) (.seq (.seq (.reg [] [zf 13 0 1,zl 14 13,z 15 (.call 67 [.t 14]),zm 3 15]) (.seq (.reg [] [zm 16
 3,z 17 (.bin .neq (.t 16) (.c (.i .i64 0)))]) (.ite (.t 17) (.seq (.reg [] [zm 18 3,zm 2 18]) (.ret)) (.skip)))) (.seq (.seq (.reg [] [zf 19 1 1,zl 20 19,z 21 (.call 67 [.t
 20]),zm 4 21]) (.seq (.reg [] [zm 22 4,z 23 (.bin .neq (.t 22) (.c (.i .i64 0)))]) (.ite (.t 23) (.seq (.reg [] [zm 24 4,zm 2 24]) (.ret)) (.skip)))) (.seq (.reg [] [zf 26 0 1,
 zl 27 26,zf 28 1 1,zl 29 28,z 30 (.call 68 [.t 27,.t 29]),zm 25 30,z 31 (.ext 0 (.t 25)),z 32 (.ext 1 (.t 25)),zm 5 31,zm 6 32]) (.seq (.seq (.reg [38,39,40,41,42,45,
 46,47,48,49] [zf 33 0 1,zl 34 33,z 35 (.len false (.t 34)),z 36 (.bin .eql (.t 35) (.c (.i .i64 0))),zm 37 36,⟨some 38,[(37,false)],.mov (.t 5)⟩,⟨some 39,[(37,false)],
 .fld 0 (.t 1)⟩,⟨some 40,[(37,false)],.load none (.t 39)⟩,⟨some 41,[(37,false)],.call 69 [.t 38,.t 40]⟩,⟨some 42,[(37,false)],.un .not (.t 41)⟩,z 43 (.pick (.t 37) (.c
 (.b true)) (.t 42)),zm 44 43,⟨some 45,[(44,false)],.mov (.t 6)⟩,⟨some 46,[(44,false)],.fld 1 (.t 1)⟩,⟨some 47,[(44,false)],.load none (.t 46)⟩,⟨some 48,[(44,false)],
 .call 69 [.t 45,.t 47]⟩,⟨some 49,[(44,false)],.un .not (.t 48)⟩,z 50 (.pick (.t 44) (.c (.b true)) (.t 49))]) (.ite (.t 50) (.seq (.reg [] [z 2 (.mov (.c (.i .i64 1)))])
 (.ret)) (.skip))) (.seq (.seq (.reg [] [zf 52 2 1,zl 53 52,z 54 (.call 70 [.t 53]),zm 51 54,z 55 (.ext 0 (.t 51)),z 56 (.ext 1 (.t 51)),z 57 (.ext 2 (.t 51)),zm 7 55,zm 8
 56,zm 9 57]) (.seq (.reg [] [zm 58 9,z 59 (.bin .neq (.t 58) (.c (.i .i64 0)))]) (.ite (.t 59) (.seq (.reg [] [zm 60 9,zm 2 60]) (.ret)) (.skip)))) (.seq (.seq (.reg [] [zf 62 3
 1,zl 63 62,z 64 (.call 70 [.t 63]),zm 61 64,z 65 (.ext 0 (.t 61)),z 66 (.ext 1 (.t 61)),z 67 (.ext 2 (.t 61)),zm 10 65,zm 11 66,zm 12 67]) (.seq (.reg [] [zm 68 12,z 69
 (.bin .neq (.t 68) (.c (.i .i64 0)))]) (.ite (.t 69) (.seq (.reg [] [zm 70 12,zm 2 70]) (.ret)) (.skip)))) (.seq (.seq (.reg [75,76,77,78,81,82,83,84,85,86,87,88,89]
 [zf 71 4 1,zl 72 71,z 73 (.bin .neq (.t 72) (.c (.s []))),zm 74 73,⟨some 75,[(74,true)],.fld 4 (.t 1)⟩,⟨some 76,[(74,true)],.load none (.t 75)⟩,⟨some 77,[(74,true)],
 .call 71 [.t 76]⟩,⟨some 78,[(74,true)],.un .not (.t 77)⟩,z 79 (.pick (.t 74) (.t 78) (.c (.b false))),zm 80 79,⟨some 81,[(80,false)],.fld 5 (.t 1)⟩,⟨some 82,[(80,
 false)],.load none (.t 81)⟩,⟨some 83,[(80,false)],.bin .neq (.t 82) (.c (.s []))⟩,⟨some 84,[(80,false)],.mov (.t 83)⟩,⟨some 85,[(80,false),(84,true)],.fld 5 (.t 1)⟩,
 ⟨some 86,[(80,false),(84,true)],.load none (.t 85)⟩,⟨some 87,[(80,false),(84,true)],.call 71 [.t 86]⟩,⟨some 88,[(80,false),(84,true)],.un .not (.t 87)⟩,⟨some 89,
 [(80,false)],.pick (.t 84) (.t 88) (.c (.b false))⟩,z 90 (.pick (.t 80) (.c (.b true)) (.t 89))]) (.ite (.t 90) (.seq (.reg [] [z 2 (.mov (.c (.i .i64 4)))]) (.ret)) (.skip)))
 (.seq (.seq (.reg [95,96,97,100,101,102,105,106,107] [zf 91 6 1,zl 92 91,z 93 (.bin .lss (.t 92) (.c (.i .i64 0))),zm 94 93,⟨some 95,[(94,false)],.fld 6 (.t 1)⟩,
 ⟨some 96,[(94,false)],.load none (.t 95)⟩,⟨some 97,[(94,false)],.bin .gtr (.t 96) (.c (.i .i64 1073741824))⟩,z 98 (.pick (.t 94) (.c (.b true)) (.t 97)),zm 99 98,⟨some
 100,[(99,false)],.fld 7 (.t 1)⟩,⟨some 101,[(99,false)],.load none (.t 100)⟩,⟨some 102,[(99,false)],.bin .lss (.t 101) (.c (.i .i64 1))⟩,z 103 (.pick (.t 99) (.c (.b
 true)) (.t 102)),zm 104 103,⟨some 105,[(104,false)],.fld 7 (.t 1)⟩,⟨some 106,[(104,false)],.load none (.t 105)⟩,⟨some 107,[(104,false)],.bin .gtr (.t 106) (.c (.i .i64
 3))⟩,z 108 (.pick (.t 104) (.c (.b true)) (.t 107))]) (.ite (.t 108) (.seq (.reg [] [z 2 (.mov (.c (.i .i64 1)))]) (.ret)) (.skip))) (.seq (.reg [] [z 2 (.mov (.c (.i .i64 0)))])
 (.ret))))))))))⟩
theorem c33:cFun Tryz.prog Tryz.f33=some p33:=by kernel_rfl
def p180:PFun:=⟨20,[.t 2],.seq (.reg [] [z 1 (.box 33 (.t 0)),z 2 (.mov (.c (.s [])))]) (.seq (.reg [] [zf 6 0 1,zl 7 6,z 8 (.call 89 [.t 7]),zm 5 8,z 9 (.ext 0 (.t 5)),z 10 (.ext 1 (.t
 5)),zm 3 9,zm 4 10]) (.seq (.reg [] [zm 11 3,z 12 (.bin .add (.t 11) (.c (.s [10]))),zf 13 2 1,zl 14 13,z 15 (.bin .add (.t 12) (.t 14)),z 16 (.bin .add (.t 15) (.c (.s
 [10]))),zf 17 3 1,zl 18 17,z 19 (.bin .add (.t 16) (.t 18)),zm 2 19]) (.ret)))⟩
theorem c180:cFun Tryz.prog Tryz.f180=some p180:=by kernel_rfl
def p166:PFun:=⟨8,[.t 2],.seq (.reg [] [z 1 (.box 33 (.t 0)),z 2 (.mov (.c (.s [])))]) (.seq (.seq (.reg [] [zL 3 8 1,z 4 (.call 33 [.t 3]),z 5 (.bin .neq (.t 4) (.c (.i .i64 0)))]) (.ite (.t
 5) (.seq (.reg [] [z 2 (.mov (.c (.s [])))]) (.ret)) (.skip))) (.seq (.reg [] [zL 6 8 1,z 7 (.call 180 [.t 6]),zm 2 7]) (.ret)))⟩
theorem c166:cFun Tryz.prog Tryz.f166=some p166:=by kernel_rfl
def p52:PFun:=⟨20,[.c 2 (some 8)],.seq (.reg [] [z 1 (.box 35 (.t 0)),z 2 (.alloc 33 [.nil,.nil,.s [],.s [],.s [],.s [],.i .i64 0,.i .i64 0])]) (.seq (.seq (.reg [] [zf 4 3 1,zl 5 4,z
 6 (.bin .neq (.t 5) (.c (.i .i64 2)))]) (.ite (.t 6) (.seq (.reg [] [zf 7 4 1,zL 8 8 7,zs (.store 8 [some 3,some 3,none,none,none,none,none,none] (.t 2) (.t 8))]) (.ret))
 (.skip))) (.seq (.reg [] [zf 9 4 1,zL 10 8 9,z 3 (.alloc 33 [.nil,.nil,.s [],.s [],.s [],.s [],.i .i64 0,.i .i64 0]),zs (.store 8 [some 3,some 3,none,none,none,none,
 none,none] (.t 3) (.t 10))]) (.seq (.reg [] [zf 11 0 3,zl 12 11,zf 13 0 3,zl 14 13,zf 15 2 3,zl 16 15,zf 17 3 3,zl 18 17,z 19 (.build [.nil,.nil,.s [],.s [],.s [],.s
 [],.i .i64 0,.i .i64 0] [(0,1,.t 12),(1,1,.t 14),(2,1,.t 16),(3,1,.t 18),(7,1,.c (.i .i64 1))]),zs (.store 8 [some 3,some 3,none,none,none,none,none,none]
 (.t 2) (.t 19))]) (.ret))))⟩
theorem c52:cFun Tryz.prog Tryz.f52=some p52:=by kernel_rfl
def p51:PFun:=⟨27,[.t 2],.seq (.reg [] [z 1 (.box 33 (.t 0)),z 2 (.mov (.c (.b false)))]) (.seq (.reg [8,9,10,13,14,15,18,19,20,23,24,25] [zf 3 1 1,zl 4 3,z 5 (.len false (.t 4)),
 z 6 (.bin .eql (.t 5) (.c (.i .i64 0))),zm 7 6,⟨some 8,[(7,true)],.fld 4 (.t 1)⟩,⟨some 9,[(7,true)],.load none (.t 8)⟩,⟨some 10,[(7,true)],.bin .eql (.t 9) (.c (.s
 []))⟩,z 11 (.pick (.t 7) (.t 10) (.c (.b false))),zm 12 11,⟨some 13,[(12,true)],.fld 5 (.t 1)⟩,⟨some 14,[(12,true)],.load none (.t 13)⟩,⟨some 15,[(12,true)],.bin .eql
 (.t 14) (.c (.s []))⟩,z 16 (.pick (.t 12) (.t 15) (.c (.b false))),zm 17 16,⟨some 18,[(17,true)],.fld 6 (.t 1)⟩,⟨some 19,[(17,true)],.load none (.t 18)⟩,⟨some 20,[(17,
 true)],.bin .eql (.t 19) (.c (.i .i64 0))⟩,z 21 (.pick (.t 17) (.t 20) (.c (.b false))),zm 22 21,⟨some 23,[(22,true)],.fld 7 (.t 1)⟩,⟨some 24,[(22,true)],.load none (.t
 23)⟩,⟨some 25,[(22,true)],.bin .eql (.t 24) (.c (.i .i64 0))⟩,z 26 (.pick (.t 22) (.t 25) (.c (.b false))),zm 2 26]) (.ret))⟩
theorem c51:cFun Tryz.prog Tryz.f51=some p51:=by kernel_rfl
def p24_0:PCode:=.seq (.reg [] [z 33 (.bin .lss (.t 32) (.t 31))]) (.seq (.ite (.t 33) (.skip) (.exit 0)) (.seq (.block 1 (.seq (.reg [] [z 34 (.idx 1 (.t 30) (.t 32)),zl 35 34,zm 5 35]) (.seq
 (.reg [] [zm 36 5,z 37 (.bin .gtr (.t 36) (.c (.i .i64 128)))]) (.ite (.t 37) (.seq (.reg [] [z 2 (.mov (.c (.i .i64 1)))]) (.ret)) (.skip))))) (.reg [] [z 38 (.bin .add (.t 32)
 (.c (.i .i64 1))),zm 32 38])))
def p24:PFun:=⟨62,[.t 2],.seq (.reg [] [z 1 (.box 35 (.t 0)),z 2 (.mov (.c (.i .i64 0)))]) (.seq (.seq (.reg [] [zf 6 0 1,zL 7 3 6,z 8 (.call 48 [.t 7]),zm 3 8]) (.seq (.reg [] [zm 9 3,z
 10 (.bin .neq (.t 9) (.c (.i .i64 0)))]) (.ite (.t 10) (.seq (.reg [] [zm 11 3,zm 2 11]) (.ret)) (.skip)))) (.seq (.seq (.dreg [([zf 12 3 1,zl 13 12,z 14 (.bin .neq (.t 13) (.c
 (.i .i64 1))),zm 15 14,⟨some 16,[(15,true)],.fld 3 (.t 1)⟩,⟨some 17,[(15,true)],.load none (.t 16)⟩,⟨some 18,[(15,true)],.bin .neq (.t 17) (.c (.i .i64 2))⟩,z 19
 (.pick (.t 15) (.t 18) (.c (.b false))),zm 20 19,⟨some 21,[(20,false)],.fld 12 (.t 1)⟩,⟨some 22,[(20,false)],.load none (.t 21)⟩,⟨some 24,[(20,false)],.fld 12 (.t 1)⟩,
 ⟨some 25,[(20,false)],.load none (.t 24)⟩],⟨some 23,[(20,false)],.call 32 [.t 22]⟩,[⟨some 24,[(20,false)],.fld 12 (.t 1)⟩,⟨some 25,[(20,false)],.load none (.t 24)⟩])]
 [] [16,17,18,21,22,23,24,25,26,27] [⟨some 26,[(20,false)],.call 49 [.t 23,.t 25]⟩,⟨some 27,[(20,false)],.un .not (.t 26)⟩,z 28 (.pick (.t 20) (.c (.b true)) (.t
 27))]) (.ite (.t 28) (.seq (.reg [] [z 2 (.mov (.c (.i .i64 1)))]) (.ret)) (.skip))) (.seq (.seq (.reg [] [zf 29 12 1,zl 30 29,z 31 (.len false (.t 30)),z 32 (.mov (.c (.i .i64
 0)))]) (.block 0 (.loop p24_0))) (.seq (.seq (.dreg [([zf 39 12 1,zl 40 39,zf 41 0 1,zf 42 1 41,zl 43 42,zf 45 0 1,zf 46 2 45,zl 47 46,z 48 (.bin .sub (.t 47) (.c (.i .i64
 1)))],z 44 (.call 50 [.t 40,.t 43]),[zf 45 0 1,zf 46 2 45,zl 47 46])] [] [] [z 49 (.bin .neq (.t 44) (.t 48))]) (.ite (.t 49) (.seq (.reg [] [z 2 (.mov (.c (.i .i64 11)))])
 (.ret)) (.skip))) (.seq (.seq (.reg [54,55,56,57] [zf 50 3 1,zl 51 50,z 52 (.bin .eql (.t 51) (.c (.i .i64 2))),zm 53 52,⟨some 54,[(53,true)],.fld 4 (.t 1)⟩,⟨some 55,
 [(53,true)],.load (some 8) (.t 54)⟩,⟨some 56,[(53,true)],.call 51 [.t 55]⟩,⟨some 57,[(53,true)],.un .not (.t 56)⟩,z 58 (.pick (.t 53) (.t 57) (.c (.b false)))]) (.ite (.t
 58) (.seq (.reg [] [z 2 (.mov (.c (.i .i64 1)))]) (.ret)) (.skip))) (.seq (.reg [] [zL 59 13 1,z 60 (.call 52 [.t 59]),z 61 (.call 33 [.t 60]),zm 2 61]) (.ret)))))))⟩
theorem c24:cFun Tryz.prog Tryz.f24=some p24:=by kernel_rfl
def p139:PFun:=⟨9,[.t 2],.seq (.reg [] [z 1 (.box 35 (.t 0)),z 2 (.mov (.c (.s [])))]) (.seq (.seq (.reg [] [zL 3 13 1,z 4 (.call 24 [.t 3]),z 5 (.bin .neq (.t 4) (.c (.i .i64 0)))]) (.ite
 (.t 5) (.seq (.reg [] [z 2 (.mov (.c (.s [])))]) (.ret)) (.skip))) (.seq (.reg [] [zL 6 13 1,z 7 (.call 52 [.t 6]),z 8 (.call 166 [.t 7]),zm 2 8]) (.ret)))⟩
theorem c139:cFun Tryz.prog Tryz.f139=some p139:=by kernel_rfl
def p70_0:PCode:=.seq (.seq (.reg [] [zm 12 3,zm 13 0,z 14 (.len true (.t 13)),z 15 (.bin .lss (.t 12) (.t 14))]) (.ite (.t 15) (.skip) (.exit 0))) (.block 1 (.seq (.reg [] [zm 17 0,zm 18 3,z
 19 (.sslice (.t 17) (some (.t 18)) none),z 20 (.call 111 [.t 19]),zm 16 20,z 21 (.ext 0 (.t 16)),z 22 (.ext 1 (.t 16)),z 23 (.ext 2 (.t 16)),z 6 (.alloc 79 [.i .i64 0,.s [],
 .i .i64 0]),zs (.store 3 [none,none,none] (.t 6) (.t 21)),zm 7 22,zm 8 23]) (.seq (.seq (.reg [] [zm 24 8,z 25 (.un .not (.t 24))]) (.ite (.t 25) (.seq (.reg [] [zm 26 3,z 2
 (.mov (.c .nil)),zm 3 26,z 4 (.mov (.c (.i .i64 2)))]) (.ret)) (.skip))) (.seq (.seq (.reg [] [zL 27 3 6,z 28 (.call 112 [.t 5,.t 27]),zm 9 28]) (.seq (.reg [] [zm 29 9,z 30
 (.bin .neq (.t 29) (.c (.i .i64 0)))]) (.ite (.t 30) (.seq (.reg [] [zm 31 3,zm 32 9,z 2 (.mov (.c .nil)),zm 3 31,zm 4 32]) (.ret)) (.skip)))) (.reg [] [zm 33 3,zm 34 7,z 35
 (.bin .add (.t 33) (.t 34)),zm 3 35])))))
def p70:PFun:=⟨39,[.t 2,.t 3,.t 4],.seq (.reg [] [z 2 (.mov (.c .nil)),z 3 (.mov (.c (.i .i64 0))),z 4 (.mov (.c (.i .i64 0)))]) (.seq (.reg [] [z 10 (.mkmap 3 79),z 11 (.build [.nil,
 .nil,.i .i64 0,.nilmap] [(3,1,.t 10)]),z 5 (.alloc 151 [.nil,.nil,.i .i64 0,.nilmap]),zs (.store 4 [some 3,some 1,none,none] (.t 5) (.t 11))]) (.seq (.block 0 (.loop
 p70_0)) (.seq (.reg [] [z 36 (.call 113 [.t 5])]) (.seq (.reg [] [zf 37 0 5,zl 38 37,zm 2 38,z 3 (.mov (.c (.i .i64 0))),z 4 (.mov (.c (.i .i64 0)))]) (.ret)))))⟩
theorem c70:cFun Tryz.prog Tryz.f70=some p70:=by kernel_rfl
def p112:PFun:=⟨123,[.t 4],.seq (.reg [] [z 3 (.box 79 (.t 1)),z 4 (.mov (.c (.i .i64 0)))]) (.seq (.reg [13,14,15] [zf 9 0 3,zl 10 9,z 11 (.bin .neq (.t 10) (.c (.i .i64 1))),zm 12 11,
 ⟨some 13,[(12,true)],.fld 0 (.t 3)⟩,⟨some 14,[(12,true)],.load none (.t 13)⟩,⟨some 15,[(12,true)],.bin .neq (.t 14) (.c (.i .i64 5))⟩,z 16 (.pick (.t 12) (.t 15) (.c (.b
 false))),zm 5 16]) (.seq (.seq (.reg [] [zm 17 5]) (.ite (.t 17) (.seq (.dreg [([zm 19 0,z 20 (.nilck (.t 19)),zf 21 3 20,zl 22 21,zf 23 2 3,zl 24 23,z 25 (.look 0 (.agg [.i
 .i64 0,.s [],.i .i64 0]) true (.t 22) (.t 24)),zm 18 25,z 26 (.ext 0 (.t 18)),z 27 (.ext 1 (.t 18))],z 6 (.alloc 79 [.i .i64 0,.s [],.i .i64 0]),[z 20 (.nilck (.t 19)),zf
 21 3 20,zl 22 21,zf 23 2 3,zl 24 23,z 25 (.look 0 (.agg [.i .i64 0,.s [],.i .i64 0]) true (.t 22) (.t 24))]),([],zs (.store 3 [none,none,none] (.t 6) (.t 26)),[])] [] []
 [zm 7 27]) (.seq (.dreg [([zm 28 7,zm 29 28,⟨some 30,[(29,true)],.fld 0 (.t 3)⟩,⟨some 31,[(29,true)],.load none (.t 30)⟩,⟨some 32,[(29,true)],.bin .neq (.t 31) (.c (.i
 .i64 3))⟩,⟨some 33,[(29,true)],.mov (.t 32)⟩,⟨some 34,[(29,true),(33,false)],.fld 0 (.t 6)⟩,⟨some 35,[(29,true),(33,false)],.load none (.t 34)⟩,⟨some 36,[(29,
 true),(33,false)],.bin .neq (.t 35) (.c (.i .i64 2))⟩,⟨some 37,[(29,true)],.pick (.t 33) (.c (.b true)) (.t 36)⟩,⟨some 38,[(29,true)],.mov (.t 37)⟩,⟨some 39,[(29,
 true),(38,false)],.fld 1 (.t 6)⟩,⟨some 40,[(29,true),(38,false)],.load none (.t 39)⟩,⟨some 42,[(29,true),(38,false)],.fld 1 (.t 3)⟩,⟨some 43,[(29,true),(38,
 false)],.load none (.t 42)⟩],⟨some 41,[(29,true),(38,false)],.call 153 [.t 40]⟩,[⟨some 42,[(29,true),(38,false)],.fld 1 (.t 3)⟩,⟨some 43,[(29,true),(38,false)],
 .load none (.t 42)⟩])] [] [30,31,32,33,34,35,36,37,38,39,40,41,42,43,44,45] [⟨some 44,[(29,true),(38,false)],.bin .neq (.t 41) (.t 43)⟩,⟨some 45,[(29,true)],
 .pick (.t 38) (.c (.b true)) (.t 44)⟩,z 46 (.pick (.t 29) (.t 45) (.c (.b false)))]) (.ite (.t 46) (.seq (.reg [] [z 4 (.mov (.c (.i .i64 7)))]) (.ret)) (.skip)))) (.skip))) (.seq
 (.reg [] [zm 47 0,z 48 (.nilck (.t 47)),zf 49 0 48,zl 50 49,z 51 (.len false (.t 50)),zm 8 51]) (.seq (.seq (.reg [] [zm 52 0,z 53 (.nilck (.t 52)),zf 54 1 53,zl 55 54,z 56
 (.len false (.t 55)),z 57 (.bin .gtr (.t 56) (.c (.i .i64 0)))]) (.ite (.t 57) (.reg [] [zm 58 8,z 59 (.bin .add (.t 58) (.c (.i .i64 1))),zm 8 59]) (.skip))) (.seq (.seq (.reg
 [64,65,66,67,68,69] [zf 60 0 3,zl 61 60,z 62 (.bin .neq (.t 61) (.c (.i .i64 1))),zm 63 62,⟨some 64,[(63,false)],.mov (.t 0)⟩,⟨some 65,[(63,false)],.nilck (.t 64)⟩,
 ⟨some 66,[(63,false)],.fld 1 (.t 65)⟩,⟨some 67,[(63,false)],.load none (.t 66)⟩,⟨some 68,[(63,false)],.len false (.t 67)⟩,⟨some 69,[(63,false)],.bin .eql (.t 68) (.c
 (.i .i64 0))⟩,z 70 (.pick (.t 63) (.c (.b true)) (.t 69))]) (.ite (.t 70) (.reg [] [zm 71 8,z 72 (.bin .add (.t 71) (.c (.i .i64 1))),zm 8 72]) (.skip))) (.seq (.seq (.reg [76,
 77,78,79,80,81] [zm 73 8,z 74 (.bin .gtr (.t 73) (.c (.i .i64 512))),zm 75 74,⟨some 76,[(75,false)],.mov (.t 0)⟩,⟨some 77,[(75,false)],.nilck (.t 76)⟩,⟨some 78,[(75,
 false)],.fld 2 (.t 77)⟩,⟨some 79,[(75,false)],.load none (.t 78)⟩,⟨some 80,[(75,false)],.bin .add (.t 79) (.c (.i .i64 1))⟩,⟨some 81,[(75,false)],.bin .gtr (.t 80) (.c
 (.i .i64 1024))⟩,z 82 (.pick (.t 75) (.c (.b true)) (.t 81))]) (.ite (.t 82) (.seq (.reg [] [z 4 (.mov (.c (.i .i64 3)))]) (.ret)) (.skip))) (.seq (.reg [] [zm 83 0,z 84 (.nilck
 (.t 83)),zf 85 2 84,zl 86 85,z 87 (.bin .add (.t 86) (.c (.i .i64 1))),z 88 (.nilck (.t 83)),zf 89 2 88,zs (.store 1 [none] (.t 89) (.t 87))]) (.seq (.seq (.reg [] [zf 90 0 3,
 zl 91 90,z 92 (.bin .eql (.t 91) (.c (.i .i64 1)))]) (.ite (.t 92) (.seq (.dreg [([zm 93 0,zm 94 0,z 95 (.nilck (.t 94)),zf 96 1 95,zl 97 96,zf 98 1 3,zl 99 98],z 100 (.apps
 5 (.t 97) (.t 99)),[])] [] [] [z 101 (.nilck (.t 93)),zf 102 1 101,zs (.store 1 [some 1] (.t 102) (.t 100))]) (.seq (.reg [] [z 4 (.mov (.c (.i .i64 0)))]) (.ret))) (.skip)))
 (.seq (.seq (.reg [] [zm 103 5]) (.ite (.t 103) (.dreg [] [zm 104 0,z 105 (.nilck (.t 104)),zf 106 3 105,zl 107 106,zf 108 2 3,zl 109 108,zL 110 3 3] [] [zs (.mupd 0 [none,
 none,none] (.t 107) (.t 109) (.t 110))]) (.skip))) (.seq (.reg [] [zm 111 0,z 112 (.call 113 [.t 111])]) (.seq (.dreg [([zm 113 0,zm 114 0,z 115 (.nilck (.t 114)),zf 116 0 115,
 zl 117 116,zL 118 3 3,z 119 (.bslice 3 [none,none,none] [.t 118])],z 120 (.app 79 3 32 (.t 117) (.t 119)),[])] [] [] [z 121 (.nilck (.t 113)),zf 122 0 121,zs (.store 1 [some
 3] (.t 122) (.t 120))]) (.seq (.reg [] [z 4 (.mov (.c (.i .i64 0)))]) (.ret)))))))))))))⟩
theorem c112:cFun Tryz.prog Tryz.f112=some p112:=by kernel_rfl
def p113:PFun:=⟨26,[],.seq (.reg [] [zm 2 0,z 3 (.nilck (.t 2)),zf 4 1 3,zl 5 4,z 6 (.len false (.t 5)),z 7 (.bin .gtr (.t 6) (.c (.i .i64 0)))]) (.ite (.t 7) (.seq (.dreg [([zm 8 0,zm 9
 0,z 10 (.nilck (.t 9)),zf 11 0 10,zl 12 11,zm 13 0,z 14 (.nilck (.t 13)),zf 15 1 14,zl 16 15,z 17 (.b2s (.t 16)),z 18 (.build [.i .i64 0,.s [],.i .i64 0] [(0,1,.c (.i
 .i64 1)),(1,1,.t 17)]),z 19 (.bslice 3 [none,none,none] [.t 18])],z 20 (.app 79 3 32 (.t 12) (.t 19)),[])] [] [] [z 21 (.nilck (.t 8)),zf 22 0 21,zs (.store 1 [some 3] (.t
 22) (.t 20))]) (.reg [] [zm 23 0,z 24 (.nilck (.t 23)),zf 25 1 24,zs (.store 1 [some 1] (.t 25) (.c .nil))])) (.skip))⟩
theorem c113:cFun Tryz.prog Tryz.f113=some p113:=by kernel_rfl
def p89_0:PCode:=.seq (.reg [] [z 17 (.bin .lss (.t 16) (.t 15))]) (.seq (.ite (.t 17) (.skip) (.exit 0)) (.seq (.block 1 (.seq (.reg [] [z 18 (.idx 3 (.t 14) (.t 16)),zL 19 3 18,z 7 (.alloc 79
 [.i .i64 0,.s [],.i .i64 0]),zs (.store 3 [none,none,none] (.t 7) (.t 19))]) (.seq (.reg [] [zf 20 2 7,zl 21 20,z 22 (.call 134 [.t 21]),zm 8 22]) (.seq (.reg [] [zf 23 0 7,
 zl 24 23]) (.block 2 (.seq (.reg [] [z 26 (.bin .eql (.t 24) (.c (.i .i64 1))),zm 25 26]) (.ite (.t 25) (.reg [] [zm 27 5,zf 28 1 7,zl 29 28,z 30 (.call 135 [.t 27,.t 29]),zm
 5 30]) (.seq (.reg [] [z 32 (.bin .eql (.t 24) (.c (.i .i64 2))),zm 31 32]) (.ite (.t 31) (.reg [] [zm 33 5,zm 34 8,z 35 (.bin .add (.c (.s [60])) (.t 34)),z 36 (.bin .add (.t
 35) (.c (.s [58]))),zf 37 1 7,zl 38 37,z 39 (.bin .add (.t 36) (.t 38)),z 40 (.bin .add (.t 39) (.c (.s [62]))),z 41 (.apps 5 (.t 33) (.t 40)),zm 5 41]) (.seq (.reg [] [z 43
 (.bin .eql (.t 24) (.c (.i .i64 3))),zm 42 43]) (.ite (.t 42) (.reg [] [zm 44 5,zm 45 8,z 46 (.bin .add (.c (.s [60,47])) (.t 45)),z 47 (.bin .add (.t 46) (.c (.s [58]))),zf
 48 1 7,zl 49 48,z 50 (.bin .add (.t 47) (.t 49)),z 51 (.bin .add (.t 50) (.c (.s [62]))),z 52 (.apps 5 (.t 44) (.t 51)),zm 5 52]) (.seq (.reg [] [z 54 (.bin .eql (.t 24) (.c
 (.i .i64 4))),zm 53 54]) (.ite (.t 53) (.reg [] [zm 55 5,zm 56 8,z 57 (.bin .add (.c (.s [60])) (.t 56)),z 58 (.bin .add (.t 57) (.c (.s [58]))),zf 59 1 7,zl 60 59,z 61 (.bin
 .add (.t 58) (.t 60)),z 62 (.bin .add (.t 61) (.c (.s [47,62]))),z 63 (.apps 5 (.t 55) (.t 62)),zm 5 63]) (.seq (.reg [] [z 65 (.bin .eql (.t 24) (.c (.i .i64 5))),zm 64 65])
 (.ite (.t 64) (.reg [] [zm 66 5,zf 67 1 7,zl 68 67,z 69 (.bin .add (.c (.s [123])) (.t 68)),z 70 (.bin .add (.t 69) (.c (.s [125]))),z 71 (.apps 5 (.t 66) (.t 70)),zm 5 71])
 (.skip)))))))))))))))) (.reg [] [z 72 (.bin .add (.t 16) (.c (.i .i64 1))),zm 16 72])))
def p89:PFun:=⟨75,[.t 2,.t 3],.seq (.reg [] [z 2 (.mov (.c (.s []))),z 3 (.mov (.c (.i .i64 0)))]) (.seq (.seq (.reg [] [zm 9 0,z 10 (.call 67 [.t 9]),zm 4 10]) (.seq (.reg [] [zm 11 4,z
 12 (.bin .neq (.t 11) (.c (.i .i64 0)))]) (.ite (.t 12) (.seq (.reg [] [zm 13 4,z 2 (.mov (.c (.s []))),zm 3 13]) (.ret)) (.skip)))) (.seq (.reg [] [z 5 (.mov (.c .nil))]) (.seq
 (.seq (.reg [] [zm 14 0,z 15 (.len false (.t 14)),z 16 (.mov (.c (.i .i64 0)))]) (.block 0 (.loop p89_0))) (.seq (.reg [] [zm 73 5,z 74 (.b2s (.t 73)),zm 2 74,z 3 (.mov (.c (.i
 .i64 0)))]) (.ret)))))⟩
theorem c89:cFun Tryz.prog Tryz.f89=some p89:=by kernel_rfl
def p8:PFun:=⟨13,[.c 2 (some 6),.t 3],.seq (.reg [] [z 2 (.alloc 38 [.i .i64 0,.i .i64 0,.nil,.nil,.i .i64 0,.b false]),z 3 (.mov (.c (.i .i64 0)))]) (.seq (.seq (.reg [7,8] [zm 4 0,z
 5 (.bin .lss (.t 4) (.c (.i .i64 0))),zm 6 5,⟨some 7,[(6,false)],.mov (.t 0)⟩,⟨some 8,[(6,false)],.bin .geq (.t 7) (.c (.i .i64 8))⟩,z 9 (.pick (.t 6) (.c (.b true)) (.t
 8))]) (.ite (.t 9) (.seq (.reg [] [z 10 (.build [.i .i64 0,.i .i64 0,.nil,.nil,.i .i64 0,.b false] []),zs (.store 6 [none,none,some 13,some 1,none,none] (.t 2) (.t 10)),
 z 3 (.mov (.c (.i .i64 1)))]) (.ret)) (.skip))) (.seq (.reg [] [zm 11 0,z 12 (.build [.i .i64 0,.i .i64 0,.nil,.nil,.i .i64 0,.b false] [(0,1,.t 11)]),zs (.store 6 [none,
 none,some 13,some 1,none,none] (.t 2) (.t 12)),z 3 (.mov (.c (.i .i64 0)))]) (.ret)))⟩
theorem c8:cFun Tryz.prog Tryz.f8=some p8:=by kernel_rfl
def p39:PFun:=⟨21,[.t 4],.seq (.reg [] [z 2 (.box 35 (.t 0)),z 3 (.box 35 (.t 1)),z 4 (.mov (.c (.i .i64 0)))]) (.seq (.dreg [([zf 5 0 2,zf 6 1 5,zl 7 6,zf 8 0 3,zf 9 1 8,zl 10 9,zf 12
 0 2,zf 13 2 12,zl 14 13,zf 15 0 3,zf 16 2 15,zl 17 16],z 11 (.call 56 [.t 7,.t 10]),[zf 12 0 2,zf 13 2 12,zl 14 13,zf 15 0 3,zf 16 2 15,zl 17 16])] [] [] [z 18 (.call
 56 [.t 14,.t 17]),z 19 (.bslice 1 [none] [.t 11,.t 18]),z 20 (.call 55 [.t 19]),zm 4 20]) (.ret))⟩
theorem c39:cFun Tryz.prog Tryz.f39=some p39:=by kernel_rfl
def p25:PFun:=⟨25,[.t 4,.t 5],.seq (.reg [] [z 2 (.box 25 (.t 0)),z 3 (.box 35 (.t 1)),z 4 (.mov (.c (.i .i64 0))),z 5 (.mov (.c (.b false)))]) (.seq (.reg [] [zl 7 2,z 8 (.len false (.t
 7)),z 9 (.clo 54 [.t 2,.t 3]),z 10 (.call 53 [.t 8,.t 9]),zm 6 10]) (.seq (.dreg [([zm 11 6,zm 12 6,zl 13 2,z 14 (.len false (.t 13)),z 15 (.bin .lss (.t 12) (.t 14)),zm
 16 15,⟨some 17,[(16,true)],.load none (.t 2)⟩,⟨some 18,[(16,true)],.mov (.t 6)⟩,⟨some 19,[(16,true)],.idx 13 (.t 17) (.t 18)⟩,⟨some 20,[(16,true)],.load (some 13)
 (.t 19)⟩,⟨some 21,[(16,true)],.load (some 13) (.t 3)⟩],⟨some 22,[(16,true)],.call 39 [.t 20,.t 21]⟩,[])] [⟨some 23,[(16,true)],.bin .eql (.t 22) (.c (.i .i64 0))⟩,z 24
 (.pick (.t 16) (.t 23) (.c (.b false))),zm 4 11] [17,18,19,20,21,22,23] [zm 5 24]) (.ret)))⟩
theorem c25:cFun Tryz.prog Tryz.f25=some p25:=by kernel_rfl
def p54:PFun:=⟨12,[.t 4],.seq (.reg [] [z 4 (.mov (.c (.b false)))]) (.seq (.dreg [] [zl 5 1,zm 6 0,z 7 (.idx 13 (.t 5) (.t 6)),zL 8 13 7,zL 9 13 2] [] [z 10 (.call 39 [.t 8,.t 9]),z 11
 (.bin .geq (.t 10) (.c (.i .i64 0))),zm 4 11]) (.ret))⟩
theorem c54:cFun Tryz.prog Tryz.f54=some p54:=by kernel_rfl
def p28:PFun:=⟨59,[.c 4 (some 6),.t 5],.seq (.reg [] [z 2 (.box 38 (.t 0)),z 3 (.box 35 (.t 1)),z 4 (.alloc 38 [.i .i64 0,.i .i64 0,.nil,.nil,.i .i64 0,.b false]),z 5 (.mov (.c (.i
 .i64 0)))]) (.seq (.reg [] [zL 13 13 3,z 14 (.call 57 [.t 13]),zm 12 14,z 15 (.ext 0 (.t 12)),z 16 (.ext 1 (.t 12)),zm 6 15,zm 7 16]) (.seq (.seq (.reg [] [zm 17 7,z 18 (.bin
 .neq (.t 17) (.c (.i .i64 0)))]) (.ite (.t 18) (.seq (.reg [] [z 19 (.build [.i .i64 0,.i .i64 0,.nil,.nil,.i .i64 0,.b false] []),zm 20 7,zs (.store 6 [none,none,some 13,
 some 1,none,none] (.t 4) (.t 19)),zm 5 20]) (.ret)) (.skip))) (.seq (.reg [] [zf 22 3 2,zl 23 22,zm 24 6,z 25 (.call 61 [.t 23,.t 24]),zm 21 25,z 26 (.ext 0 (.t 21)),z 27
 (.ext 1 (.t 21)),zm 8 26,zm 7 27]) (.seq (.seq (.reg [] [zm 28 7,z 29 (.bin .neq (.t 28) (.c (.i .i64 0)))]) (.ite (.t 29) (.seq (.reg [] [z 30 (.build [.i .i64 0,.i .i64 0,
 .nil,.nil,.i .i64 0,.b false] []),zm 31 7,zs (.store 6 [none,none,some 13,some 1,none,none] (.t 4) (.t 30)),zm 5 31]) (.ret)) (.skip))) (.seq (.reg [] [zL 32 6 2,z 33
 (.call 27 [.t 32]),z 9 (.alloc 38 [.i .i64 0,.i .i64 0,.nil,.nil,.i .i64 0,.b false]),zs (.store 6 [none,none,some 13,some 1,none,none] (.t 9) (.t 33))]) (.seq (.reg []
 [zf 35 2 9,zl 36 35,zL 37 13 3,z 38 (.call 25 [.t 36,.t 37]),zm 34 38,z 39 (.ext 0 (.t 34)),z 40 (.ext 1 (.t 34)),zm 10 39,zm 11 40]) (.seq (.dreg [([zf 41 2 9,zl 42 41,
 zm 43 10,zL 44 13 3],z 45 (.call 63 [.t 44]),[zf 41 2 9,zl 42 41]),([],z 46 (.bown 35 13 184 [none,none,none,none,some 3,some 3,none,none,none,none,none,none,some
 1] [.t 45]),[zf 41 2 9,zl 42 41])] [] [] [z 47 (.call 62 [.t 42,.t 43,.t 46]),zf 48 2 9,zs (.store 1 [some 13] (.t 48) (.t 47))]) (.seq (.reg [] [zm 49 8,zf 50 3 9,zs
 (.store 1 [some 1] (.t 50) (.t 49))]) (.seq (.reg [] [zf 51 1 9,zl 52 51,zf 53 0 3,zf 54 0 53,zl 55 54,z 56 (.max2 (.t 52) (.t 55)),zf 57 1 9,zs (.store 1 [none] (.t 57) (.t
 56))]) (.seq (.reg [] [zL 58 6 9,zs (.store 6 [none,none,some 13,some 1,none,none] (.t 4) (.t 58)),z 5 (.mov (.c (.i .i64 0)))]) (.ret)))))))))))⟩
theorem c28:cFun Tryz.prog Tryz.f28=some p28:=by kernel_rfl
def p34:PFun:=⟨59,[.c 6 (some 6),.c 7 (some 13),.t 8],.seq (.reg [] [z 3 (.box 38 (.t 0)),z 5 (.box 33 (.t 2)),z 6 (.alloc 38 [.i .i64 0,.i .i64 0,.nil,.nil,.i .i64 0,.b false]),z 7
 (.alloc 35 [.i .i64 0,.i .i64 0,.i .i64 0,.i .i64 0,.nil,.nil,.s [],.s [],.s [],.s [],.i .i64 0,.i .i64 0,.nil]),z 8 (.mov (.c (.i .i64 0)))]) (.seq (.reg [] [zL 14 6
 3,z 15 (.call 15 [.t 14]),zm 9 15]) (.seq (.reg [] [zm 16 9,zf 17 0 3,zl 18 17,z 19 (.call 50 [.t 16,.t 18]),zm 10 19]) (.seq (.seq (.reg [23,24,25] [zm 20 10,z 21 (.bin
 .geq (.t 20) (.c (.i .i64 128))),zm 22 21,⟨some 23,[(22,false)],.fld 1 (.t 3)⟩,⟨some 24,[(22,false)],.load none (.t 23)⟩,⟨some 25,[(22,false)],.bin .geq (.t 24) (.c (.i
 .i64 1073741824))⟩,z 26 (.pick (.t 22) (.c (.b true)) (.t 25))]) (.ite (.t 26) (.seq (.reg [] [z 27 (.build [.i .i64 0,.i .i64 0,.nil,.nil,.i .i64 0,.b false] []),z 28
 (.build [.i .i64 0,.i .i64 0,.i .i64 0,.i .i64 0,.nil,.nil,.s [],.s [],.s [],.s [],.i .i64 0,.i .i64 0,.nil] []),zs (.store 6 [none,none,some 13,some 1,none,none]
 (.t 6) (.t 27)),zs (.store 13 [none,none,none,none,some 3,some 3,none,none,none,none,none,none,some 1] (.t 7) (.t 28)),z 8 (.mov (.c (.i .i64 3)))]) (.ret)) (.skip)))
 (.seq (.reg [] [zf 29 1 3,zl 30 29,z 31 (.bin .add (.t 30) (.c (.i .i64 1))),zf 32 0 3,zl 33 32,zm 34 10,z 35 (.bin .add (.t 34) (.c (.i .i64 1))),z 36 (.build [.i .i64 0,.i
 .i64 0,.i .i64 0] [(0,1,.t 31),(1,1,.t 33),(2,1,.t 35)]),zm 37 1,zL 38 8 5,zm 39 9,z 40 (.build [.i .i64 0,.i .i64 0,.i .i64 0,.i .i64 0,.nil,.nil,.s [],.s [],
 .s [],.s [],.i .i64 0,.i .i64 0,.nil] [(0,3,.t 36),(3,1,.t 37),(4,8,.t 38),(12,1,.t 39)]),z 11 (.alloc 35 [.i .i64 0,.i .i64 0,.i .i64 0,.i .i64 0,.nil,.nil,.s
 [],.s [],.s [],.s [],.i .i64 0,.i .i64 0,.nil]),zs (.store 13 [none,none,none,none,some 3,some 3,none,none,none,none,none,none,some 1] (.t 11) (.t 40))]) (.seq
 (.reg [] [zL 42 6 3,zL 43 13 11,z 44 (.call 28 [.t 42,.t 43]),zm 41 44,z 45 (.ext 0 (.t 41)),z 46 (.ext 1 (.t 41)),z 12 (.alloc 38 [.i .i64 0,.i .i64 0,.nil,.nil,.i .i64
 0,.b false]),zs (.store 6 [none,none,some 13,some 1,none,none] (.t 12) (.t 45)),zm 13 46]) (.seq (.seq (.reg [] [zm 47 13,z 48 (.bin .neq (.t 47) (.c (.i .i64 0)))]) (.ite
 (.t 48) (.seq (.reg [] [z 49 (.build [.i .i64 0,.i .i64 0,.nil,.nil,.i .i64 0,.b false] []),z 50 (.build [.i .i64 0,.i .i64 0,.i .i64 0,.i .i64 0,.nil,.nil,.s [],.s [],
 .s [],.s [],.i .i64 0,.i .i64 0,.nil] []),zm 51 13,zs (.store 6 [none,none,some 13,some 1,none,none] (.t 6) (.t 49)),zs (.store 13 [none,none,none,none,some 3,some
 3,none,none,none,none,none,none,some 1] (.t 7) (.t 50)),zm 8 51]) (.ret)) (.skip))) (.seq (.reg [] [zf 52 3 12,zl 53 52,z 54 (.len false (.t 53)),zf 55 4 12,zs (.store 1
 [none] (.t 55) (.t 54))]) (.seq (.dreg [([zL 56 6 12,zL 57 13 11],z 58 (.call 63 [.t 57]),[zL 56 6 12])] [] [] [zs (.store 6 [none,none,some 13,some 1,none,none] (.t 6) (.t
 56)),zs (.store 13 [none,none,none,none,some 3,some 3,none,none,none,none,none,none,some 1] (.t 7) (.t 58)),z 8 (.mov (.c (.i .i64 0)))]) (.ret)))))))))⟩
theorem c34:cFun Tryz.prog Tryz.f34=some p34:=by kernel_rfl
def p16:PFun:=⟨25,[.c 4 (some 6),.c 5 (some 13),.t 6],.seq (.reg [] [z 2 (.box 38 (.t 0)),z 3 (.box 33 (.t 1)),z 4 (.alloc 38 [.i .i64 0,.i .i64 0,.nil,.nil,.i .i64 0,.b false]),z 5
 (.alloc 35 [.i .i64 0,.i .i64 0,.i .i64 0,.i .i64 0,.nil,.nil,.s [],.s [],.s [],.s [],.i .i64 0,.i .i64 0,.nil]),z 6 (.mov (.c (.i .i64 0)))]) (.seq (.seq (.reg [] [zf
 8 5 2,zl 9 8]) (.ite (.t 9) (.seq (.reg [] [z 10 (.build [.i .i64 0,.i .i64 0,.nil,.nil,.i .i64 0,.b false] []),z 11 (.build [.i .i64 0,.i .i64 0,.i .i64 0,.i .i64 0,
 .nil,.nil,.s [],.s [],.s [],.s [],.i .i64 0,.i .i64 0,.nil] []),zs (.store 6 [none,none,some 13,some 1,none,none] (.t 4) (.t 10)),zs (.store 13 [none,none,none,
 none,some 3,some 3,none,none,none,none,none,none,some 1] (.t 5) (.t 11)),z 6 (.mov (.c (.i .i64 15)))]) (.ret)) (.skip))) (.seq (.seq (.reg [] [zL 12 8 3,z 13 (.call 33
 [.t 12]),zm 7 13]) (.seq (.reg [] [zm 14 7,z 15 (.bin .neq (.t 14) (.c (.i .i64 0)))]) (.ite (.t 15) (.seq (.reg [] [z 16 (.build [.i .i64 0,.i .i64 0,.nil,.nil,.i .i64 0,.b
 false] []),z 17 (.build [.i .i64 0,.i .i64 0,.i .i64 0,.i .i64 0,.nil,.nil,.s [],.s [],.s [],.s [],.i .i64 0,.i .i64 0,.nil] []),zm 18 7,zs (.store 6 [none,none,
 some 13,some 1,none,none] (.t 4) (.t 16)),zs (.store 13 [none,none,none,none,some 3,some 3,none,none,none,none,none,none,some 1] (.t 5) (.t 17)),zm 6 18]) (.ret))
 (.skip)))) (.seq (.reg [] [zL 19 6 2,zL 20 8 3,z 21 (.call 34 [.t 19,.c (.i .i64 1),.t 20]),z 22 (.ext 0 (.t 21)),z 23 (.ext 1 (.t 21)),z 24 (.ext 2 (.t 21)),zs (.store 6
 [none,none,some 13,some 1,none,none] (.t 4) (.t 22)),zs (.store 13 [none,none,none,none,some 3,some 3,none,none,none,none,none,none,some 1] (.t 5) (.t 23)),zm 6
 24]) (.ret))))⟩
theorem c16:cFun Tryz.prog Tryz.f16=some p16:=by kernel_rfl
def p9:PFun:=⟨55,[.c 4 (some 6),.t 5],.seq (.reg [] [z 2 (.box 38 (.t 0)),z 3 (.box 35 (.t 1)),z 4 (.alloc 38 [.i .i64 0,.i .i64 0,.nil,.nil,.i .i64 0,.b false]),z 5 (.mov (.c (.i
 .i64 0)))]) (.seq (.seq (.reg [] [zf 9 5 2,zl 10 9]) (.ite (.t 10) (.seq (.reg [] [z 11 (.build [.i .i64 0,.i .i64 0,.nil,.nil,.i .i64 0,.b false] []),zs (.store 6 [none,
 none,some 13,some 1,none,none] (.t 4) (.t 11)),z 5 (.mov (.c (.i .i64 15)))]) (.ret)) (.skip))) (.seq (.seq (.reg [] [zL 12 13 3,z 13 (.call 24 [.t 12]),zm 6 13]) (.seq (.reg
 [] [zm 14 6,z 15 (.bin .neq (.t 14) (.c (.i .i64 0)))]) (.ite (.t 15) (.seq (.reg [] [z 16 (.build [.i .i64 0,.i .i64 0,.nil,.nil,.i .i64 0,.b false] []),zm 17 6,zs (.store
 6 [none,none,some 13,some 1,none,none] (.t 4) (.t 16)),zm 5 17]) (.ret)) (.skip)))) (.seq (.reg [] [zf 19 2 2,zl 20 19,zL 21 13 3,z 22 (.call 25 [.t 20,.t 21]),zm 18 22,
 z 23 (.ext 0 (.t 18)),z 24 (.ext 1 (.t 18)),zm 7 23,zm 8 24]) (.seq (.block 0 (.seq (.dreg [] [zm 26 8,zm 27 26,⟨some 28,[(27,true)],.fld 2 (.t 2)⟩,⟨some 29,[(27,true)],
 .load none (.t 28)⟩,⟨some 30,[(27,true)],.mov (.t 7)⟩,⟨some 31,[(27,true)],.idx 13 (.t 29) (.t 30)⟩,⟨some 32,[(27,true)],.load (some 13) (.t 31)⟩,⟨some 33,[(27,
 true)],.load (some 13) (.t 3)⟩] [28,29,30,31,32,33,34,35] [⟨some 34,[(27,true)],.call 26 [.t 32,.t 33]⟩,⟨some 35,[(27,true)],.bin .eql (.t 34) (.c (.i .i64 0))⟩,z
 36 (.pick (.t 27) (.t 35) (.c (.b false))),zm 25 36]) (.ite (.t 25) (.seq (.reg [] [zL 37 6 2,z 38 (.call 27 [.t 37]),zs (.store 6 [none,none,some 13,some 1,none,none] (.t
 4) (.t 38)),z 5 (.mov (.c (.i .i64 0)))]) (.ret)) (.seq (.reg [42,43,44,45,46,47] [zm 40 8,zm 41 40,⟨some 42,[(41,false)],.fld 0 (.t 3)⟩,⟨some 43,[(41,false)],.fld 1
 (.t 42)⟩,⟨some 44,[(41,false)],.load none (.t 43)⟩,⟨some 45,[(41,false)],.fld 0 (.t 2)⟩,⟨some 46,[(41,false)],.load none (.t 45)⟩,⟨some 47,[(41,false)],.bin .eql (.t
 44) (.t 46)⟩,z 48 (.pick (.t 41) (.c (.b true)) (.t 47)),zm 39 48]) (.ite (.t 39) (.seq (.reg [] [z 49 (.build [.i .i64 0,.i .i64 0,.nil,.nil,.i .i64 0,.b false] []),zs
 (.store 6 [none,none,some 13,some 1,none,none] (.t 4) (.t 49)),z 5 (.mov (.c (.i .i64 11)))]) (.ret)) (.skip)))))) (.seq (.reg [] [zL 50 6 2,zL 51 13 3,z 52 (.call 28 [.t
 50,.t 51]),z 53 (.ext 0 (.t 52)),z 54 (.ext 1 (.t 52)),zs (.store 6 [none,none,some 13,some 1,none,none] (.t 4) (.t 53)),zm 5 54]) (.ret))))))⟩
theorem c9:cFun Tryz.prog Tryz.f9=some p9:=by kernel_rfl
def p18:PFun:=⟨42,[.c 4 (some 6)],.seq (.reg [] [z 2 (.box 38 (.t 0)),z 4 (.alloc 38 [.i .i64 0,.i .i64 0,.nil,.nil,.i .i64 0,.b false])]) (.seq (.reg [] [zL 7 6 2,z 8 (.call 27 [.t 7]),
 z 5 (.alloc 38 [.i .i64 0,.i .i64 0,.nil,.nil,.i .i64 0,.b false]),zs (.store 6 [none,none,some 13,some 1,none,none] (.t 5) (.t 8))]) (.seq (.seq (.reg [] [zf 9 5 2,zl
 10 9]) (.ite (.t 10) (.seq (.reg [] [zL 11 6 5,zs (.store 6 [none,none,some 13,some 1,none,none] (.t 4) (.t 11))]) (.ret)) (.skip))) (.seq (.reg [] [zf 12 3 5,zl 13 12,z 14
 (.len false (.t 13)),zf 15 4 5,zl 16 15,z 17 (.max2 (.t 16) (.c (.i .i64 0))),z 18 (.bin .sub (.t 14) (.t 17)),z 19 (.max2 (.t 18) (.c (.i .i64 0))),zm 6 19]) (.seq (.reg []
 [zf 20 3 5,zl 21 20,zf 22 3 5,zl 23 22,z 24 (.len false (.t 23)),zm 25 6,z 26 (.bin .sub (.t 24) (.t 25)),zm 27 1,z 28 (.max2 (.t 27) (.c (.i .i64 0))),zm 29 6,z 30 (.min2
 (.t 28) (.t 29)),z 31 (.bin .add (.t 26) (.t 30)),z 32 (.slice 1 (.t 21) none (some (.t 31))),zf 33 3 5,zs (.store 1 [some 1] (.t 33) (.t 32))]) (.seq (.reg [] [zf 34 0 2,zl 35
 34,zf 36 3 5,zl 37 36,zf 38 3 5,zl 39 38,z 40 (.len false (.t 39)),z 41 (.build [.i .i64 0,.i .i64 0,.nil,.nil,.i .i64 0,.b false] [(0,1,.t 35),(3,1,.t 37),(4,1,
 .t 40),(5,1,.c (.b true))]),zs (.store 6 [none,none,some 13,some 1,none,none] (.t 4) (.t 41))]) (.ret))))))⟩
theorem c18:cFun Tryz.prog Tryz.f18=some p18:=by kernel_rfl
def p19_0:PCode:=.seq (.reg [] [z 34 (.bin .lss (.t 33) (.t 32))]) (.seq (.ite (.t 34) (.skip) (.exit 0)) (.seq (.block 1 (.seq (.reg [] [z 35 (.idx 1 (.t 31) (.t 33)),zl 36 35,zm 8 36]) (.seq
 (.reg [] [zm 38 8,z 39 (.call 37 [.t 38]),zm 37 39,z 40 (.ext 0 (.t 37)),z 41 (.ext 1 (.t 37)),z 9 (.alloc 35 [.i .i64 0,.i .i64 0,.i .i64 0,.i .i64 0,.nil,.nil,.s [],.s
 [],.s [],.s [],.i .i64 0,.i .i64 0,.nil]),zs (.store 13 [none,none,none,none,some 3,some 3,none,none,none,none,none,none,some 1] (.t 9) (.t 40)),zm 10 41]) (.seq
 (.seq (.reg [] [zm 42 10,z 43 (.bin .neq (.t 42) (.c (.i .i64 0)))]) (.ite (.t 43) (.seq (.reg [] [z 44 (.build [.i .i64 0,.i .i64 0,.nil,.nil,.i .i64 0,.b false] []),zm 45
 10,zs (.store 6 [none,none,some 13,some 1,none,none] (.t 2) (.t 44)),zm 3 45]) (.ret)) (.skip))) (.seq (.reg [] [zf 46 2 4,zl 47 46,zL 48 13 9,z 49 (.bslice 13 [none,
 none,none,none,some 3,some 3,none,none,none,none,none,none,some 1] [.t 48]),z 50 (.app 35 13 184 (.t 47) (.t 49)),zf 51 2 4,zs (.store 1 [some 13] (.t 51) (.t 50))])
 (.reg [] [zf 52 1 4,zl 53 52,zf 54 0 9,zf 55 0 54,zl 56 55,z 57 (.max2 (.t 53) (.t 56)),zf 58 1 4,zs (.store 1 [none] (.t 58) (.t 57))])))))) (.reg [] [z 59 (.bin .add (.t
 33) (.c (.i .i64 1))),zm 33 59])))
def p19:PFun:=⟨64,[.c 2 (some 6),.t 3],.seq (.reg [] [z 1 (.box 38 (.t 0)),z 2 (.alloc 38 [.i .i64 0,.i .i64 0,.nil,.nil,.i .i64 0,.b false]),z 3 (.mov (.c (.i .i64 0)))]) (.seq (.seq
 (.reg [] [zf 11 5 1,zl 12 11,z 13 (.un .not (.t 12))]) (.ite (.t 13) (.seq (.reg [] [z 14 (.build [.i .i64 0,.i .i64 0,.nil,.nil,.i .i64 0,.b false] []),zs (.store 6 [none,
 none,some 13,some 1,none,none] (.t 2) (.t 14)),z 3 (.mov (.c (.i .i64 8)))]) (.ret)) (.skip))) (.seq (.dfl [(4,38,[.i .i64 0,.i .i64 0,.nil,.nil,.i .i64 0,.b false])]
 [([zf 15 0 1,zl 16 15,zf 17 3 1,zl 18 17],z 19 (.call 35 [.t 18]),[zf 15 0 1,zl 16 15])] [] [z 20 (.build [.i .i64 0,.i .i64 0,.nil,.nil,.i .i64 0,.b false] [(0,1,.t
 16),(3,1,.t 19)])] [] [zs (.store 6 [none,none,some 13,some 1,none,none] (.t 4) (.t 20))]) (.seq (.reg [] [zf 21 3 4,zl 22 21,z 23 (.len false (.t 22)),zf 24 4 4,zs
 (.store 1 [none] (.t 24) (.t 23))]) (.seq (.reg [] [zf 26 3 4,zl 27 26,z 28 (.call 36 [.t 27]),zm 25 28,z 29 (.ext 0 (.t 25)),z 30 (.ext 1 (.t 25)),zm 5 29,zm 6 30]) (.seq
 (.seq (.reg [] [zm 31 5,z 32 (.len false (.t 31)),z 33 (.mov (.c (.i .i64 0)))]) (.block 0 (.loop p19_0))) (.seq (.reg [] [zf 60 2 4,zl 61 60,z 62 (.call 38 [.t 61,.c (.fn 39
 [])])]) (.seq (.reg [] [zL 63 6 4,zs (.store 6 [none,none,some 13,some 1,none,none] (.t 2) (.t 63)),z 3 (.mov (.c (.i .i64 0)))]) (.ret))))))))⟩
theorem c19:cFun Tryz.prog Tryz.f19=some p19:=by kernel_rfl
def p15_0:PCode:=.seq (.reg [] [z 17 (.bin .lss (.t 16) (.t 15))]) (.seq (.ite (.t 17) (.skip) (.exit 0)) (.seq (.block 1 (.seq (.reg [] [z 18 (.idx 13 (.t 14) (.t 16)),zL 19 13 18,z 5 (.alloc 35
 [.i .i64 0,.i .i64 0,.i .i64 0,.i .i64 0,.nil,.nil,.s [],.s [],.s [],.s [],.i .i64 0,.i .i64 0,.nil]),zs (.store 13 [none,none,none,none,some 3,some 3,none,none,
 none,none,none,none,some 1] (.t 5) (.t 19))]) (.reg [] [zm 20 3,zf 21 0 5,zf 22 1 21,zl 23 22,zf 24 0 5,zf 25 2 24,zl 26 25,z 27 (.build [.i .i64 0,.i .i64 0] [(0,1,.t
 23),(1,1,.t 26)]),z 28 (.build [] []),zs (.mupd 3 [] (.t 20) (.t 27) (.t 28))]))) (.reg [] [z 29 (.bin .add (.t 16) (.c (.i .i64 1))),zm 16 29])))
def p15_1:PCode:=.block 5 (.seq (.seq (.reg [] [zm 34 3,zm 35 7,zm 36 7,z 37 (.aidx 8 1 (.t 6) (.t 36)),zl 38 37,z 39 (.bin .add (.t 38) (.c (.i .i64 1))),z 40 (.build [.i .i64 0,.i .i64 0]
 [(0,1,.t 35),(1,1,.t 39)]),z 41 (.look 3 (.agg []) true (.t 34) (.t 40)),zm 33 41,z 42 (.ext 0 (.t 33)),z 43 (.ext 1 (.t 33)),z 8 (.alloc 70 []),zs (.store 0 [] (.t 8)
 (.t 42)),zm 9 43]) (.seq (.reg [] [zm 44 9,z 45 (.un .not (.t 44))]) (.ite (.t 45) (.exit 4) (.skip)))) (.reg [] [zm 46 7,z 47 (.aidx 8 1 (.t 6) (.t 46)),zl 48 47,z 49 (.bin
 .add (.t 48) (.c (.i .i64 1))),z 50 (.aidx 8 1 (.t 6) (.t 46)),zs (.store 1 [none] (.t 50) (.t 49))]))
def p15_2:PCode:=.seq (.reg [] [z 31 (.bin .lss (.t 30) (.c (.i .i64 8)))]) (.seq (.ite (.t 31) (.skip) (.exit 2)) (.seq (.block 3 (.seq (.reg [] [zm 32 30,zm 7 32]) (.block 4 (.loop p15_1))))
 (.reg [] [z 51 (.bin .add (.t 30) (.c (.i .i64 1))),zm 30 51])))
def p15:PFun:=⟨54,[.t 2],.seq (.reg [] [z 1 (.box 38 (.t 0)),z 2 (.mov (.c .nil))]) (.seq (.seq (.reg [] [zf 10 5 1,zl 11 10]) (.ite (.t 11) (.seq (.reg [] [z 2 (.mov (.c .nil))]) (.ret))
 (.skip))) (.seq (.reg [] [z 12 (.mkmap 71 70),zm 3 12]) (.seq (.seq (.reg [] [zf 13 2 1,zl 14 13,z 15 (.len false (.t 14)),z 16 (.mov (.c (.i .i64 0)))]) (.block 0 (.loop
 p15_0))) (.seq (.reg [] [z 6 (.alloc 72 [.i .i64 0,.i .i64 0,.i .i64 0,.i .i64 0,.i .i64 0,.i .i64 0,.i .i64 0,.i .i64 0])]) (.seq (.seq (.reg [] [z 30 (.mov (.c (.i .i64
 0)))]) (.block 2 (.loop p15_2))) (.seq (.reg [] [z 52 (.asl 8 (.t 6)),z 53 (.call 32 [.t 52]),zm 2 53]) (.ret)))))))⟩
theorem c15:cFun Tryz.prog Tryz.f15=some p15:=by kernel_rfl
def p13:PFun:=⟨8,[.t 2],.seq (.reg [] [z 1 (.box 38 (.t 0)),z 2 (.mov (.c .nil))]) (.seq (.seq (.reg [] [zf 3 5 1,zl 4 3]) (.ite (.t 4) (.seq (.reg [] [z 2 (.mov (.c .nil))]) (.ret))
 (.skip))) (.seq (.reg [] [zf 5 2 1,zl 6 5,z 7 (.call 31 [.t 6]),zm 2 7]) (.ret)))⟩
theorem c13:cFun Tryz.prog Tryz.f13=some p13:=by kernel_rfl
def p53_0:PCode:=.seq (.seq (.reg [] [zm 9 5,zm 10 6,z 11 (.bin .lss (.t 9) (.t 10))]) (.ite (.t 11) (.skip) (.exit 0))) (.block 1 (.seq (.reg [] [zm 12 5,zm 13 6,z 14 (.bin .add (.t 12) (.t
 13)),z 15 (.cvi .u64 (.t 14)),z 16 (.bin .shr (.t 15) (.c (.i .u64 1))),z 17 (.cvi .i64 (.t 16)),zm 7 17]) (.seq (.reg [] [zm 18 1,zm 19 7,z 20 (.callv (.t 18) [.t 19]),z 21
 (.un .not (.t 20))]) (.ite (.t 21) (.reg [] [zm 22 7,z 23 (.bin .add (.t 22) (.c (.i .i64 1))),zm 5 23]) (.reg [] [zm 24 7,zm 6 24])))))
def p53:PFun:=⟨26,[.t 4],.seq (.reg [] [z 4 (.mov (.c (.i .i64 0)))]) (.seq (.reg [] [zm 8 0,z 5 (.mov (.c (.i .i64 0))),zm 6 8]) (.seq (.block 0 (.loop p53_0)) (.seq (.reg [] [zm 25 5,zm 4
 25]) (.ret))))⟩
theorem c53:cFun Tryz.prog Tryz.f53=some p53:=by kernel_rfl
def p27:PFun:=⟨12,[.c 2 (some 6)],.seq (.reg [] [z 1 (.box 38 (.t 0)),z 2 (.alloc 38 [.i .i64 0,.i .i64 0,.nil,.nil,.i .i64 0,.b false])]) (.seq (.dreg [([zf 3 2 1,zl 4 3,zf 6 3 1,zl 7
 6],z 5 (.call 59 [.t 4]),[zf 6 3 1,zl 7 6]),([zf 9 2 1],z 8 (.call 60 [.t 7]),[zf 9 2 1])] [] [] [zs (.store 1 [some 13] (.t 9) (.t 5)),zf 10 3 1,zs (.store 1 [some 1] (.t
 10) (.t 8))]) (.seq (.reg [] [zL 11 6 1,zs (.store 6 [none,none,some 13,some 1,none,none] (.t 2) (.t 11))]) (.ret)))⟩
theorem c27:cFun Tryz.prog Tryz.f27=some p27:=by kernel_rfl
def p59_0:PCode:=.seq (.reg [] [z 9 (.bin .lss (.t 8) (.t 7))]) (.seq (.ite (.t 9) (.skip) (.exit 0)) (.seq (.block 1 (.seq (.reg [] [z 10 (.idx 13 (.t 6) (.t 8)),zL 11 13 10,z 5 (.alloc 35 [.i
 .i64 0,.i .i64 0,.i .i64 0,.i .i64 0,.nil,.nil,.s [],.s [],.s [],.s [],.i .i64 0,.i .i64 0,.nil]),zs (.store 13 [none,none,none,none,some 3,some 3,none,none,
 none,none,none,none,some 1] (.t 5) (.t 11))]) (.reg [] [zm 12 3,zL 13 13 5,z 14 (.call 63 [.t 13]),z 15 (.bslice 13 [none,none,none,none,some 3,some 3,none,none,none,
 none,none,none,some 1] [.t 14]),z 16 (.app 35 13 184 (.t 12) (.t 15)),zm 3 16]))) (.reg [] [z 17 (.bin .add (.t 8) (.c (.i .i64 1))),zm 8 17])))
def p59:PFun:=⟨19,[.t 2],.seq (.reg [] [z 2 (.mov (.c .nil))]) (.seq (.reg [] [z 3 (.mov (.c .nil))]) (.seq (.seq (.reg [] [zm 6 0,z 7 (.len false (.t 6)),z 8 (.mov (.c (.i .i64 0)))])
 (.block 0 (.loop p59_0))) (.seq (.reg [] [zm 18 3,zm 2 18]) (.ret))))⟩
theorem c59:cFun Tryz.prog Tryz.f59=some p59:=by kernel_rfl
def p93_0:PCode:=.seq (.reg [] [z 10 (.bin .lss (.t 9) (.t 8))]) (.seq (.ite (.t 10) (.skip) (.exit 0)) (.seq (.block 1 (.seq (.reg [] [z 11 (.idx 1 (.t 7) (.t 9)),zl 12 11,zm 6 12]) (.reg [] [zm
 13 0,zm 14 6,z 15 (.cvi .u32 (.t 14)),z 16 (.bin .xor (.t 13) (.t 15)),z 17 (.bin .mul (.t 16) (.c (.i .u32 16777619))),zm 0 17]))) (.reg [] [z 18 (.bin .add (.t 9) (.c (.i
 .i64 1))),zm 9 18])))
def p93:PFun:=⟨20,[.t 4],.seq (.reg [] [z 4 (.mov (.c (.i .u32 0)))]) (.seq (.seq (.reg [] [zm 7 1,z 8 (.len false (.t 7)),z 9 (.mov (.c (.i .i64 0)))]) (.block 0 (.loop p93_0))) (.seq (.reg
 [] [zm 19 0,zm 4 19]) (.ret)))⟩
theorem c93:cFun Tryz.prog Tryz.f93=some p93:=by kernel_rfl
def p92:PFun:=⟨15,[.t 2],.seq (.reg [] [z 2 (.mov (.c .nil))]) (.seq (.reg [] [zm 3 0,z 4 (.bin .shr (.t 3) (.c (.i .u64 24))),z 5 (.cvi .u8 (.t 4)),zm 6 0,z 7 (.bin .shr (.t 6) (.c (.i
 .u64 16))),z 8 (.cvi .u8 (.t 7)),zm 9 0,z 10 (.bin .shr (.t 9) (.c (.i .u64 8))),z 11 (.cvi .u8 (.t 10)),zm 12 0,z 13 (.cvi .u8 (.t 12)),z 14 (.bslice 1 [none] [.t 5,.t 8,
 .t 11,.t 13]),zm 2 14]) (.ret))⟩
theorem c92:cFun Tryz.prog Tryz.f92=some p92:=by kernel_rfl
def p61:PFun:=⟨35,[.t 4,.t 5],.seq (.reg [] [z 4 (.mov (.c .nil)),z 5 (.mov (.c (.i .i64 0)))]) (.seq (.seq (.reg [12,13,14,15,16,17,18] [zm 8 1,z 9 (.len false (.t 8)),z 10 (.bin
 .gtr (.t 9) (.c (.i .i64 65536))),zm 11 10,⟨some 12,[(11,false)],.mov (.t 0)⟩,⟨some 13,[(11,false)],.len false (.t 12)⟩,⟨some 14,[(11,false)],.bin .add (.t 13) (.c (.i
 .i64 8))⟩,⟨some 15,[(11,false)],.mov (.t 1)⟩,⟨some 16,[(11,false)],.len false (.t 15)⟩,⟨some 17,[(11,false)],.bin .add (.t 14) (.t 16)⟩,⟨some 18,[(11,false)],.bin
 .gtr (.t 17) (.c (.i .i64 4194304))⟩,z 19 (.pick (.t 11) (.c (.b true)) (.t 18))]) (.ite (.t 19) (.seq (.reg [] [z 4 (.mov (.c .nil)),z 5 (.mov (.c (.i .i64 3)))]) (.ret))
 (.skip))) (.seq (.reg [] [zm 20 1,z 21 (.len false (.t 20)),z 22 (.cvi .u32 (.t 21)),z 23 (.call 92 [.t 22]),zm 6 23]) (.seq (.reg [] [zm 24 6,z 25 (.call 93 [.c (.i .u32
 2166136261),.t 24]),zm 26 1,z 27 (.call 93 [.t 25,.t 26]),z 28 (.call 92 [.t 27]),zm 7 28]) (.seq (.reg [] [zm 29 0,zm 30 6,zm 31 7,zm 32 1,z 33 (.bslice 1 [some 1] [.t
 29,.t 30,.t 31,.t 32]),z 34 (.call 94 [.t 33]),zm 4 34,z 5 (.mov (.c (.i .i64 0)))]) (.ret)))))⟩
theorem c61:cFun Tryz.prog Tryz.f61=some p61:=by kernel_rfl
def p72:PFun:=⟨33,[.t 2],.seq (.reg [] [z 2 (.mov (.c (.i .i64 0)))]) (.seq (.seq (.reg [] [zm 4 0,z 5 (.len false (.t 4)),z 6 (.bin .lss (.t 5) (.c (.i .i64 8)))]) (.ite (.t 6) (.seq (.reg
 [] [z 2 (.mov (.c (.i .i64 0)))]) (.ret)) (.skip))) (.seq (.reg [] [zm 7 0,z 8 (.call 114 [.t 7]),z 9 (.cvi .i64 (.t 8)),zm 3 9]) (.seq (.seq (.reg [13,14,15,16,17] [zm 10 3,
 z 11 (.bin .gtr (.t 10) (.c (.i .i64 65536))),zm 12 11,⟨some 13,[(12,false)],.mov (.t 3)⟩,⟨some 14,[(12,false)],.mov (.t 0)⟩,⟨some 15,[(12,false)],.len false (.t 14)⟩,
 ⟨some 16,[(12,false)],.bin .sub (.t 15) (.c (.i .i64 8))⟩,⟨some 17,[(12,false)],.bin .gtr (.t 13) (.t 16)⟩,z 18 (.pick (.t 12) (.c (.b true)) (.t 17))]) (.ite (.t 18) (.seq
 (.reg [] [z 2 (.mov (.c (.i .i64 0)))]) (.ret)) (.skip))) (.seq (.seq (.dreg [([zm 19 0,z 20 (.slice 1 (.t 19) none (some (.c (.i .i64 4)))),zm 22 0,zm 23 3,z 24 (.bin .add (.c
 (.i .i64 8)) (.t 23)),z 25 (.slice 1 (.t 22) (some (.c (.i .i64 8))) (some (.t 24))),zm 27 0,z 28 (.slice 1 (.t 27) (some (.c (.i .i64 4))) none)],z 21 (.call 93 [.c (.i .u32
 2166136261),.t 20]),[z 25 (.slice 1 (.t 22) (some (.c (.i .i64 8))) (some (.t 24))),z 28 (.slice 1 (.t 27) (some (.c (.i .i64 4))) none)]),([],z 26 (.call 93 [.t 21,.t 25]),
 [z 28 (.slice 1 (.t 27) (some (.c (.i .i64 4))) none)])] [] [] [z 29 (.call 114 [.t 28]),z 30 (.bin .neq (.t 26) (.t 29))]) (.ite (.t 30) (.seq (.reg [] [z 2 (.mov (.c (.i .i64
 0)))]) (.ret)) (.skip))) (.seq (.reg [] [zm 31 3,z 32 (.bin .add (.c (.i .i64 8)) (.t 31)),zm 2 32]) (.ret))))))⟩
theorem c72:cFun Tryz.prog Tryz.f72=some p72:=by kernel_rfl
def p36_0:PCode:=.block 1 (.seq (.reg [] [zm 5 0,zm 6 3,z 7 (.slice 1 (.t 5) (some (.t 6)) none),z 8 (.call 72 [.t 7]),zm 4 8]) (.seq (.seq (.reg [] [zm 9 4,z 10 (.bin .eql (.t 9) (.c (.i .i64
 0)))]) (.ite (.t 10) (.seq (.reg [] [zm 11 2,zm 12 3,zm 2 11,zm 3 12]) (.ret)) (.skip))) (.seq (.reg [] [zm 13 2,zm 14 0,zm 15 3,z 16 (.bin .add (.t 15) (.c (.i .i64 8))),zm
 17 3,zm 18 4,z 19 (.bin .add (.t 17) (.t 18)),z 20 (.slice 1 (.t 14) (some (.t 16)) (some (.t 19))),z 21 (.call 60 [.t 20]),z 22 (.bslice 1 [some 1] [.t 21]),z 23 (.app 36 1
 24 (.t 13) (.t 22)),zm 2 23]) (.reg [] [zm 24 3,zm 25 4,z 26 (.bin .add (.t 24) (.t 25)),zm 3 26]))))
def p36:PFun:=⟨27,[.t 2,.t 3],.seq (.reg [] [z 2 (.mov (.c .nil)),z 3 (.mov (.c (.i .i64 0)))]) (.block 0 (.loop p36_0))⟩
theorem c36:cFun Tryz.prog Tryz.f36=some p36:=by kernel_rfl
def p35:PFun:=⟨14,[.t 2],.seq (.reg [] [z 2 (.mov (.c .nil))]) (.seq (.reg [] [zm 6 0,z 7 (.call 36 [.t 6]),zm 5 7,z 8 (.ext 0 (.t 5)),z 9 (.ext 1 (.t 5)),zm 3 8,zm 4 9]) (.seq (.reg []
 [zm 10 0,zm 11 4,z 12 (.slice 1 (.t 10) none (some (.t 11))),z 13 (.call 60 [.t 12]),zm 2 13]) (.ret)))⟩
theorem c35:cFun Tryz.prog Tryz.f35=some p35:=by kernel_rfl
def p94_0:PCode:=.seq (.reg [] [z 12 (.bin .lss (.t 11) (.t 10))]) (.seq (.ite (.t 12) (.skip) (.exit 0)) (.seq (.block 1 (.seq (.reg [] [z 13 (.idx 1 (.t 9) (.t 11)),zl 14 13,zm 5 14]) (.seq
 (.reg [] [zm 15 3,zm 16 5,z 17 (.len false (.t 16)),z 18 (.bin .add (.t 15) (.t 17)),zm 3 18]) (.seq (.reg [] [zm 19 3,z 20 (.bin .lss (.t 19) (.c (.i .i64 0)))]) (.ite (.t 20)
 (.reg [] [z 21 (.stop),zs (.stop)]) (.skip)))))) (.reg [] [z 22 (.bin .add (.t 11) (.c (.i .i64 1))),zm 11 22])))
def p94_1:PCode:=.seq (.reg [] [z 28 (.bin .lss (.t 27) (.t 26))]) (.seq (.ite (.t 28) (.skip) (.exit 2)) (.seq (.block 3 (.seq (.reg [] [z 29 (.idx 1 (.t 25) (.t 27)),zl 30 29,zm 8 30]) (.reg []
 [zm 31 6,zm 32 8,z 33 (.app 5 1 1 (.t 31) (.t 32)),zm 6 33]))) (.reg [] [z 34 (.bin .add (.t 27) (.c (.i .i64 1))),zm 27 34])))
def p94:PFun:=⟨36,[.t 2],.seq (.reg [] [z 2 (.mov (.c .nil))]) (.seq (.reg [] [z 3 (.mov (.c (.i .i64 0)))]) (.seq (.seq (.reg [] [zm 9 0,z 10 (.len false (.t 9)),z 11 (.mov (.c (.i .i64
 0)))]) (.block 0 (.loop p94_0))) (.seq (.reg [] [zm 23 3,z 24 (.call 136 [.c .nil,.t 23]),zm 6 24]) (.seq (.seq (.reg [] [zm 25 0,z 26 (.len false (.t 25)),z 27 (.mov (.c (.i
 .i64 0)))]) (.block 2 (.loop p94_1))) (.seq (.reg [] [zm 35 6,zm 2 35]) (.ret))))))⟩
theorem c94:cFun Tryz.prog Tryz.f94=some p94:=by kernel_rfl
def p17:PFun:=⟨20,[.c 4 (some 8)],.seq (.reg [] [z 4 (.alloc 33 [.nil,.nil,.s [],.s [],.s [],.s [],.i .i64 0,.i .i64 0])]) (.seq (.dreg [([z 5 (.bslice 1 [none] [.c (.s [83,97,118,
 101]),.c (.s [120]),.c (.s [114,101,100])]),zm 6 0,z 12 (.bslice 1 [none] [.c (.s [97]),.c (.s [98]),.c (.s [99]),.c (.s [100])]),zm 13 1],z 7 (.call 10 [.t 6,.c (.i
 .i64 3)]),[z 5 (.bslice 1 [none] [.c (.s [83,97,118,101]),.c (.s [120]),.c (.s [114,101,100])]),z 12 (.bslice 1 [none] [.c (.s [97]),.c (.s [98]),.c (.s [99]),.c (.s
 [100])])]),([z 8 (.idx 1 (.t 5) (.t 7)),zl 9 8,z 10 (.build [.i .i64 0,.s [],.i .i64 0] [(0,1,.c (.i .i64 1)),(1,1,.t 9)]),z 11 (.bslice 3 [none,none,none] [.t 10])],z
 14 (.call 10 [.t 13,.c (.i .i64 4)]),[z 5 (.bslice 1 [none] [.c (.s [83,97,118,101]),.c (.s [120]),.c (.s [114,101,100])]),z 8 (.idx 1 (.t 5) (.t 7)),zl 9 8,z 10 (.build
 [.i .i64 0,.s [],.i .i64 0] [(0,1,.c (.i .i64 1)),(1,1,.t 9)]),z 11 (.bslice 3 [none,none,none] [.t 10]),z 12 (.bslice 1 [none] [.c (.s [97]),.c (.s [98]),.c (.s [99]),
 .c (.s [100])])])] [z 15 (.idx 1 (.t 12) (.t 14)),zl 16 15,z 17 (.build [.i .i64 0,.s [],.i .i64 0] [(0,1,.c (.i .i64 1)),(1,1,.t 16)]),z 18 (.bslice 3 [none,none,none]
 [.t 17])] [] [z 19 (.build [.nil,.nil,.s [],.s [],.s [],.s [],.i .i64 0,.i .i64 0] [(0,1,.t 11),(1,1,.t 18),(7,1,.c (.i .i64 1))]),zs (.store 8 [some 3,some 3,
 none,none,none,none,none,none] (.t 4) (.t 19))]) (.ret))⟩
theorem c17:cFun Tryz.prog Tryz.f17=some p17:=by kernel_rfl
def p5:PFun:=⟨82,[.t 0],.seq (.reg [] [z 0 (.mov (.c (.b false)))]) (.seq (.reg [] [z 12 (.call 8 [.c (.i .i64 2)]),zm 11 12,z 13 (.ext 0 (.t 11)),z 14 (.ext 1 (.t 11)),z 1 (.alloc 38 [.i
 .i64 0,.i .i64 0,.nil,.nil,.i .i64 0,.b false]),zs (.store 6 [none,none,some 13,some 1,none,none] (.t 1) (.t 13)),zm 2 14]) (.seq (.dfl [(3,35,[.i .i64 0,.i .i64 0,
 .i .i64 0,.i .i64 0,.nil,.nil,.s [],.s [],.s [],.s [],.i .i64 0,.i .i64 0,.nil])] [([zL 16 6 1],z 17 (.call 17 [.c (.i .i64 0),.c (.i .i64 0)]),[zL 16 6 1]),([],z 18
 (.call 16 [.t 16,.t 17]),[])] [([zm 15 18,z 19 (.ext 0 (.t 15)),z 20 (.ext 1 (.t 15)),z 21 (.ext 2 (.t 15))],zs (.store 6 [none,none,some 13,some 1,none,none] (.t 1) (.t
 19)),[]),([],zs (.store 13 [none,none,none,none,some 3,some 3,none,none,none,none,none,none,some 1] (.t 3) (.t 20)),[])] [] [] [zm 4 21]) (.seq (.reg [] [z 23 (.call
 8 [.c (.i .i64 1)]),zm 22 23,z 24 (.ext 0 (.t 22)),z 25 (.ext 1 (.t 22)),z 5 (.alloc 38 [.i .i64 0,.i .i64 0,.nil,.nil,.i .i64 0,.b false]),zs (.store 6 [none,none,some
 13,some 1,none,none] (.t 5) (.t 24)),zm 6 25]) (.seq (.reg [] [zL 27 6 5,zL 28 13 3,z 29 (.call 9 [.t 27,.t 28]),zm 26 29,z 30 (.ext 0 (.t 26)),z 31 (.ext 1 (.t 26)),zs
 (.store 6 [none,none,some 13,some 1,none,none] (.t 5) (.t 30)),zm 7 31]) (.seq (.reg [] [zL 32 6 5,z 33 (.call 18 [.t 32,.c (.i .i64 0)]),z 8 (.alloc 38 [.i .i64 0,.i .i64
 0,.nil,.nil,.i .i64 0,.b false]),zs (.store 6 [none,none,some 13,some 1,none,none] (.t 8) (.t 33))]) (.seq (.reg [] [zL 35 6 8,z 36 (.call 19 [.t 35]),zm 34 36,z 37
 (.ext 0 (.t 34)),z 38 (.ext 1 (.t 34)),z 9 (.alloc 38 [.i .i64 0,.i .i64 0,.nil,.nil,.i .i64 0,.b false]),zs (.store 6 [none,none,some 13,some 1,none,none] (.t 9) (.t
 37)),zm 10 38]) (.seq (.dreg [([zm 39 2,z 40 (.bin .eql (.t 39) (.c (.i .i64 0))),zm 41 40,⟨some 42,[(41,true)],.mov (.t 4)⟩,⟨some 43,[(41,true)],.bin .eql (.t 42) (.c
 (.i .i64 0))⟩,z 44 (.pick (.t 41) (.t 43) (.c (.b false))),zm 45 44,⟨some 46,[(45,true)],.mov (.t 7)⟩,⟨some 47,[(45,true)],.bin .eql (.t 46) (.c (.i .i64 0))⟩,z 48 (.pick
 (.t 45) (.t 47) (.c (.b false))),zm 49 48,⟨some 50,[(49,true)],.mov (.t 10)⟩,⟨some 51,[(49,true)],.bin .eql (.t 50) (.c (.i .i64 0))⟩,z 52 (.pick (.t 49) (.t 51) (.c (.b
 false))),zm 53 52,⟨some 54,[(53,true)],.fld 0 (.t 3)⟩,⟨some 55,[(53,true)],.load (some 3) (.t 54)⟩,⟨some 56,[(53,true)],.build [.i .i64 0,.i .i64 0,.i .i64 0] [(0,1,
 .c (.i .i64 1)),(1,1,.c (.i .i64 2)),(2,1,.c (.i .i64 1))]⟩,⟨some 57,[(53,true)],.beq false [0,0,0] (.t 55) (.t 56)⟩,z 58 (.pick (.t 53) (.t 57) (.c (.b false))),zm 59
 58,⟨some 60,[(59,true)],.load (some 6) (.t 5)⟩,⟨some 62,[(59,true)],.load (some 6) (.t 1)⟩],⟨some 61,[(59,true)],.call 13 [.t 60]⟩,[⟨some 62,[(59,true)],.load (some
 6) (.t 1)⟩]),([],⟨some 63,[(59,true)],.call 13 [.t 62]⟩,[]),([],⟨some 64,[(59,true)],.call 12 [.t 61,.t 63]⟩,[]),([z 65 (.pick (.t 59) (.t 64) (.c (.b false))),zm 66
 65,⟨some 67,[(66,true)],.fld 5 (.t 8)⟩,⟨some 68,[(66,true)],.load none (.t 67)⟩,z 69 (.pick (.t 66) (.t 68) (.c (.b false))),zm 70 69,⟨some 71,[(70,true)],.load (some
 6) (.t 9)⟩],⟨some 72,[(70,true)],.call 13 [.t 71]⟩,[]),([⟨some 73,[(70,true)],.len false (.t 72)⟩,⟨some 74,[(70,true)],.bin .eql (.t 73) (.c (.i .i64 0))⟩,z 75 (.pick
 (.t 70) (.t 74) (.c (.b false))),zm 76 75,⟨some 77,[(76,true)],.load (some 6) (.t 5)⟩,⟨some 79,[(76,true)],.bslice 1 [none] [.c (.i .i64 0),.c (.i .i64 0),.c (.i .i64
 1)]⟩],⟨some 78,[(76,true)],.call 15 [.t 77]⟩,[⟨some 79,[(76,true)],.bslice 1 [none] [.c (.i .i64 0),.c (.i .i64 0),.c (.i .i64 1)]⟩])] [] [42,43,46,47,50,51,54,55,
 56,57,60,61,62,63,64,67,68,71,72,73,74,77,78,79,80] [⟨some 80,[(76,true)],.call 14 [.t 78,.t 79]⟩,z 81 (.pick (.t 76) (.t 80) (.c (.b false))),zm 0 81])
 (.ret))))))))⟩
theorem c5:cFun Tryz.prog Tryz.f5=some p5:=by kernel_rfl
def p62:PFun:=⟨95,[.t 6],.seq (.reg [] [z 6 (.mov (.c .nil))]) (.seq (.reg [] [zm 10 0,zm 11 1,z 12 (.slice 13 (.t 10) (some (.t 11)) none)]) (.seq (.reg [] [zm 13 2,z 14 (.len false (.t
 13)),zm 7 14]) (.seq (.seq (.reg [] [zm 15 7,z 16 (.bin .eql (.t 15) (.c (.i .i64 0)))]) (.ite (.t 16) (.seq (.reg [] [zm 17 0,zm 6 17]) (.ret)) (.skip))) (.seq (.reg [] [zm 18
 0,z 19 (.len false (.t 18)),zm 8 19]) (.seq (.seq (.reg [] [zm 20 1,zm 21 8,z 22 (.bin .eql (.t 20) (.t 21))]) (.ite (.t 22) (.seq (.reg [] [zm 23 0,zm 24 2,z 25 (.app 35 13
 184 (.t 23) (.t 24)),zm 6 25]) (.ret)) (.skip))) (.seq (.seq (.reg [] [zm 26 8,zm 27 7,z 28 (.bin .add (.t 26) (.t 27)),zm 29 0,z 30 (.stop),z 31 (.bin .gtr (.t 28) (.t 30))])
 (.ite (.t 31) (.seq (.reg [] [zm 32 0,zm 33 1,z 34 (.slice 13 (.t 32) none (some (.t 33))),zm 35 8,zm 36 7,z 37 (.bin .add (.t 35) (.t 36)),zm 38 1,z 39 (.bin .sub (.t 37)
 (.t 38)),z 40 (.stop),zm 9 40]) (.seq (.reg [] [zm 41 9,zm 42 1,z 43 (.slice 13 (.t 41) (some (.t 42)) none),zm 44 2,z 45 (.stop)]) (.seq (.dreg [] [zm 46 9,zm 47 1,zm 48 7,
 z 49 (.bin .add (.t 47) (.t 48)),z 50 (.slice 13 (.t 46) (some (.t 49)) none),zm 51 0,zm 52 1,z 53 (.slice 13 (.t 51) (some (.t 52)) none)] [] [z 54 (.stop)]) (.seq (.reg [] [zm
 55 9,zm 6 55]) (.ret))))) (.skip))) (.seq (.reg [] [zm 56 0,zm 57 8,zm 58 7,z 59 (.bin .add (.t 57) (.t 58)),z 60 (.slice 13 (.t 56) none (some (.t 59))),zm 0 60]) (.seq (.seq
 (.reg [] [zm 61 2,zm 62 0,zm 63 1,zm 64 7,z 65 (.bin .add (.t 63) (.t 64)),z 66 (.slice 13 (.t 62) (some (.t 65)) none),z 67 (.stop),z 68 (.un .not (.t 67))]) (.ite (.t 68)
 (.seq (.dreg [] [zm 69 0,zm 70 1,zm 71 7,z 72 (.bin .add (.t 70) (.t 71)),z 73 (.slice 13 (.t 69) (some (.t 72)) none),zm 74 0,zm 75 1,z 76 (.slice 13 (.t 74) (some (.t 75))
 none)] [] [z 77 (.stop)]) (.seq (.reg [] [zm 78 0,zm 79 1,z 80 (.slice 13 (.t 78) (some (.t 79)) none),zm 81 2,z 82 (.stop)]) (.seq (.reg [] [zm 83 0,zm 6 83]) (.ret))))
 (.skip))) (.seq (.reg [] [zm 84 0,zm 85 8,z 86 (.slice 13 (.t 84) (some (.t 85)) none),zm 87 2,z 88 (.stop)]) (.seq (.reg [] [zm 89 0,zm 90 1,z 91 (.slice 13 (.t 89) (some (.t
 90)) none),zm 92 7,z 93 (.call 96 [.t 91,.t 92])]) (.seq (.reg [] [zm 94 0,zm 6 94]) (.ret))))))))))))⟩
theorem c62:cFun Tryz.prog Tryz.f62=some p62:=by kernel_rfl
def p3_0:PCode:=.seq (.reg [] [z 44 (.bin .lss (.t 43) (.t 42))]) (.seq (.ite (.t 44) (.skip) (.exit 2)) (.seq (.block 3 (.seq (.reg [] [z 45 (.idx 13 (.t 41) (.t 43)),zL 46 13 45,z 10 (.alloc 35
 [.i .i64 0,.i .i64 0,.i .i64 0,.i .i64 0,.nil,.nil,.s [],.s [],.s [],.s [],.i .i64 0,.i .i64 0,.nil]),zs (.store 13 [none,none,none,none,some 3,some 3,none,none,
 none,none,none,none,some 1] (.t 10) (.t 46))]) (.reg [49,50,51,52,53,54,55,56,57,58,59,60,61,62,63,64] [zm 47 8,zm 48 47,⟨some 49,[(48,false)],.fld 0 (.t
 7)⟩,⟨some 50,[(48,false)],.fld 1 (.t 49)⟩,⟨some 51,[(48,false)],.load none (.t 50)⟩,⟨some 52,[(48,false)],.fld 0 (.t 10)⟩,⟨some 53,[(48,false)],.fld 1 (.t 52)⟩,
 ⟨some 54,[(48,false)],.load none (.t 53)⟩,⟨some 55,[(48,false)],.bin .eql (.t 51) (.t 54)⟩,⟨some 56,[(48,false)],.mov (.t 55)⟩,⟨some 57,[(48,false),(56,true)],.fld
 0 (.t 7)⟩,⟨some 58,[(48,false),(56,true)],.fld 2 (.t 57)⟩,⟨some 59,[(48,false),(56,true)],.load none (.t 58)⟩,⟨some 60,[(48,false),(56,true)],.fld 0 (.t 10)⟩,
 ⟨some 61,[(48,false),(56,true)],.fld 2 (.t 60)⟩,⟨some 62,[(48,false),(56,true)],.load none (.t 61)⟩,⟨some 63,[(48,false),(56,true)],.bin .eql (.t 59) (.t 62)⟩,
 ⟨some 64,[(48,false)],.pick (.t 56) (.t 63) (.c (.b false))⟩,z 65 (.pick (.t 48) (.c (.b true)) (.t 64)),zm 8 65]))) (.reg [] [z 66 (.bin .add (.t 43) (.c (.i .i64 1))),zm 43
 66])))
def p3_1:PCode:=.seq (.reg [] [z 34 (.bin .lss (.t 33) (.t 32))]) (.seq (.ite (.t 34) (.skip) (.exit 0)) (.seq (.block 1 (.seq (.reg [] [z 35 (.idx 13 (.t 31) (.t 33)),zL 36 13 35,z 7 (.alloc 35
 [.i .i64 0,.i .i64 0,.i .i64 0,.i .i64 0,.nil,.nil,.s [],.s [],.s [],.s [],.i .i64 0,.i .i64 0,.nil]),zs (.store 13 [none,none,none,none,some 3,some 3,none,none,
 none,none,none,none,some 1] (.t 7) (.t 36))]) (.seq (.reg [] [zf 37 0 7,zf 38 1 37,zl 39 38,z 40 (.bin .eql (.t 39) (.c (.i .i64 0))),zm 8 40]) (.seq (.seq (.reg [] [zm 41
 5,z 42 (.len false (.t 41)),z 43 (.mov (.c (.i .i64 0)))]) (.block 2 (.loop p3_0))) (.seq (.reg [] [zm 67 8,z 68 (.un .not (.t 67))]) (.ite (.t 68) (.reg [] [zm 69 5,zL 70 13 7,
 z 71 (.bslice 13 [none,none,none,none,some 3,some 3,none,none,none,none,none,none,some 1] [.t 70]),z 72 (.app 35 13 184 (.t 69) (.t 71)),zm 5 72]) (.skip))))))) (.reg
 [] [z 73 (.bin .add (.t 33) (.c (.i .i64 1))),zm 33 73])))
def p3_2:PCode:=.seq (.reg [] [z 85 (.bin .lss (.t 84) (.t 83))]) (.seq (.ite (.t 85) (.skip) (.exit 4)) (.seq (.block 5 (.seq (.reg [] [z 86 (.idx 13 (.t 82) (.t 84)),zL 87 13 86,z 16 (.alloc 35
 [.i .i64 0,.i .i64 0,.i .i64 0,.i .i64 0,.nil,.nil,.s [],.s [],.s [],.s [],.i .i64 0,.i .i64 0,.nil]),zs (.store 13 [none,none,none,none,some 3,some 3,none,none,
 none,none,none,none,some 1] (.t 16) (.t 87))]) (.seq (.reg [] [zL 89 6 11,zL 90 13 16,z 91 (.call 9 [.t 89,.t 90]),zm 88 91,z 92 (.ext 0 (.t 88)),z 93 (.ext 1 (.t 88)),z
 17 (.alloc 38 [.i .i64 0,.i .i64 0,.nil,.nil,.i .i64 0,.b false]),zs (.store 6 [none,none,some 13,some 1,none,none] (.t 17) (.t 92)),zm 18 93]) (.seq (.seq (.reg [] [zm
 94 18,z 95 (.bin .neq (.t 94) (.c (.i .i64 0)))]) (.ite (.t 95) (.seq (.reg [] [z 4 (.mov (.c (.b false)))]) (.ret)) (.skip))) (.reg [] [zL 96 6 17,zs (.store 6 [none,none,some
 13,some 1,none,none] (.t 11) (.t 96))]))))) (.reg [] [z 97 (.bin .add (.t 84) (.c (.i .i64 1))),zm 84 97])))
def p3_3:PCode:=.seq (.reg [] [z 101 (.bin .lss (.t 100) (.t 99))]) (.seq (.ite (.t 101) (.skip) (.exit 6)) (.seq (.block 7 (.seq (.reg [] [z 102 (.idx 1 (.t 98) (.t 100)),zl 103 102,zm 20 103])
 (.seq (.reg [] [zm 104 5,z 105 (.len false (.t 104)),z 106 (.bin .gtr (.t 105) (.c (.i .i64 0)))]) (.ite (.t 106) (.dreg [([zL 108 6 13,zm 109 5,zm 110 20,zm 111 5,z 112 (.len
 false (.t 111))],z 113 (.call 10 [.t 110,.t 112]),[zL 108 6 13]),([z 114 (.idx 13 (.t 109) (.t 113)),zL 115 13 114],z 116 (.call 9 [.t 108,.t 115]),[]),([zm 107 116,z 117
 (.ext 0 (.t 107)),z 118 (.ext 1 (.t 107))],zs (.store 6 [none,none,some 13,some 1,none,none] (.t 13) (.t 117)),[])] [] [] []) (.skip))))) (.reg [] [z 119 (.bin .add (.t 100)
 (.c (.i .i64 1))),zm 100 119])))
def p3_4:PCode:=.seq (.seq (.reg [] [zm 123 21,z 124 (.bin .geq (.t 123) (.c (.i .i64 0)))]) (.ite (.t 124) (.skip) (.exit 8))) (.seq (.block 9 (.seq (.dfl [(22,38,[.i .i64 0,.i .i64 0,.nil,
 .nil,.i .i64 0,.b false])] [([zL 128 6 13,zm 129 5,zm 130 21,z 131 (.idx 13 (.t 129) (.t 130)),zL 132 13 131],z 133 (.call 9 [.t 128,.t 132]),[])] [([zm 127 133,z 134
 (.ext 0 (.t 127)),z 135 (.ext 1 (.t 127))],zs (.store 6 [none,none,some 13,some 1,none,none] (.t 22) (.t 134)),[])] [] [] [zm 23 135]) (.seq (.seq (.reg [] [zm 136 23,z 137
 (.bin .neq (.t 136) (.c (.i .i64 0)))]) (.ite (.t 137) (.seq (.reg [] [z 4 (.mov (.c (.b false)))]) (.ret)) (.skip))) (.reg [] [zL 138 6 22,zs (.store 6 [none,none,some 13,some
 1,none,none] (.t 13) (.t 138))])))) (.reg [] [zm 125 21,z 126 (.bin .sub (.t 125) (.c (.i .i64 1))),zm 21 126]))
def p3:PFun:=⟨168,[.t 4],.seq (.reg [] [z 4 (.mov (.c (.b false)))]) (.seq (.seq (.reg [] [zm 24 0,zm 25 1,z 26 (.bslice 1 [some 1] [.t 24,.t 25]),z 27 (.call 4 [.t 26])]) (.ite (.t 27)
 (.seq (.reg [] [z 28 (.call 5 []),zm 4 28]) (.ret)) (.skip))) (.seq (.reg [] [z 5 (.mov (.c .nil))]) (.seq (.seq (.reg [] [zm 29 0,z 30 (.call 7 [.t 29]),z 31 (.call 6 [.t 30,.c
 (.i .i64 10)]),z 32 (.len false (.t 31)),z 33 (.mov (.c (.i .i64 0)))]) (.block 0 (.loop p3_1))) (.seq (.reg [] [z 75 (.call 8 [.c (.i .i64 0)]),zm 74 75,z 76 (.ext 0 (.t 74)),
 z 77 (.ext 1 (.t 74)),z 11 (.alloc 38 [.i .i64 0,.i .i64 0,.nil,.nil,.i .i64 0,.b false]),zs (.store 6 [none,none,some 13,some 1,none,none] (.t 11) (.t 76)),zm 12 77])
 (.seq (.reg [] [z 79 (.call 8 [.c (.i .i64 0)]),zm 78 79,z 80 (.ext 0 (.t 78)),z 81 (.ext 1 (.t 78)),z 13 (.alloc 38 [.i .i64 0,.i .i64 0,.nil,.nil,.i .i64 0,.b false]),zs
 (.store 6 [none,none,some 13,some 1,none,none] (.t 13) (.t 80)),zm 14 81]) (.seq (.seq (.reg [] [zm 82 5,z 83 (.len false (.t 82)),z 84 (.mov (.c (.i .i64 0)))]) (.block 4
 (.loop p3_2))) (.seq (.seq (.reg [] [zm 98 1,z 99 (.len false (.t 98)),z 100 (.mov (.c (.i .i64 0)))]) (.block 6 (.loop p3_3))) (.seq (.seq (.reg [] [zm 120 5,z 121 (.len false
 (.t 120)),z 122 (.bin .sub (.t 121) (.c (.i .i64 1))),zm 21 122]) (.block 8 (.loop p3_4))) (.seq (.dreg [([zf 139 2 11,zl 140 139,zf 141 2 13,zl 142 141],z 143 (.call 11 [.t
 140,.t 142]),[]),([zm 144 143,⟨some 145,[(144,true)],.fld 1 (.t 11)⟩,⟨some 146,[(144,true)],.load none (.t 145)⟩,⟨some 147,[(144,true)],.fld 1 (.t 13)⟩,⟨some 148,
 [(144,true)],.load none (.t 147)⟩,⟨some 149,[(144,true)],.bin .eql (.t 146) (.t 148)⟩,z 150 (.pick (.t 144) (.t 149) (.c (.b false))),zm 151 150,⟨some 152,[(151,true)],
 .load (some 6) (.t 11)⟩,⟨some 154,[(151,true)],.load (some 6) (.t 13)⟩],⟨some 153,[(151,true)],.call 13 [.t 152]⟩,[⟨some 154,[(151,true)],.load (some 6) (.t 13)⟩]),([],
 ⟨some 155,[(151,true)],.call 13 [.t 154]⟩,[]),([],⟨some 156,[(151,true)],.call 12 [.t 153,.t 155]⟩,[]),([z 157 (.pick (.t 151) (.t 156) (.c (.b false))),zm 158 157,
 ⟨some 159,[(158,true)],.load (some 6) (.t 11)⟩,⟨some 161,[(158,true)],.load (some 6) (.t 13)⟩],⟨some 160,[(158,true)],.call 15 [.t 159]⟩,[⟨some 161,[(158,true)],.load
 (some 6) (.t 13)⟩])] [] [145,146,147,148,149,152,153,154,155,156,159,160,161,162,163,166] [⟨some 162,[(158,true)],.call 15 [.t 161]⟩,⟨some 163,[(158,true)],
 .call 14 [.t 160,.t 162]⟩,z 164 (.pick (.t 158) (.t 163) (.c (.b false))),zm 165 164,⟨some 166,[(165,true)],.call 5 []⟩,z 167 (.pick (.t 165) (.t 166) (.c (.b false))),zm 4
 167]) (.ret))))))))))⟩
theorem c3:cFun Tryz.prog Tryz.f3=some p3:=by kernel_rfl
end Go.Proofs.Tryz
