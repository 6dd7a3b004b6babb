/- A part of the proof of the statement of the last text of this claim: for every two lists of integers ReplicaCommutes returns true and leaves the memory as it was. -/
import Derived.Test.YtbfoheefppnnpaaGreatDoorProg
import Derived.KernelRfl
import Derived.Test.YtbfoheefppnnpaaGreatDoorV3
import Derived.Test.YtbfoheefppnnpaaGreatDoorV12
import Derived.Test.YtbfoheefppnnpaaGreatDoorV13
import Derived.Test.YtbfoheefppnnpaaGreatDoorV14
set_option linter.all false

namespace Go.Proofs.Tryz
open Go Go.Pm
def p144:PFun:=⟨9,[.t 2],.seq (.reg [] [z 1 (.box 79 (.t 0)),z 2 (.mov (.c (.i .i64 0)))]) (.seq (.seq (.reg [] [zf 3 0 1,zl 4 3,z 5 (.bin .eql (.t 4) (.c (.i .i64 1)))]) (.ite (.t 5) (.seq
 (.reg [] [zf 6 1 1,zl 7 6,z 8 (.len true (.t 7)),zm 2 8]) (.ret)) (.skip))) (.seq (.reg [] [z 2 (.mov (.c (.i .i64 1)))]) (.ret)))⟩
theorem c144:cFun Tryz.prog Tryz.f144=some p144:=by kernel_rfl
def p102_0:PCode:=.seq (.reg [] [z 9 (.bin .lss (.t 8) (.t 7))]) (.seq (.ite (.t 9) (.skip) (.exit 0)) (.seq (.block 1 (.seq (.reg [] [z 10 (.idx 3 (.t 6) (.t 8)),zL 11 3 10,z 5 (.alloc 79 [.i .i64
 0,.s [],.i .i64 0]),zs (.store 3 [none,none,none] (.t 5) (.t 11))]) (.reg [] [zm 12 3,zL 13 3 5,z 14 (.call 144 [.t 13]),z 15 (.bin .add (.t 12) (.t 14)),zm 3 15]))) (.reg
 [] [z 16 (.bin .add (.t 8) (.c (.i .i64 1))),zm 8 16])))
def p102:PFun:=⟨18,[.t 2],.seq (.reg [] [z 2 (.mov (.c (.i .i64 0)))]) (.seq (.reg [] [z 3 (.mov (.c (.i .i64 0)))]) (.seq (.seq (.reg [] [zm 6 0,z 7 (.len false (.t 6)),z 8 (.mov (.c (.i .i64
 0)))]) (.block 0 (.loop p102_0))) (.seq (.reg [] [zm 17 3,zm 2 17]) (.ret))))⟩
theorem c102:cFun Tryz.prog Tryz.f102=some p102:=by kernel_rfl
def p104:PFun:=⟨16,[.t 2],.seq (.reg [] [z 1 (.box 79 (.t 0)),z 2 (.mov (.c (.b false)))]) (.seq (.reg [7,8,9,12,13,14] [zf 3 0 1,zl 4 3,z 5 (.bin .eql (.t 4) (.c (.i .i64 2))),zm 6 5,
 ⟨some 7,[(6,false)],.fld 0 (.t 1)⟩,⟨some 8,[(6,false)],.load none (.t 7)⟩,⟨some 9,[(6,false)],.bin .eql (.t 8) (.c (.i .i64 3))⟩,z 10 (.pick (.t 6) (.c (.b true)) (.t
 9)),zm 11 10,⟨some 12,[(11,false)],.fld 0 (.t 1)⟩,⟨some 13,[(11,false)],.load none (.t 12)⟩,⟨some 14,[(11,false)],.bin .eql (.t 13) (.c (.i .i64 4))⟩,z 15 (.pick (.t
 11) (.c (.b true)) (.t 14)),zm 2 15]) (.ret))⟩
theorem c104:cFun Tryz.prog Tryz.f104=some p104:=by kernel_rfl
def p146:PFun:=⟨13,[.t 2],.seq (.reg [] [z 2 (.mov (.c (.s [])))]) (.seq (.reg [] [zm 7 0,z 8 (.call 170 [.t 7,.c (.s [32])]),zm 6 8,z 9 (.ext 0 (.t 6)),z 10 (.ext 1 (.t 6)),z 11 (.ext 2
 (.t 6)),zm 3 9,zm 4 10,zm 5 11]) (.seq (.reg [] [zm 12 3,zm 2 12]) (.ret)))⟩
theorem c146:cFun Tryz.prog Tryz.f146=some p146:=by kernel_rfl
def p145_0:PCode:=.seq (.seq (.reg [] [zm 23 3,zm 24 0,z 25 (.len true (.t 24)),z 26 (.bin .lss (.t 23) (.t 25))]) (.ite (.t 26) (.skip) (.exit 0))) (.seq (.block 1 (.seq (.reg [34,35,36,37,
 40,41,42,43,44] [zm 29 0,zm 30 3,z 31 (.sidx (.t 29) (.t 30)),z 32 (.bin .lss (.t 31) (.c (.i .u8 32))),zm 33 32,⟨some 34,[(33,false)],.mov (.t 0)⟩,⟨some 35,[(33,
 false)],.mov (.t 3)⟩,⟨some 36,[(33,false)],.sidx (.t 34) (.t 35)⟩,⟨some 37,[(33,false)],.bin .gtr (.t 36) (.c (.i .u8 126))⟩,z 38 (.pick (.t 33) (.c (.b true)) (.t 37)),
 zm 39 38,⟨some 40,[(39,false)],.mov (.t 0)⟩,⟨some 41,[(39,false)],.mov (.t 3)⟩,⟨some 42,[(39,false)],.sidx (.t 40) (.t 41)⟩,⟨some 43,[(39,false)],.call 150 [.c (.s
 [60,62,123,125]),.t 42]⟩,⟨some 44,[(39,false)],.bin .geq (.t 43) (.c (.i .i64 0))⟩,z 45 (.pick (.t 39) (.c (.b true)) (.t 44))]) (.ite (.t 45) (.seq (.reg [] [z 2 (.mov (.c
 (.b false)))]) (.ret)) (.skip)))) (.reg [] [zm 27 3,z 28 (.bin .add (.t 27) (.c (.i .i64 1))),zm 3 28]))
def p145:PFun:=⟨63,[.t 2],.seq (.reg [] [z 2 (.mov (.c (.b false)))]) (.seq (.seq (.reg [11,12,13,16,17,18,19,20,21] [zm 7 0,z 8 (.len true (.t 7)),z 9 (.bin .gtr (.t 8) (.c (.i .i64
 64))),zm 10 9,⟨some 11,[(10,false)],.mov (.t 0)⟩,⟨some 12,[(10,false)],.len true (.t 11)⟩,⟨some 13,[(10,false)],.bin .eql (.t 12) (.c (.i .i64 0))⟩,z 14 (.pick (.t 10)
 (.c (.b true)) (.t 13)),zm 15 14,⟨some 16,[(15,false)],.mov (.t 0)⟩,⟨some 17,[(15,false)],.mov (.t 0)⟩,⟨some 18,[(15,false)],.len true (.t 17)⟩,⟨some 19,[(15,
 false)],.bin .sub (.t 18) (.c (.i .i64 1))⟩,⟨some 20,[(15,false)],.sidx (.t 16) (.t 19)⟩,⟨some 21,[(15,false)],.bin .eql (.t 20) (.c (.i .u8 47))⟩,z 22 (.pick (.t 15) (.c
 (.b true)) (.t 21))]) (.ite (.t 22) (.seq (.reg [] [z 2 (.mov (.c (.b false)))]) (.ret)) (.skip))) (.seq (.seq (.reg [] [z 3 (.mov (.c (.i .i64 0)))]) (.block 0 (.loop p145_0)))
 (.seq (.reg [] [zm 47 0,z 48 (.call 170 [.t 47,.c (.s [32])]),zm 46 48,z 49 (.ext 0 (.t 46)),z 50 (.ext 1 (.t 46)),z 51 (.ext 2 (.t 46)),zm 4 49,zm 5 50,zm 6 51]) (.seq
 (.reg [55,56,57,58,59,60,61] [zm 52 4,z 53 (.call 71 [.t 52]),zm 54 53,⟨some 55,[(54,true)],.mov (.t 6)⟩,⟨some 56,[(54,true)],.un .not (.t 55)⟩,⟨some 57,[(54,
 true)],.mov (.t 56)⟩,⟨some 58,[(54,true),(57,false)],.mov (.t 5)⟩,⟨some 59,[(54,true),(57,false)],.len true (.t 58)⟩,⟨some 60,[(54,true),(57,false)],.bin .gtr (.t
 59) (.c (.i .i64 0))⟩,⟨some 61,[(54,true)],.pick (.t 57) (.c (.b true)) (.t 60)⟩,z 62 (.pick (.t 54) (.t 61) (.c (.b false))),zm 2 62]) (.ret)))))⟩
theorem c145:cFun Tryz.prog Tryz.f145=some p145:=by kernel_rfl
def p103:PFun:=⟨76,[.t 4],.seq (.reg [] [z 4 (.mov (.c (.b false)))]) (.seq (.reg [] [zm 6 0,zm 7 1,z 8 (.idx 3 (.t 6) (.t 7)),zL 9 3 8,z 5 (.alloc 79 [.i .i64 0,.s [],.i .i64 0]),zs
 (.store 3 [none,none,none] (.t 5) (.t 9))]) (.seq (.seq (.reg [] [zf 10 0 5,zl 11 10]) (.block 0 (.seq (.reg [] [z 13 (.bin .eql (.t 11) (.c (.i .i64 1))),zm 12 13]) (.ite (.t
 12) (.seq (.reg [18,19,20,23,24,25,26,27,28,29,30,31,32,33] [zf 14 1 5,zl 15 14,z 16 (.bin .neq (.t 15) (.c (.s []))),zm 17 16,⟨some 18,[(17,true)],.fld 2 (.t
 5)⟩,⟨some 19,[(17,true)],.load none (.t 18)⟩,⟨some 20,[(17,true)],.bin .eql (.t 19) (.c (.i .i64 0))⟩,z 21 (.pick (.t 17) (.t 20) (.c (.b false))),zm 22 21,⟨some 23,
 [(22,true)],.mov (.t 1)⟩,⟨some 24,[(22,true)],.bin .eql (.t 23) (.c (.i .i64 0))⟩,⟨some 25,[(22,true)],.mov (.t 24)⟩,⟨some 26,[(22,true),(25,false)],.mov (.t 0)⟩,
 ⟨some 27,[(22,true),(25,false)],.mov (.t 1)⟩,⟨some 28,[(22,true),(25,false)],.bin .sub (.t 27) (.c (.i .i64 1))⟩,⟨some 29,[(22,true),(25,false)],.idx 3 (.t 26) (.t
 28)⟩,⟨some 30,[(22,true),(25,false)],.fld 0 (.t 29)⟩,⟨some 31,[(22,true),(25,false)],.load none (.t 30)⟩,⟨some 32,[(22,true),(25,false)],.bin .neq (.t 31) (.c (.i
 .i64 1))⟩,⟨some 33,[(22,true)],.pick (.t 25) (.c (.b true)) (.t 32)⟩,z 34 (.pick (.t 22) (.t 33) (.c (.b false))),zm 4 34]) (.ret)) (.seq (.reg [] [z 36 (.bin .eql (.t 11) (.c
 (.i .i64 5))),zm 35 36]) (.ite (.t 35) (.seq (.reg [41,42,43] [zf 37 1 5,zl 38 37,z 39 (.call 71 [.t 38]),zm 40 39,⟨some 41,[(40,true)],.fld 2 (.t 5)⟩,⟨some 42,[(40,
 true)],.load none (.t 41)⟩,⟨some 43,[(40,true)],.bin .eql (.t 42) (.c (.i .i64 0))⟩,z 44 (.pick (.t 40) (.t 43) (.c (.b false))),zm 4 44]) (.ret)) (.seq (.seq (.reg [] [z 46
 (.bin .eql (.t 11) (.c (.i .i64 2))),zm 45 46]) (.ite (.t 45) (.skip) (.reg [] [z 47 (.bin .eql (.t 11) (.c (.i .i64 4))),zm 45 47]))) (.ite (.t 45) (.seq (.reg [52,53,54,57,
 58,59] [zf 48 1 5,zl 49 48,z 50 (.call 145 [.t 49]),zm 51 50,⟨some 52,[(51,true)],.fld 2 (.t 5)⟩,⟨some 53,[(51,true)],.load none (.t 52)⟩,⟨some 54,[(51,true)],.bin
 .geq (.t 53) (.c (.i .i64 1))⟩,z 55 (.pick (.t 51) (.t 54) (.c (.b false))),zm 56 55,⟨some 57,[(56,true)],.fld 2 (.t 5)⟩,⟨some 58,[(56,true)],.load none (.t 57)⟩,⟨some
 59,[(56,true)],.bin .leq (.t 58) (.c (.i .i64 999))⟩,z 60 (.pick (.t 56) (.t 59) (.c (.b false))),zm 4 60]) (.ret)) (.seq (.reg [] [z 62 (.bin .eql (.t 11) (.c (.i .i64 3))),
 zm 61 62]) (.ite (.t 61) (.seq (.reg [67,68,69,72,73,74] [zf 63 1 5,zl 64 63,z 65 (.call 71 [.t 64]),zm 66 65,⟨some 67,[(66,true)],.fld 2 (.t 5)⟩,⟨some 68,[(66,
 true)],.load none (.t 67)⟩,⟨some 69,[(66,true)],.bin .geq (.t 68) (.c (.i .i64 1))⟩,z 70 (.pick (.t 66) (.t 69) (.c (.b false))),zm 71 70,⟨some 72,[(71,true)],.fld 2 (.t
 5)⟩,⟨some 73,[(71,true)],.load none (.t 72)⟩,⟨some 74,[(71,true)],.bin .leq (.t 73) (.c (.i .i64 999))⟩,z 75 (.pick (.t 71) (.t 74) (.c (.b false))),zm 4 75]) (.ret))
 (.skip))))))))))) (.seq (.reg [] [z 4 (.mov (.c (.b false)))]) (.ret))))⟩
theorem c103:cFun Tryz.prog Tryz.f103=some p103:=by kernel_rfl
def p105_0:PCode:=.seq (.reg [] [z 10 (.bin .lss (.t 9) (.t 8))]) (.seq (.ite (.t 10) (.skip) (.exit 0)) (.seq (.block 1 (.seq (.reg [] [z 11 (.idx 3 (.t 7) (.t 9)),zL 12 3 11,z 6 (.alloc 79 [.i
 .i64 0,.s [],.i .i64 0]),zs (.store 3 [none,none,none] (.t 6) (.t 12))]) (.seq (.seq (.reg [17,18,19,20,21] [zL 13 3 6,z 14 (.call 104 [.t 13]),z 15 (.un .not (.t 14)),
 zm 16 15,⟨some 17,[(16,false)],.fld 2 (.t 6)⟩,⟨some 18,[(16,false)],.load none (.t 17)⟩,⟨some 19,[(16,false)],.fld 2 (.t 3)⟩,⟨some 20,[(16,false)],.load none (.t
 19)⟩,⟨some 21,[(16,false)],.bin .neq (.t 18) (.t 20)⟩,z 22 (.pick (.t 16) (.c (.b true)) (.t 21))]) (.ite (.t 22) (.exit 1) (.skip))) (.seq (.dreg [([zf 23 0 3,zl 24 23,z 25
 (.bin .neq (.t 24) (.c (.i .i64 3))),zm 26 25,⟨some 27,[(26,false)],.fld 0 (.t 6)⟩,⟨some 28,[(26,false)],.load none (.t 27)⟩,⟨some 29,[(26,false)],.bin .neq (.t 28) (.c
 (.i .i64 2))⟩,z 30 (.pick (.t 26) (.c (.b true)) (.t 29)),zm 31 30,⟨some 32,[(31,false)],.fld 1 (.t 6)⟩,⟨some 33,[(31,false)],.load none (.t 32)⟩,⟨some 35,[(31,false)],
 .fld 1 (.t 3)⟩,⟨some 36,[(31,false)],.load none (.t 35)⟩],⟨some 34,[(31,false)],.call 146 [.t 33]⟩,[⟨some 35,[(31,false)],.fld 1 (.t 3)⟩,⟨some 36,[(31,false)],.load
 none (.t 35)⟩])] [] [27,28,29,32,33,34,35,36,37] [⟨some 37,[(31,false)],.bin .neq (.t 34) (.t 36)⟩,z 38 (.pick (.t 31) (.c (.b true)) (.t 37))]) (.ite (.t 38) (.seq
 (.reg [] [z 4 (.mov (.c (.b false)))]) (.ret)) (.skip)))))) (.reg [] [z 39 (.bin .add (.t 9) (.c (.i .i64 1))),zm 9 39])))
def p105:PFun:=⟨40,[.t 4],.seq (.reg [] [z 3 (.box 79 (.t 1)),z 4 (.mov (.c (.b false)))]) (.seq (.seq (.reg [] [zm 7 0,z 8 (.len false (.t 7)),z 9 (.mov (.c (.i .i64 0)))]) (.block 0 (.loop
 p105_0))) (.seq (.reg [] [z 4 (.mov (.c (.b true)))]) (.ret)))⟩
theorem c105:cFun Tryz.prog Tryz.f105=some p105:=by kernel_rfl
def p67_0:PCode:=.seq (.reg [] [z 16 (.bin .lss (.t 15) (.t 14))]) (.seq (.ite (.t 16) (.skip) (.exit 0)) (.seq (.block 1 (.seq (.reg [] [zm 17 15,z 18 (.idx 3 (.t 13) (.t 15)),zL 19 3 18,z 4
 (.alloc 79 [.i .i64 0,.s [],.i .i64 0]),zm 3 17,zs (.store 3 [none,none,none] (.t 4) (.t 19))]) (.seq (.seq (.reg [] [zm 20 0,zm 21 3,z 22 (.call 103 [.t 20,.t 21]),z 23
 (.un .not (.t 22))]) (.ite (.t 23) (.seq (.reg [] [z 2 (.mov (.c (.i .i64 1)))]) (.ret)) (.skip))) (.seq (.dreg [([zL 24 3 4],z 25 (.call 104 [.t 24]),[])] [zm 26 25,⟨some 27,
 [(26,true)],.mov (.t 0)⟩,⟨some 28,[(26,true)],.mov (.t 3)⟩,⟨some 29,[(26,true)],.slice 3 (.t 27) none (some (.t 28))⟩,⟨some 30,[(26,true)],.load (some 3) (.t 4)⟩] [27,
 28,29,30,31,32] [⟨some 31,[(26,true)],.call 105 [.t 29,.t 30]⟩,⟨some 32,[(26,true)],.un .not (.t 31)⟩,z 33 (.pick (.t 26) (.t 32) (.c (.b false)))]) (.ite (.t 33) (.seq
 (.reg [] [z 2 (.mov (.c (.i .i64 7)))]) (.ret)) (.skip)))))) (.reg [] [z 34 (.bin .add (.t 15) (.c (.i .i64 1))),zm 15 34])))
def p67:PFun:=⟨35,[.t 2],.seq (.reg [] [z 2 (.mov (.c (.i .i64 0)))]) (.seq (.seq (.reg [9,10,11] [zm 5 0,z 6 (.len false (.t 5)),z 7 (.bin .gtr (.t 6) (.c (.i .i64 512))),zm 8 7,⟨some 9,
 [(8,false)],.mov (.t 0)⟩,⟨some 10,[(8,false)],.call 102 [.t 9]⟩,⟨some 11,[(8,false)],.bin .gtr (.t 10) (.c (.i .i64 1024))⟩,z 12 (.pick (.t 8) (.c (.b true)) (.t 11))])
 (.ite (.t 12) (.seq (.reg [] [z 2 (.mov (.c (.i .i64 3)))]) (.ret)) (.skip))) (.seq (.seq (.reg [] [zm 13 0,z 14 (.len false (.t 13)),z 15 (.mov (.c (.i .i64 0)))]) (.block 0
 (.loop p67_0))) (.seq (.reg [] [z 2 (.mov (.c (.i .i64 0)))]) (.ret))))⟩
theorem c67:cFun Tryz.prog Tryz.f67=some p67:=by kernel_rfl
def p71_0:PCode:=.seq (.seq (.reg [] [zm 23 3,zm 24 0,z 25 (.len true (.t 24)),z 26 (.bin .lss (.t 23) (.t 25))]) (.ite (.t 26) (.skip) (.exit 0))) (.seq (.block 1 (.seq (.reg [] [zm 29 0,zm 30
 3,z 31 (.sidx (.t 29) (.t 30)),zm 4 31]) (.seq (.reg [35,36,39,40,41,42,43,44,47,48] [zm 32 4,z 33 (.bin .geq (.t 32) (.c (.i .u8 97))),zm 34 33,⟨some 35,[(34,
 true)],.mov (.t 4)⟩,⟨some 36,[(34,true)],.bin .leq (.t 35) (.c (.i .u8 122))⟩,z 37 (.pick (.t 34) (.t 36) (.c (.b false))),zm 38 37,⟨some 39,[(38,false)],.mov (.t 4)⟩,
 ⟨some 40,[(38,false)],.bin .geq (.t 39) (.c (.i .u8 48))⟩,⟨some 41,[(38,false)],.mov (.t 40)⟩,⟨some 42,[(38,false),(41,true)],.mov (.t 4)⟩,⟨some 43,[(38,false),(41,
 true)],.bin .leq (.t 42) (.c (.i .u8 57))⟩,⟨some 44,[(38,false)],.pick (.t 41) (.t 43) (.c (.b false))⟩,z 45 (.pick (.t 38) (.c (.b true)) (.t 44)),zm 46 45,⟨some 47,[(46,
 false)],.mov (.t 4)⟩,⟨some 48,[(46,false)],.bin .eql (.t 47) (.c (.i .u8 45))⟩,z 49 (.pick (.t 46) (.c (.b true)) (.t 48)),z 50 (.un .not (.t 49))]) (.ite (.t 50) (.seq (.reg
 [] [z 2 (.mov (.c (.b false)))]) (.ret)) (.skip))))) (.reg [] [zm 27 3,z 28 (.bin .add (.t 27) (.c (.i .i64 1))),zm 3 28]))
def p71:PFun:=⟨51,[.t 2],.seq (.reg [] [z 2 (.mov (.c (.b false)))]) (.seq (.seq (.reg [9,10,11,14,15,16,19,20,21] [zm 5 0,z 6 (.len true (.t 5)),z 7 (.bin .lss (.t 6) (.c (.i .i64
 1))),zm 8 7,⟨some 9,[(8,false)],.mov (.t 0)⟩,⟨some 10,[(8,false)],.len true (.t 9)⟩,⟨some 11,[(8,false)],.bin .gtr (.t 10) (.c (.i .i64 24))⟩,z 12 (.pick (.t 8) (.c
 (.b true)) (.t 11)),zm 13 12,⟨some 14,[(13,false)],.mov (.t 0)⟩,⟨some 15,[(13,false)],.sidx (.t 14) (.c (.i .i64 0))⟩,⟨some 16,[(13,false)],.bin .lss (.t 15) (.c (.i
 .u8 97))⟩,z 17 (.pick (.t 13) (.c (.b true)) (.t 16)),zm 18 17,⟨some 19,[(18,false)],.mov (.t 0)⟩,⟨some 20,[(18,false)],.sidx (.t 19) (.c (.i .i64 0))⟩,⟨some 21,[(18,
 false)],.bin .gtr (.t 20) (.c (.i .u8 122))⟩,z 22 (.pick (.t 18) (.c (.b true)) (.t 21))]) (.ite (.t 22) (.seq (.reg [] [z 2 (.mov (.c (.b false)))]) (.ret)) (.skip))) (.seq (.seq
 (.reg [] [z 3 (.mov (.c (.i .i64 1)))]) (.block 0 (.loop p71_0))) (.seq (.reg [] [z 2 (.mov (.c (.b true)))]) (.ret))))⟩
theorem c71:cFun Tryz.prog Tryz.f71=some p71:=by kernel_rfl
def p172:PFun:=⟨51,[.t 2],.seq (.reg [] [z 2 (.mov (.c (.i .i64 0)))]) (.seq (.block 0 (.seq (.reg [7,8,11,12,15,16] [zm 4 0,z 5 (.bin .eql (.t 4) (.c (.i .u8 9))),zm 6 5,⟨some 7,[(6,
 false)],.mov (.t 0)⟩,⟨some 8,[(6,false)],.bin .eql (.t 7) (.c (.i .u8 10))⟩,z 9 (.pick (.t 6) (.c (.b true)) (.t 8)),zm 10 9,⟨some 11,[(10,false)],.mov (.t 0)⟩,⟨some 12,
 [(10,false)],.bin .eql (.t 11) (.c (.i .u8 13))⟩,z 13 (.pick (.t 10) (.c (.b true)) (.t 12)),zm 14 13,⟨some 15,[(14,false)],.mov (.t 0)⟩,⟨some 16,[(14,false)],.bin .eql
 (.t 15) (.c (.i .u8 32))⟩,z 17 (.pick (.t 14) (.c (.b true)) (.t 16)),zm 3 17]) (.ite (.t 3) (.seq (.reg [] [z 2 (.mov (.c (.i .i64 2)))]) (.ret)) (.seq (.reg [22,23] [zm 19 0,z
 20 (.bin .lss (.t 19) (.c (.i .u8 32))),zm 21 20,⟨some 22,[(21,false)],.mov (.t 0)⟩,⟨some 23,[(21,false)],.bin .eql (.t 22) (.c (.i .u8 127))⟩,z 24 (.pick (.t 21) (.c (.b
 true)) (.t 23)),zm 18 24]) (.ite (.t 18) (.seq (.reg [] [z 2 (.mov (.c (.i .i64 1)))]) (.ret)) (.seq (.reg [29,30] [zm 26 0,z 27 (.bin .geq (.t 26) (.c (.i .u8 48))),zm 28 27,
 ⟨some 29,[(28,true)],.mov (.t 0)⟩,⟨some 30,[(28,true)],.bin .leq (.t 29) (.c (.i .u8 57))⟩,z 31 (.pick (.t 28) (.t 30) (.c (.b false))),zm 25 31]) (.ite (.t 25) (.seq (.reg
 [] [z 2 (.mov (.c (.i .i64 3)))]) (.ret)) (.seq (.reg [36,37,40,41,42,43,44,45,48,49] [zm 33 0,z 34 (.bin .geq (.t 33) (.c (.i .u8 97))),zm 35 34,⟨some 36,[(35,true)],
 .mov (.t 0)⟩,⟨some 37,[(35,true)],.bin .leq (.t 36) (.c (.i .u8 122))⟩,z 38 (.pick (.t 35) (.t 37) (.c (.b false))),zm 39 38,⟨some 40,[(39,false)],.mov (.t 0)⟩,⟨some 41,
 [(39,false)],.bin .geq (.t 40) (.c (.i .u8 65))⟩,⟨some 42,[(39,false)],.mov (.t 41)⟩,⟨some 43,[(39,false),(42,true)],.mov (.t 0)⟩,⟨some 44,[(39,false),(42,true)],
 .bin .leq (.t 43) (.c (.i .u8 90))⟩,⟨some 45,[(39,false)],.pick (.t 42) (.t 44) (.c (.b false))⟩,z 46 (.pick (.t 39) (.c (.b true)) (.t 45)),zm 47 46,⟨some 48,[(47,false)],
 .mov (.t 0)⟩,⟨some 49,[(47,false)],.bin .geq (.t 48) (.c (.i .u8 128))⟩,z 50 (.pick (.t 47) (.c (.b true)) (.t 49)),zm 32 50]) (.ite (.t 32) (.seq (.reg [] [z 2 (.mov (.c (.i
 .i64 4)))]) (.ret)) (.skip)))))))))) (.seq (.reg [] [z 2 (.mov (.c (.i .i64 5)))]) (.ret)))⟩
theorem c172:cFun Tryz.prog Tryz.f172=some p172:=by kernel_rfl
def p48:PFun:=⟨31,[.t 2],.seq (.reg [] [z 1 (.box 30 (.t 0)),z 2 (.mov (.c (.i .i64 0)))]) (.seq (.seq (.reg [7,8,9,12,13,14,17,18,19,22,23,24,27,28,29] [zf 3 0 1,zl 4 3,z 5
 (.bin .lss (.t 4) (.c (.i .i64 1))),zm 6 5,⟨some 7,[(6,false)],.fld 0 (.t 1)⟩,⟨some 8,[(6,false)],.load none (.t 7)⟩,⟨some 9,[(6,false)],.bin .gtr (.t 8) (.c (.i .i64
 1073741824))⟩,z 10 (.pick (.t 6) (.c (.b true)) (.t 9)),zm 11 10,⟨some 12,[(11,false)],.fld 1 (.t 1)⟩,⟨some 13,[(11,false)],.load none (.t 12)⟩,⟨some 14,[(11,false)],
 .bin .lss (.t 13) (.c (.i .i64 0))⟩,z 15 (.pick (.t 11) (.c (.b true)) (.t 14)),zm 16 15,⟨some 17,[(16,false)],.fld 1 (.t 1)⟩,⟨some 18,[(16,false)],.load none (.t 17)⟩,
 ⟨some 19,[(16,false)],.bin .geq (.t 18) (.c (.i .i64 8))⟩,z 20 (.pick (.t 16) (.c (.b true)) (.t 19)),zm 21 20,⟨some 22,[(21,false)],.fld 2 (.t 1)⟩,⟨some 23,[(21,
 false)],.load none (.t 22)⟩,⟨some 24,[(21,false)],.bin .lss (.t 23) (.c (.i .i64 1))⟩,z 25 (.pick (.t 21) (.c (.b true)) (.t 24)),zm 26 25,⟨some 27,[(26,false)],.fld 2
 (.t 1)⟩,⟨some 28,[(26,false)],.load none (.t 27)⟩,⟨some 29,[(26,false)],.bin .gtr (.t 28) (.c (.i .i64 128))⟩,z 30 (.pick (.t 26) (.c (.b true)) (.t 29))]) (.ite (.t 30)
 (.seq (.reg [] [z 2 (.mov (.c (.i .i64 1)))]) (.ret)) (.skip))) (.seq (.reg [] [z 2 (.mov (.c (.i .i64 0)))]) (.ret)))⟩
theorem c48:cFun Tryz.prog Tryz.f48=some p48:=by kernel_rfl
def p50:PFun:=⟨22,[.t 4],.seq (.reg [] [z 4 (.mov (.c (.i .i64 0)))]) (.seq (.seq (.reg [8,9,10,11,14,15] [zm 5 1,z 6 (.bin .lss (.t 5) (.c (.i .i64 0))),zm 7 6,⟨some 8,[(7,false)],
 .mov (.t 1)⟩,⟨some 9,[(7,false)],.mov (.t 0)⟩,⟨some 10,[(7,false)],.len false (.t 9)⟩,⟨some 11,[(7,false)],.bin .geq (.t 8) (.t 10)⟩,z 12 (.pick (.t 7) (.c (.b true))
 (.t 11)),zm 13 12,⟨some 14,[(13,false)],.mov (.t 1)⟩,⟨some 15,[(13,false)],.bin .geq (.t 14) (.c (.i .i64 8))⟩,z 16 (.pick (.t 13) (.c (.b true)) (.t 15))]) (.ite (.t 16)
 (.seq (.reg [] [z 4 (.mov (.c (.i .i64 0)))]) (.ret)) (.skip))) (.seq (.reg [] [zm 17 0,zm 18 1,z 19 (.idx 1 (.t 17) (.t 18)),zl 20 19,z 21 (.max2 (.t 20) (.c (.i .i64 0))),zm
 4 21]) (.ret)))⟩
theorem c50:cFun Tryz.prog Tryz.f50=some p50:=by kernel_rfl
def p167:PFun:=⟨22,[.t 4],.seq (.reg [] [z 2 (.box 30 (.t 0)),z 3 (.box 30 (.t 1)),z 4 (.mov (.c (.i .i64 0)))]) (.seq (.dreg [([zf 5 0 2,zl 6 5,zf 7 0 3,zl 8 7,zf 10 1 2,zl 11 10,zf 12
 1 3,zl 13 12,zf 15 2 2,zl 16 15,zf 17 2 3,zl 18 17],z 9 (.call 56 [.t 6,.t 8]),[zf 10 1 2,zl 11 10,zf 12 1 3,zl 13 12,zf 15 2 2,zl 16 15,zf 17 2 3,zl 18 17]),([],z
 14 (.call 56 [.t 11,.t 13]),[zf 15 2 2,zl 16 15,zf 17 2 3,zl 18 17])] [] [] [z 19 (.call 56 [.t 16,.t 18]),z 20 (.bslice 1 [none] [.t 9,.t 14,.t 19]),z 21 (.call 55 [.t
 20]),zm 4 21]) (.ret))⟩
theorem c167:cFun Tryz.prog Tryz.f167=some p167:=by kernel_rfl
def p66_0:PCode:=.seq (.reg [] [z 9 (.bin .lss (.t 8) (.c (.i .i64 8)))]) (.seq (.ite (.t 9) (.skip) (.exit 0)) (.seq (.block 1 (.seq (.reg [] [zm 10 8,zm 6 10]) (.seq (.reg [] [zm 11 0,zm 12 6,z
 13 (.call 50 [.t 11,.t 12]),zm 14 1,zm 15 6,z 16 (.call 50 [.t 14,.t 15]),z 17 (.max2 (.t 13) (.t 16)),zm 7 17]) (.seq (.reg [] [zm 18 4,zm 19 7,z 20 (.bslice 1 [none] [.t
 19]),z 21 (.app 3 1 8 (.t 18) (.t 20)),zm 4 21]) (.seq (.reg [] [zm 22 7,z 23 (.bin .neq (.t 22) (.c (.i .i64 0)))]) (.ite (.t 23) (.reg [] [zm 24 6,z 25 (.bin .add (.t 24) (.c
 (.i .i64 1))),zm 5 25]) (.skip))))))) (.reg [] [z 26 (.bin .add (.t 8) (.c (.i .i64 1))),zm 8 26])))
def p66:PFun:=⟨30,[.t 4],.seq (.reg [] [z 4 (.mov (.c .nil))]) (.seq (.reg [] [z 5 (.mov (.c (.i .i64 0)))]) (.seq (.seq (.reg [] [z 8 (.mov (.c (.i .i64 0)))]) (.block 0 (.loop p66_0))) (.seq
 (.reg [] [zm 27 4,zm 28 5,z 29 (.slice 1 (.t 27) none (some (.t 28))),zm 4 29]) (.ret))))⟩
theorem c66:cFun Tryz.prog Tryz.f66=some p66:=by kernel_rfl
def p32:PFun:=⟨5,[.t 2],.seq (.reg [] [z 2 (.mov (.c .nil))]) (.seq (.reg [] [zm 3 0,z 4 (.call 66 [.t 3,.c .nil]),zm 2 4]) (.ret))⟩
theorem c32:cFun Tryz.prog Tryz.f32=some p32:=by kernel_rfl
def p56:PFun:=⟨20,[.t 4],.seq (.reg [] [z 4 (.mov (.c (.i .i64 0)))]) (.seq (.reg [] [zm 7 0,z 8 (.call 86 [.t 7]),zm 5 8]) (.seq (.reg [] [zm 9 1,z 10 (.call 86 [.t 9]),zm 6 10]) (.seq
 (.seq (.reg [] [zm 11 5]) (.ite (.t 11) (.seq (.seq (.reg [] [zm 12 6]) (.ite (.t 12) (.seq (.reg [] [z 4 (.mov (.c (.i .i64 0)))]) (.ret)) (.skip))) (.seq (.reg [] [z 4 (.mov (.c
 (.i .i64 (-1))))]) (.ret))) (.skip))) (.seq (.seq (.reg [] [zm 13 6]) (.ite (.t 13) (.seq (.reg [] [z 4 (.mov (.c (.i .i64 1)))]) (.ret)) (.skip))) (.seq (.seq (.reg [] [zm 14 0,zm
 15 1,z 16 (.bin .lss (.t 14) (.t 15))]) (.ite (.t 16) (.seq (.reg [] [z 4 (.mov (.c (.i .i64 (-1))))]) (.ret)) (.skip))) (.seq (.seq (.reg [] [zm 17 0,zm 18 1,z 19 (.bin .gtr (.t
 17) (.t 18))]) (.ite (.t 19) (.seq (.reg [] [z 4 (.mov (.c (.i .i64 1)))]) (.ret)) (.skip))) (.seq (.reg [] [z 4 (.mov (.c (.i .i64 0)))]) (.ret))))))))⟩
theorem c56:cFun Tryz.prog Tryz.f56=some p56:=by kernel_rfl
def p86:PFun:=⟨6,[.t 2],.seq (.reg [] [z 2 (.mov (.c (.b false)))]) (.seq (.reg [] [zm 3 0,zm 4 0,z 5 (.bin .neq (.t 3) (.t 4)),zm 2 5]) (.ret))⟩
theorem c86:cFun Tryz.prog Tryz.f86=some p86:=by kernel_rfl
def p55_0:PCode:=.seq (.reg [] [z 9 (.bin .lss (.t 8) (.t 7))]) (.seq (.ite (.t 9) (.skip) (.exit 0)) (.seq (.block 1 (.seq (.reg [] [z 10 (.idx 1 (.t 6) (.t 8)),zl 11 10,zm 5 11]) (.seq (.reg []
 [zm 12 5,zm 13 3,z 14 (.bin .neq (.t 12) (.t 13))]) (.ite (.t 14) (.seq (.reg [] [zm 15 5,zm 2 15]) (.ret)) (.skip))))) (.reg [] [z 16 (.bin .add (.t 8) (.c (.i .i64 1))),zm 8
 16])))
def p55:PFun:=⟨18,[.t 2],.seq (.reg [] [z 2 (.mov (.c (.i .i64 0)))]) (.seq (.reg [] [z 3 (.mov (.c (.i .i64 0)))]) (.seq (.seq (.reg [] [zm 6 0,z 7 (.len false (.t 6)),z 8 (.mov (.c (.i .i64
 0)))]) (.block 0 (.loop p55_0))) (.seq (.reg [] [zm 17 3,zm 2 17]) (.ret))))⟩
theorem c55:cFun Tryz.prog Tryz.f55=some p55:=by kernel_rfl
def p49_0:PCode:=.seq (.reg [] [z 14 (.bin .lss (.t 13) (.t 12))]) (.seq (.ite (.t 14) (.skip) (.exit 0)) (.seq (.block 1 (.seq (.reg [] [zm 15 13,zm 5 15]) (.seq (.dreg [] [zm 16 0,zm 17 5,z 18
 (.idx 1 (.t 16) (.t 17)),zl 19 18,zm 20 1,zm 21 5,z 22 (.idx 1 (.t 20) (.t 21)),zl 23 22] [] [z 24 (.bin .neq (.t 19) (.t 23))]) (.ite (.t 24) (.seq (.reg [] [z 4 (.mov (.c (.b
 false)))]) (.ret)) (.skip))))) (.reg [] [z 25 (.bin .add (.t 13) (.c (.i .i64 1))),zm 13 25])))
def p49:PFun:=⟨26,[.t 4],.seq (.reg [] [z 4 (.mov (.c (.b false)))]) (.seq (.seq (.reg [] [zm 6 0,z 7 (.len false (.t 6)),zm 8 1,z 9 (.len false (.t 8)),z 10 (.bin .neq (.t 7) (.t 9))])
 (.ite (.t 10) (.seq (.reg [] [z 4 (.mov (.c (.b false)))]) (.ret)) (.skip))) (.seq (.seq (.reg [] [zm 11 0,z 12 (.len false (.t 11)),z 13 (.mov (.c (.i .i64 0)))]) (.block 0
 (.loop p49_0))) (.seq (.reg [] [z 4 (.mov (.c (.b true)))]) (.ret))))⟩
theorem c49:cFun Tryz.prog Tryz.f49=some p49:=by kernel_rfl
def p170:PFun:=⟨13,[.t 4,.t 5,.t 6],.seq (.reg [] [z 4 (.mov (.c (.s []))),z 5 (.mov (.c (.s []))),z 6 (.mov (.c (.b false)))]) (.seq (.reg [] [zm 7 0,zm 8 1,z 9 (.call 190 [.t 7,.t 8]),
 z 10 (.ext 0 (.t 9)),z 11 (.ext 1 (.t 9)),z 12 (.ext 2 (.t 9)),zm 4 10,zm 5 11,zm 6 12]) (.ret))⟩
theorem c170:cFun Tryz.prog Tryz.f170=some p170:=by kernel_rfl
def p150:PFun:=⟨8,[.t 4],.seq (.reg [] [z 4 (.mov (.c (.i .i64 0)))]) (.seq (.reg [] [zm 5 0,zm 6 1,z 7 (.call 173 [.t 5,.t 6]),zm 4 7]) (.ret))⟩
theorem c150:cFun Tryz.prog Tryz.f150=some p150:=by kernel_rfl
def p174:PFun:=⟨8,[.t 4],.seq (.reg [] [z 4 (.mov (.c (.b false)))]) (.seq (.reg [] [zm 5 0,zm 6 1,z 7 (.call 192 [.t 5,.t 6]),zm 4 7]) (.ret))⟩
theorem c174:cFun Tryz.prog Tryz.f174=some p174:=by kernel_rfl
def p175:PFun:=⟨8,[.t 4],.seq (.reg [] [z 4 (.mov (.c (.b false)))]) (.seq (.reg [] [zm 5 0,zm 6 1,z 7 (.call 193 [.t 5,.t 6]),zm 4 7]) (.ret))⟩
theorem c175:cFun Tryz.prog Tryz.f175=some p175:=by kernel_rfl
def p190:PFun:=⟨23,[.t 4,.t 5,.t 6],.seq (.reg [] [z 4 (.mov (.c (.s []))),z 5 (.mov (.c (.s []))),z 6 (.mov (.c (.b false)))]) (.seq (.seq (.reg [] [zm 8 0,zm 9 1,z 10 (.call 202 [.t 8,
 .t 9]),zm 7 10]) (.seq (.reg [] [zm 11 7,z 12 (.bin .geq (.t 11) (.c (.i .i64 0)))]) (.ite (.t 12) (.seq (.dreg [] [zm 13 0,zm 14 7,z 15 (.sslice (.t 13) none (some (.t 14))),
 zm 16 0,zm 17 7,zm 18 1,z 19 (.len true (.t 18)),z 20 (.bin .add (.t 17) (.t 19)),z 21 (.sslice (.t 16) (some (.t 20)) none),zm 4 15] [] [zm 5 21,z 6 (.mov (.c (.b true)))])
 (.ret)) (.skip)))) (.seq (.reg [] [zm 22 0,zm 4 22,z 5 (.mov (.c (.s []))),z 6 (.mov (.c (.b false)))]) (.ret)))⟩
theorem c190:cFun Tryz.prog Tryz.f190=some p190:=by kernel_rfl
def p192:PFun:=⟨18,[.t 4],.seq (.reg [] [z 4 (.mov (.c (.b false)))]) (.seq (.reg [11,12,13,14,15,16] [zm 5 0,z 6 (.len true (.t 5)),zm 7 1,z 8 (.len true (.t 7)),z 9 (.bin .geq (.t 6)
 (.t 8)),zm 10 9,⟨some 11,[(10,true)],.mov (.t 0)⟩,⟨some 12,[(10,true)],.mov (.t 1)⟩,⟨some 13,[(10,true)],.len true (.t 12)⟩,⟨some 14,[(10,true)],.sslice (.t 11)
 none (some (.t 13))⟩,⟨some 15,[(10,true)],.mov (.t 1)⟩,⟨some 16,[(10,true)],.bin .eql (.t 14) (.t 15)⟩,z 17 (.pick (.t 10) (.t 16) (.c (.b false))),zm 4 17]) (.ret))⟩
theorem c192:cFun Tryz.prog Tryz.f192=some p192:=by kernel_rfl
def p193:PFun:=⟨21,[.t 4],.seq (.reg [] [z 4 (.mov (.c (.b false)))]) (.seq (.reg [11,12,13,14,15,16,17,18,19] [zm 5 0,z 6 (.len true (.t 5)),zm 7 1,z 8 (.len true (.t 7)),z 9 (.bin
 .geq (.t 6) (.t 8)),zm 10 9,⟨some 11,[(10,true)],.mov (.t 0)⟩,⟨some 12,[(10,true)],.mov (.t 0)⟩,⟨some 13,[(10,true)],.len true (.t 12)⟩,⟨some 14,[(10,true)],.mov
 (.t 1)⟩,⟨some 15,[(10,true)],.len true (.t 14)⟩,⟨some 16,[(10,true)],.bin .sub (.t 13) (.t 15)⟩,⟨some 17,[(10,true)],.sslice (.t 11) (some (.t 16)) none⟩,⟨some 18,
 [(10,true)],.mov (.t 1)⟩,⟨some 19,[(10,true)],.bin .eql (.t 17) (.t 18)⟩,z 20 (.pick (.t 10) (.t 19) (.c (.b false))),zm 4 20]) (.ret))⟩
theorem c193:cFun Tryz.prog Tryz.f193=some p193:=by kernel_rfl
def p153:PFun:=⟨13,[.t 2],.seq (.reg [] [z 2 (.mov (.c (.s [])))]) (.seq (.reg [] [zm 7 0,z 8 (.call 170 [.t 7,.c (.s [32])]),zm 6 8,z 9 (.ext 0 (.t 6)),z 10 (.ext 1 (.t 6)),z 11 (.ext 2
 (.t 6)),zm 3 9,zm 4 10,zm 5 11]) (.seq (.reg [] [zm 12 3,zm 2 12]) (.ret)))⟩
theorem c153:cFun Tryz.prog Tryz.f153=some p153:=by kernel_rfl
def p171:PFun:=⟨23,[.t 2,.t 3],.seq (.reg [] [z 2 (.mov (.c (.i .u8 0))),z 3 (.mov (.c (.b false)))]) (.seq (.block 0 (.seq (.reg [8,9] [zm 5 0,z 6 (.bin .geq (.t 5) (.c (.i .u8 48))),zm 7
 6,⟨some 8,[(7,true)],.mov (.t 0)⟩,⟨some 9,[(7,true)],.bin .leq (.t 8) (.c (.i .u8 57))⟩,z 10 (.pick (.t 7) (.t 9) (.c (.b false))),zm 4 10]) (.ite (.t 4) (.seq (.reg []
 [zm 11 0,z 12 (.bin .sub (.t 11) (.c (.i .u8 48))),zm 2 12,z 3 (.mov (.c (.b true)))]) (.ret)) (.seq (.reg [17,18] [zm 14 0,z 15 (.bin .geq (.t 14) (.c (.i .u8 97))),zm 16 15,
 ⟨some 17,[(16,true)],.mov (.t 0)⟩,⟨some 18,[(16,true)],.bin .leq (.t 17) (.c (.i .u8 102))⟩,z 19 (.pick (.t 16) (.t 18) (.c (.b false))),zm 13 19]) (.ite (.t 13) (.seq
 (.reg [] [zm 20 0,z 21 (.bin .sub (.t 20) (.c (.i .u8 97))),z 22 (.bin .add (.t 21) (.c (.i .u8 10))),zm 2 22,z 3 (.mov (.c (.b true)))]) (.ret)) (.skip)))))) (.seq (.reg [] [z
 2 (.mov (.c (.i .u8 0))),z 3 (.mov (.c (.b false)))]) (.ret)))⟩
theorem c171:cFun Tryz.prog Tryz.f171=some p171:=by kernel_rfl
def p149:PFun:=⟨60,[.t 2,.t 3,.t 4],.seq (.reg [] [z 2 (.mov (.c (.i .u8 0))),z 3 (.mov (.c (.i .i64 0))),z 4 (.mov (.c (.b false)))]) (.seq (.seq (.reg [] [zm 10 0,z 11 (.len true (.t
 10)),z 12 (.bin .lss (.t 11) (.c (.i .i64 2)))]) (.ite (.t 12) (.seq (.reg [] [z 2 (.mov (.c (.i .u8 0))),z 3 (.mov (.c (.i .i64 0))),z 4 (.mov (.c (.b false)))]) (.ret))
 (.skip))) (.seq (.seq (.reg [] [zm 13 0,z 14 (.sidx (.t 13) (.c (.i .i64 1)))]) (.block 0 (.seq (.seq (.reg [] [z 16 (.bin .eql (.t 14) (.c (.i .u8 92))),zm 15 16]) (.ite (.t 15)
 (.skip) (.seq (.reg [] [z 17 (.bin .eql (.t 14) (.c (.i .u8 60))),zm 15 17]) (.ite (.t 15) (.skip) (.reg [] [z 18 (.bin .eql (.t 14) (.c (.i .u8 123))),zm 15 18]))))) (.ite (.t
 15) (.seq (.reg [] [zm 19 0,z 20 (.sidx (.t 19) (.c (.i .i64 1))),zm 2 20,z 3 (.mov (.c (.i .i64 2))),z 4 (.mov (.c (.b true)))]) (.ret)) (.seq (.reg [] [z 22 (.bin .eql (.t 14)
 (.c (.i .u8 110))),zm 21 22]) (.ite (.t 21) (.seq (.reg [] [z 2 (.mov (.c (.i .u8 10))),z 3 (.mov (.c (.i .i64 2))),z 4 (.mov (.c (.b true)))]) (.ret)) (.seq (.reg [] [z 24 (.bin
 .eql (.t 14) (.c (.i .u8 116))),zm 23 24]) (.ite (.t 23) (.seq (.reg [] [z 2 (.mov (.c (.i .u8 9))),z 3 (.mov (.c (.i .i64 2))),z 4 (.mov (.c (.b true)))]) (.ret)) (.seq (.reg []
 [z 26 (.bin .eql (.t 14) (.c (.i .u8 120))),zm 25 26]) (.ite (.t 25) (.seq (.seq (.reg [] [zm 27 0,z 28 (.len true (.t 27)),z 29 (.bin .lss (.t 28) (.c (.i .i64 4)))]) (.ite (.t
 29) (.seq (.reg [] [z 2 (.mov (.c (.i .u8 0))),z 3 (.mov (.c (.i .i64 0))),z 4 (.mov (.c (.b false)))]) (.ret)) (.skip))) (.seq (.reg [] [zm 31 0,z 32 (.sidx (.t 31) (.c (.i .i64
 2))),z 33 (.call 171 [.t 32]),zm 30 33,z 34 (.ext 0 (.t 30)),z 35 (.ext 1 (.t 30)),zm 5 34,zm 6 35]) (.seq (.reg [] [zm 37 0,z 38 (.sidx (.t 37) (.c (.i .i64 3))),z 39
 (.call 171 [.t 38]),zm 36 39,z 40 (.ext 0 (.t 36)),z 41 (.ext 1 (.t 36)),zm 7 40,zm 8 41]) (.seq (.reg [] [zm 42 5,z 43 (.bin .shl (.t 42) (.c (.i .u64 4))),zm 44 7,z 45
 (.bin .or (.t 43) (.t 44)),zm 9 45]) (.seq (.reg [49,52,53,54,55,56,57,58] [zm 46 9,zm 47 6,zm 48 47,⟨some 49,[(48,true)],.mov (.t 8)⟩,z 50 (.pick (.t 48) (.t 49) (.c
 (.b false))),zm 51 50,⟨some 52,[(51,true)],.mov (.t 9)⟩,⟨some 53,[(51,true)],.bin .eql (.t 52) (.c (.i .u8 13))⟩,⟨some 54,[(51,true)],.mov (.t 53)⟩,⟨some 55,[(51,
 true),(54,false)],.mov (.t 9)⟩,⟨some 56,[(51,true),(54,false)],.call 172 [.t 55]⟩,⟨some 57,[(51,true),(54,false)],.bin .eql (.t 56) (.c (.i .i64 1))⟩,⟨some 58,[(51,
 true)],.pick (.t 54) (.c (.b true)) (.t 57)⟩,z 59 (.pick (.t 51) (.t 58) (.c (.b false))),zm 2 46,z 3 (.mov (.c (.i .i64 4))),zm 4 59]) (.ret)))))) (.skip))))))))))) (.seq
 (.reg [] [z 2 (.mov (.c (.i .u8 0))),z 3 (.mov (.c (.i .i64 0))),z 4 (.mov (.c (.b false)))]) (.ret))))⟩
theorem c149:cFun Tryz.prog Tryz.f149=some p149:=by kernel_rfl
def p176_0:PCode:=.seq (.seq (.reg [] [zm 19 5,zm 20 0,z 21 (.len true (.t 20)),z 22 (.bin .lss (.t 19) (.t 21))]) (.ite (.t 22) (.skip) (.exit 0))) (.seq (.block 1 (.seq (.seq (.reg [30,31,32,
 33] [zm 25 0,zm 26 5,z 27 (.sidx (.t 25) (.t 26)),z 28 (.bin .lss (.t 27) (.c (.i .u8 48))),zm 29 28,⟨some 30,[(29,false)],.mov (.t 0)⟩,⟨some 31,[(29,false)],.mov (.t
 5)⟩,⟨some 32,[(29,false)],.sidx (.t 30) (.t 31)⟩,⟨some 33,[(29,false)],.bin .gtr (.t 32) (.c (.i .u8 57))⟩,z 34 (.pick (.t 29) (.c (.b true)) (.t 33))]) (.ite (.t 34) (.seq
 (.reg [] [z 2 (.mov (.c (.i .i64 0))),z 3 (.mov (.c (.b false)))]) (.ret)) (.skip))) (.reg [] [zm 35 4,z 36 (.bin .mul (.c (.i .i64 10)) (.t 35)),zm 37 0,zm 38 5,z 39 (.sidx
 (.t 37) (.t 38)),z 40 (.bin .sub (.t 39) (.c (.i .u8 48))),z 41 (.cvi .i64 (.t 40)),z 42 (.bin .add (.t 36) (.t 41)),zm 4 42]))) (.reg [] [zm 23 5,z 24 (.bin .add (.t 23) (.c
 (.i .i64 1))),zm 5 24]))
def p176:PFun:=⟨46,[.t 2,.t 3],.seq (.reg [] [z 2 (.mov (.c (.i .i64 0))),z 3 (.mov (.c (.b false)))]) (.seq (.seq (.reg [10,11,12,15,16,17] [zm 6 0,z 7 (.len true (.t 6)),z 8 (.bin
 .lss (.t 7) (.c (.i .i64 1))),zm 9 8,⟨some 10,[(9,false)],.mov (.t 0)⟩,⟨some 11,[(9,false)],.len true (.t 10)⟩,⟨some 12,[(9,false)],.bin .gtr (.t 11) (.c (.i .i64 3))⟩,
 z 13 (.pick (.t 9) (.c (.b true)) (.t 12)),zm 14 13,⟨some 15,[(14,false)],.mov (.t 0)⟩,⟨some 16,[(14,false)],.sidx (.t 15) (.c (.i .i64 0))⟩,⟨some 17,[(14,false)],.bin
 .eql (.t 16) (.c (.i .u8 48))⟩,z 18 (.pick (.t 14) (.c (.b true)) (.t 17))]) (.ite (.t 18) (.seq (.reg [] [z 2 (.mov (.c (.i .i64 0))),z 3 (.mov (.c (.b false)))]) (.ret))
 (.skip))) (.seq (.reg [] [z 4 (.mov (.c (.i .i64 0)))]) (.seq (.seq (.reg [] [z 5 (.mov (.c (.i .i64 0)))]) (.block 0 (.loop p176_0))) (.seq (.reg [] [zm 43 4,zm 44 4,z 45 (.bin
 .leq (.t 44) (.c (.i .i64 999))),zm 2 43,zm 3 45]) (.ret)))))⟩
theorem c176:cFun Tryz.prog Tryz.f176=some p176:=by kernel_rfl
def p152:PFun:=⟨30,[.t 2],.seq (.reg [] [z 2 (.mov (.c (.b false)))]) (.seq (.reg [6,7,10,11,14,15,18,19,22,23,26,27,28] [zm 3 0,z 4 (.bin .neq (.t 3) (.c (.i .u8 92))),zm 5 4,
 ⟨some 6,[(5,true)],.mov (.t 0)⟩,⟨some 7,[(5,true)],.bin .neq (.t 6) (.c (.i .u8 60))⟩,z 8 (.pick (.t 5) (.t 7) (.c (.b false))),zm 9 8,⟨some 10,[(9,true)],.mov (.t 0)⟩,
 ⟨some 11,[(9,true)],.bin .neq (.t 10) (.c (.i .u8 123))⟩,z 12 (.pick (.t 9) (.t 11) (.c (.b false))),zm 13 12,⟨some 14,[(13,true)],.mov (.t 0)⟩,⟨some 15,[(13,true)],
 .bin .neq (.t 14) (.c (.i .u8 9))⟩,z 16 (.pick (.t 13) (.t 15) (.c (.b false))),zm 17 16,⟨some 18,[(17,true)],.mov (.t 0)⟩,⟨some 19,[(17,true)],.bin .neq (.t 18) (.c (.i
 .u8 10))⟩,z 20 (.pick (.t 17) (.t 19) (.c (.b false))),zm 21 20,⟨some 22,[(21,true)],.mov (.t 0)⟩,⟨some 23,[(21,true)],.bin .neq (.t 22) (.c (.i .u8 13))⟩,z 24 (.pick (.t
 21) (.t 23) (.c (.b false))),zm 25 24,⟨some 26,[(25,true)],.mov (.t 0)⟩,⟨some 27,[(25,true)],.call 172 [.t 26]⟩,⟨some 28,[(25,true)],.bin .neq (.t 27) (.c (.i .i64
 1))⟩,z 29 (.pick (.t 25) (.t 28) (.c (.b false))),zm 2 29]) (.ret))⟩
theorem c152:cFun Tryz.prog Tryz.f152=some p152:=by kernel_rfl
def p135_0:PCode:=.seq (.seq (.reg [] [zm 7 5,zm 8 1,z 9 (.len true (.t 8)),z 10 (.bin .lss (.t 7) (.t 9))]) (.ite (.t 10) (.skip) (.exit 0))) (.seq (.block 1 (.seq (.reg [] [zm 13 1,zm 14 5,z
 15 (.sidx (.t 13) (.t 14)),zm 6 15]) (.block 2 (.seq (.reg [] [zm 26 6,z 27 (.call 152 [.t 26]),zm 25 27]) (.ite (.t 25) (.reg [] [zm 28 0,zm 29 6,z 30 (.bslice 1 [none] [.t
 29]),z 31 (.app 5 1 1 (.t 28) (.t 30)),zm 0 31]) (.seq (.reg [] [zm 33 6,z 34 (.bin .eql (.t 33) (.c (.i .u8 10))),zm 32 34]) (.ite (.t 32) (.reg [] [zm 35 0,z 36 (.bslice 1
 [none] [.c (.i .u8 92),.c (.i .u8 110)]),z 37 (.app 5 1 1 (.t 35) (.t 36)),zm 0 37]) (.seq (.reg [] [zm 39 6,z 40 (.bin .eql (.t 39) (.c (.i .u8 9))),zm 38 40]) (.ite (.t 38)
 (.reg [] [zm 41 0,z 42 (.bslice 1 [none] [.c (.i .u8 92),.c (.i .u8 116)]),z 43 (.app 5 1 1 (.t 41) (.t 42)),zm 0 43]) (.seq (.reg [48,49,52,53] [zm 45 6,z 46 (.bin .eql (.t
 45) (.c (.i .u8 92))),zm 47 46,⟨some 48,[(47,false)],.mov (.t 6)⟩,⟨some 49,[(47,false)],.bin .eql (.t 48) (.c (.i .u8 60))⟩,z 50 (.pick (.t 47) (.c (.b true)) (.t 49)),zm
 51 50,⟨some 52,[(51,false)],.mov (.t 6)⟩,⟨some 53,[(51,false)],.bin .eql (.t 52) (.c (.i .u8 123))⟩,z 54 (.pick (.t 51) (.c (.b true)) (.t 53)),zm 44 54]) (.ite (.t 44)
 (.reg [] [zm 55 0,zm 56 6,z 57 (.bslice 1 [none] [.c (.i .u8 92),.t 56]),z 58 (.app 5 1 1 (.t 55) (.t 57)),zm 0 58]) (.dreg [] [zm 16 0,zm 17 6,z 18 (.bin .shr (.t 17) (.c
 (.i .u64 4))),z 19 (.sidx (.c (.s [48,49,50,51,52,53,54,55,56,57,97,98,99,100,101,102])) (.t 18)),zm 20 6,z 21 (.bin .and (.t 20) (.c (.i .u8 15))),z 22 (.sidx
 (.c (.s [48,49,50,51,52,53,54,55,56,57,97,98,99,100,101,102])) (.t 21)),z 23 (.bslice 1 [none] [.c (.i .u8 92),.c (.i .u8 120),.t 19,.t 22])] [] [z 24 (.app 5 1 1
 (.t 16) (.t 23)),zm 0 24])))))))))))) (.reg [] [zm 11 5,z 12 (.bin .add (.t 11) (.c (.i .i64 1))),zm 5 12]))
def p135:PFun:=⟨60,[.t 4],.seq (.reg [] [z 4 (.mov (.c .nil))]) (.seq (.seq (.reg [] [z 5 (.mov (.c (.i .i64 0)))]) (.block 0 (.loop p135_0))) (.seq (.reg [] [zm 59 0,zm 4 59]) (.ret)))⟩
theorem c135:cFun Tryz.prog Tryz.f135=some p135:=by kernel_rfl
def p151:PFun:=⟨60,[.c 2 (some 3),.t 3],.seq (.reg [] [z 2 (.alloc 79 [.i .i64 0,.s [],.i .i64 0]),z 3 (.mov (.c (.b false)))]) (.seq (.reg [] [z 10 (.build [.i .i64 0,.s [],.i .i64 0]
 [(0,1,.c (.i .i64 2))]),z 4 (.alloc 79 [.i .i64 0,.s [],.i .i64 0]),zs (.store 3 [none,none,none] (.t 4) (.t 10))]) (.seq (.seq (.reg [] [zm 11 0,z 12 (.call 174 [.t 11,.c
 (.s [47])])]) (.ite (.t 12) (.dreg [([zm 13 0,z 14 (.sslice (.t 13) (some (.c (.i .i64 1))) none),zf 15 0 4],zs (.store 1 [none] (.t 15) (.c (.i .i64 3))),[])] [] [] [zm 0 14])
 (.skip))) (.seq (.reg [] [zm 17 0,z 18 (.call 170 [.t 17,.c (.s [58])]),zm 16 18,z 19 (.ext 0 (.t 16)),z 20 (.ext 1 (.t 16)),z 21 (.ext 2 (.t 16)),zm 5 19,zm 6 20,zm 7 21])
 (.seq (.seq (.reg [26,27] [zf 22 0 4,zl 23 22,z 24 (.bin .eql (.t 23) (.c (.i .i64 2))),zm 25 24,⟨some 26,[(25,true)],.mov (.t 6)⟩,⟨some 27,[(25,true)],.call 175 [.t 26,
 .c (.s [47])]⟩,z 28 (.pick (.t 25) (.t 27) (.c (.b false)))]) (.ite (.t 28) (.dreg [([zm 29 6,zm 30 6,z 31 (.len true (.t 30)),z 32 (.bin .sub (.t 31) (.c (.i .i64 1))),z 33
 (.sslice (.t 29) none (some (.t 32))),zf 34 0 4],zs (.store 1 [none] (.t 34) (.c (.i .i64 4))),[z 31 (.len true (.t 30))])] [] [] [zm 6 33]) (.skip))) (.seq (.reg [] [zm 36 5,z
 37 (.call 176 [.t 36]),zm 35 37,z 38 (.ext 0 (.t 35)),z 39 (.ext 1 (.t 35)),zm 8 38,zm 9 39]) (.seq (.seq (.reg [43,44] [zm 40 7,z 41 (.un .not (.t 40)),zm 42 41,⟨some 43,
 [(42,false)],.mov (.t 9)⟩,⟨some 44,[(42,false)],.un .not (.t 43)⟩,z 45 (.pick (.t 42) (.c (.b true)) (.t 44))]) (.ite (.t 45) (.seq (.reg [] [z 46 (.build [.i .i64 0,.s [],
 .i .i64 0] []),zs (.store 3 [none,none,none] (.t 2) (.t 46)),z 3 (.mov (.c (.b false)))]) (.ret)) (.skip))) (.seq (.reg [] [zm 47 6,zm 48 8,zf 49 1 4,zs (.store 1 [none] (.t
 49) (.t 47)),zf 50 2 4,zs (.store 1 [none] (.t 50) (.t 48))]) (.seq (.seq (.reg [] [zf 51 0 4,zl 52 51,z 53 (.bin .eql (.t 52) (.c (.i .i64 3)))]) (.ite (.t 53) (.seq (.dreg
 [([zL 54 3 4,zm 55 6],z 56 (.call 71 [.t 55]),[zL 54 3 4])] [] [] [zs (.store 3 [none,none,none] (.t 2) (.t 54)),zm 3 56]) (.ret)) (.skip))) (.seq (.dreg [([zL 57 3 4,zm 58
 6],z 59 (.call 145 [.t 58]),[zL 57 3 4])] [] [] [zs (.store 3 [none,none,none] (.t 2) (.t 57)),zm 3 59]) (.ret))))))))))⟩
theorem c151:cFun Tryz.prog Tryz.f151=some p151:=by kernel_rfl
def p111:PFun:=⟨76,[.c 2 (some 3),.t 3,.t 4],.seq (.reg [] [z 2 (.alloc 79 [.i .i64 0,.s [],.i .i64 0]),z 3 (.mov (.c (.i .i64 0))),z 4 (.mov (.c (.b false)))]) (.seq (.block 0 (.seq (.reg
 [] [zm 13 0,z 14 (.sidx (.t 13) (.c (.i .i64 0))),z 15 (.bin .eql (.t 14) (.c (.i .u8 92))),zm 12 15]) (.ite (.t 12) (.seq (.reg [] [zm 17 0,z 18 (.call 149 [.t 17]),zm 16 18,
 z 19 (.ext 0 (.t 16)),z 20 (.ext 1 (.t 16)),z 21 (.ext 2 (.t 16)),zm 5 19,zm 6 20,zm 7 21]) (.seq (.reg [] [zm 22 5,z 23 (.bslice 1 [none] [.t 22]),z 24 (.b2s (.t 23)),z 25
 (.build [.i .i64 0,.s [],.i .i64 0] [(0,1,.c (.i .i64 1)),(1,1,.t 24)]),zm 26 6,zm 27 7,zs (.store 3 [none,none,none] (.t 2) (.t 25)),zm 3 26,zm 4 27]) (.ret))) (.seq
 (.reg [] [zm 29 0,z 30 (.sidx (.t 29) (.c (.i .i64 0))),z 31 (.bin .eql (.t 30) (.c (.i .u8 60))),zm 28 31]) (.ite (.t 28) (.seq (.reg [] [zm 32 0,z 33 (.call 150 [.t 32,.c (.i
 .u8 62)]),zm 8 33]) (.seq (.seq (.reg [] [zm 34 8,z 35 (.bin .lss (.t 34) (.c (.i .i64 0)))]) (.ite (.t 35) (.seq (.reg [] [z 36 (.build [.i .i64 0,.s [],.i .i64 0] []),zs
 (.store 3 [none,none,none] (.t 2) (.t 36)),z 3 (.mov (.c (.i .i64 0))),z 4 (.mov (.c (.b false)))]) (.ret)) (.skip))) (.seq (.reg [] [zm 38 0,zm 39 8,z 40 (.sslice (.t 38)
 (some (.c (.i .i64 1))) (some (.t 39))),z 41 (.call 151 [.t 40]),zm 37 41,z 42 (.ext 0 (.t 37)),z 43 (.ext 1 (.t 37)),z 9 (.alloc 79 [.i .i64 0,.s [],.i .i64 0]),zs (.store
 3 [none,none,none] (.t 9) (.t 42)),zm 10 43]) (.seq (.reg [] [zL 44 3 9,zm 45 8,z 46 (.bin .add (.t 45) (.c (.i .i64 1))),zm 47 10,zs (.store 3 [none,none,none] (.t 2) (.t
 44)),zm 3 46,zm 4 47]) (.ret))))) (.seq (.reg [] [zm 49 0,z 50 (.sidx (.t 49) (.c (.i .i64 0))),z 51 (.bin .eql (.t 50) (.c (.i .u8 123))),zm 48 51]) (.ite (.t 48) (.seq (.reg
 [] [zm 52 0,z 53 (.call 150 [.t 52,.c (.i .u8 125)]),zm 11 53]) (.seq (.seq (.reg [57,58,59,60,61] [zm 54 11,z 55 (.bin .lss (.t 54) (.c (.i .i64 0))),zm 56 55,⟨some 57,
 [(56,false)],.mov (.t 0)⟩,⟨some 58,[(56,false)],.mov (.t 11)⟩,⟨some 59,[(56,false)],.sslice (.t 57) (some (.c (.i .i64 1))) (some (.t 58))⟩,⟨some 60,[(56,false)],.call
 71 [.t 59]⟩,⟨some 61,[(56,false)],.un .not (.t 60)⟩,z 62 (.pick (.t 56) (.c (.b true)) (.t 61))]) (.ite (.t 62) (.seq (.reg [] [z 63 (.build [.i .i64 0,.s [],.i .i64 0] []),
 zs (.store 3 [none,none,none] (.t 2) (.t 63)),z 3 (.mov (.c (.i .i64 0))),z 4 (.mov (.c (.b false)))]) (.ret)) (.skip))) (.seq (.reg [] [zm 64 0,zm 65 11,z 66 (.sslice (.t 64)
 (some (.c (.i .i64 1))) (some (.t 65))),z 67 (.build [.i .i64 0,.s [],.i .i64 0] [(0,1,.c (.i .i64 5)),(1,1,.t 66)]),zm 68 11,z 69 (.bin .add (.t 68) (.c (.i .i64 1))),zs
 (.store 3 [none,none,none] (.t 2) (.t 67)),zm 3 69,z 4 (.mov (.c (.b true)))]) (.ret)))) (.skip)))))))) (.seq (.dreg [([zm 70 0,z 71 (.sslice (.t 70) none (some (.c (.i .i64
 1)))),z 72 (.build [.i .i64 0,.s [],.i .i64 0] [(0,1,.c (.i .i64 1)),(1,1,.t 71)]),zm 73 0,z 74 (.sidx (.t 73) (.c (.i .i64 0)))],z 75 (.call 152 [.t 74]),[z 72 (.build
 [.i .i64 0,.s [],.i .i64 0] [(0,1,.c (.i .i64 1)),(1,1,.t 71)])])] [] [] [zs (.store 3 [none,none,none] (.t 2) (.t 72)),z 3 (.mov (.c (.i .i64 1))),zm 4 75]) (.ret)))⟩
theorem c111:cFun Tryz.prog Tryz.f111=some p111:=by kernel_rfl
end Go.Proofs.Tryz
namespace Go.Proofs.Tryz
open Go Go.Pm Go.Bt
theorem width_pc (x:It) (σ:Store):PC Tryz.prog 144 [.agg x.cells] σ (fun r σ'=>r=.i .i64 (width x)∧σ'=σ):=by
 refine PC.intro Tryz.func144 c144 fun hcl hwf=>wpc_sound ?_
 simp only [p144,It.cells,SS,seval]
 simp only [W,seval]
 refine ⟨fun h=>?_,fun h=>?_⟩
 ·exact ret_end hcl (.inr rfl) rfl (by simp only [LW]) (by simp at h;simp [one,width,h])
 ·exact ret_end hcl (.inr rfl) rfl (by simp only [LW]) (by simp at h;simp [one,width,h])
theorem loop102 {σ:Store} {K:Exit→St→Prop} (its:List It) (hcl:Closed σ) (hlen:its.length<2^63):∀ (rest pre:List It) (acc:Int),its=pre++rest →
  (K (.exit 0) ⟨[.sl 3 (its.map It.cells),.u,.i .i64 0,.i .i64 (lengthFrom acc rest),.u,.u,.sl 3 (its.map It.cells),.i .i64 its.length,.i .i64 its.length,.b false,.u,.u,.u,.u,.u,.u,.u,.u],σ⟩) →
  Rnd σ.length Tryz.prog p102_0 K (rest.length+1) ⟨[.sl 3 (its.map It.cells),.u,.i .i64 0,.i .i64 acc,.u,.u,.sl 3 (its.map It.cells),.i .i64 its.length,.i .i64 pre.length,.u,.u,.u,.u,.u,.u,.u,.u,.u],σ⟩:=by
 intro rest
 induction rest with
 | nil =>
  intro pre acc he hK
  subst he
  refine rnd_step fun R hR=>?_
  simp only [p102_0,W,seval]
  refine ⟨fun h=>by simp at h,fun _=>?_⟩
  simpa [lengthFrom] using hK
 | cons x rest ih =>
  intro pre acc he hK
  subst he
  refine rnd_step fun R hR=>?_
  simp only [p102_0,row_at,It.cells,W,seval]
  refine ⟨fun _=>⟨?_,?_⟩,fun h=>?_⟩
  ·simp;omega
  ·refine call_eq (width_pc x _) rfl ?_
   simp only [W,seval]
   refine hR _ ?_
   have hw:IntKind.i64.wrap ((pre.length:Int)+1)=(((pre++[x]).length:Nat):Int):=by
    rw [wrap_succ (by simp at hlen;omega)];simp
   rw [hw]
   refine rnd_back (Nat.le_refl _) hcl ?_ ?_ (ih (pre++[x]) (IntKind.i64.wrap (acc+width x)) (by simp) ?_)
   ·repeat first | exact .nil | refine .cons (.refl _) ?_ | refine .cons (.forget _) ?_
   ·simp only [LW]
   ·simpa [lengthFrom] using hK
  ·simp at h;omega
theorem length_pc (its:List It) (σ:Store):PC Tryz.prog 102 [.sl 3 (its.map It.cells)] σ (fun r σ'=>r=.i .i64 (lengthFrom 0 its)∧σ'=σ):=by
 refine PC.intro Tryz.func102 c102 fun hcl hwf=>wpc_sound ?_
 have hlen:its.length<2^63:=by
  have:=wf_sl (hwf 0 _ rfl).1
  simpa using this
 simp only [p102,SS,seval]
 simp only [List.length_map,W,seval]
 refine PWc.rnd (its.length+1) (loop102 its hcl hlen its [] 0 (by simp) ?_)
 simp only [W,seval]
 exact ret_end0 (.inr rfl) rfl ⟨rfl,rfl⟩
theorem stampValidate_pc (x:Stamp) (σ:Store):PC Tryz.prog 48 [.agg x.cells] σ (fun r σ'=>r=.i .i64 (if stampOk x then 0 else 1)∧σ'=σ):=by
 refine PC.intro Tryz.func48 c48 fun hcl hwf=>wpc_sound ?_
 simp only [p48,Stamp.cells,SS,seval]
 simp only [W,seval]
 refine ⟨fun h=>?_,fun h=>?_⟩
 ·exact ret_end hcl (.inr rfl) rfl (by simp only [LW]) (by simp at h;simp [one,stampOk];omega)
 ·exact ret_end hcl (.inr rfl) rfl (by simp only [LW]) (by simp at h;simp [one,stampOk,h])
theorem loop71 {σ:Store} {K:Exit→St→Prop} (s:List UInt8) (hlen:s.length<2^63):∀ (rest pre:List UInt8),s=pre++rest →
  (rest.all nameByte=true→∀ j0 j1 j2 j3 j4 j5 j6 j7 j8 j9 j10 j11 j12 j13 j14 j15 j16 j17 j18 j19 j20 j21 j22 j23 j24 j25 j26 j27 j28 j29 j30 j31 j32 j33 j34 j35 j36 j37 j38 j39 j40 j41 j42 j43 j44 j45 j46 j47 j48 j49 j50,K (.exit 0) ⟨[j0,j1,j2,j3,j4,j5,j6,j7,j8,j9,j10,j11,j12,j13,j14,j15,j16,j17,j18,j19,j20,j21,j22,j23,j24,j25,j26,j27,j28,j29,j30,j31,j32,j33,j34,j35,j36,j37,j38,j39,j40,j41,j42,j43,j44,j45,j46,j47,j48,j49,j50],σ⟩) →
  (rest.all nameByte=false→∀ j0 j1 j3 j4 j5 j6 j7 j8 j9 j10 j11 j12 j13 j14 j15 j16 j17 j18 j19 j20 j21 j22 j23 j24 j25 j26 j27 j28 j29 j30 j31 j32 j33 j34 j35 j36 j37 j38 j39 j40 j41 j42 j43 j44 j45 j46 j47 j48 j49 j50,K .ret ⟨[j0,j1,.b false,j3,j4,j5,j6,j7,j8,j9,j10,j11,j12,j13,j14,j15,j16,j17,j18,j19,j20,j21,j22,j23,j24,j25,j26,j27,j28,j29,j30,j31,j32,j33,j34,j35,j36,j37,j38,j39,j40,j41,j42,j43,j44,j45,j46,j47,j48,j49,j50],σ⟩) →
  Rnd σ.length Tryz.prog p71_0 K (rest.length+1) ⟨[.s s,.u,.u,.i .i64 pre.length,.u,.u,.u,.u,.u,.u,.u,.u,.u,.u,.u,.u,.u,.u,.u,.u,.u,.u,.u,.u,.u,.u,.u,.u,.u,.u,.u,.u,.u,.u,.u,.u,.u,.u,.u,.u,.u,.u,.u,.u,.u,.u,.u,.u,.u,.u,.u],σ⟩:=by
 intro rest
 induction rest with
 | nil =>
  intro pre he h1 h2
  subst he
  refine rnd_step fun R hR=>?_
  simp only [p71_0,W,seval]
  exact ⟨fun h=>by simp at h,fun _=>h1 rfl ..⟩
 | cons c rest ih =>
  intro pre he h1 h2
  subst he
  refine rnd_step fun R hR=>?_
  simp only [p71_0,W,seval]
  refine ⟨fun _=>⟨by simp;omega,fun h=>?_,fun h=>?_⟩,fun h=>by simp at h;omega⟩
  ·refine h2 ?_ ..
   simp only [List.all_cons,Bool.and_eq_false_iff]
   left
   simp at h
   simp [nameByte]
   omega
  ·refine hR _ (rnd_cvs (fr':=[.s (pre++c::rest),.u,.u,.i .i64 (pre++[c]).length,.u,.u,.u,.u,.u,.u,.u,.u,.u,.u,.u,.u,.u,.u,.u,.u,.u,.u,.u,.u,.u,.u,.u,.u,.u,.u,.u,.u,.u,.u,.u,.u,.u,.u,.u,.u,.u,.u,.u,.u,.u,.u,.u,.u,.u,.u,.u]) ?_ (ih (pre++[c]) (by simp) (fun h2=>h1 ?_) (fun h3=>h2 ?_)))
   ·rw [wrap_succ (by simp at hlen;omega)]
    simp only [List.length_append,List.length_cons,List.length_nil]
    repeat first | exact .nil | refine .cons (.refl _) ?_ | refine .cons (.forget _) ?_
   ·simp [h2]
    simp at h
    simp [nameByte]
    omega
   ·simp [h3]
theorem stampAt_pc (v:List Int) (o:Int) (σ:Store):PC Tryz.prog 50 [.sl 1 (v.map iRow),.i .i64 o] σ (fun r σ'=>r=.i .i64 (vAt v o)∧σ'=σ):=by
 refine PC.intro Tryz.func50 c50 fun hcl hwf=>wpc_sound ?_
 simp only [p50,SS,seval]
 simp only [W,seval]
 refine ⟨fun h=>?_,fun h=>?_⟩
 ·refine ret_end0 (.inr rfl) rfl ?_
  simp at h
  simp only [one,List.getD_cons_zero,List.getD_cons_succ,V.i.injEq,true_and,and_true,vAt]
  rw [if_pos (by omega)]
 ·simp at h
  have hl:o.toNat<v.length:=by omega
  rw [at2_iRow hl]
  simp only [W,seval]
  refine ⟨by simp;omega,ret_end0 (.inr rfl) rfl ?_⟩
  simp only [one,vAt,List.getD_cons_zero,List.getD_cons_succ,V.i.injEq,true_and,and_true]
  rw [if_neg (show ¬ (o<0∨(v.length:Int)≤o∨8≤o) by omega)]
theorem isNaN_pc (n:Int) (σ:Store):PC Tryz.prog 86 [.i .i64 n] σ (fun r σ'=>r=.b false∧σ'=σ):=by
 refine PC.intro Tryz.func86 c86 fun hcl hwf=>wpc_sound ?_
 simp only [p86,SS,seval]
 simp only [W,seval]
 exact ret_end0 (.inr rfl) rfl (by simp [one])
theorem cmpI_pc (a b:Int) (σ:Store):PC Tryz.prog 56 [.i .i64 a,.i .i64 b] σ (fun r σ'=>r=.i .i64 (cmpI a b)∧σ'=σ):=by
 refine PC.intro Tryz.func56 c56 fun hcl hwf=>wpc_sound ?_
 simp only [p56,SS,seval]
 simp only [W,seval]
 refine call_eq (isNaN_pc a _) rfl ?_
 simp only [W,seval]
 refine call_eq (isNaN_pc b _) rfl ?_
 simp only [W,seval]
 refine ⟨fun h=>?_,fun h=>⟨fun h2=>?_,fun h2=>?_⟩⟩<;>refine ret_end0 (.inr rfl) rfl ?_<;>simp at h<;>(try simp at h2)<;>simp only [one,cmpI,List.getD_cons_zero,List.getD_cons_succ,V.i.injEq,true_and,and_true]<;>(repeat' split)<;>omega
theorem loop55 {σ:Store} {K:Exit→St→Prop} (l:List Int) (hlen:l.length<2^63):∀ (rest pre:List Int),l=pre++rest →
  (orI rest=0→(∀ j0 j1 j2 j4 j5 j6 j7 j8 j9 j10 j11 j12 j13 j14 j15 j16 j17,K (.exit 0) ⟨[j0,j1,j2,.i .i64 0,j4,j5,j6,j7,j8,j9,j10,j11,j12,j13,j14,j15,j16,j17],σ⟩))→(orI rest≠0→(∀ j0 j1 j3 j4 j5 j6 j7 j8 j9 j10 j11 j12 j13 j14 j15 j16 j17,K .ret ⟨[j0,j1,.i .i64 (orI rest),j3,j4,j5,j6,j7,j8,j9,j10,j11,j12,j13,j14,j15,j16,j17],σ⟩)) →
  Rnd σ.length Tryz.prog p55_0 K (rest.length+1) ⟨[.u,.u,.u,.i .i64 0,.u,.u,.sl 1 (l.map iRow),.i .i64 l.length,.i .i64 pre.length,.u,.u,.u,.u,.u,.u,.u,.u,.u],σ⟩:=by
 intro rest
 induction rest with
 | nil =>
  intro pre he h1 h2
  subst he
  refine rnd_step fun R hR=>?_
  simp only [p55_0,W,seval]
  exact ⟨fun h=>by simp at h,fun _=>h1 rfl ..⟩
 | cons c rest ih =>
  intro pre he h1 h2
  subst he
  refine rnd_step fun R hR=>?_
  simp only [p55_0,W,seval]
  simp only [iRow,W,seval]
  refine ⟨fun _=>⟨by simp;omega,fun h=>?_,fun h=>?_⟩,fun h=>by simp at h;omega⟩
  ·simp at h
   have e:orI (c::rest)=c:=by simp [orI,h]
   rw [e] at h2
   exact h2 h ..
  ·simp at h
   have e:orI (c::rest)=orI rest:=by simp [orI,h]
   rw [e] at h1 h2
   refine hR _ (rnd_cvs ?_ (ih (pre++[c]) (by simp) h1 h2))
   rw [wrap_succ (by simp at hlen;omega)]
   simp only [List.length_append,List.length_cons,List.length_nil]
   repeat first | exact .nil | refine .cons (.refl _) ?_ | refine .cons (.forget _) ?_
theorem orI_pc (l:List Int) (σ:Store):PC Tryz.prog 55 [.sl 1 (l.map iRow)] σ (fun r σ'=>r=.i .i64 (orI l)∧σ'=σ):=by
 refine PC.intro Tryz.func55 c55 fun hcl hwf=>wpc_sound ?_
 have hlen:l.length<2^63:=by simpa using wf_sl (hwf 0 _ rfl).1
 simp only [p55,SS,seval]
 simp only [List.length_map,W,seval]
 refine PWc.rnd_cvs ?_ (l.length+1) (loop55 l hlen l [] (by simp) ?_ ?_)
 ·repeat first | exact .nil | refine .cons (.refl _) ?_ | refine .cons (.forget _) ?_
 ·intro h
  simp only [W,seval]
  intros
  exact ret_end0 (.inr rfl) rfl (by simp [one,h])
 ·intro h
  simp only [W,seval]
  intros
  exact ret_end0 (.inr rfl) rfl ⟨rfl,rfl⟩
theorem stampCompare_pc (a b:Stamp) (σ:Store):PC Tryz.prog 167 [.agg a.cells,.agg b.cells] σ (fun r σ'=>r=.i .i64 (cmpStamp a b)∧σ'=σ):=by
 refine PC.intro Tryz.func167 c167 fun hcl hwf=>wpc_sound ?_
 simp only [p167,Stamp.cells,SS,seval]
 simp only [W,seval]
 refine call_eq (cmpI_pc _ _ _) rfl ?_
 simp only [W,seval]
 refine call_eq (cmpI_pc _ _ _) rfl ?_
 simp only [W,seval]
 refine call_eq (cmpI_pc _ _ _) rfl ?_
 simp only [W,seval]
 refine call_cv (zs:=[.sl 1 ([cmpI a.time b.time,cmpI a.office b.office,cmpI a.number b.number].map iRow)]) (.cons (.lit _ _) .nil) (orI_pc _ _) ?_
 simp only [W,seval]
 exact ret_end hcl (.inr rfl) rfl (by simp only [LW]) ⟨rfl,rfl⟩
theorem loop66 {σ:Store} {K:Exit→St→Prop} (hcl:Closed σ) (a b:List Int):∀ (k n:Nat),n+k=8 →
  (∀ j0 j1 j2 j3 j6 j7 j8 j9 j10 j11 j12 j13 j14 j15 j16 j17 j18 j19 j20 j21 j22 j23 j24 j25 j26 j27 j28 j29,K (.exit 0) ⟨[j0,j1,j2,j3,.own σ.length 8,.i .i64 (joinLast a b 8),j6,j7,j8,j9,j10,j11,j12,j13,j14,j15,j16,j17,j18,j19,j20,j21,j22,j23,j24,j25,j26,j27,j28,j29],σ++[.row 3 1 8 8 false ((joinList a b 8).map iRow)]⟩) →
  Rnd σ.length Tryz.prog p66_0 K (k+1) ⟨[.sl 1 (a.map iRow),.sl 1 (b.map iRow),.u,.u,.own σ.length n,.i .i64 (joinLast a b n),.u,.u,.i .i64 n,.u,.u,.u,.u,.u,.u,.u,.u,.u,.u,.u,.u,.u,.u,.u,.u,.u,.u,.u,.u,.u],σ++[.row 3 1 8 n false ((joinList a b n).map iRow)]⟩
 | 0,n,he,h1=>by
  have:n=8:=by omega
  subst this
  refine rnd_step fun R hR=>?_
  simp only [p66_0,W,seval]
  refine ⟨fun h=>by simp at h,fun _=>h1 ..⟩
 | k+1,n,he,h1=>by
  refine rnd_step fun R hR=>?_
  simp only [p66_0,W,seval]
  refine ⟨fun _=>?_,fun h=>by simp at h;omega⟩
  refine call_eq (stampAt_pc a n _) rfl ?_
  simp only [W,seval]
  refine call_eq (stampAt_pc b n _) rfl ?_
  simp only [W,seval]
  have hw:=wrap_succ (n:=n) (by omega)
  have hrows:(joinList a b n).map iRow++[[V.i .i64 (if vAt a n<vAt b n then vAt b n else vAt a n)]]=(joinList a b (n+1)).map iRow:=by simp [joinList_succ,iRow]
  simp only [hrows,hw]
  refine ⟨?_,fun h=>?_,fun h=>?_⟩
  ·simp only [List.length_map,joinList_length,maxLen];omega
  ·have e:joinLast a b (n+1)=n+1:=by simp at h;simp [joinLast,h]
   refine hR _ (rnd_cvs ?_ (loop66 hcl a b k (n+1) (by omega) h1))
   rw [e]
   repeat first | exact .nil | refine .cons (.refl _) ?_ | refine .cons (.forget _) ?_
  ·have e:joinLast a b (n+1)=joinLast a b n:=by simp at h;simp [joinLast,h]
   refine hR _ (rnd_cvs ?_ (loop66 hcl a b k (n+1) (by omega) h1))
   rw [e]
   repeat first | exact .nil | refine .cons (.refl _) ?_ | refine .cons (.forget _) ?_
theorem ti_int:Ti Tryz.prog 3 1 8:=tiB_ok (by kernel_rfl)
theorem vJoin_pc (a b:List Int) (σ:Store):PC Tryz.prog 66 [.sl 1 (a.map iRow),.sl 1 (b.map iRow)] σ (fun r σ'=>r=.sl 1 ((vJoin a b).map iRow)∧σ'=σ):=by
 refine PC.intro Tryz.func66 c66 fun hcl hwf=>wpc_sound ?_
 simp only [p66,SS,seval]
 simp only [W,seval]
 refine PWc.wk ((Wk.promote (k:=4) ti_int rfl).trans (Wk.cvs ?_)) (PWc.rnd 9 (loop66 hcl a b 8 0 (by omega) ?_))
 ·simp only [W,seval]
  repeat first | exact .nil | refine .cons (.refl _) ?_ | refine .cons (.forget _) ?_
 ·intros
  simp only [W,seval]
  refine ⟨?_,?_⟩
  ·have:joinLast a b 8≤8:=joinLast_le a b 8
   simp only [List.length_map,joinList_length];omega
  ·refine ret_fz 0 hcl (.inr rfl) rfl rfl ?_ ?_
   ·simp [fz,fz1,AllLt,lt_sl]
   ·simp [fz,fz1,one,vJoin]
theorem vTrim_pc (a:List Int) (σ:Store):PC Tryz.prog 32 [.sl 1 (a.map iRow)] σ (fun r σ'=>r=.sl 1 ((vJoin a []).map iRow)∧σ'=σ):=by
 refine PC.intro Tryz.func32 c32 fun hcl hwf=>wpc_sound ?_
 simp only [p32,SS,seval]
 simp only [W,seval]
 refine call_cv (zs:=[.sl 1 (a.map iRow),.sl 1 (([]:List Int).map iRow)]) (.cons (.refl _) (.cons (.nil _) .nil)) (vJoin_pc a [] _) ?_
 simp only [W,seval]
 exact ret_end0 (.inr rfl) rfl ⟨rfl,rfl⟩
theorem sliteIndexByte_pc (l:List UInt8) (c:UInt8) (σ:Store):PC Tryz.prog 173 [.s l,.i .u8 c.toNat] σ (fun r σ'=>r=.i .i64 (Lib.indexByte l c)∧σ'=σ):=by
 refine PC.ofCalls fun w μ vs hv=>?_
 obtain ⟨x,hx,hl,_⟩:=(hv.2 0 _ rfl).inv_s
 have hc:=(hv.2 1 _ rfl).inv_i
 refine ⟨.int .i64 (Lib.indexByte l c),?_,.i _ _⟩
 rw [vs2 hv.1,hx,hc]
 refine (Tryz.stringslite_IndexByte x c.toNat w).mono ?_
 rintro e w' ⟨rfl,rfl⟩
 refine ⟨?_,rfl⟩
 rw [hl]
 have:((c.toNat:Int).toNat).toUInt8=c:=by simp
 rw [this]
theorem indexByte_pc (l:List UInt8) (c:UInt8) (σ:Store):PC Tryz.prog 150 [.s l,.i .u8 c.toNat] σ (fun r σ'=>r=.i .i64 (Lib.indexByte l c)∧σ'=σ):=by
 refine PC.intro Tryz.func150 c150 fun hcl hwf=>wpc_sound ?_
 simp only [p150,SS,seval]
 simp only [W,seval]
 refine call_eq (sliteIndexByte_pc l c _) rfl ?_
 simp only [W,seval]
 exact ret_end0 (.inr rfl) rfl ⟨rfl,rfl⟩
theorem sliteIndex_pc (l:List UInt8) (c:UInt8) (σ:Store):PC Tryz.prog 202 [.s l,.s [c]] σ (fun r σ'=>r=.i .i64 (Lib.indexByte l c)∧σ'=σ):=by
 refine PC.ofCalls fun w μ vs hv=>?_
 obtain ⟨x,hx,hl,_⟩:=(hv.2 0 _ rfl).inv_s
 obtain ⟨y,hy,hly,_⟩:=(hv.2 1 _ rfl).inv_s
 refine ⟨.int .i64 (Lib.indexByte l c),?_,.i _ _⟩
 have e:y=⟨#[c]⟩:=by
  have h:y.data=#[c]:=by apply Array.toList_inj.1;rw [hly]
  cases y;simp_all
 rw [vs2 hv.1,hx,hy,e]
 refine (Tryz.stringslite_Index_one x c w).mono ?_
 rintro e w' ⟨rfl,rfl⟩
 exact ⟨by rw [hl],rfl⟩
theorem sliteCut_pc (l:List UInt8) (c:UInt8) (σ:Store):PC Tryz.prog 190 [.s l,.s [c]] σ (fun r σ'=>r=.tup [.s (cutAt l c).1,.s (cutAt l c).2.1,.b (cutAt l c).2.2]∧σ'=σ):=by
 refine PC.intro Tryz.func190 c190 fun hcl hwf=>wpc_sound ?_
 simp only [p190,SS,seval]
 simp only [W]
 refine call_eq (sliteIndex_pc l c _) rfl ?_
 simp only [W,Int.reduceToNat,reduceIte]
 have h1:=indexByte_lt l c
 have h3:=wf_s (hwf 0 _ rfl).1
 refine ⟨fun h=>?_,fun h=>?_⟩
 ·simp only [decide_eq_true_eq] at h
  have h2:IntKind.i64.wrap (Lib.indexByte l c+((1:Nat):Int))=Lib.indexByte l c+1:=IntWalk.i64_in _ (by omega)
  rw [h2]
  refine ⟨by omega,by omega,ret_end0 (.inr rfl) rfl ⟨?_,rfl⟩⟩
  have h4:(Lib.indexByte l c+1).toNat=(Lib.indexByte l c).toNat+1:=by omega
  have h5:(l.drop ((Lib.indexByte l c).toNat+1)).take (l.length - ((Lib.indexByte l c).toNat+1))=l.drop ((Lib.indexByte l c).toNat+1):=List.take_of_length_le (by simp)
  simp only [one,cutAt,h,if_true,h4,h5,Nat.sub_zero,List.getD_cons_zero,List.getD_cons_succ]
 ·simp only [decide_eq_false_iff_not] at h
  exact ret_end0 (.inr rfl) rfl ⟨by simp only [one,cutAt,h,if_false,List.getD_cons_zero,List.getD_cons_succ],rfl⟩
theorem cut_pc (l:List UInt8) (c:UInt8) (σ:Store):PC Tryz.prog 170 [.s l,.s [c]] σ (fun r σ'=>r=.tup [.s (cutAt l c).1,.s (cutAt l c).2.1,.b (cutAt l c).2.2]∧σ'=σ):=by
 refine PC.intro Tryz.func170 c170 fun hcl hwf=>wpc_sound ?_
 simp only [p170,SS,seval]
 simp only [W,seval]
 refine call_eq (sliteCut_pc l c _) rfl ?_
 simp only [W,seval]
 exact ret_end0 (.inr rfl) rfl ⟨rfl,rfl⟩
theorem sliteHasPrefix_pc (l p:List UInt8) (σ:Store):PC Tryz.prog 192 [.s l,.s p] σ (fun r σ'=>r=.b (hasPrefix l p)∧σ'=σ):=by
 refine PC.intro Tryz.func192 c192 fun hcl hwf=>wpc_sound ?_
 simp only [p192,SS,seval]
 simp only [W,seval]
 refine ⟨fun h=>by simp at h;omega,ret_end0 (.inr rfl) rfl ⟨?_,rfl⟩⟩
 simp [one,hasPrefix]
theorem hasPrefix_pc (l p:List UInt8) (σ:Store):PC Tryz.prog 174 [.s l,.s p] σ (fun r σ'=>r=.b (hasPrefix l p)∧σ'=σ):=by
 refine PC.intro Tryz.func174 c174 fun hcl hwf=>wpc_sound ?_
 simp only [p174,SS,seval]
 simp only [W,seval]
 refine call_eq (sliteHasPrefix_pc l p _) rfl ?_
 simp only [W,seval]
 exact ret_end0 (.inr rfl) rfl ⟨rfl,rfl⟩
theorem sliteHasSuffix_pc (l p:List UInt8) (σ:Store):PC Tryz.prog 193 [.s l,.s p] σ (fun r σ'=>r=.b (hasSuffix l p)∧σ'=σ):=by
 refine PC.intro Tryz.func193 c193 fun hcl hwf=>wpc_sound ?_
 simp only [p193,SS,seval]
 simp only [W,seval]
 have h3:=wf_s (hwf 0 _ rfl).1
 have h4:=wf_s (hwf 1 _ rfl).1
 have h2:IntKind.i64.wrap ((l.length:Int) - (p.length:Int))=l.length - p.length:=IntWalk.i64_in _ (by omega)
 rw [h2]
 refine ⟨fun h=>by simp at h;omega,ret_end0 (.inr rfl) rfl ⟨?_,rfl⟩⟩
 simp only [one,hasSuffix,List.getD_cons_zero,List.getD_cons_succ]
 by_cases hle:p.length≤l.length
 ·have e:((l.length:Int) - (p.length:Int)).toNat=l.length - p.length:=by omega
  have h5:(l.drop (l.length - p.length)).take (l.length - (l.length - p.length))=l.drop (l.length - p.length):=List.take_of_length_le (by simp)
  simp [e,h5,hle]
 ·simp [hle]
theorem hasSuffix_pc (l p:List UInt8) (σ:Store):PC Tryz.prog 175 [.s l,.s p] σ (fun r σ'=>r=.b (hasSuffix l p)∧σ'=σ):=by
 refine PC.intro Tryz.func175 c175 fun hcl hwf=>wpc_sound ?_
 simp only [p175,SS,seval]
 simp only [W,seval]
 refine call_eq (sliteHasSuffix_pc l p _) rfl ?_
 simp only [W,seval]
 exact ret_end0 (.inr rfl) rfl ⟨rfl,rfl⟩
theorem itemName_pc (l:List UInt8) (σ:Store):PC Tryz.prog 146 [.s l] σ (fun r σ'=>r=.s (tagName l)∧σ'=σ):=by
 refine PC.intro Tryz.func146 c146 fun hcl hwf=>wpc_sound ?_
 simp only [p146,SS,seval]
 simp only [W,seval]
 refine call_eq (cut_pc l 32 _) rfl ?_
 simp only [W,seval]
 exact ret_end0 (.inr rfl) rfl ⟨rfl,rfl⟩
theorem notationName_pc (l:List UInt8) (σ:Store):PC Tryz.prog 153 [.s l] σ (fun r σ'=>r=.s (tagName l)∧σ'=σ):=by
 refine PC.intro Tryz.func153 c153 fun hcl hwf=>wpc_sound ?_
 simp only [p153,SS,seval]
 simp only [W,seval]
 refine call_eq (cut_pc l 32 _) rfl ?_
 simp only [W,seval]
 exact ret_end0 (.inr rfl) rfl ⟨rfl,rfl⟩
set_option maxRecDepth 8000 in
theorem classOf_pc (b:UInt8) (σ:Store):PC Tryz.prog 172 [.i .u8 b.toNat] σ (fun r σ'=>r=.i .i64 (classOf b)∧σ'=σ):=by
 refine PC.intro Tryz.func172 c172 fun hcl hwf=>wpc_sound ?_
 simp only [p172,SS,seval]
 simp only [W,seval]
 clear hwf hcl
 refine ⟨fun h1=>?_,fun h1=>⟨fun h2=>?_,fun h2=>⟨fun h3=>?_,fun h3=>⟨fun h4=>?_,fun h4=>?_⟩⟩⟩⟩<;>refine ret_end0 (.inr rfl) rfl ⟨?_,rfl⟩<;>simp at*<;> simp only [one,classOf,V.i.injEq,true_and]<;>(repeat' split)<;>omega
theorem isName_pc (s:List UInt8) (σ:Store):PC Tryz.prog 71 [.s s] σ (fun r σ'=>r=.b (isName s)∧σ'=σ):=by
 refine PC.intro Tryz.func71 c71 fun hcl hwf=>wpc_sound ?_
 have hlen:=wf_s (hwf 0 _ rfl).1
 simp only [p71,SS,seval]
 simp only [W,seval]
 refine ⟨?_,?_,fun h=>?_,fun h=>?_⟩
 ·intro h;simp at h;omega
 ·intro h;simp at h;omega
 ·refine ret_end0 (.inr rfl) rfl ⟨?_,rfl⟩
  simp only [one,List.getD_cons_zero,List.getD_cons_succ,V.b.injEq]
  cases s with
  | nil=>rfl
  | cons c r =>
   simp only [isName]
   simp at h
   simp
   omega
 ·cases s with
  | nil=>simp at h
  | cons c r =>
   have e:isName (c::r)=r.all nameByte:=by
    simp only [isName]
    simp at h
    simp
    omega
   refine PWc.rnd_cvs ?_ (r.length+1) (loop71 (c::r) hlen r [c] rfl (fun h1=>?_) (fun h1=>?_))
   ·simp only [W,seval]
    repeat first | exact .nil | refine .cons (.refl _) ?_ | refine .cons (.forget _) ?_
   ·simp only [W,seval]
    intros
    exact ret_end0 (.inr rfl) rfl ⟨by simp only [one,e,h1,List.getD_cons_zero,List.getD_cons_succ],rfl⟩
   ·simp only [W,seval]
    intros
    exact ret_end0 (.inr rfl) rfl ⟨by simp only [one,e,h1,List.getD_cons_zero,List.getD_cons_succ],rfl⟩
theorem isTag_pc (x:It) (σ:Store):PC Tryz.prog 104 [.agg x.cells] σ (fun r σ'=>r=.b (isTag x)∧σ'=σ):=by
 refine PC.intro Tryz.func104 c104 fun hcl hwf=>wpc_sound ?_
 simp only [p104,It.cells,SS,seval]
 simp only [W,seval]
 exact ret_end hcl (.inr rfl) rfl (by simp only [LW]) ⟨rfl,rfl⟩
theorem at2_iRow' {pre rest:List Int} {x:Int}:at2 (List.map iRow (pre++x::rest)) pre.length 0=some (.i .i64 x):=by
 simp [at2,iRow]
theorem loop49 {σ:Store} {K:Exit→St→Prop} (a b:List Int) (hlen:a.length<2^63) (hab:a.length=b.length):∀ (ra rb pa pb:List Int),a=pa++ra→b=pb++rb→pa.length=pb.length →
  (ra=rb→(∀ j0 j1 j2 j3 j4 j5 j6 j7 j8 j9 j10 j11 j12 j13 j14 j15 j16 j17 j18 j19 j20 j21 j22 j23 j24 j25,K (.exit 0) ⟨[j0,j1,j2,j3,j4,j5,j6,j7,j8,j9,j10,j11,j12,j13,j14,j15,j16,j17,j18,j19,j20,j21,j22,j23,j24,j25],σ⟩))→(ra≠rb→(∀ j0 j1 j2 j3 j5 j6 j7 j8 j9 j10 j11 j12 j13 j14 j15 j16 j17 j18 j19 j20 j21 j22 j23 j24 j25,K .ret ⟨[j0,j1,j2,j3,.b false,j5,j6,j7,j8,j9,j10,j11,j12,j13,j14,j15,j16,j17,j18,j19,j20,j21,j22,j23,j24,j25],σ⟩)) →
  Rnd σ.length Tryz.prog p49_0 K (ra.length+1) ⟨[.sl 1 (a.map iRow),.sl 1 (b.map iRow),.u,.u,.u,.u,.u,.u,.u,.u,.u,.u,.i .i64 a.length,.i .i64 pa.length,.u,.u,.u,.u,.u,.u,.u,.u,.u,.u,.u,.u],σ⟩
 | [],rb,pa,pb,ha,hb,hp,h1,h2=>by
  have:rb=[]:=by
   subst ha;subst hb
   simp at hab
   have:rb.length=0:=by omega
   exact List.length_eq_zero_iff.1 this
  subst this
  subst ha
  refine rnd_step fun R hR=>?_
  simp only [p49_0,W,seval]
  exact ⟨fun h=>by simp at h,fun _=>h1 rfl ..⟩
 | x::ra,[],pa,pb,ha,hb,hp,h1,h2=>by
  subst ha;subst hb;simp at hab;omega
 | x::ra,y::rb,pa,pb,ha,hb,hp,h1,h2=>by
  subst ha;subst hb
  refine rnd_step fun R hR=>?_
  have hat:at2 (List.map iRow (pb++y::rb)) pa.length 0=some (.i .i64 y):=by rw [hp];exact at2_iRow'
  simp only [p49_0,hat,iRow,W,seval]
  refine ⟨fun _=>⟨by simp;omega,by simp;omega,fun h=>?_,fun h=>?_⟩,fun h=>by simp at h;omega⟩
  ·simp at h
   exact h2 (by simp [h]) ..
  ·simp at h
   subst h
   refine hR _ (rnd_cvs ?_ (loop49 _ _ hlen hab ra rb (pa++[x]) (pb++[x]) (by simp) (by simp) (by simp [hp]) (fun e=>h1 (by rw [e])) (fun e=>h2 (by simp [e]))))
   rw [wrap_succ (by simp at hlen;omega)]
   simp only [List.length_append,List.length_cons,List.length_nil]
   repeat first | exact .nil | refine .cons (.refl _) ?_ | refine .cons (.forget _) ?_
theorem equalInts_pc (a b:List Int) (σ:Store):PC Tryz.prog 49 [.sl 1 (a.map iRow),.sl 1 (b.map iRow)] σ (fun r σ'=>r=.b (a==b)∧σ'=σ):=by
 refine PC.intro Tryz.func49 c49 fun hcl hwf=>wpc_sound ?_
 have hlen:=wf_sl (hwf 0 _ rfl).1
 rw [List.length_map] at hlen
 simp only [p49,SS,seval]
 simp only [List.length_map,W,seval]
 refine ⟨fun h=>?_,fun h=>?_⟩
 ·refine ret_end0 (.inr rfl) rfl ⟨?_,rfl⟩
  simp at h
  simp only [one,List.getD_cons_zero,List.getD_cons_succ,V.b.injEq]
  exact (beq_eq_false_iff_ne.2 fun e=>h (by rw [e])).symm
 ·simp at h
  refine PWc.rnd_cvs ?_ (a.length+1) (loop49 a b hlen (by omega) a b [] [] rfl rfl rfl (fun h1=>?_) (fun h1=>?_))
  ·simp only [W,seval]
   repeat first | exact .nil | refine .cons (.refl _) ?_ | refine .cons (.forget _) ?_
  ·simp only [W,seval]
   intros
   exact ret_end0 (.inr rfl) rfl ⟨by simp [one,h1],rfl⟩
  ·simp only [W,seval]
   intros
   exact ret_end0 (.inr rfl) rfl ⟨by simp [one,h1],rfl⟩
theorem loop145 {σ:Store} {K:Exit→St→Prop} (s:List UInt8) (hlen:s.length<2^63):∀ (rest pre:List UInt8),s=pre++rest →
  (rest.all (fun b=>!contentBad b)=true→(∀ j1 j2 j3 j4 j5 j6 j7 j8 j9 j10 j11 j12 j13 j14 j15 j16 j17 j18 j19 j20 j21 j22 j23 j24 j25 j26 j27 j28 j29 j30 j31 j32 j33 j34 j35 j36 j37 j38 j39 j40 j41 j42 j43 j44 j45 j46 j47 j48 j49 j50 j51 j52 j53 j54 j55 j56 j57 j58 j59 j60 j61 j62,K (.exit 0) ⟨[.s s,j1,j2,j3,j4,j5,j6,j7,j8,j9,j10,j11,j12,j13,j14,j15,j16,j17,j18,j19,j20,j21,j22,j23,j24,j25,j26,j27,j28,j29,j30,j31,j32,j33,j34,j35,j36,j37,j38,j39,j40,j41,j42,j43,j44,j45,j46,j47,j48,j49,j50,j51,j52,j53,j54,j55,j56,j57,j58,j59,j60,j61,j62],σ⟩))→(rest.all (fun b=>!contentBad b)=false→(∀ j0 j1 j3 j4 j5 j6 j7 j8 j9 j10 j11 j12 j13 j14 j15 j16 j17 j18 j19 j20 j21 j22 j23 j24 j25 j26 j27 j28 j29 j30 j31 j32 j33 j34 j35 j36 j37 j38 j39 j40 j41 j42 j43 j44 j45 j46 j47 j48 j49 j50 j51 j52 j53 j54 j55 j56 j57 j58 j59 j60 j61 j62,K .ret ⟨[j0,j1,.b false,j3,j4,j5,j6,j7,j8,j9,j10,j11,j12,j13,j14,j15,j16,j17,j18,j19,j20,j21,j22,j23,j24,j25,j26,j27,j28,j29,j30,j31,j32,j33,j34,j35,j36,j37,j38,j39,j40,j41,j42,j43,j44,j45,j46,j47,j48,j49,j50,j51,j52,j53,j54,j55,j56,j57,j58,j59,j60,j61,j62],σ⟩)) →
  Rnd σ.length Tryz.prog p145_0 K (rest.length+1) ⟨[.s s,.u,.u,.i .i64 pre.length,.u,.u,.u,.u,.u,.u,.u,.u,.u,.u,.u,.u,.u,.u,.u,.u,.u,.u,.u,.u,.u,.u,.u,.u,.u,.u,.u,.u,.u,.u,.u,.u,.u,.u,.u,.u,.u,.u,.u,.u,.u,.u,.u,.u,.u,.u,.u,.u,.u,.u,.u,.u,.u,.u,.u,.u,.u,.u,.u],σ⟩:=by
 intro rest
 induction rest with
 | nil =>
  intro pre he h1 h2
  have he:s=pre:=by simpa using he
  subst he
  refine rnd_step fun R hR=>?_
  simp only [p145_0,W,seval]
  exact ⟨fun h=>by simp at h,fun _=>h1 rfl ..⟩
 | cons c rest ih =>
  intro pre he h1 h2
  subst he
  refine rnd_step fun R hR=>?_
  simp only [p145_0,W,seval]
  refine ⟨fun _=>⟨by simp;omega,fun _=>by simp;omega,fun _=>by simp;omega,?_⟩,fun h=>by simp at h;omega⟩
  refine callg_eq rfl (fun _=>indexByte_pc [60,62,123,125] c _) rfl ?_
  simp only [W,seval]
  have e:(decide ((c.toNat:Int)<32)||decide (126<(c.toNat:Int))||decide (0≤Lib.indexByte [60,62,123,125] c))=contentBad c:=by
   simp only [contentBad]
   congr 2<;>exact decide_eq_decide.2 (by omega)
  rw [e]
  refine ⟨fun h=>?_,fun h=>?_⟩
  ·exact h2 (by simp [h]) ..
  ·refine hR _ (rnd_cvs ?_ (ih (pre++[c]) (by simp) (fun e=>h1 (by simp [h,e])) (fun e=>h2 (by simp only [List.all_cons,e,Bool.and_false]))))
   rw [wrap_succ (by simp at hlen;omega)]
   simp only [List.length_append,List.length_cons,List.length_nil]
   repeat first | exact .nil | refine .cons (.refl _) ?_ | refine .cons (.forget _) ?_
theorem isContent_pc (s:List UInt8) (σ:Store):PC Tryz.prog 145 [.s s] σ (fun r σ'=>r=.b (isContent s)∧σ'=σ):=by
 refine PC.intro Tryz.func145 c145 fun hcl hwf=>wpc_sound ?_
 have hlen:=wf_s (hwf 0 _ rfl).1
 simp only [p145,SS,seval]
 simp only [W,seval]
 have hm:∀ n:Nat,n<2^63→0<n→IntKind.i64.wrap ((n:Int) - 1)=((n - 1:Nat):Int):=fun n h1 h2=>by rw [IntWalk.i64_in _ (by omega)];omega
 have hne:∀ h:s.length≠0,IntKind.i64.wrap ((s.length:Int) - 1)=((s.length - 1:Nat):Int):=fun h=>hm _ hlen (by omega)
 by_cases h0:s.length=0
 ·refine ⟨fun h=>by simp [h0] at h,fun _=>?_,fun h=>by simp [h0] at h⟩
  exact ret_end0 (.inr rfl) rfl ⟨by simp [one,isContent,contentEnds,h0],rfl⟩
 ·rw [hne h0]
  refine ⟨fun _=>by omega,fun h=>?_,fun h=>?_⟩
  ·refine ret_end0 (.inr rfl) rfl ⟨?_,rfl⟩
   have e:contentEnds s=false:=by
    simp only [contentEnds]
    simp [h0] at h ⊢
    omega
   simp only [one,isContent,e,Bool.false_and,List.getD_cons_zero,List.getD_cons_succ]
  ·have e:contentEnds s=true:=by
    simp only [contentEnds]
    simp [h0] at h ⊢
    omega
   refine PWc.rnd_cvs ?_ (s.length+1) (loop145 s hlen s [] rfl (fun h1=>?_) (fun h1=>?_))
   ·simp only [W,seval]
    repeat first | exact .nil | refine .cons (.refl _) ?_ | refine .cons (.forget _) ?_
   ·intros
    simp only [W,seval]
    refine call_eq (cut_pc s 32 _) rfl ?_
    simp only [W,seval]
    refine call_eq (isName_pc _ _) rfl ?_
    simp only [W,seval]
    refine ret_end0 (.inr rfl) rfl ⟨?_,rfl⟩
    simp only [one,isContent,e,h1,contentName,Bool.true_and,List.getD_cons_zero,List.getD_cons_succ]
    congr 3
    exact decide_eq_decide.2 (by omega)
   ·intros
    simp only [W,seval]
    exact ret_end0 (.inr rfl) rfl ⟨by simp only [one,isContent,e,h1,Bool.true_and,Bool.false_and,List.getD_cons_zero,List.getD_cons_succ],rfl⟩
theorem loop105 {σ:Store} {K:Exit→St→Prop} (x:It) (its:List It) (hcl:Closed σ) (hlen:its.length<2^63):∀ (rest pre:List It),its=pre++rest →
  (fits rest x=true→(∀ j0 j1 j2 j3 j4 j5 j6 j7 j8 j9 j10 j11 j12 j13 j14 j15 j16 j17 j18 j19 j20 j21 j22 j23 j24 j25 j26 j27 j28 j29 j30 j31 j32 j33 j34 j35 j36 j37 j38 j39,K (.exit 0) ⟨[j0,j1,j2,j3,j4,j5,j6,j7,j8,j9,j10,j11,j12,j13,j14,j15,j16,j17,j18,j19,j20,j21,j22,j23,j24,j25,j26,j27,j28,j29,j30,j31,j32,j33,j34,j35,j36,j37,j38,j39],σ++[.box 79 x.cells]⟩))→(fits rest x=false→∀ loc,(∀ j0 j1 j2 j3 j5 j6 j7 j8 j9 j10 j11 j12 j13 j14 j15 j16 j17 j18 j19 j20 j21 j22 j23 j24 j25 j26 j27 j28 j29 j30 j31 j32 j33 j34 j35 j36 j37 j38 j39,K .ret ⟨[j0,j1,j2,j3,.b false,j5,j6,j7,j8,j9,j10,j11,j12,j13,j14,j15,j16,j17,j18,j19,j20,j21,j22,j23,j24,j25,j26,j27,j28,j29,j30,j31,j32,j33,j34,j35,j36,j37,j38,j39],σ++loc⟩)) →
  Rnd σ.length Tryz.prog p105_0 K (rest.length+1) ⟨[.u,.u,.u,.ptr σ.length 0,.u,.u,.u,.sl 3 (its.map It.cells),.i .i64 its.length,.i .i64 pre.length,.u,.u,.u,.u,.u,.u,.u,.u,.u,.u,.u,.u,.u,.u,.u,.u,.u,.u,.u,.u,.u,.u,.u,.u,.u,.u,.u,.u,.u,.u],σ++[.box 79 x.cells]⟩:=by
 intro rest
 induction rest with
 | nil =>
  intro pre he h1 h2
  have he:its=pre:=by simpa using he
  subst he
  refine rnd_step fun R hR=>?_
  simp only [p105_0,W,seval]
  exact ⟨fun h=>by simp at h,fun _=>h1 rfl ..⟩
 | cons y rest ih =>
  intro pre he h1 h2
  subst he
  refine rnd_step fun R hR=>?_
  simp only [p105_0,It.cells,W,seval]
  refine ⟨fun _=>⟨by simp;omega,?_⟩,fun h=>by simp at h;omega⟩
  refine call_eq (isTag_pc y _) rfl ?_
  simp only [W,seval]
  have hcl2:Closed (σ++[.box 79 x.cells]):=closed_add hcl (by simp [It.cells,AllLt,lt_i,lt_s])
  have back:fits (y::rest) x=fits rest x→∀ fr',Cvs fr' ([.u,.u,.u,.ptr σ.length 0,.u,.u,.u,.sl 3 ((pre++y::rest).map It.cells),.i .i64 (pre++y::rest).length,.i .i64 (pre++[y]).length,.u,.u,.u,.u,.u,.u,.u,.u,.u,.u,.u,.u,.u,.u,.u,.u,.u,.u,.u,.u,.u,.u,.u,.u,.u,.u,.u,.u,.u,.u])→∀ o,R ⟨fr',σ++[.box 79 x.cells,o]⟩:=by
   intro e fr' hc o
   rw [e] at h1 h2
   refine hR _ (rnd_drop [.box 79 x.cells] [o] hcl2 hc ?_ (ih (pre++[y]) (by simp) h1 h2))
   simp only [LW,List.length_cons,List.length_nil,Nat.zero_add]
   omega
  refine ⟨fun h=>?_,fun h=>?_⟩
  ·refine back ?_ _ ?_ _
   ·have:fitsBad x y=false:=by simp only [fitsBad,h,Bool.not_true,Bool.false_and]
    simp [fits,this]
   ·rw [wrap_succ (by simp at hlen;omega)]
    simp only [List.length_append,List.length_cons,List.length_nil]
    repeat first | exact .nil | refine .cons (.refl _) ?_ | refine .cons (.forget _) ?_
  ·refine callg_eq rfl (fun _=>itemName_pc y.text _) rfl ?_
   simp only [W,seval]
   refine ⟨fun h3=>?_,fun h3=>?_⟩
   ·refine h2 ?_ _ ..
    have:fitsBad x y=true:=by simp only [fitsBad,h,Bool.not_false,Bool.true_and];exact h3
    simp [fits,this]
   ·refine back ?_ _ ?_ _
    ·have:fitsBad x y=false:=by simp only [fitsBad,h,Bool.not_false,Bool.true_and];exact h3
     simp [fits,this]
    ·rw [wrap_succ (by simp at hlen;omega)]
     simp only [List.length_append,List.length_cons,List.length_nil]
     repeat first | exact .nil | refine .cons (.refl _) ?_ | refine .cons (.forget _) ?_
theorem fits_pc (x:It) (its:List It) (σ:Store):PC Tryz.prog 105 [.sl 3 (its.map It.cells),.agg x.cells] σ (fun r σ'=>r=.b (fits its x)∧σ'=σ):=by
 refine PC.intro Tryz.func105 c105 fun hcl hwf=>wpc_sound ?_
 have hlen:=wf_sl (hwf 0 _ rfl).1
 rw [List.length_map] at hlen
 simp only [p105,SS,seval]
 simp only [List.length_map,W,seval]
 refine ⟨by simp [It.cells,okCells,cellOK],?_⟩
 refine PWc.rnd_cvs ?_ (its.length+1) (loop105 x its hcl hlen its [] rfl (fun h1=>?_) (fun h1=>?_))
 ·simp only [W,seval]
  repeat first | exact .nil | refine .cons (.refl _) ?_ | refine .cons (.forget _) ?_
 ·intros
  simp only [W,seval]
  exact ret_end hcl (.inr rfl) rfl (by simp only [LW]) ⟨by simp [one,h1],rfl⟩
 ·intros
  simp only [W,seval]
  exact ret_end hcl (.inr rfl) rfl (by simp only [LW]) ⟨by simp [one,h1],rfl⟩
set_option maxRecDepth 8000 in
theorem wellFormed_pc (pre rest:List It) (x:It) (σ:Store):PC Tryz.prog 103 [.sl 3 ((pre++x::rest).map It.cells),.i .i64 pre.length] σ (fun r σ'=>r=.b (itemFine pre.getLast? x)∧σ'=σ):=by
 refine PC.intro Tryz.func103 c103 fun hcl hwf=>wpc_sound ?_
 have hlen:=wf_sl (hwf 0 _ rfl).1
 rw [List.length_map] at hlen
 simp only [p103,SS,seval]
 simp only [It.cells,W,seval]
 refine ⟨by simp;omega,fun hk=>?_,fun hk=>⟨fun hk2=>?_,fun hk2=>?_⟩⟩
 ·simp only [beq_iff_eq] at hk
  have hp:∀ y ys,pre=ys++[y]→IntKind.i64.wrap ((pre.length:Int) - 1)=ys.length:=fun y ys e=>by
   subst e
   have:(ys++[y]).length<2^63:=by simp at hlen ⊢;omega
   rw [IntWalk.i64_in _ (by omega)];simp
  rcases List.eq_nil_or_concat pre with hnil | ⟨ys,y,hys⟩
  ·subst hnil
   refine ⟨fun h=>by simp at h,.i .i64 0,fun h=>by simp at h,?_⟩
   simp only [W,seval]
   refine ret_end hcl (.inr rfl) rfl (by simp only [LW]) ⟨?_,rfl⟩
   simp [one,itemFine,hk]
  ·rw [List.concat_eq_append] at hys
   rw [hp y ys hys]
   subst hys
   have hat:at2 (List.map It.cells (ys++[y]++x::rest)) ys.length 0=some (.i .i64 y.kind):=by
    rw [List.append_assoc,List.singleton_append,at2_at];rfl
   simp only [Int.toNat_natCast,hat]
   refine ⟨fun _=>by simp;omega,.i .i64 y.kind,fun _=>⟨True,rfl,trivial⟩,?_⟩
   simp only [W,seval]
   refine ret_end hcl (.inr rfl) rfl (by simp only [LW]) ⟨?_,rfl⟩
   have hne:(((ys++[y]).length:Int)==0)=false:=by simp;omega
   simp only [one,itemFine,hk,hne,if_true,List.getD_cons_zero,List.getD_cons_succ,List.getLast?_append,List.getLast?_singleton,Option.some_or,Bool.false_or]
 ·refine call_eq (isName_pc _ _) rfl ?_
  simp only [W,seval]
  simp only [beq_iff_eq,beq_eq_false_iff_ne] at hk hk2
  refine ret_end hcl (.inr rfl) rfl (by simp only [LW]) ⟨?_,rfl⟩
  simp only [one,itemFine,hk2,if_true,List.getD_cons_zero,List.getD_cons_succ]
  simp
 ·simp only [beq_eq_false_iff_ne,ne_eq] at hk hk2
  have tagged:(x.kind=2∨x.kind=4)→itemFine pre.getLast? x=(isContent x.text&&decide (1≤x.id)&&decide (x.id≤999)):=fun h=>by
   simp only [itemFine,hk,hk2,h,if_true,if_false]
  refine ⟨fun h2=>⟨fun _=>?_,fun h=>?_⟩,fun h2=>⟨fun h4=>?_,fun h4=>⟨fun h3=>?_,fun h3=>?_⟩⟩⟩
  ·refine call_eq (isContent_pc _ _) rfl ?_
   simp only [W,seval]
   refine ret_end hcl (.inr rfl) rfl (by simp only [LW]) ⟨?_,rfl⟩
   simp at h2
   simp only [one,tagged (.inl h2),List.getD_cons_zero,List.getD_cons_succ]
  ·rw [h2] at h;simp at h
  ·refine call_eq (isContent_pc _ _) rfl ?_
   simp only [W,seval]
   refine ret_end hcl (.inr rfl) rfl (by simp only [LW]) ⟨?_,rfl⟩
   simp at h4
   simp only [one,tagged (.inr h4),List.getD_cons_zero,List.getD_cons_succ]
  ·refine call_eq (isName_pc _ _) rfl ?_
   simp only [W,seval]
   refine ret_end hcl (.inr rfl) rfl (by simp only [LW]) ⟨?_,rfl⟩
   simp at h3
   simp [one,itemFine,h3]
  ·refine ret_end hcl (.inr rfl) rfl (by simp only [LW]) ⟨?_,rfl⟩
   simp at h2 h3 h4
   simp [one,itemFine,hk,hk2,h2,h3,h4]
theorem loop67 {σ:Store} {K:Exit→St→Prop} (its:List It) (hcl:Closed σ) (hlen:its.length<2^63):∀ (rest pre:List It),its=pre++rest →
  (itemsErr pre rest=0→(∀ j0 j1 j2 j3 j4 j5 j6 j7 j8 j9 j10 j11 j12 j13 j14 j15 j16 j17 j18 j19 j20 j21 j22 j23 j24 j25 j26 j27 j28 j29 j30 j31 j32 j33 j34,K (.exit 0) ⟨[j0,j1,j2,j3,j4,j5,j6,j7,j8,j9,j10,j11,j12,j13,j14,j15,j16,j17,j18,j19,j20,j21,j22,j23,j24,j25,j26,j27,j28,j29,j30,j31,j32,j33,j34],σ⟩))→(itemsErr pre rest≠0→∀ loc,(∀ j0 j1 j3 j4 j5 j6 j7 j8 j9 j10 j11 j12 j13 j14 j15 j16 j17 j18 j19 j20 j21 j22 j23 j24 j25 j26 j27 j28 j29 j30 j31 j32 j33 j34,K .ret ⟨[j0,j1,.i .i64 (itemsErr pre rest),j3,j4,j5,j6,j7,j8,j9,j10,j11,j12,j13,j14,j15,j16,j17,j18,j19,j20,j21,j22,j23,j24,j25,j26,j27,j28,j29,j30,j31,j32,j33,j34],σ++loc⟩)) →
  Rnd σ.length Tryz.prog p67_0 K (rest.length+1) ⟨[.sl 3 (its.map It.cells),.u,.u,.u,.u,.u,.u,.u,.u,.u,.u,.u,.u,.sl 3 (its.map It.cells),.i .i64 its.length,.i .i64 pre.length,.u,.u,.u,.u,.u,.u,.u,.u,.u,.u,.u,.u,.u,.u,.u,.u,.u,.u,.u],σ⟩:=by
 intro rest
 induction rest with
 | nil =>
  intro pre he h1 h2
  have he:its=pre:=by simpa using he
  subst he
  refine rnd_step fun R hR=>?_
  simp only [p67_0,W,seval]
  exact ⟨fun h=>by simp at h,fun _=>h1 rfl ..⟩
 | cons y rest ih =>
  intro pre he h1 h2
  subst he
  refine rnd_step fun R hR=>?_
  simp only [p67_0,It.cells,W,seval]
  refine ⟨fun _=>⟨by simp;omega,?_⟩,fun h=>by simp at h;omega⟩
  refine call_eq (wellFormed_pc pre rest y _) rfl ?_
  simp only [W,seval]
  refine ⟨fun h=>?_,fun h=>?_⟩
  ·have e:itemsErr pre (y::rest)=1:=by simp at h;simp [itemsErr,h]
   rw [e] at h2
   exact h2 (by decide) _ ..
  ·refine call_eq (isTag_pc y _) rfl ?_
   simp only [W,seval]
   have ht:List.take (pre.length - 0) (List.map It.cells (pre++y::rest))=pre.map It.cells:=by simp
   simp only [ht]
   refine ⟨fun _=>by simp;omega,callg_eq rfl (fun _=>fits_pc y pre _) rfl ?_⟩
   simp only [W,seval]
   have h':itemFine pre.getLast? y=true:=by simpa using h
   refine ⟨fun h3=>?_,fun h3=>?_⟩
   ·have e:itemsErr pre (y::rest)=7:=by
     simp only [itemsErr,h',h3,if_true,if_false,Bool.true_eq_false]
    rw [e] at h2
    exact h2 (by decide) _ ..
   ·have e:itemsErr pre (y::rest)=itemsErr (pre++[y]) rest:=by
     simp only [itemsErr,h',h3,if_false,Bool.true_eq_false,Bool.false_eq_true]
    rw [e] at h1 h2
    refine hR _ (rnd_back (Nat.le_refl _) hcl ?_ ?_ (ih (pre++[y]) (by simp) h1 h2))
    ·rw [wrap_succ (by simp at hlen;omega)]
     simp only [List.length_append,List.length_cons,List.length_nil]
     repeat first | exact .nil | refine .cons (.refl _) ?_ | refine .cons (.forget _) ?_
    ·simp only [LW]
theorem itemValidate_pc (its:List It) (σ:Store):PC Tryz.prog 67 [.sl 3 (its.map It.cells)] σ (fun r σ'=>r=.i .i64 (validItems its)∧σ'=σ):=by
 refine PC.intro Tryz.func67 c67 fun hcl hwf=>wpc_sound ?_
 have hlen:=wf_sl (hwf 0 _ rfl).1
 rw [List.length_map] at hlen
 simp only [p67,SS,seval]
 simp only [List.length_map,W,seval]
 refine callg_eq rfl (fun _=>length_pc its _) rfl ?_
 simp only [List.length_map,W,seval]
 refine ⟨fun h=>?_,fun h=>?_⟩
 ·refine ret_end0 (.inr rfl) rfl ⟨?_,rfl⟩
  simp at h
  have:512<its.length∨1024<lengthFrom 0 its:=by omega
  simp only [one,validItems,this,if_true,List.getD_cons_zero,List.getD_cons_succ]
 ·simp at h
  have hn:¬ (512<its.length∨1024<lengthFrom 0 its):=by omega
  refine PWc.rnd_cvs ?_ (its.length+1) (loop67 its hcl hlen its [] rfl (fun h1=>?_) (fun h1=>?_))
  ·simp only [W,seval]
   repeat first | exact .nil | refine .cons (.refl _) ?_ | refine .cons (.forget _) ?_
  ·intros
   simp only [W,seval]
   exact ret_end0 (.inr rfl) rfl ⟨by simp only [one,validItems,hn,h1,if_false,List.getD_cons_zero,List.getD_cons_succ],rfl⟩
  ·intros
   simp only [W,seval]
   exact ret_end hcl (.inr rfl) rfl (by simp only [LW]) ⟨by simp only [one,validItems,hn,if_false,List.getD_cons_zero,List.getD_cons_succ],rfl⟩
theorem loop106 {σ:Store} {K:Exit→St→Prop} (its:List It) (hcl:Closed σ) (hlen:its.length<2^40):∀ (rest pre:List It) (acc:List Int),its=pre++rest→acc.length≤pre.length →
  (∀ es,(∀ j0 j1 j2 j4 j5 j6 j7 j8 j9 j10 j11 j12 j13 j14 j15 j16 j17 j18 j19 j20 j21 j22 j23 j24 j25 j26 j27 j28 j29 j30 j31 j32,K (.exit 0) ⟨[j0,j1,j2,.own (σ.length+1) (numbersFrom acc rest).length,j4,j5,j6,j7,j8,j9,j10,j11,j12,j13,j14,j15,j16,j17,j18,j19,j20,j21,j22,j23,j24,j25,j26,j27,j28,j29,j30,j31,j32],σ++[es,.row 3 1 8 (numbersFrom acc rest).length false ((numbersFrom acc rest).map iRow)]⟩)) →
  Rnd σ.length Tryz.prog p106_0 K (rest.length+1) ⟨[.u,.u,.u,.own (σ.length+1) acc.length,.mp σ.length,.u,.u,.u,.sl 3 (its.map It.cells),.i .i64 its.length,.i .i64 pre.length,.u,.u,.u,.u,.u,.u,.u,.u,.u,.u,.u,.u,.u,.u,.u,.u,.u,.u,.u,.u,.u,.u],σ++[.map 3 4 (setMap acc),.row 3 1 8 acc.length false (acc.map iRow)]⟩:=by
 intro rest
 induction rest with
 | nil =>
  intro pre acc he hac h1
  have he:its=pre:=by simpa using he
  subst he
  refine rnd_step fun R hR=>?_
  simp only [p106_0,W,seval]
  exact ⟨fun h=>by simp at h,fun _=>h1 _ ..⟩
 | cons y rest ih =>
  intro pre acc he hac h1
  subst he
  refine rnd_step fun R hR=>?_
  by_cases hm:y.id∈acc
  ·have hf:mapFind (σ++[.map 3 4 (setMap acc),.row 3 1 8 acc.length false (acc.map iRow),.box 79 y.cells]) 0 (.mp σ.length) (.i .i64 y.id)=some (some (0+acc.idxOf y.id,.b true)):=by
    simp only [mapFind,base_get0,List.getElem?_cons_zero,findV_set,hm,if_true]
   simp only [It.cells] at hf
   simp only [p106_0,It.cells,W,seval]
   refine ⟨fun _=>⟨by simp;omega,?_⟩,fun h=>by simp at h;omega⟩
   refine call_eq (isTag_pc y _) rfl ?_
   simp only [hf,W,seval]
   have e:numbersFrom acc (y::rest)=numbersFrom acc rest:=by
    simp [numbersFrom,hm]
   rw [e] at h1
   have hcl2:Closed (σ++[.map 3 4 (setMap acc),.row 3 1 8 acc.length false (acc.map iRow)]):=closed_add hcl (by simp)
   refine ⟨fun _=>by simp [V.mkey],fun h=>by simp at h,fun _=>?_⟩
   refine hR _ (rnd_drop [_,_] [_] hcl2 ?_ ?_ (ih (pre++[y]) acc (by simp) (by simp;omega) h1))
   ·rw [wrap_succ (by simp at hlen;omega)]
    simp only [List.length_append,List.length_cons,List.length_nil]
    repeat first | exact .nil | refine .cons (.refl _) ?_ | refine .cons (.forget _) ?_
   ·simp only [LW,List.length_cons,List.length_nil,Nat.zero_add]
    omega
  ·have hf:mapFind (σ++[.map 3 4 (setMap acc),.row 3 1 8 acc.length false (acc.map iRow),.box 79 y.cells]) 0 (.mp σ.length) (.i .i64 y.id)=some none:=by
    simp only [mapFind,base_get0,List.getElem?_cons_zero,findV_set,hm,if_false]
   have hf2:findV 0 (.i .i64 y.id) (setMap acc) 0=some none:=by simp only [findV_set,hm,if_false]
   simp only [It.cells] at hf
   simp only [p106_0,It.cells,W,seval]
   refine ⟨fun _=>⟨by simp;omega,?_⟩,fun h=>by simp at h;omega⟩
   refine call_eq (isTag_pc y _) rfl ?_
   simp only [hf,hf2,W,seval]
   have hc:acc.contains y.id=false:=by simpa using hm
   refine ⟨fun _=>by simp [V.mkey],fun h=>?_,fun h=>?_⟩
   ·have e:numbersFrom acc (y::rest)=numbersFrom (acc++[y.id]) rest:=by simp [numbersFrom,hm,h]
    rw [e] at h1
    have hr:acc.map iRow++[[V.i .i64 y.id]]=(acc++[y.id]).map iRow:=by simp [iRow]
    have hs:setMap acc++[(V.i .i64 y.id,purifyV [none] (V.b true))]=setMap (acc++[y.id]):=by simp [setMap,purifyV]
    have hl:acc.length+1=(acc++[y.id]).length:=by simp
    rw [hr,hs,hl]
    have hcl2:Closed (σ++[.map 3 4 (setMap (acc++[y.id])),.row 3 1 8 (acc++[y.id]).length false ((acc++[y.id]).map iRow)]):=closed_add hcl (by simp)
    refine ⟨by simp [V.mkey,purifyV,V.mval,V.pure],?_,?_⟩
    ·simp at hlen
     simp [maxLen];omega
    ·refine hR _ (rnd_drop [_,_] [_] hcl2 ?_ ?_ (ih (pre++[y]) (acc++[y.id]) (by simp) (by simp;omega) h1))
     ·rw [wrap_succ (by simp at hlen;omega)]
      simp only [List.length_append,List.length_cons,List.length_nil]
      repeat first | exact .nil | refine .cons (.refl _) ?_ | refine .cons (.forget _) ?_
     ·simp only [LW,List.length_cons,List.length_nil,Nat.zero_add]
      omega
   ·have e:numbersFrom acc (y::rest)=numbersFrom acc rest:=by simp [numbersFrom,h]
    rw [e] at h1
    have hcl2:Closed (σ++[.map 3 4 (setMap acc),.row 3 1 8 acc.length false (acc.map iRow)]):=closed_add hcl (by simp)
    refine hR _ (rnd_drop [_,_] [_] hcl2 ?_ ?_ (ih (pre++[y]) acc (by simp) (by simp;omega) h1))
    ·rw [wrap_succ (by simp at hlen;omega)]
     simp only [List.length_append,List.length_cons,List.length_nil]
     repeat first | exact .nil | refine .cons (.refl _) ?_ | refine .cons (.forget _) ?_
    ·simp only [LW,List.length_cons,List.length_nil,Nat.zero_add]
     omega
theorem numbers_own (its:List It) (hlen:its.length<2^40) (σ:Store):PC Tryz.prog 106 [.sl 3 (its.map It.cells)] σ (fun r σ'=>r=.own σ.length 0∧σ'=σ++[.row 3 1 8 0 false ((numbers its).map iRow)]):=by
 refine PC.intro Tryz.func106 c106 fun hcl hwf=>wpc_sound ?_
 simp only [p106,SS,seval]
 simp only [List.length_map,W,seval]
 refine PWc.wk ((Wk.promote_at (σ:=σ) [_] (k:=3) ti_int rfl).trans (Wk.cvs ?_)) (PWc.rnd (its.length+1) (loop106 its hcl hlen its [] [] rfl (Nat.le_refl _) ?_))
 ·simp only [W,seval]
  repeat first | exact .nil | refine .cons (.refl _) ?_ | refine .cons (.forget _) ?_
 ·intros
  simp only [W,seval]
  exact ret_own 1 hcl (.inr rfl) rfl rfl rfl (by simp [mvOK,Ob.gen]) (by simp [one,numbers,mv1,Ob.fresh])
theorem numbers_pc (its:List It) (hlen:its.length<2^40) (σ:Store):PC Tryz.prog 106 [.sl 3 (its.map It.cells)] σ (fun r σ'=>r=.sl 1 ((numbers its).map iRow)∧σ'=σ) :=
 PC.closed fun hcl=>PC.fz hcl (numbers_own its hlen σ)
theorem loop109 {σ:Store} {K:Exit→St→Prop} (hcl:Closed σ) (N:Nat) (hN:N<2^40):∀ (k i:Nat),i+k=N →
  (∀ j0 j1 j2 j4 j5 j6 j7 j8 j9 j10 j11 j12 j13 j14 j15 j16 j17 j18,K (.exit 0) ⟨[j0,j1,j2,.own σ.length 0,j4,j5,j6,j7,j8,j9,j10,j11,j12,j13,j14,j15,j16,j17,j18],σ++[.row 3 1 8 0 false (countRows N N)]⟩) →
  Rnd σ.length Tryz.prog p109_0 K (k+1) ⟨[.u,.u,.u,.own σ.length 0,.u,.u,.u,.u,.i .i64 N,.i .i64 i,.u,.u,.u,.u,.u,.u,.u,.u,.u],σ++[.row 3 1 8 0 false (countRows N i)]⟩
 | 0,i,he,h1=>by
  have he:i=N:=by omega
  subst he
  refine rnd_step fun R hR=>?_
  simp only [p109_0,W,seval]
  exact ⟨fun h=>by simp at h,fun _=>h1 ..⟩
 | k+1,i,he,h1=>by
  have hi:i<N:=by omega
  refine rnd_step fun R hR=>?_
  simp only [p109_0,countRows_len (Nat.le_of_lt hi),countRows_get hi,W,seval]
  refine ⟨fun _=>?_,fun h=>by simp at h;omega⟩
  have hw:=wrap_succ (n:=i) (by omega)
  rw [hw]
  have hset:(countRows N i).set i [V.i .i64 (((i+1:Nat)):Int)]=countRows N (i+1):=by rw [← countRows_set hi];rfl
  rw [hset]
  refine ⟨by omega,hi,hR _ (rnd_cvs ?_ (loop109 hcl N hN k (i+1) (by omega) h1))⟩
  repeat first | exact .nil | refine .cons (.refl _) ?_ | refine .cons (.forget _) ?_
theorem counting_pc (n:Nat) (hn:n<2^40) (σ:Store):PC Tryz.prog 109 [.i .i64 n] σ (fun r σ'=>r=.sl 1 ((counting n).map iRow)∧σ'=σ):=by
 refine PC.intro Tryz.func109 c109 fun hcl hwf=>wpc_sound ?_
 simp only [p109,SS,seval]
 simp only [W,seval]
 refine ⟨⟨by omega,.inl trivial,by omega,by omega,by simp [maxLen];omega⟩,?_⟩
 have e:List.replicate n [V.i .i64 0]=countRows n 0:=by simp [countRows,counting]
 rw [e]
 refine PWc.rnd_cvs (fr':=[.u,.u,.u,.own σ.length 0,.u,.u,.u,.u,.i .i64 n,.i .i64 (0:Nat),.u,.u,.u,.u,.u,.u,.u,.u,.u]) ?_ (n+1) (loop109 hcl n hn n 0 (by omega) ?_)
 ·rw [countRows_len (Nat.zero_le _)]
  repeat first | exact .nil | refine .cons (.refl _) ?_ | refine .cons (.forget _) ?_
 ·intros
  simp only [W,seval]
  refine ret_fz 0 hcl (.inr rfl) rfl rfl ?_ ?_
  ·simp [fz,fz1,AllLt,lt_sl]
  ·simp [fz,fz1,one,countRows]
def idxI (l:List Int) (x:Int):Int:=if x∈l then l.idxOf x else -1
theorem loop147 {σ:Store} {K:Exit→St→Prop} (x:Int) (l:List Int) (hlen:l.length<2^63):∀ (rest pre:List Int),l=pre++rest→x ∉ pre →
  (x ∉ l→(∀ j0 j1 j2 j3 j4 j5 j6 j7 j8 j9 j10 j11 j12 j13 j14 j15 j16 j17 j18,K (.exit 0) ⟨[j0,j1,j2,j3,j4,j5,j6,j7,j8,j9,j10,j11,j12,j13,j14,j15,j16,j17,j18],σ⟩))→(x∈l→(∀ j0 j1 j2 j3 j5 j6 j7 j8 j9 j10 j11 j12 j13 j14 j15 j16 j17 j18,K .ret ⟨[j0,j1,j2,j3,.i .i64 (idxI l x),j5,j6,j7,j8,j9,j10,j11,j12,j13,j14,j15,j16,j17,j18],σ⟩)) →
  Rnd σ.length Tryz.prog p147_0 K (rest.length+1) ⟨[.sl 1 (l.map iRow),.i .i64 x,.u,.u,.u,.u,.u,.i .i64 l.length,.i .i64 pre.length,.u,.u,.u,.u,.u,.u,.u,.u,.u,.u],σ⟩:=by
 intro rest
 induction rest with
 | nil =>
  intro pre he hn h1 h2
  have he:l=pre:=by simpa using he
  subst he
  refine rnd_step fun R hR=>?_
  simp only [p147_0,W,seval]
  exact ⟨fun h=>by simp at h,fun _=>h1 hn ..⟩
 | cons c rest ih =>
  intro pre he hn h1 h2
  subst he
  refine rnd_step fun R hR=>?_
  simp only [p147_0,iRow,W,seval]
  refine ⟨fun _=>⟨by simp;omega,fun h=>?_,fun h=>?_⟩,fun h=>by simp at h;omega⟩
  ·simp at h
   subst h
   have e:idxI (pre++x::rest) x=pre.length:=by
    simp [idxI,List.idxOf_append,hn]
   rw [e] at h2
   exact h2 (by simp) ..
  ·simp at h
   refine hR _ (rnd_cvs ?_ (ih (pre++[c]) (by simp) (by simp [hn,h]) h1 h2))
   rw [wrap_succ (by simp at hlen;omega)]
   simp only [List.length_append,List.length_cons,List.length_nil]
   repeat first | exact .nil | refine .cons (.refl _) ?_ | refine .cons (.forget _) ?_
theorem indexInt_pc (l:List Int) (x:Int) (σ:Store):PC Tryz.prog 147 [.sl 1 (l.map iRow),.i .i64 x] σ (fun r σ'=>r=.i .i64 (idxI l x)∧σ'=σ):=by
 refine PC.intro Tryz.func147 c147 fun hcl hwf=>wpc_sound ?_
 have hlen:=wf_sl (hwf 0 _ rfl).1
 rw [List.length_map] at hlen
 simp only [p147,SS,seval]
 simp only [List.length_map,W,seval]
 refine PWc.rnd_cvs ?_ (l.length+1) (loop147 x l hlen l [] rfl (by simp) (fun h=>?_) (fun h=>?_))
 ·repeat first | exact .nil | refine .cons (.refl _) ?_ | refine .cons (.forget _) ?_
 ·intros
  simp only [W,seval]
  exact ret_end0 (.inr rfl) rfl ⟨by simp [one,idxI,h],rfl⟩
 ·intros
  simp only [W,seval]
  exact ret_end0 (.inr rfl) rfl ⟨rfl,rfl⟩
theorem containsInt_pc (l:List Int) (x:Int) (σ:Store):PC Tryz.prog 107 [.sl 1 (l.map iRow),.i .i64 x] σ (fun r σ'=>r=.b (l.contains x)∧σ'=σ):=by
 refine PC.intro Tryz.func107 c107 fun hcl hwf=>wpc_sound ?_
 simp only [p107,SS,seval]
 simp only [W,seval]
 refine call_eq (indexInt_pc l x _) rfl ?_
 simp only [W,seval]
 refine ret_end0 (.inr rfl) rfl ⟨?_,rfl⟩
 by_cases h:x∈l
 ·simp [one,idxI,h]
 ·simp [one,idxI,h]
theorem loop110 {σ:Store} {K:Exit→St→Prop} (a b:List It) (hlen:a.length<2^63) (hab:a.length=b.length):∀ (ra rb pa pb:List It),a=pa++ra→b=pb++rb→pa.length=pb.length →
  (itsEq ra rb=true→(∀ j0 j1 j2 j3 j4 j5 j6 j7 j8 j9 j10 j11 j12 j13 j14 j15 j16 j17 j18 j19 j20 j21 j22 j23 j24 j25,K (.exit 0) ⟨[j0,j1,j2,j3,j4,j5,j6,j7,j8,j9,j10,j11,j12,j13,j14,j15,j16,j17,j18,j19,j20,j21,j22,j23,j24,j25],σ⟩))→(itsEq ra rb=false→(∀ j0 j1 j2 j3 j5 j6 j7 j8 j9 j10 j11 j12 j13 j14 j15 j16 j17 j18 j19 j20 j21 j22 j23 j24 j25,K .ret ⟨[j0,j1,j2,j3,.b false,j5,j6,j7,j8,j9,j10,j11,j12,j13,j14,j15,j16,j17,j18,j19,j20,j21,j22,j23,j24,j25],σ⟩)) →
  Rnd σ.length Tryz.prog p110_0 K (ra.length+1) ⟨[.sl 3 (a.map It.cells),.sl 3 (b.map It.cells),.u,.u,.u,.u,.u,.u,.u,.u,.u,.u,.i .i64 a.length,.i .i64 pa.length,.u,.u,.u,.u,.u,.u,.u,.u,.u,.u,.u,.u],σ⟩
 | [],rb,pa,pb,ha,hb,hp,h1,h2=>by
  have:rb=[]:=by
   subst ha;subst hb
   simp at hab
   have:rb.length=0:=by omega
   exact List.length_eq_zero_iff.1 this
  subst this
  subst ha
  refine rnd_step fun R hR=>?_
  simp only [p110_0,W,seval]
  exact ⟨fun h=>by simp at h,fun _=>h1 rfl ..⟩
 | x::ra,[],pa,pb,ha,hb,hp,h1,h2=>by
  subst ha;subst hb;simp at hab;omega
 | x::ra,y::rb,pa,pb,ha,hb,hp,h1,h2=>by
  subst ha;subst hb
  refine rnd_step fun R hR=>?_
  have hat:(List.map It.cells (pb++y::rb)).getD pa.length []=y.cells:=by rw [hp];exact row_at
  simp only [p110_0,hat,It.cells,cellsEq,scalEq,W,seval]
  refine ⟨fun _=>⟨by simp;omega,by simp;omega,fun h=>?_,fun h=>?_⟩,fun h=>by simp at h;omega⟩
  ·refine h2 ?_ ..
   have:itEq x y=false:=by simpa only [itEq,Bool.not_eq_true'] using h
   simp [itsEq,this]
  ·have he:itEq x y=true:=by simpa only [itEq,Bool.not_eq_false'] using h
   have e:itsEq (x::ra) (y::rb)=itsEq ra rb:=by simp [itsEq,he]
   rw [e] at h1 h2
   refine hR _ (rnd_cvs ?_ (loop110 _ _ hlen hab ra rb (pa++[x]) (pb++[y]) (by simp) (by simp) (by simp [hp]) h1 h2))
   rw [wrap_succ (by simp at hlen;omega)]
   simp only [List.length_append,List.length_cons,List.length_nil]
   repeat first | exact .nil | refine .cons (.refl _) ?_ | refine .cons (.forget _) ?_
theorem equalItems_pc (a b:List It) (σ:Store):PC Tryz.prog 110 [.sl 3 (a.map It.cells),.sl 3 (b.map It.cells)] σ (fun r σ'=>r=.b (itsEq a b)∧σ'=σ):=by
 refine PC.intro Tryz.func110 c110 fun hcl hwf=>wpc_sound ?_
 have hlen:=wf_sl (hwf 0 _ rfl).1
 rw [List.length_map] at hlen
 simp only [p110,SS,seval]
 simp only [List.length_map,W,seval]
 refine ⟨fun h=>?_,fun h=>?_⟩
 ·refine ret_end0 (.inr rfl) rfl ⟨?_,rfl⟩
  simp at h
  simp only [one,List.getD_cons_zero,List.getD_cons_succ,V.b.injEq]
  cases e:itsEq a b
  ·rfl
  ·exact absurd (itsEq_len e) (by omega)
 ·simp at h
  refine PWc.rnd_cvs ?_ (a.length+1) (loop110 a b hlen (by omega) a b [] [] rfl rfl rfl (fun h1=>?_) (fun h1=>?_))
  ·simp only [W,seval]
   repeat first | exact .nil | refine .cons (.refl _) ?_ | refine .cons (.forget _) ?_
  ·simp only [W,seval]
   intros
   exact ret_end0 (.inr rfl) rfl ⟨by simp [one,h1],rfl⟩
  ·simp only [W,seval]
   intros
   exact ret_end0 (.inr rfl) rfl ⟨by simp [one,h1],rfl⟩
theorem itemSame_pc (a b:List It) (σ:Store):PC Tryz.prog 69 [.sl 3 (a.map It.cells),.sl 3 (b.map It.cells)] σ (fun r σ'=>r=.b (itsEq a b)∧σ'=σ):=by
 refine PC.intro Tryz.func69 c69 fun hcl hwf=>wpc_sound ?_
 simp only [p69,SS,seval]
 simp only [W,seval]
 refine call_eq (equalItems_pc a b _) rfl ?_
 simp only [W,seval]
 exact ret_end0 (.inr rfl) rfl ⟨rfl,rfl⟩
theorem loop_run {σ:Store} {K:Exit→St→Prop} (its:List It) (go:Nat) (rows:List (List V)) (hcl:Closed σ) (hlen:its.length<2^40) :
  ∀ (rest pre:List It) (b:List UInt8) (g:Nat),its=pre++rest→b.length+(runText rest).1.length<2^40 →
  (∀ g',(∀ j1 j2 j6 j7 j8 j9 j10 j11 j12 j13 j14 j15 j16 j17 j18 j19 j20 j21 j22 j23 j24 j25 j26 j27 j28 j29 j30 j31 j32 j33 j34 j35 j36 j37 j38 j39 j40 j41 j42 j43 j44 j45 j46 j47 j48 j49 j50 j51 j52 j53 j54 j55,K (.exit 2) ⟨[.sl 3 (its.map It.cells),j1,j2,.own σ.length go,.i .i64 (its.length - (runText rest).2.length:Nat),.own (σ.length+1) g',j6,j7,j8,j9,j10,j11,j12,j13,j14,j15,j16,j17,j18,j19,j20,j21,j22,j23,j24,j25,j26,j27,j28,j29,j30,j31,j32,j33,j34,j35,j36,j37,j38,j39,j40,j41,j42,j43,j44,j45,j46,j47,j48,j49,j50,j51,j52,j53,j54,j55],σ++[.row 79 3 32 go false rows,.row 5 1 1 g' false (bytesV (b++(runText rest).1))]⟩)) →
  Rnd σ.length Tryz.prog p148_0 K (rest.length+1) ⟨[.sl 3 (its.map It.cells),.u,.u,.own σ.length go,.i .i64 pre.length,.own (σ.length+1) g,.u,.u,.u,.u,.u,.u,.u,.u,.u,.u,.u,.u,.u,.u,.u,.u,.u,.u,.u,.u,.u,.u,.u,.u,.u,.u,.u,.u,.u,.u,.u,.u,.u,.u,.u,.u,.u,.u,.u,.u,.u,.u,.u,.u,.u,.u,.u,.u,.u,.u],σ++[.row 79 3 32 go false rows,.row 5 1 1 g false (bytesV b)]⟩:=by
 intro rest
 induction rest with
 | nil =>
  intro pre b g he hb h1
  have he:its=pre:=by simpa using he
  subst he
  refine rnd_step fun R hR=>?_
  simp only [p148_0,W,seval]
  refine ⟨fun h=>by simp at h,.i .i64 0,fun h=>by simp at h,?_⟩
  simp only [W,seval]
  refine ⟨fun h=>by simp at h,fun _=>?_⟩
  have e:b++(runText []).1=b:=by simp [runText]
  rw [e] at h1
  exact h1 _ ..
 | cons x rest ih =>
  intro pre b g he hb h1
  subst he
  refine rnd_step fun R hR=>?_
  simp only [p148_0,It.cells,W,seval]
  refine ⟨fun _=>by simp;omega,.i .i64 x.kind,fun _=>rfl,?_⟩
  simp only [W,seval]
  have hlt:decide ((pre.length:Int)<((List.map It.cells (pre++x::rest)).length:Int))=true:=by simp;omega
  simp only [hlt,It.cells,W,seval]
  refine ⟨fun h=>?_,fun h=>?_⟩
  ·simp at h
   have e1:(runText (x::rest)).1=x.text++(runText rest).1:=by simp [runText,h]
   have e2:(runText (x::rest)).2=(runText rest).2:=by simp [runText,h]
   rw [e1] at h1 hb
   rw [e2] at h1
   simp only [← List.append_assoc b] at h1
   rw [List.length_append] at hb
   refine ⟨by simp;omega,⟨?_,?_⟩,?_⟩
   ·simp only [bytesV_length];omega
   ·simp only [bytesV_length,maxLen];omega
   ·rw [bytesV_append]
    refine hR _ (rnd_cvs ?_ (ih (pre++[x]) (b++x.text) (g+1) (by simp) (by rw [List.length_append];omega) h1))
    rw [wrap_succ (by simp at hlen;omega)]
    simp only [List.length_append,List.length_cons,List.length_nil]
    repeat first | exact .nil | refine .cons (.refl _) ?_ | refine .cons (.forget _) ?_
  ·simp at h
   have e1:(runText (x::rest))=([],x::rest):=by simp [runText,h]
   rw [e1] at h1
   have e2:(pre++x::rest).length - (x::rest).length=pre.length:=by simp
   have h2:=h1 g
   simp only [e2,List.append_nil] at h2
   exact h2 ..
end Go.Proofs.Tryz
