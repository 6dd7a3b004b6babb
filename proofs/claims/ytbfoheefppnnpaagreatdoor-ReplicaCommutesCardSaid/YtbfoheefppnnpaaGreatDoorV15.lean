/- A part of the proof of the statement of the last text of this claim: for every two lists of integers ReplicaCommutes returns true and leaves the memory as it was. -/
import Derived.Test.YtbfoheefppnnpaaGreatDoorProg
import Derived.KernelRfl
import Derived.Test.YtbfoheefppnnpaaGreatDoorV12
set_option linter.all false

namespace Go.Proofs.Tryz
open Go Go.Pm
def p178:PFun:=⟨51,[.t 2],.seq (.reg [] [z 2 (.mov (.c (.i .i64 0)))]) (.seq (.block 0 (.seq (.reg [7,8,11,12,15,16] [zm 4 0,z 5 (.bin .eql (.t 4) (.c (.i .u8 9))),zm 6 5,⟨some 7,[(6,
 false)],.mov (.t 0)⟩,⟨some 8,[(6,false)],.bin .eql (.t 7) (.c (.i .u8 10))⟩,z 9 (.pick (.t 6) (.c (.b true)) (.t 8)),zm 10 9,⟨some 11,[(10,false)],.mov (.t 0)⟩,⟨some 12,
 [(10,false)],.bin .eql (.t 11) (.c (.i .u8 13))⟩,z 13 (.pick (.t 10) (.c (.b true)) (.t 12)),zm 14 13,⟨some 15,[(14,false)],.mov (.t 0)⟩,⟨some 16,[(14,false)],.bin .eql
 (.t 15) (.c (.i .u8 32))⟩,z 17 (.pick (.t 14) (.c (.b true)) (.t 16)),zm 3 17]) (.ite (.t 3) (.seq (.reg [] [z 2 (.mov (.c (.i .i64 2)))]) (.ret)) (.seq (.reg [22,23] [zm 19 0,z
 20 (.bin .lss (.t 19) (.c (.i .u8 32))),zm 21 20,⟨some 22,[(21,false)],.mov (.t 0)⟩,⟨some 23,[(21,false)],.bin .eql (.t 22) (.c (.i .u8 127))⟩,z 24 (.pick (.t 21) (.c (.b
 true)) (.t 23)),zm 18 24]) (.ite (.t 18) (.seq (.reg [] [z 2 (.mov (.c (.i .i64 1)))]) (.ret)) (.seq (.reg [29,30] [zm 26 0,z 27 (.bin .geq (.t 26) (.c (.i .u8 48))),zm 28 27,
 ⟨some 29,[(28,true)],.mov (.t 0)⟩,⟨some 30,[(28,true)],.bin .leq (.t 29) (.c (.i .u8 57))⟩,z 31 (.pick (.t 28) (.t 30) (.c (.b false))),zm 25 31]) (.ite (.t 25) (.seq (.reg
 [] [z 2 (.mov (.c (.i .i64 3)))]) (.ret)) (.seq (.reg [36,37,40,41,42,43,44,45,48,49] [zm 33 0,z 34 (.bin .geq (.t 33) (.c (.i .u8 65))),zm 35 34,⟨some 36,[(35,true)],
 .mov (.t 0)⟩,⟨some 37,[(35,true)],.bin .leq (.t 36) (.c (.i .u8 90))⟩,z 38 (.pick (.t 35) (.t 37) (.c (.b false))),zm 39 38,⟨some 40,[(39,false)],.mov (.t 0)⟩,⟨some 41,
 [(39,false)],.bin .geq (.t 40) (.c (.i .u8 97))⟩,⟨some 42,[(39,false)],.mov (.t 41)⟩,⟨some 43,[(39,false),(42,true)],.mov (.t 0)⟩,⟨some 44,[(39,false),(42,true)],
 .bin .leq (.t 43) (.c (.i .u8 122))⟩,⟨some 45,[(39,false)],.pick (.t 42) (.t 44) (.c (.b false))⟩,z 46 (.pick (.t 39) (.c (.b true)) (.t 45)),zm 47 46,⟨some 48,[(47,
 false)],.mov (.t 0)⟩,⟨some 49,[(47,false)],.bin .geq (.t 48) (.c (.i .u8 128))⟩,z 50 (.pick (.t 47) (.c (.b true)) (.t 49)),zm 32 50]) (.ite (.t 32) (.seq (.reg [] [z 2 (.mov
 (.c (.i .i64 4)))]) (.ret)) (.skip)))))))))) (.seq (.reg [] [z 2 (.mov (.c (.i .i64 5)))]) (.ret)))⟩
theorem c178:cFun Tryz.prog Tryz.f178=some p178:=by kernel_rfl
def p133_0:PCode:=.seq (.seq (.reg [] [zm 13 3,zm 14 0,z 15 (.len true (.t 14)),z 16 (.bin .lss (.t 13) (.t 15))]) (.ite (.t 16) (.skip) (.exit 0))) (.seq (.block 1 (.seq (.reg [] [zm 19 0,zm 20
 3,z 21 (.sidx (.t 19) (.t 20)),zm 4 21]) (.seq (.seq (.reg [25,26,29,30,31,32,33,34,35,36,37,38,39,40,41,42] [zm 22 4,z 23 (.bin .geq (.t 22) (.c (.i .u8 97))),zm
 24 23,⟨some 25,[(24,true)],.mov (.t 4)⟩,⟨some 26,[(24,true)],.bin .leq (.t 25) (.c (.i .u8 122))⟩,z 27 (.pick (.t 24) (.t 26) (.c (.b false))),zm 28 27,⟨some 29,[(28,
 false)],.mov (.t 3)⟩,⟨some 30,[(28,false)],.bin .gtr (.t 29) (.c (.i .i64 0))⟩,⟨some 31,[(28,false)],.mov (.t 30)⟩,⟨some 32,[(28,false),(31,true)],.mov (.t 4)⟩,⟨some
 33,[(28,false),(31,true)],.bin .geq (.t 32) (.c (.i .u8 48))⟩,⟨some 34,[(28,false),(31,true)],.mov (.t 33)⟩,⟨some 35,[(28,false),(31,true),(34,true)],.mov (.t
 4)⟩,⟨some 36,[(28,false),(31,true),(34,true)],.bin .leq (.t 35) (.c (.i .u8 57))⟩,⟨some 37,[(28,false),(31,true)],.pick (.t 34) (.t 36) (.c (.b false))⟩,⟨some 38,
 [(28,false),(31,true)],.mov (.t 37)⟩,⟨some 39,[(28,false),(31,true),(38,false)],.mov (.t 4)⟩,⟨some 40,[(28,false),(31,true),(38,false)],.bin .eql (.t 39) (.c (.i
 .u8 45))⟩,⟨some 41,[(28,false),(31,true)],.pick (.t 38) (.c (.b true)) (.t 40)⟩,⟨some 42,[(28,false)],.pick (.t 31) (.t 41) (.c (.b false))⟩,z 43 (.pick (.t 28) (.c (.b
 true)) (.t 42))]) (.ite (.t 43) (.exit 1) (.skip))) (.seq (.reg [] [z 2 (.mov (.c (.b false)))]) (.ret))))) (.reg [] [zm 17 3,z 18 (.bin .add (.t 17) (.c (.i .i64 1))),zm 3 18]))
def p133:PFun:=⟨44,[.t 2],.seq (.reg [] [z 2 (.mov (.c (.b false)))]) (.seq (.seq (.reg [9,10,11] [zm 5 0,z 6 (.len true (.t 5)),z 7 (.bin .lss (.t 6) (.c (.i .i64 1))),zm 8 7,⟨some 9,
 [(8,false)],.mov (.t 0)⟩,⟨some 10,[(8,false)],.len true (.t 9)⟩,⟨some 11,[(8,false)],.bin .gtr (.t 10) (.c (.i .i64 24))⟩,z 12 (.pick (.t 8) (.c (.b true)) (.t 11))])
 (.ite (.t 12) (.seq (.reg [] [z 2 (.mov (.c (.b false)))]) (.ret)) (.skip))) (.seq (.seq (.reg [] [z 3 (.mov (.c (.i .i64 0)))]) (.block 0 (.loop p133_0))) (.seq (.reg [] [z 2 (.mov
 (.c (.b true)))]) (.ret))))⟩
theorem c133:cFun Tryz.prog Tryz.f133=some p133:=by kernel_rfl
def p64_0:PCode:=.seq (.reg [] [z 14 (.bin .lss (.t 13) (.t 12))]) (.seq (.ite (.t 14) (.skip) (.exit 0)) (.seq (.block 1 (.seq (.reg [] [zm 15 13,zm 5 15]) (.seq (.dreg [] [zm 16 0,zm 17 5,z 18
 (.idx 3 (.t 16) (.t 17)),zL 19 3 18,zm 20 1,zm 21 5,z 22 (.idx 3 (.t 20) (.t 21)),zL 23 3 22] [] [z 24 (.beq true [0,1,0] (.t 19) (.t 23))]) (.ite (.t 24) (.seq (.reg [] [z 4
 (.mov (.c (.b false)))]) (.ret)) (.skip))))) (.reg [] [z 25 (.bin .add (.t 13) (.c (.i .i64 1))),zm 13 25])))
def p64:PFun:=⟨26,[.t 4],.seq (.reg [] [z 4 (.mov (.c (.b false)))]) (.seq (.seq (.reg [] [zm 6 0,z 7 (.len false (.t 6)),zm 8 1,z 9 (.len false (.t 8)),z 10 (.bin .neq (.t 7) (.t 9))])
 (.ite (.t 10) (.seq (.reg [] [z 4 (.mov (.c (.b false)))]) (.ret)) (.skip))) (.seq (.seq (.reg [] [zm 11 0,z 12 (.len false (.t 11)),z 13 (.mov (.c (.i .i64 0)))]) (.block 0
 (.loop p64_0))) (.seq (.reg [] [z 4 (.mov (.c (.b true)))]) (.ret))))⟩
theorem c64:cFun Tryz.prog Tryz.f64=some p64:=by kernel_rfl
def p159:PFun:=⟨16,[.t 2],.seq (.reg [] [z 1 (.box 79 (.t 0)),z 2 (.mov (.c (.b false)))]) (.seq (.reg [7,8,9,12,13,14] [zf 3 0 1,zl 4 3,z 5 (.bin .eql (.t 4) (.c (.i .i64 2))),zm 6 5,
 ⟨some 7,[(6,false)],.fld 0 (.t 1)⟩,⟨some 8,[(6,false)],.load none (.t 7)⟩,⟨some 9,[(6,false)],.bin .eql (.t 8) (.c (.i .i64 3))⟩,z 10 (.pick (.t 6) (.c (.b true)) (.t
 9)),zm 11 10,⟨some 12,[(11,false)],.fld 0 (.t 1)⟩,⟨some 13,[(11,false)],.load none (.t 12)⟩,⟨some 14,[(11,false)],.bin .eql (.t 13) (.c (.i .i64 4))⟩,z 15 (.pick (.t
 11) (.c (.b true)) (.t 14)),zm 2 15]) (.ret))⟩
theorem c159:cFun Tryz.prog Tryz.f159=some p159:=by kernel_rfl
def p126_0:PCode:=.seq (.seq (.reg [] [zm 4 3,zm 5 0,z 6 (.len true (.t 5)),z 7 (.bin .lss (.t 4) (.t 6))]) (.ite (.t 7) (.skip) (.exit 0))) (.seq (.block 1 (.seq (.reg [] [zm 10 0,zm 11 3,z 12
 (.sidx (.t 10) (.t 11)),z 13 (.bin .eql (.t 12) (.c (.i .u8 32)))]) (.ite (.t 13) (.seq (.reg [] [zm 14 0,zm 15 3,z 16 (.sslice (.t 14) none (some (.t 15))),zm 2 16]) (.ret))
 (.skip)))) (.reg [] [zm 8 3,z 9 (.bin .add (.t 8) (.c (.i .i64 1))),zm 3 9]))
def p126:PFun:=⟨18,[.t 2],.seq (.reg [] [z 2 (.mov (.c (.s [])))]) (.seq (.seq (.reg [] [z 3 (.mov (.c (.i .i64 0)))]) (.block 0 (.loop p126_0))) (.seq (.reg [] [zm 17 0,zm 2 17]) (.ret)))⟩
theorem c126:cFun Tryz.prog Tryz.f126=some p126:=by kernel_rfl
def p161_0:PCode:=.seq (.seq (.reg [] [zm 9 3,zm 10 0,z 11 (.len true (.t 10)),z 12 (.bin .lss (.t 9) (.t 11))]) (.ite (.t 12) (.skip) (.exit 0))) (.seq (.block 1 (.seq (.reg [] [zm 15 0,zm 16 3,
 z 17 (.sidx (.t 15) (.t 16)),zm 4 17]) (.seq (.reg [21,22,25,26,29,30,33,34,37,38] [zm 18 4,z 19 (.bin .lss (.t 18) (.c (.i .u8 32))),zm 20 19,⟨some 21,[(20,false)],
 .mov (.t 4)⟩,⟨some 22,[(20,false)],.bin .gtr (.t 21) (.c (.i .u8 126))⟩,z 23 (.pick (.t 20) (.c (.b true)) (.t 22)),zm 24 23,⟨some 25,[(24,false)],.mov (.t 4)⟩,⟨some 26,
 [(24,false)],.bin .eql (.t 25) (.c (.i .u8 60))⟩,z 27 (.pick (.t 24) (.c (.b true)) (.t 26)),zm 28 27,⟨some 29,[(28,false)],.mov (.t 4)⟩,⟨some 30,[(28,false)],.bin .eql
 (.t 29) (.c (.i .u8 62))⟩,z 31 (.pick (.t 28) (.c (.b true)) (.t 30)),zm 32 31,⟨some 33,[(32,false)],.mov (.t 4)⟩,⟨some 34,[(32,false)],.bin .eql (.t 33) (.c (.i .u8
 123))⟩,z 35 (.pick (.t 32) (.c (.b true)) (.t 34)),zm 36 35,⟨some 37,[(36,false)],.mov (.t 4)⟩,⟨some 38,[(36,false)],.bin .eql (.t 37) (.c (.i .u8 125))⟩,z 39 (.pick (.t
 36) (.c (.b true)) (.t 38))]) (.ite (.t 39) (.seq (.reg [] [z 2 (.mov (.c (.b false)))]) (.ret)) (.skip))))) (.reg [] [zm 13 3,z 14 (.bin .add (.t 13) (.c (.i .i64 1))),zm 3 14]))
def p161:PFun:=⟨67,[.t 2],.seq (.reg [] [z 2 (.mov (.c (.b false)))]) (.seq (.seq (.reg [] [zm 6 0,z 7 (.len true (.t 6)),z 8 (.bin .gtr (.t 7) (.c (.i .i64 64)))]) (.ite (.t 8) (.seq (.reg []
 [z 2 (.mov (.c (.b false)))]) (.ret)) (.skip))) (.seq (.seq (.reg [] [z 3 (.mov (.c (.i .i64 0)))]) (.block 0 (.loop p161_0))) (.seq (.reg [] [zm 40 0,z 41 (.call 126 [.t 40]),zm
 5 41]) (.seq (.reg [45,46,47,48,49,50,51,52,53,54,55,56,57,60,61,62,63,64,65] [zm 42 5,z 43 (.call 133 [.t 42]),zm 44 43,⟨some 45,[(44,true)],.mov (.t 5)⟩,
 ⟨some 46,[(44,true)],.len true (.t 45)⟩,⟨some 47,[(44,true)],.mov (.t 0)⟩,⟨some 48,[(44,true)],.len true (.t 47)⟩,⟨some 49,[(44,true)],.bin .eql (.t 46) (.t 48)⟩,
 ⟨some 50,[(44,true)],.mov (.t 49)⟩,⟨some 51,[(44,true),(50,false)],.mov (.t 0)⟩,⟨some 52,[(44,true),(50,false)],.len true (.t 51)⟩,⟨some 53,[(44,true),(50,
 false)],.mov (.t 5)⟩,⟨some 54,[(44,true),(50,false)],.len true (.t 53)⟩,⟨some 55,[(44,true),(50,false)],.bin .add (.t 54) (.c (.i .i64 1))⟩,⟨some 56,[(44,true),(50,
 false)],.bin .gtr (.t 52) (.t 55)⟩,⟨some 57,[(44,true)],.pick (.t 50) (.c (.b true)) (.t 56)⟩,z 58 (.pick (.t 44) (.t 57) (.c (.b false))),zm 59 58,⟨some 60,[(59,true)],
 .mov (.t 0)⟩,⟨some 61,[(59,true)],.mov (.t 0)⟩,⟨some 62,[(59,true)],.len true (.t 61)⟩,⟨some 63,[(59,true)],.bin .sub (.t 62) (.c (.i .i64 1))⟩,⟨some 64,[(59,true)],
 .sidx (.t 60) (.t 63)⟩,⟨some 65,[(59,true)],.bin .neq (.t 64) (.c (.i .u8 47))⟩,z 66 (.pick (.t 59) (.t 65) (.c (.b false))),zm 2 66]) (.ret)))))⟩
theorem c161:cFun Tryz.prog Tryz.f161=some p161:=by kernel_rfl
def p131_0:PCode:=.seq (.reg [] [z 81 (.bin .lss (.t 80) (.t 79))]) (.seq (.ite (.t 81) (.skip) (.exit 1)) (.seq (.block 2 (.seq (.reg [] [zm 82 80,zm 5 82]) (.seq (.reg [] [zm 83 0,zm 84 5,z 85
 (.idx 3 (.t 83) (.t 84)),zL 86 3 85,z 6 (.alloc 79 [.i .i64 0,.s [],.i .i64 0]),zs (.store 3 [none,none,none] (.t 6) (.t 86))]) (.seq (.seq (.reg [91,92,93,94,95] [zL 87
 3 6,z 88 (.call 159 [.t 87]),z 89 (.un .not (.t 88)),zm 90 89,⟨some 91,[(90,false)],.fld 2 (.t 6)⟩,⟨some 92,[(90,false)],.load none (.t 91)⟩,⟨some 93,[(90,false)],
 .fld 2 (.t 3)⟩,⟨some 94,[(90,false)],.load none (.t 93)⟩,⟨some 95,[(90,false)],.bin .neq (.t 92) (.t 94)⟩,z 96 (.pick (.t 90) (.c (.b true)) (.t 95))]) (.ite (.t 96) (.exit
 2) (.skip))) (.seq (.dreg [([zf 97 0 3,zl 98 97,z 99 (.bin .neq (.t 98) (.c (.i .i64 3))),zm 100 99,⟨some 101,[(100,false)],.fld 0 (.t 6)⟩,⟨some 102,[(100,false)],.load
 none (.t 101)⟩,⟨some 103,[(100,false)],.bin .neq (.t 102) (.c (.i .i64 2))⟩,z 104 (.pick (.t 100) (.c (.b true)) (.t 103)),zm 105 104,⟨some 106,[(105,false)],.fld 1 (.t
 6)⟩,⟨some 107,[(105,false)],.load none (.t 106)⟩,⟨some 109,[(105,false)],.fld 1 (.t 3)⟩,⟨some 110,[(105,false)],.load none (.t 109)⟩],⟨some 108,[(105,false)],.call
 126 [.t 107]⟩,[⟨some 109,[(105,false)],.fld 1 (.t 3)⟩,⟨some 110,[(105,false)],.load none (.t 109)⟩])] [] [101,102,103,106,107,108,109,110,111] [⟨some 111,[(105,
 false)],.bin .neq (.t 108) (.t 110)⟩,z 112 (.pick (.t 105) (.c (.b true)) (.t 111))]) (.ite (.t 112) (.seq (.reg [] [z 4 (.mov (.c (.i .i64 7)))]) (.ret)) (.skip))))))) (.reg []
 [z 113 (.bin .add (.t 80) (.c (.i .i64 1))),zm 80 113])))
def p131:PFun:=⟨114,[.t 4],.seq (.reg [] [z 3 (.box 79 (.t 1)),z 4 (.mov (.c (.i .i64 0)))]) (.seq (.seq (.reg [] [zf 7 0 3,zl 8 7]) (.block 0 (.seq (.reg [] [z 10 (.bin .eql (.t 8) (.c (.i
 .i64 1))),zm 9 10]) (.ite (.t 9) (.seq (.seq (.reg [15,16,17,20,21,22,23,24,25,26,27,28,29,30,31,32] [zf 11 1 3,zl 12 11,z 13 (.bin .eql (.t 12) (.c (.s []))),zm
 14 13,⟨some 15,[(14,false)],.fld 2 (.t 3)⟩,⟨some 16,[(14,false)],.load none (.t 15)⟩,⟨some 17,[(14,false)],.bin .neq (.t 16) (.c (.i .i64 0))⟩,z 18 (.pick (.t 14) (.c
 (.b true)) (.t 17)),zm 19 18,⟨some 20,[(19,false)],.mov (.t 0)⟩,⟨some 21,[(19,false)],.len false (.t 20)⟩,⟨some 22,[(19,false)],.bin .gtr (.t 21) (.c (.i .i64 0))⟩,
 ⟨some 23,[(19,false)],.mov (.t 22)⟩,⟨some 24,[(19,false),(23,true)],.mov (.t 0)⟩,⟨some 25,[(19,false),(23,true)],.mov (.t 0)⟩,⟨some 26,[(19,false),(23,true)],
 .len false (.t 25)⟩,⟨some 27,[(19,false),(23,true)],.bin .sub (.t 26) (.c (.i .i64 1))⟩,⟨some 28,[(19,false),(23,true)],.idx 3 (.t 24) (.t 27)⟩,⟨some 29,[(19,false),
 (23,true)],.fld 0 (.t 28)⟩,⟨some 30,[(19,false),(23,true)],.load none (.t 29)⟩,⟨some 31,[(19,false),(23,true)],.bin .eql (.t 30) (.c (.i .i64 1))⟩,⟨some 32,[(19,
 false)],.pick (.t 23) (.t 31) (.c (.b false))⟩,z 33 (.pick (.t 19) (.c (.b true)) (.t 32))]) (.ite (.t 33) (.seq (.reg [] [z 4 (.mov (.c (.i .i64 1)))]) (.ret)) (.skip))) (.seq
 (.reg [] [z 4 (.mov (.c (.i .i64 0)))]) (.ret))) (.seq (.reg [] [z 35 (.bin .eql (.t 8) (.c (.i .i64 5))),zm 34 35]) (.ite (.t 34) (.seq (.seq (.reg [41,42,43] [zf 36 1 3,zl 37
 36,z 38 (.call 133 [.t 37]),z 39 (.un .not (.t 38)),zm 40 39,⟨some 41,[(40,false)],.fld 2 (.t 3)⟩,⟨some 42,[(40,false)],.load none (.t 41)⟩,⟨some 43,[(40,false)],.bin
 .neq (.t 42) (.c (.i .i64 0))⟩,z 44 (.pick (.t 40) (.c (.b true)) (.t 43))]) (.ite (.t 44) (.seq (.reg [] [z 4 (.mov (.c (.i .i64 1)))]) (.ret)) (.skip))) (.seq (.reg [] [z 4 (.mov
 (.c (.i .i64 0)))]) (.ret))) (.seq (.seq (.reg [] [z 46 (.bin .eql (.t 8) (.c (.i .i64 2))),zm 45 46]) (.ite (.t 45) (.skip) (.reg [] [z 47 (.bin .eql (.t 8) (.c (.i .i64 4))),zm
 45 47]))) (.ite (.t 45) (.seq (.reg [53,54,55,58,59,60] [zf 48 1 3,zl 49 48,z 50 (.call 161 [.t 49]),z 51 (.un .not (.t 50)),zm 52 51,⟨some 53,[(52,false)],.fld 2 (.t
 3)⟩,⟨some 54,[(52,false)],.load none (.t 53)⟩,⟨some 55,[(52,false)],.bin .lss (.t 54) (.c (.i .i64 1))⟩,z 56 (.pick (.t 52) (.c (.b true)) (.t 55)),zm 57 56,⟨some 58,
 [(57,false)],.fld 2 (.t 3)⟩,⟨some 59,[(57,false)],.load none (.t 58)⟩,⟨some 60,[(57,false)],.bin .gtr (.t 59) (.c (.i .i64 999))⟩,z 61 (.pick (.t 57) (.c (.b true)) (.t
 60))]) (.ite (.t 61) (.seq (.reg [] [z 4 (.mov (.c (.i .i64 1)))]) (.ret)) (.skip))) (.seq (.reg [] [z 63 (.bin .eql (.t 8) (.c (.i .i64 3))),zm 62 63]) (.ite (.t 62) (.seq (.reg
 [69,70,71,74,75,76] [zf 64 1 3,zl 65 64,z 66 (.call 133 [.t 65]),z 67 (.un .not (.t 66)),zm 68 67,⟨some 69,[(68,false)],.fld 2 (.t 3)⟩,⟨some 70,[(68,false)],.load
 none (.t 69)⟩,⟨some 71,[(68,false)],.bin .lss (.t 70) (.c (.i .i64 1))⟩,z 72 (.pick (.t 68) (.c (.b true)) (.t 71)),zm 73 72,⟨some 74,[(73,false)],.fld 2 (.t 3)⟩,⟨some
 75,[(73,false)],.load none (.t 74)⟩,⟨some 76,[(73,false)],.bin .gtr (.t 75) (.c (.i .i64 999))⟩,z 77 (.pick (.t 73) (.c (.b true)) (.t 76))]) (.ite (.t 77) (.seq (.reg [] [z
 4 (.mov (.c (.i .i64 1)))]) (.ret)) (.skip))) (.seq (.reg [] [z 4 (.mov (.c (.i .i64 1)))]) (.ret)))))))))))) (.seq (.seq (.reg [] [zm 78 0,z 79 (.len false (.t 78)),z 80 (.mov
 (.c (.i .i64 0)))]) (.block 1 (.loop p131_0))) (.seq (.reg [] [z 4 (.mov (.c (.i .i64 0)))]) (.ret))))⟩
theorem c131:cFun Tryz.prog Tryz.f131=some p131:=by kernel_rfl
def p83_0:PCode:=.seq (.reg [] [z 16 (.bin .lss (.t 15) (.t 14))]) (.seq (.ite (.t 16) (.skip) (.exit 0)) (.seq (.block 1 (.seq (.reg [] [zm 17 15,zm 3 17]) (.seq (.dreg [] [zm 18 0,zm 19 3,z 20
 (.slice 3 (.t 18) none (some (.t 19))),zm 21 0,zm 22 3,z 23 (.idx 3 (.t 21) (.t 22)),zL 24 3 23] [] [z 25 (.call 131 [.t 20,.t 24]),zm 4 25]) (.seq (.reg [] [zm 26 4,z 27
 (.bin .neq (.t 26) (.c (.i .i64 0)))]) (.ite (.t 27) (.seq (.reg [] [zm 28 4,zm 2 28]) (.ret)) (.skip)))))) (.reg [] [z 29 (.bin .add (.t 15) (.c (.i .i64 1))),zm 15 29])))
def p83:PFun:=⟨30,[.t 2],.seq (.reg [] [z 2 (.mov (.c (.i .i64 0)))]) (.seq (.seq (.reg [9,10,11] [zm 5 0,z 6 (.len false (.t 5)),z 7 (.bin .gtr (.t 6) (.c (.i .i64 512))),zm 8 7,⟨some 9,
 [(8,false)],.mov (.t 0)⟩,⟨some 10,[(8,false)],.call 130 [.t 9]⟩,⟨some 11,[(8,false)],.bin .gtr (.t 10) (.c (.i .i64 1024))⟩,z 12 (.pick (.t 8) (.c (.b true)) (.t 11))])
 (.ite (.t 12) (.seq (.reg [] [z 2 (.mov (.c (.i .i64 3)))]) (.ret)) (.skip))) (.seq (.seq (.reg [] [zm 13 0,z 14 (.len false (.t 13)),z 15 (.mov (.c (.i .i64 0)))]) (.block 0
 (.loop p83_0))) (.seq (.reg [] [z 2 (.mov (.c (.i .i64 0)))]) (.ret))))⟩
theorem c83:cFun Tryz.prog Tryz.f83=some p83:=by kernel_rfl
def p130_0:PCode:=.seq (.reg [] [z 8 (.bin .lss (.t 7) (.t 6))]) (.seq (.ite (.t 8) (.skip) (.exit 0)) (.seq (.block 1 (.seq (.reg [] [zm 9 7,zm 4 9]) (.seq (.reg [] [zm 10 0,zm 11 4,z 12 (.idx 3
 (.t 10) (.t 11)),zf 13 0 12,zl 14 13,z 15 (.bin .eql (.t 14) (.c (.i .i64 1)))]) (.ite (.t 15) (.reg [] [zm 16 3,zm 17 0,zm 18 4,z 19 (.idx 3 (.t 17) (.t 18)),zf 20 1 19,zl
 21 20,z 22 (.len true (.t 21)),z 23 (.bin .add (.t 16) (.t 22)),zm 3 23]) (.reg [] [zm 24 3,z 25 (.bin .add (.t 24) (.c (.i .i64 1))),zm 3 25]))))) (.reg [] [z 26 (.bin .add
 (.t 7) (.c (.i .i64 1))),zm 7 26])))
def p130:PFun:=⟨28,[.t 2],.seq (.reg [] [z 2 (.mov (.c (.i .i64 0)))]) (.seq (.reg [] [z 3 (.mov (.c (.i .i64 0)))]) (.seq (.seq (.reg [] [zm 5 0,z 6 (.len false (.t 5)),z 7 (.mov (.c (.i .i64
 0)))]) (.block 0 (.loop p130_0))) (.seq (.reg [] [zm 27 3,zm 2 27]) (.ret))))⟩
theorem c130:cFun Tryz.prog Tryz.f130=some p130:=by kernel_rfl
def p81_0:PCode:=.seq (.reg [] [z 10 (.bin .lss (.t 9) (.t 8))]) (.seq (.ite (.t 10) (.skip) (.exit 0)) (.seq (.block 1 (.seq (.reg [] [zm 11 9,zm 4 11]) (.seq (.reg [] [zm 12 0,zm 13 4,z 14
 (.idx 3 (.t 12) (.t 13)),zL 15 3 14,z 5 (.alloc 79 [.i .i64 0,.s [],.i .i64 0]),zs (.store 3 [none,none,none] (.t 5) (.t 15))]) (.seq (.seq (.reg [] [zf 16 0 5,zl 17 16,z
 18 (.bin .neq (.t 17) (.c (.i .i64 1)))]) (.ite (.t 18) (.seq (.reg [] [zm 19 3,zL 20 3 5,z 21 (.bslice 3 [none,none,none] [.t 20]),z 22 (.app 79 3 32 (.t 19) (.t 21)),zm 3
 22]) (.exit 1)) (.skip))) (.seq (.seq (.reg [] [zf 23 1 5,zl 24 23,z 25 (.bin .eql (.t 24) (.c (.s [])))]) (.ite (.t 25) (.exit 1) (.skip))) (.seq (.reg [] [zm 26 3,z 27 (.len
 false (.t 26)),zm 6 27]) (.seq (.reg [31,32,33,34,35,36,37] [zm 28 6,z 29 (.bin .gtr (.t 28) (.c (.i .i64 0))),zm 30 29,⟨some 31,[(30,true)],.mov (.t 3)⟩,⟨some 32,
 [(30,true)],.mov (.t 6)⟩,⟨some 33,[(30,true)],.bin .sub (.t 32) (.c (.i .i64 1))⟩,⟨some 34,[(30,true)],.idx 3 (.t 31) (.t 33)⟩,⟨some 35,[(30,true)],.fld 0 (.t 34)⟩,
 ⟨some 36,[(30,true)],.load none (.t 35)⟩,⟨some 37,[(30,true)],.bin .eql (.t 36) (.c (.i .i64 1))⟩,z 38 (.pick (.t 30) (.t 37) (.c (.b false)))]) (.ite (.t 38) (.dreg [] [zm
 39 3,zm 40 6,z 41 (.bin .sub (.t 40) (.c (.i .i64 1))),zm 42 3,zm 43 6,z 44 (.bin .sub (.t 43) (.c (.i .i64 1))),z 45 (.idx 3 (.t 42) (.t 44)),zf 46 1 45,zl 47 46,zf 48 1
 5,zl 49 48,z 50 (.bin .add (.t 47) (.t 49)),z 51 (.build [.i .i64 0,.s [],.i .i64 0] [(0,1,.c (.i .i64 1)),(1,1,.t 50)])] [] [z 52 (.idx 3 (.t 39) (.t 41)),zs (.store 3
 [none,none,none] (.t 52) (.t 51))]) (.reg [] [zm 53 3,zf 54 1 5,zl 55 54,z 56 (.build [.i .i64 0,.s [],.i .i64 0] [(0,1,.c (.i .i64 1)),(1,1,.t 55)]),z 57 (.bslice 3
 [none,none,none] [.t 56]),z 58 (.app 79 3 32 (.t 53) (.t 57)),zm 3 58]))))))))) (.reg [] [z 59 (.bin .add (.t 9) (.c (.i .i64 1))),zm 9 59])))
def p81:PFun:=⟨61,[.t 2],.seq (.reg [] [z 2 (.mov (.c .nil))]) (.seq (.reg [] [z 3 (.mov (.c .nil))]) (.seq (.seq (.reg [] [zm 7 0,z 8 (.len false (.t 7)),z 9 (.mov (.c (.i .i64 0)))])
 (.block 0 (.loop p81_0))) (.seq (.reg [] [zm 60 3,zm 2 60]) (.ret))))⟩
theorem c81:cFun Tryz.prog Tryz.f81=some p81:=by kernel_rfl
def p42:PFun:=⟨10,[.t 4],.seq (.reg [] [z 4 (.mov (.c .nil))]) (.seq (.reg [] [zm 5 0,z 6 (.app 79 3 32 (.c .nil) (.t 5)),zm 7 1,z 8 (.app 79 3 32 (.t 6) (.t 7)),z 9 (.call 81 [.t 8]),zm 4
 9]) (.ret))⟩
theorem c42:cFun Tryz.prog Tryz.f42=some p42:=by kernel_rfl
def p14_0:PCode:=.seq (.reg [] [z 14 (.bin .lss (.t 13) (.t 12))]) (.seq (.ite (.t 14) (.skip) (.exit 0)) (.seq (.block 1 (.seq (.reg [] [zm 15 13,zm 5 15]) (.seq (.dreg [] [zm 16 0,zm 17 5,z 18
 (.idx 1 (.t 16) (.t 17)),zl 19 18,zm 20 1,zm 21 5,z 22 (.idx 1 (.t 20) (.t 21)),zl 23 22] [] [z 24 (.bin .neq (.t 19) (.t 23))]) (.ite (.t 24) (.seq (.reg [] [z 4 (.mov (.c (.b
 false)))]) (.ret)) (.skip))))) (.reg [] [z 25 (.bin .add (.t 13) (.c (.i .i64 1))),zm 13 25])))
def p14:PFun:=⟨26,[.t 4],.seq (.reg [] [z 4 (.mov (.c (.b false)))]) (.seq (.seq (.reg [] [zm 6 0,z 7 (.len false (.t 6)),zm 8 1,z 9 (.len false (.t 8)),z 10 (.bin .neq (.t 7) (.t 9))])
 (.ite (.t 10) (.seq (.reg [] [z 4 (.mov (.c (.b false)))]) (.ret)) (.skip))) (.seq (.seq (.reg [] [zm 11 0,z 12 (.len false (.t 11)),z 13 (.mov (.c (.i .i64 0)))]) (.block 0
 (.loop p14_0))) (.seq (.reg [] [z 4 (.mov (.c (.b true)))]) (.ret))))⟩
theorem c14:cFun Tryz.prog Tryz.f14=some p14:=by kernel_rfl
def p160_0:PCode:=.seq (.reg [] [z 9 (.bin .lss (.t 8) (.t 7))]) (.seq (.ite (.t 9) (.skip) (.exit 0)) (.seq (.block 1 (.seq (.reg [] [zm 10 8,zm 5 10]) (.seq (.reg [] [zm 11 0,zm 12 5,z 13 (.idx
 1 (.t 11) (.t 12)),zl 14 13,zm 15 1,z 16 (.bin .eql (.t 14) (.t 15))]) (.ite (.t 16) (.seq (.reg [] [z 4 (.mov (.c (.b true)))]) (.ret)) (.skip))))) (.reg [] [z 17 (.bin .add (.t
 8) (.c (.i .i64 1))),zm 8 17])))
def p160:PFun:=⟨18,[.t 4],.seq (.reg [] [z 4 (.mov (.c (.b false)))]) (.seq (.seq (.reg [] [zm 6 0,z 7 (.len false (.t 6)),z 8 (.mov (.c (.i .i64 0)))]) (.block 0 (.loop p160_0))) (.seq (.reg
 [] [z 4 (.mov (.c (.b false)))]) (.ret)))⟩
theorem c160:cFun Tryz.prog Tryz.f160=some p160:=by kernel_rfl
def p127_0:PCode:=.seq (.reg [] [z 8 (.bin .lss (.t 7) (.t 6))]) (.seq (.ite (.t 8) (.skip) (.exit 0)) (.seq (.block 1 (.seq (.reg [] [zm 9 7,zm 4 9]) (.seq (.reg [16,17,18,19,20,21,22,23]
 [zm 10 0,zm 11 4,z 12 (.idx 3 (.t 10) (.t 11)),zL 13 3 12,z 14 (.call 159 [.t 13]),zm 15 14,⟨some 16,[(15,true)],.mov (.t 3)⟩,⟨some 17,[(15,true)],.mov (.t 0)⟩,⟨some
 18,[(15,true)],.mov (.t 4)⟩,⟨some 19,[(15,true)],.idx 3 (.t 17) (.t 18)⟩,⟨some 20,[(15,true)],.fld 2 (.t 19)⟩,⟨some 21,[(15,true)],.load none (.t 20)⟩,⟨some 22,
 [(15,true)],.call 160 [.t 16,.t 21]⟩,⟨some 23,[(15,true)],.un .not (.t 22)⟩,z 24 (.pick (.t 15) (.t 23) (.c (.b false)))]) (.ite (.t 24) (.reg [] [zm 25 3,zm 26 0,zm 27 4,
 z 28 (.idx 3 (.t 26) (.t 27)),zf 29 2 28,zl 30 29,z 31 (.bslice 1 [none] [.t 30]),z 32 (.app 3 1 8 (.t 25) (.t 31)),zm 3 32]) (.skip))))) (.reg [] [z 33 (.bin .add (.t 7) (.c
 (.i .i64 1))),zm 7 33])))
def p127:PFun:=⟨35,[.t 2],.seq (.reg [] [z 2 (.mov (.c .nil))]) (.seq (.reg [] [z 3 (.mov (.c .nil))]) (.seq (.seq (.reg [] [zm 5 0,z 6 (.len false (.t 5)),z 7 (.mov (.c (.i .i64 0)))])
 (.block 0 (.loop p127_0))) (.seq (.reg [] [zm 34 3,zm 2 34]) (.ret))))⟩
theorem c127:cFun Tryz.prog Tryz.f127=some p127:=by kernel_rfl
def p129_0:PCode:=.seq (.seq (.reg [32,33,34,35] [zm 27 10,zm 28 1,z 29 (.len false (.t 28)),z 30 (.bin .lss (.t 27) (.t 29)),zm 31 30,⟨some 32,[(31,true)],.mov (.t 10)⟩,⟨some 33,[(31,
 true)],.mov (.t 2)⟩,⟨some 34,[(31,true)],.len false (.t 33)⟩,⟨some 35,[(31,true)],.bin .lss (.t 32) (.t 34)⟩,z 36 (.pick (.t 31) (.t 35) (.c (.b false)))]) (.ite (.t 36)
 (.skip) (.exit 2))) (.seq (.block 3 (.seq (.dreg [] [zm 39 1,zm 40 10,z 41 (.idx 1 (.t 39) (.t 40)),zl 42 41,zf 43 2 9,zl 44 43] [] [z 45 (.bin .eql (.t 42) (.t 44))]) (.ite
 (.t 45) (.seq (.dreg [] [zm 46 7,zf 47 0 9,zl 48 47,zf 49 1 9,zl 50 49,zm 51 2,zm 52 10,z 53 (.idx 1 (.t 51) (.t 52)),zl 54 53,z 55 (.build [.i .i64 0,.s [],.i .i64 0]
 [(0,1,.t 48),(1,1,.t 50),(2,1,.t 54)]),z 56 (.bslice 3 [none,none,none] [.t 55])] [] [z 57 (.app 79 3 32 (.t 46) (.t 56)),zm 7 57]) (.exit 2)) (.skip)))) (.reg [] [zm 37
 10,z 38 (.bin .add (.t 37) (.c (.i .i64 1))),zm 10 38]))
def p129_1:PCode:=.seq (.reg [] [z 14 (.bin .lss (.t 13) (.t 12))]) (.seq (.ite (.t 14) (.skip) (.exit 0)) (.seq (.block 1 (.seq (.reg [] [zm 15 13,zm 8 15]) (.seq (.reg [] [zm 16 0,zm 17 8,z 18
 (.idx 3 (.t 16) (.t 17)),zL 19 3 18,z 9 (.alloc 79 [.i .i64 0,.s [],.i .i64 0]),zs (.store 3 [none,none,none] (.t 9) (.t 19))]) (.seq (.seq (.reg [] [zL 20 3 9,z 21 (.call
 159 [.t 20]),z 22 (.un .not (.t 21))]) (.ite (.t 22) (.seq (.reg [] [zm 23 7,zL 24 3 9,z 25 (.bslice 3 [none,none,none] [.t 24]),z 26 (.app 79 3 32 (.t 23) (.t 25)),zm 7 26])
 (.exit 1)) (.skip))) (.seq (.reg [] [z 10 (.mov (.c (.i .i64 0)))]) (.block 2 (.loop p129_0))))))) (.reg [] [z 58 (.bin .add (.t 13) (.c (.i .i64 1))),zm 13 58])))
def p129:PFun:=⟨61,[.t 6],.seq (.reg [] [z 6 (.mov (.c .nil))]) (.seq (.reg [] [z 7 (.mov (.c .nil))]) (.seq (.seq (.reg [] [zm 11 0,z 12 (.len false (.t 11)),z 13 (.mov (.c (.i .i64 0)))])
 (.block 0 (.loop p129_1))) (.seq (.reg [] [zm 59 7,z 60 (.call 81 [.t 59]),zm 6 60]) (.ret))))⟩
theorem c129:cFun Tryz.prog Tryz.f129=some p129:=by kernel_rfl
def p128_0:PCode:=.seq (.seq (.reg [] [zm 5 4,zm 6 0,z 7 (.bin .leq (.t 5) (.t 6))]) (.ite (.t 7) (.skip) (.exit 0))) (.seq (.block 1 (.reg [] [zm 10 3,zm 11 4,z 12 (.bslice 1 [none] [.t 11]),z
 13 (.app 3 1 8 (.t 10) (.t 12)),zm 3 13])) (.reg [] [zm 8 4,z 9 (.bin .add (.t 8) (.c (.i .i64 1))),zm 4 9]))
def p128:PFun:=⟨15,[.t 2],.seq (.reg [] [z 2 (.mov (.c .nil))]) (.seq (.reg [] [z 3 (.mov (.c .nil))]) (.seq (.seq (.reg [] [z 4 (.mov (.c (.i .i64 1)))]) (.block 0 (.loop p128_0))) (.seq (.reg
 [] [zm 14 3,zm 2 14]) (.ret))))⟩
theorem c128:cFun Tryz.prog Tryz.f128=some p128:=by kernel_rfl
def p80:PFun:=⟨24,[.t 4,.t 5],.seq (.reg [] [z 4 (.mov (.c .nil)),z 5 (.mov (.c .nil))]) (.seq (.reg [] [zm 8 0,z 9 (.app 79 3 32 (.c .nil) (.t 8)),zm 10 1,z 11 (.app 79 3 32 (.t 9) (.t
 10)),z 12 (.call 127 [.t 11]),zm 6 12]) (.seq (.reg [] [zm 13 6,z 14 (.len false (.t 13)),z 15 (.call 128 [.t 14]),zm 7 15]) (.seq (.reg [] [zm 16 0,zm 17 6,zm 18 7,z 19
 (.call 129 [.t 16,.t 17,.t 18]),zm 20 1,zm 21 6,zm 22 7,z 23 (.call 129 [.t 20,.t 21,.t 22]),zm 4 19,zm 5 23]) (.ret))))⟩
theorem c80:cFun Tryz.prog Tryz.f80=some p80:=by kernel_rfl
def p163:PFun:=⟨44,[.t 2],.seq (.reg [] [z 2 (.mov (.c (.s [])))]) (.seq (.block 0 (.seq (.reg [7,8,11,12] [zm 4 0,z 5 (.bin .eql (.t 4) (.c (.i .u8 92))),zm 6 5,⟨some 7,[(6,false)],
 .mov (.t 0)⟩,⟨some 8,[(6,false)],.bin .eql (.t 7) (.c (.i .u8 60))⟩,z 9 (.pick (.t 6) (.c (.b true)) (.t 8)),zm 10 9,⟨some 11,[(10,false)],.mov (.t 0)⟩,⟨some 12,[(10,
 false)],.bin .eql (.t 11) (.c (.i .u8 123))⟩,z 13 (.pick (.t 10) (.c (.b true)) (.t 12)),zm 3 13]) (.ite (.t 3) (.seq (.reg [] [zm 14 0,z 15 (.bslice 1 [none] [.t 14]),z 16
 (.b2s (.t 15)),z 17 (.bin .add (.c (.s [92])) (.t 16)),zm 2 17]) (.ret)) (.seq (.reg [] [zm 19 0,z 20 (.bin .eql (.t 19) (.c (.i .u8 10))),zm 18 20]) (.ite (.t 18) (.seq (.reg
 [] [z 2 (.mov (.c (.s [92,110])))]) (.ret)) (.seq (.reg [] [zm 22 0,z 23 (.bin .eql (.t 22) (.c (.i .u8 9))),zm 21 23]) (.ite (.t 21) (.seq (.reg [] [z 2 (.mov (.c (.s [92,
 116])))]) (.ret)) (.seq (.reg [28,29,30] [zm 25 0,z 26 (.bin .eql (.t 25) (.c (.i .u8 13))),zm 27 26,⟨some 28,[(27,false)],.mov (.t 0)⟩,⟨some 29,[(27,false)],.call 178
 [.t 28]⟩,⟨some 30,[(27,false)],.bin .eql (.t 29) (.c (.i .i64 1))⟩,z 31 (.pick (.t 27) (.c (.b true)) (.t 30)),zm 24 31]) (.ite (.t 24) (.seq (.dreg [] [zm 32 0,z 33 (.bin
 .quo (.t 32) (.c (.i .u8 16))),z 34 (.sidx (.c (.s [48,49,50,51,52,53,54,55,56,57,97,98,99,100,101,102])) (.t 33)),zm 35 0,z 36 (.bin .rem (.t 35) (.c (.i .u8
 16))),z 37 (.sidx (.c (.s [48,49,50,51,52,53,54,55,56,57,97,98,99,100,101,102])) (.t 36))] [] [z 38 (.bslice 1 [none] [.t 34,.t 37]),z 39 (.b2s (.t 38)),z 40
 (.bin .add (.c (.s [92,120])) (.t 39)),zm 2 40]) (.ret)) (.skip)))))))))) (.seq (.reg [] [zm 41 0,z 42 (.bslice 1 [none] [.t 41]),z 43 (.b2s (.t 42)),zm 2 43]) (.ret)))⟩
theorem c163:cFun Tryz.prog Tryz.f163=some p163:=by kernel_rfl
def p132_0:PCode:=.seq (.seq (.reg [16,17] [zm 11 4,zm 12 0,z 13 (.len true (.t 12)),z 14 (.bin .lss (.t 11) (.t 13)),zm 15 14,⟨some 16,[(15,true)],.mov (.t 4)⟩,⟨some 17,[(15,true)],.bin
 .leq (.t 16) (.c (.i .i64 25))⟩,z 18 (.pick (.t 15) (.t 17) (.c (.b false)))]) (.ite (.t 18) (.skip) (.exit 1))) (.seq (.block 2 (.seq (.reg [26,27,28,29] [zm 21 0,zm 22 4,z
 23 (.sidx (.t 21) (.t 22)),z 24 (.bin .eql (.t 23) (.c (.i .u8 125))),zm 25 24,⟨some 26,[(25,true)],.mov (.t 0)⟩,⟨some 27,[(25,true)],.mov (.t 4)⟩,⟨some 28,[(25,true)],
 .sslice (.t 26) (some (.c (.i .i64 1))) (some (.t 27))⟩,⟨some 29,[(25,true)],.call 133 [.t 28]⟩,z 30 (.pick (.t 25) (.t 29) (.c (.b false)))]) (.ite (.t 30) (.seq (.reg [] [zm
 31 0,zm 32 4,z 33 (.sslice (.t 31) (some (.c (.i .i64 1))) (some (.t 32))),z 34 (.build [.i .i64 0,.s [],.i .i64 0] [(0,1,.c (.i .i64 5)),(1,1,.t 33)]),zm 35 4,z 36
 (.bin .add (.t 35) (.c (.i .i64 1))),zs (.store 3 [none,none,none] (.t 2) (.t 34)),zm 3 36]) (.ret)) (.skip)))) (.reg [] [zm 19 4,z 20 (.bin .add (.t 19) (.c (.i .i64 1))),zm
 4 20]))
def p132_1:PCode:=.seq (.seq (.reg [] [zm 46 5,z 47 (.bin .lss (.t 46) (.c (.i .i64 256)))]) (.ite (.t 47) (.skip) (.exit 3))) (.seq (.block 4 (.seq (.reg [] [zm 50 5,z 51 (.cvi .u8 (.t 50)),z 52
 (.call 163 [.t 51]),zm 6 52]) (.seq (.reg [59,60,61,62,63,64] [zm 53 0,z 54 (.len true (.t 53)),zm 55 6,z 56 (.len true (.t 55)),z 57 (.bin .geq (.t 54) (.t 56)),zm 58
 57,⟨some 59,[(58,true)],.mov (.t 0)⟩,⟨some 60,[(58,true)],.mov (.t 6)⟩,⟨some 61,[(58,true)],.len true (.t 60)⟩,⟨some 62,[(58,true)],.sslice (.t 59) none (some (.t
 61))⟩,⟨some 63,[(58,true)],.mov (.t 6)⟩,⟨some 64,[(58,true)],.bin .eql (.t 62) (.t 63)⟩,z 65 (.pick (.t 58) (.t 64) (.c (.b false)))]) (.ite (.t 65) (.seq (.reg [] [zm 66
 5,z 67 (.cvi .u8 (.t 66)),z 68 (.bslice 1 [none] [.t 67]),z 69 (.b2s (.t 68)),z 70 (.build [.i .i64 0,.s [],.i .i64 0] [(0,1,.c (.i .i64 1)),(1,1,.t 69)]),zm 71 6,z 72
 (.len true (.t 71)),zs (.store 3 [none,none,none] (.t 2) (.t 70)),zm 3 72]) (.ret)) (.skip))))) (.reg [] [zm 48 5,z 49 (.bin .add (.t 48) (.c (.i .i64 1))),zm 5 49]))
def p132:PFun:=⟨74,[.c 2 (some 3),.t 3],.seq (.reg [] [z 2 (.alloc 79 [.i .i64 0,.s [],.i .i64 0]),z 3 (.mov (.c (.i .i64 0)))]) (.seq (.block 0 (.seq (.reg [] [zm 8 0,z 9 (.sidx (.t 8) (.c
 (.i .i64 0))),z 10 (.bin .eql (.t 9) (.c (.i .u8 123))),zm 7 10]) (.ite (.t 7) (.seq (.seq (.reg [] [z 4 (.mov (.c (.i .i64 1)))]) (.block 1 (.loop p132_0))) (.seq (.reg [] [z 37
 (.build [.i .i64 0,.s [],.i .i64 0] []),zs (.store 3 [none,none,none] (.t 2) (.t 37)),z 3 (.mov (.c (.i .i64 0)))]) (.ret))) (.seq (.reg [] [zm 39 0,z 40 (.sidx (.t 39) (.c
 (.i .i64 0))),z 41 (.bin .eql (.t 40) (.c (.i .u8 60))),zm 38 41]) (.ite (.t 38) (.seq (.reg [] [zm 42 0,z 43 (.call 162 [.t 42]),z 44 (.ext 0 (.t 43)),z 45 (.ext 1 (.t 43)),
 zs (.store 3 [none,none,none] (.t 2) (.t 44)),zm 3 45]) (.ret)) (.skip)))))) (.seq (.seq (.reg [] [z 5 (.mov (.c (.i .i64 0)))]) (.block 3 (.loop p132_1))) (.seq (.reg [] [z 73
 (.build [.i .i64 0,.s [],.i .i64 0] []),zs (.store 3 [none,none,none] (.t 2) (.t 73)),z 3 (.mov (.c (.i .i64 0)))]) (.ret))))⟩
theorem c132:cFun Tryz.prog Tryz.f132=some p132:=by kernel_rfl
def p162_0:PCode:=.seq (.seq (.reg [15,16,17,18] [zm 10 4,zm 11 0,z 12 (.len true (.t 11)),z 13 (.bin .lss (.t 10) (.t 12)),zm 14 13,⟨some 15,[(14,true)],.mov (.t 0)⟩,⟨some 16,[(14,
 true)],.mov (.t 4)⟩,⟨some 17,[(14,true)],.sidx (.t 15) (.t 16)⟩,⟨some 18,[(14,true)],.bin .neq (.t 17) (.c (.i .u8 62))⟩,z 19 (.pick (.t 14) (.t 18) (.c (.b false)))])
 (.ite (.t 19) (.skip) (.exit 0))) (.block 1 (.reg [] [zm 20 4,z 21 (.bin .add (.t 20) (.c (.i .i64 1))),zm 4 21]))
def p162_1:PCode:=.seq (.seq (.reg [61,62,65,66,67,68,71,72,73,74] [zm 56 8,zm 57 5,z 58 (.len true (.t 57)),z 59 (.bin .lss (.t 56) (.t 58)),zm 60 59,⟨some 61,[(60,true)],.mov (.t
 8)⟩,⟨some 62,[(60,true)],.bin .lss (.t 61) (.c (.i .i64 4))⟩,z 63 (.pick (.t 60) (.t 62) (.c (.b false))),zm 64 63,⟨some 65,[(64,true)],.mov (.t 5)⟩,⟨some 66,[(64,
 true)],.mov (.t 8)⟩,⟨some 67,[(64,true)],.sidx (.t 65) (.t 66)⟩,⟨some 68,[(64,true)],.bin .geq (.t 67) (.c (.i .u8 48))⟩,z 69 (.pick (.t 64) (.t 68) (.c (.b false))),zm
 70 69,⟨some 71,[(70,true)],.mov (.t 5)⟩,⟨some 72,[(70,true)],.mov (.t 8)⟩,⟨some 73,[(70,true)],.sidx (.t 71) (.t 72)⟩,⟨some 74,[(70,true)],.bin .leq (.t 73) (.c (.i
 .u8 57))⟩,z 75 (.pick (.t 70) (.t 74) (.c (.b false)))]) (.ite (.t 75) (.skip) (.exit 2))) (.block 3 (.seq (.reg [] [zm 76 7,z 77 (.bin .mul (.c (.i .i64 10)) (.t 76)),zm 78 5,
 zm 79 8,z 80 (.sidx (.t 78) (.t 79)),z 81 (.bin .sub (.t 80) (.c (.i .u8 48))),z 82 (.cvi .i64 (.t 81)),z 83 (.bin .add (.t 77) (.t 82)),zm 7 83]) (.reg [] [zm 84 8,z 85 (.bin
 .add (.t 84) (.c (.i .i64 1))),zm 8 85])))
def p162:PFun:=⟨139,[.c 2 (some 3),.t 3],.seq (.reg [] [z 2 (.alloc 79 [.i .i64 0,.s [],.i .i64 0]),z 3 (.mov (.c (.i .i64 0)))]) (.seq (.reg [] [z 4 (.mov (.c (.i .i64 1)))]) (.seq (.block
 0 (.loop p162_0)) (.seq (.seq (.reg [] [zm 22 4,zm 23 0,z 24 (.len true (.t 23)),z 25 (.bin .geq (.t 22) (.t 24))]) (.ite (.t 25) (.seq (.reg [] [z 26 (.build [.i .i64 0,.s [],
 .i .i64 0] []),zs (.store 3 [none,none,none] (.t 2) (.t 26)),z 3 (.mov (.c (.i .i64 0)))]) (.ret)) (.skip))) (.seq (.reg [] [zm 27 0,zm 28 4,z 29 (.sslice (.t 27) (some (.c
 (.i .i64 1))) (some (.t 28))),zm 5 29,z 6 (.mov (.c (.i .i64 2)))]) (.seq (.seq (.reg [34,35,36] [zm 30 5,z 31 (.len true (.t 30)),z 32 (.bin .gtr (.t 31) (.c (.i .i64 0))),
 zm 33 32,⟨some 34,[(33,true)],.mov (.t 5)⟩,⟨some 35,[(33,true)],.sidx (.t 34) (.c (.i .i64 0))⟩,⟨some 36,[(33,true)],.bin .eql (.t 35) (.c (.i .u8 47))⟩,z 37 (.pick (.t
 33) (.t 36) (.c (.b false)))]) (.ite (.t 37) (.reg [] [zm 38 5,z 39 (.sslice (.t 38) (some (.c (.i .i64 1))) none),zm 5 39,z 6 (.mov (.c (.i .i64 3)))]) (.seq (.reg [44,45,46,
 47,48,49] [zm 40 5,z 41 (.len true (.t 40)),z 42 (.bin .gtr (.t 41) (.c (.i .i64 0))),zm 43 42,⟨some 44,[(43,true)],.mov (.t 5)⟩,⟨some 45,[(43,true)],.mov (.t 5)⟩,
 ⟨some 46,[(43,true)],.len true (.t 45)⟩,⟨some 47,[(43,true)],.bin .sub (.t 46) (.c (.i .i64 1))⟩,⟨some 48,[(43,true)],.sidx (.t 44) (.t 47)⟩,⟨some 49,[(43,true)],.bin
 .eql (.t 48) (.c (.i .u8 47))⟩,z 50 (.pick (.t 43) (.t 49) (.c (.b false)))]) (.ite (.t 50) (.reg [] [zm 51 5,zm 52 5,z 53 (.len true (.t 52)),z 54 (.bin .sub (.t 53) (.c (.i
 .i64 1))),z 55 (.sslice (.t 51) none (some (.t 54))),zm 5 55,z 6 (.mov (.c (.i .i64 4)))]) (.skip))))) (.seq (.reg [] [z 7 (.mov (.c (.i .i64 0))),z 8 (.mov (.c (.i .i64 0)))])
 (.seq (.block 2 (.loop p162_1)) (.seq (.seq (.reg [89,90,91,92,95,96,97,100,101,104,105,106,107] [zm 86 8,z 87 (.bin .eql (.t 86) (.c (.i .i64 0))),zm 88 87,⟨some 89,
 [(88,false)],.mov (.t 8)⟩,⟨some 90,[(88,false)],.mov (.t 5)⟩,⟨some 91,[(88,false)],.len true (.t 90)⟩,⟨some 92,[(88,false)],.bin .geq (.t 89) (.t 91)⟩,z 93 (.pick (.t
 88) (.c (.b true)) (.t 92)),zm 94 93,⟨some 95,[(94,false)],.mov (.t 5)⟩,⟨some 96,[(94,false)],.sidx (.t 95) (.c (.i .i64 0))⟩,⟨some 97,[(94,false)],.bin .eql (.t 96)
 (.c (.i .u8 48))⟩,z 98 (.pick (.t 94) (.c (.b true)) (.t 97)),zm 99 98,⟨some 100,[(99,false)],.mov (.t 7)⟩,⟨some 101,[(99,false)],.bin .gtr (.t 100) (.c (.i .i64 999))⟩,z
 102 (.pick (.t 99) (.c (.b true)) (.t 101)),zm 103 102,⟨some 104,[(103,false)],.mov (.t 5)⟩,⟨some 105,[(103,false)],.mov (.t 8)⟩,⟨some 106,[(103,false)],.sidx (.t 104)
 (.t 105)⟩,⟨some 107,[(103,false)],.bin .neq (.t 106) (.c (.i .u8 58))⟩,z 108 (.pick (.t 103) (.c (.b true)) (.t 107))]) (.ite (.t 108) (.seq (.reg [] [z 109 (.build [.i .i64 0,
 .s [],.i .i64 0] []),zs (.store 3 [none,none,none] (.t 2) (.t 109)),z 3 (.mov (.c (.i .i64 0)))]) (.ret)) (.skip))) (.seq (.reg [] [zm 110 6,zm 111 5,zm 112 8,z 113 (.bin
 .add (.t 112) (.c (.i .i64 1))),z 114 (.sslice (.t 111) (some (.t 113)) none),zm 115 7,z 116 (.build [.i .i64 0,.s [],.i .i64 0] [(0,1,.t 110),(1,1,.t 114),(2,1,.t
 115)]),z 9 (.alloc 79 [.i .i64 0,.s [],.i .i64 0]),zs (.store 3 [none,none,none] (.t 9) (.t 116))]) (.seq (.seq (.reg [120,121,122,123,126,127,128,129,130,131,132,
 133] [zm 117 6,z 118 (.bin .eql (.t 117) (.c (.i .i64 3))),zm 119 118,⟨some 120,[(119,true)],.fld 1 (.t 9)⟩,⟨some 121,[(119,true)],.load none (.t 120)⟩,⟨some 122,[(119,
 true)],.call 133 [.t 121]⟩,⟨some 123,[(119,true)],.un .not (.t 122)⟩,z 124 (.pick (.t 119) (.t 123) (.c (.b false))),zm 125 124,⟨some 126,[(125,false)],.mov (.t 6)⟩,
 ⟨some 127,[(125,false)],.bin .neq (.t 126) (.c (.i .i64 3))⟩,⟨some 128,[(125,false)],.mov (.t 127)⟩,⟨some 129,[(125,false),(128,true)],.fld 1 (.t 9)⟩,⟨some 130,[(125,
 false),(128,true)],.load none (.t 129)⟩,⟨some 131,[(125,false),(128,true)],.call 161 [.t 130]⟩,⟨some 132,[(125,false),(128,true)],.un .not (.t 131)⟩,⟨some 133,
 [(125,false)],.pick (.t 128) (.t 132) (.c (.b false))⟩,z 134 (.pick (.t 125) (.c (.b true)) (.t 133))]) (.ite (.t 134) (.seq (.reg [] [z 135 (.build [.i .i64 0,.s [],.i .i64 0]
 []),zs (.store 3 [none,none,none] (.t 2) (.t 135)),z 3 (.mov (.c (.i .i64 0)))]) (.ret)) (.skip))) (.seq (.reg [] [zL 136 3 9,zm 137 4,z 138 (.bin .add (.t 137) (.c (.i .i64
 1))),zs (.store 3 [none,none,none] (.t 2) (.t 136)),zm 3 138]) (.ret))))))))))))⟩
theorem c162:cFun Tryz.prog Tryz.f162=some p162:=by kernel_rfl
def p84_0:PCode:=.seq (.seq (.reg [] [zm 12 6,zm 13 0,z 14 (.len true (.t 13)),z 15 (.bin .lss (.t 12) (.t 14))]) (.ite (.t 15) (.skip) (.exit 0))) (.block 1 (.seq (.reg [] [zm 17 0,zm 18 6,z
 19 (.sslice (.t 17) (some (.t 18)) none),z 20 (.call 132 [.t 19]),zm 16 20,z 21 (.ext 0 (.t 16)),z 22 (.ext 1 (.t 16)),z 8 (.alloc 79 [.i .i64 0,.s [],.i .i64 0]),zs (.store
 3 [none,none,none] (.t 8) (.t 21)),zm 9 22]) (.seq (.seq (.reg [] [zm 23 9,z 24 (.bin .eql (.t 23) (.c (.i .i64 0)))]) (.ite (.t 24) (.seq (.reg [] [zm 25 6,z 2 (.mov (.c
 .nil)),zm 3 25,z 4 (.mov (.c (.i .i64 2)))]) (.ret)) (.skip))) (.seq (.seq (.reg [] [zf 26 0 8,zl 27 26,z 28 (.bin .neq (.t 27) (.c (.i .i64 1)))]) (.ite (.t 28) (.seq (.reg []
 [zm 29 5,zL 30 3 8,z 31 (.call 131 [.t 29,.t 30]),zm 10 31]) (.seq (.reg [] [zm 32 10,z 33 (.bin .neq (.t 32) (.c (.i .i64 0)))]) (.ite (.t 33) (.seq (.reg [] [zm 34 6,zm 35
 10,z 2 (.mov (.c .nil)),zm 3 34,zm 4 35]) (.ret)) (.skip)))) (.skip))) (.seq (.reg [] [zm 36 5,zL 37 3 8,z 38 (.bslice 3 [none,none,none] [.t 37]),z 39 (.call 42 [.t 36,.t
 38]),zm 11 39]) (.seq (.reg [] [zm 40 7,z 41 (.bin .add (.t 40) (.c (.i .i64 1))),zm 7 41]) (.seq (.seq (.reg [46,47] [zm 42 11,z 43 (.len false (.t 42)),z 44 (.bin .gtr (.t
 43) (.c (.i .i64 512))),zm 45 44,⟨some 46,[(45,false)],.mov (.t 7)⟩,⟨some 47,[(45,false)],.bin .gtr (.t 46) (.c (.i .i64 1024))⟩,z 48 (.pick (.t 45) (.c (.b true)) (.t
 47))]) (.ite (.t 48) (.seq (.reg [] [zm 49 6,z 2 (.mov (.c .nil)),zm 3 49,z 4 (.mov (.c (.i .i64 3)))]) (.ret)) (.skip))) (.seq (.reg [] [zm 50 11,zm 5 50]) (.reg [] [zm 51 6,
 zm 52 9,z 53 (.bin .add (.t 51) (.t 52)),zm 6 53])))))))))
def p84:PFun:=⟨55,[.t 2,.t 3,.t 4],.seq (.reg [] [z 2 (.mov (.c .nil)),z 3 (.mov (.c (.i .i64 0))),z 4 (.mov (.c (.i .i64 0)))]) (.seq (.reg [] [z 5 (.mov (.c .nil))]) (.seq (.reg [] [z 6
 (.mov (.c (.i .i64 0))),z 7 (.mov (.c (.i .i64 0)))]) (.seq (.block 0 (.loop p84_0)) (.seq (.reg [] [zm 54 5,zm 2 54,z 3 (.mov (.c (.i .i64 0))),z 4 (.mov (.c (.i .i64 0)))])
 (.ret)))))⟩
theorem c84:cFun Tryz.prog Tryz.f84=some p84:=by kernel_rfl
def p85:PFun:=⟨9,[.t 2],.seq (.reg [] [z 2 (.mov (.c (.b false)))]) (.seq (.reg [6,7] [zm 3 0,z 4 (.bin .eql (.t 3) (.c (.s []))),zm 5 4,⟨some 6,[(5,false)],.mov (.t 0)⟩,⟨some 7,[(5,
 false)],.call 133 [.t 6]⟩,z 8 (.pick (.t 5) (.c (.b true)) (.t 7)),zm 2 8]) (.ret))⟩
theorem c85:cFun Tryz.prog Tryz.f85=some p85:=by kernel_rfl
def p46:PFun:=⟨99,[.t 2],.seq (.reg [] [z 1 (.box 33 (.t 0)),z 2 (.mov (.c (.i .i64 0)))]) (.seq (.seq (.reg [] [zf 13 0 1,zl 14 13,z 15 (.call 83 [.t 14]),zm 3 15]) (.seq (.reg [] [zm 16
 3,z 17 (.bin .neq (.t 16) (.c (.i .i64 0)))]) (.ite (.t 17) (.seq (.reg [] [zm 18 3,zm 2 18]) (.ret)) (.skip)))) (.seq (.seq (.reg [] [zf 19 1 1,zl 20 19,z 21 (.call 83 [.t
 20]),zm 4 21]) (.seq (.reg [] [zm 22 4,z 23 (.bin .neq (.t 22) (.c (.i .i64 0)))]) (.ite (.t 23) (.seq (.reg [] [zm 24 4,zm 2 24]) (.ret)) (.skip)))) (.seq (.reg [] [zf 26 0 1,
 zl 27 26,zf 28 1 1,zl 29 28,z 30 (.call 80 [.t 27,.t 29]),zm 25 30,z 31 (.ext 0 (.t 25)),z 32 (.ext 1 (.t 25)),zm 5 31,zm 6 32]) (.seq (.seq (.reg [38,39,40,41,42,45,
 46,47,48,49] [zf 33 0 1,zl 34 33,z 35 (.len false (.t 34)),z 36 (.bin .eql (.t 35) (.c (.i .i64 0))),zm 37 36,⟨some 38,[(37,false)],.mov (.t 5)⟩,⟨some 39,[(37,false)],
 .fld 0 (.t 1)⟩,⟨some 40,[(37,false)],.load none (.t 39)⟩,⟨some 41,[(37,false)],.call 64 [.t 38,.t 40]⟩,⟨some 42,[(37,false)],.un .not (.t 41)⟩,z 43 (.pick (.t 37) (.c
 (.b true)) (.t 42)),zm 44 43,⟨some 45,[(44,false)],.mov (.t 6)⟩,⟨some 46,[(44,false)],.fld 1 (.t 1)⟩,⟨some 47,[(44,false)],.load none (.t 46)⟩,⟨some 48,[(44,false)],
 .call 64 [.t 45,.t 47]⟩,⟨some 49,[(44,false)],.un .not (.t 48)⟩,z 50 (.pick (.t 44) (.c (.b true)) (.t 49))]) (.ite (.t 50) (.seq (.reg [] [z 2 (.mov (.c (.i .i64 1)))])
 (.ret)) (.skip))) (.seq (.seq (.reg [] [zf 52 2 1,zl 53 52,z 54 (.call 84 [.t 53]),zm 51 54,z 55 (.ext 0 (.t 51)),z 56 (.ext 1 (.t 51)),z 57 (.ext 2 (.t 51)),zm 7 55,zm 8
 56,zm 9 57]) (.seq (.reg [] [zm 58 9,z 59 (.bin .neq (.t 58) (.c (.i .i64 0)))]) (.ite (.t 59) (.seq (.reg [] [zm 60 9,zm 2 60]) (.ret)) (.skip)))) (.seq (.seq (.reg [] [zf 62 3
 1,zl 63 62,z 64 (.call 84 [.t 63]),zm 61 64,z 65 (.ext 0 (.t 61)),z 66 (.ext 1 (.t 61)),z 67 (.ext 2 (.t 61)),zm 10 65,zm 11 66,zm 12 67]) (.seq (.reg [] [zm 68 12,z 69
 (.bin .neq (.t 68) (.c (.i .i64 0)))]) (.ite (.t 69) (.seq (.reg [] [zm 70 12,zm 2 70]) (.ret)) (.skip)))) (.seq (.seq (.reg [76,77,78,79] [zf 71 4 1,zl 72 71,z 73 (.call 85
 [.t 72]),z 74 (.un .not (.t 73)),zm 75 74,⟨some 76,[(75,false)],.fld 5 (.t 1)⟩,⟨some 77,[(75,false)],.load none (.t 76)⟩,⟨some 78,[(75,false)],.call 85 [.t 77]⟩,⟨some
 79,[(75,false)],.un .not (.t 78)⟩,z 80 (.pick (.t 75) (.c (.b true)) (.t 79))]) (.ite (.t 80) (.seq (.reg [] [z 2 (.mov (.c (.i .i64 4)))]) (.ret)) (.skip))) (.seq (.seq (.reg
 [85,86,87,90,91,92,95,96,97] [zf 81 6 1,zl 82 81,z 83 (.bin .lss (.t 82) (.c (.i .i64 0))),zm 84 83,⟨some 85,[(84,false)],.fld 6 (.t 1)⟩,⟨some 86,[(84,false)],
 .load none (.t 85)⟩,⟨some 87,[(84,false)],.bin .gtr (.t 86) (.c (.i .i64 1073741824))⟩,z 88 (.pick (.t 84) (.c (.b true)) (.t 87)),zm 89 88,⟨some 90,[(89,false)],.fld 7
 (.t 1)⟩,⟨some 91,[(89,false)],.load none (.t 90)⟩,⟨some 92,[(89,false)],.bin .lss (.t 91) (.c (.i .i64 1))⟩,z 93 (.pick (.t 89) (.c (.b true)) (.t 92)),zm 94 93,⟨some 95,
 [(94,false)],.fld 7 (.t 1)⟩,⟨some 96,[(94,false)],.load none (.t 95)⟩,⟨some 97,[(94,false)],.bin .gtr (.t 96) (.c (.i .i64 3))⟩,z 98 (.pick (.t 94) (.c (.b true)) (.t
 97))]) (.ite (.t 98) (.seq (.reg [] [z 2 (.mov (.c (.i .i64 1)))]) (.ret)) (.skip))) (.seq (.reg [] [z 2 (.mov (.c (.i .i64 0)))]) (.ret))))))))))⟩
theorem c46:cFun Tryz.prog Tryz.f46=some p46:=by kernel_rfl
def p44:PFun:=⟨31,[.t 2],.seq (.reg [] [z 1 (.box 30 (.t 0)),z 2 (.mov (.c (.i .i64 0)))]) (.seq (.seq (.reg [7,8,9,12,13,14,17,18,19,22,23,24,27,28,29] [zf 3 0 1,zl 4 3,z 5
 (.bin .lss (.t 4) (.c (.i .i64 1))),zm 6 5,⟨some 7,[(6,false)],.fld 0 (.t 1)⟩,⟨some 8,[(6,false)],.load none (.t 7)⟩,⟨some 9,[(6,false)],.bin .gtr (.t 8) (.c (.i .i64
 1073741824))⟩,z 10 (.pick (.t 6) (.c (.b true)) (.t 9)),zm 11 10,⟨some 12,[(11,false)],.fld 1 (.t 1)⟩,⟨some 13,[(11,false)],.load none (.t 12)⟩,⟨some 14,[(11,false)],
 .bin .lss (.t 13) (.c (.i .i64 0))⟩,z 15 (.pick (.t 11) (.c (.b true)) (.t 14)),zm 16 15,⟨some 17,[(16,false)],.fld 1 (.t 1)⟩,⟨some 18,[(16,false)],.load none (.t 17)⟩,
 ⟨some 19,[(16,false)],.bin .geq (.t 18) (.c (.i .i64 8))⟩,z 20 (.pick (.t 16) (.c (.b true)) (.t 19)),zm 21 20,⟨some 22,[(21,false)],.fld 2 (.t 1)⟩,⟨some 23,[(21,
 false)],.load none (.t 22)⟩,⟨some 24,[(21,false)],.bin .lss (.t 23) (.c (.i .i64 1))⟩,z 25 (.pick (.t 21) (.c (.b true)) (.t 24)),zm 26 25,⟨some 27,[(26,false)],.fld 2
 (.t 1)⟩,⟨some 28,[(26,false)],.load none (.t 27)⟩,⟨some 29,[(26,false)],.bin .gtr (.t 28) (.c (.i .i64 128))⟩,z 30 (.pick (.t 26) (.c (.b true)) (.t 29))]) (.ite (.t 30)
 (.seq (.reg [] [z 2 (.mov (.c (.i .i64 1)))]) (.ret)) (.skip))) (.seq (.reg [] [z 2 (.mov (.c (.i .i64 0)))]) (.ret)))⟩
theorem c44:cFun Tryz.prog Tryz.f44=some p44:=by kernel_rfl
def p45:PFun:=⟨22,[.t 4],.seq (.reg [] [z 4 (.mov (.c (.i .i64 0)))]) (.seq (.seq (.reg [8,9,10,11,14,15] [zm 5 1,z 6 (.bin .lss (.t 5) (.c (.i .i64 0))),zm 7 6,⟨some 8,[(7,false)],
 .mov (.t 1)⟩,⟨some 9,[(7,false)],.mov (.t 0)⟩,⟨some 10,[(7,false)],.len false (.t 9)⟩,⟨some 11,[(7,false)],.bin .geq (.t 8) (.t 10)⟩,z 12 (.pick (.t 7) (.c (.b true))
 (.t 11)),zm 13 12,⟨some 14,[(13,false)],.mov (.t 1)⟩,⟨some 15,[(13,false)],.bin .geq (.t 14) (.c (.i .i64 8))⟩,z 16 (.pick (.t 13) (.c (.b true)) (.t 15))]) (.ite (.t 16)
 (.seq (.reg [] [z 4 (.mov (.c (.i .i64 0)))]) (.ret)) (.skip))) (.seq (.reg [] [zm 17 0,zm 18 1,z 19 (.idx 1 (.t 17) (.t 18)),zl 20 19,z 21 (.max2 (.t 20) (.c (.i .i64 0))),zm
 4 21]) (.ret)))⟩
theorem c45:cFun Tryz.prog Tryz.f45=some p45:=by kernel_rfl
def p41_0:PCode:=.seq (.seq (.reg [] [zm 13 3,z 14 (.len false (.t 13)),zm 15 4,z 16 (.bin .lss (.t 14) (.t 15))]) (.ite (.t 16) (.skip) (.exit 2))) (.block 3 (.reg [] [zm 17 3,zm 18 0,zm 19 3,
 z 20 (.len false (.t 19)),z 21 (.call 45 [.t 18,.t 20]),z 22 (.bslice 1 [none] [.t 21]),z 23 (.app 3 1 8 (.t 17) (.t 22)),zm 3 23]))
def p41_1:PCode:=.seq (.seq (.reg [] [zm 5 4,z 6 (.bin .lss (.t 5) (.c (.i .i64 8)))]) (.ite (.t 6) (.skip) (.exit 0))) (.seq (.block 1 (.seq (.reg [] [zm 9 0,zm 10 4,z 11 (.call 45 [.t 9,.t
 10]),z 12 (.bin .gtr (.t 11) (.c (.i .i64 0)))]) (.ite (.t 12) (.seq (.block 2 (.loop p41_0)) (.reg [] [zm 24 3,zm 25 0,zm 26 4,z 27 (.call 45 [.t 25,.t 26]),z 28 (.bslice 1
 [none] [.t 27]),z 29 (.app 3 1 8 (.t 24) (.t 28)),zm 3 29])) (.skip)))) (.reg [] [zm 7 4,z 8 (.bin .add (.t 7) (.c (.i .i64 1))),zm 4 8]))
def p41:PFun:=⟨31,[.t 2],.seq (.reg [] [z 2 (.mov (.c .nil))]) (.seq (.reg [] [z 3 (.mov (.c .nil))]) (.seq (.seq (.reg [] [z 4 (.mov (.c (.i .i64 0)))]) (.block 0 (.loop p41_1))) (.seq (.reg
 [] [zm 30 3,zm 2 30]) (.ret))))⟩
theorem c41:cFun Tryz.prog Tryz.f41=some p41:=by kernel_rfl
def p47:PFun:=⟨12,[.c 2 (some 8)],.seq (.reg [] [z 1 (.box 33 (.t 0)),z 2 (.alloc 33 [.nil,.nil,.s [],.s [],.s [],.s [],.i .i64 0,.i .i64 0])]) (.seq (.reg [] [zf 3 0 1,zl 4 3,zf 5 0
 1,zl 6 5,zf 7 2 1,zl 8 7,zf 9 3 1,zl 10 9,z 11 (.build [.nil,.nil,.s [],.s [],.s [],.s [],.i .i64 0,.i .i64 0] [(0,1,.t 4),(1,1,.t 6),(2,1,.t 8),(3,1,.t 10),
 (7,1,.c (.i .i64 1))]),zs (.store 8 [some 3,some 3,none,none,none,none,none,none] (.t 2) (.t 11))]) (.ret))⟩
theorem c47:cFun Tryz.prog Tryz.f47=some p47:=by kernel_rfl
def p23_0:PCode:=.seq (.reg [] [z 34 (.bin .lss (.t 33) (.t 32))]) (.seq (.ite (.t 34) (.skip) (.exit 0)) (.seq (.block 1 (.seq (.reg [] [z 35 (.idx 1 (.t 31) (.t 33)),zl 36 35,zm 5 36]) (.seq
 (.reg [] [zm 37 5,z 38 (.bin .gtr (.t 37) (.c (.i .i64 128)))]) (.ite (.t 38) (.seq (.reg [] [z 2 (.mov (.c (.i .i64 1)))]) (.ret)) (.skip))))) (.reg [] [z 39 (.bin .add (.t 33)
 (.c (.i .i64 1))),zm 33 39])))
def p23:PFun:=⟨86,[.t 2],.seq (.reg [] [z 1 (.box 35 (.t 0)),z 2 (.mov (.c (.i .i64 0)))]) (.seq (.seq (.reg [] [zf 7 0 1,zL 8 3 7,z 9 (.call 44 [.t 8]),zm 3 9]) (.seq (.reg [] [zm 10 3,z
 11 (.bin .neq (.t 10) (.c (.i .i64 0)))]) (.ite (.t 11) (.seq (.reg [] [zm 12 3,zm 2 12]) (.ret)) (.skip)))) (.seq (.seq (.dreg [([zf 13 3 1,zl 14 13,z 15 (.bin .neq (.t 14) (.c
 (.i .i64 1))),zm 16 15,⟨some 17,[(16,true)],.fld 3 (.t 1)⟩,⟨some 18,[(16,true)],.load none (.t 17)⟩,⟨some 19,[(16,true)],.bin .neq (.t 18) (.c (.i .i64 2))⟩,z 20
 (.pick (.t 16) (.t 19) (.c (.b false))),zm 21 20,⟨some 22,[(21,false)],.fld 12 (.t 1)⟩,⟨some 23,[(21,false)],.load none (.t 22)⟩,⟨some 25,[(21,false)],.fld 12 (.t 1)⟩,
 ⟨some 26,[(21,false)],.load none (.t 25)⟩],⟨some 24,[(21,false)],.call 41 [.t 23]⟩,[⟨some 25,[(21,false)],.fld 12 (.t 1)⟩,⟨some 26,[(21,false)],.load none (.t 25)⟩])]
 [] [17,18,19,22,23,24,25,26,27,28] [⟨some 27,[(21,false)],.call 14 [.t 24,.t 26]⟩,⟨some 28,[(21,false)],.un .not (.t 27)⟩,z 29 (.pick (.t 21) (.c (.b true)) (.t
 28))]) (.ite (.t 29) (.seq (.reg [] [z 2 (.mov (.c (.i .i64 1)))]) (.ret)) (.skip))) (.seq (.seq (.reg [] [zf 30 12 1,zl 31 30,z 32 (.len false (.t 31)),z 33 (.mov (.c (.i .i64
 0)))]) (.block 0 (.loop p23_0))) (.seq (.seq (.dreg [([zf 40 12 1,zl 41 40,zf 42 0 1,zf 43 1 42,zl 44 43,zf 46 0 1,zf 47 2 46,zl 48 47,z 49 (.bin .sub (.t 48) (.c (.i .i64
 1)))],z 45 (.call 45 [.t 41,.t 44]),[zf 46 0 1,zf 47 2 46,zl 48 47])] [] [] [z 50 (.bin .neq (.t 45) (.t 49))]) (.ite (.t 50) (.seq (.reg [] [z 2 (.mov (.c (.i .i64 11)))])
 (.ret)) (.skip))) (.seq (.seq (.reg [] [zf 51 3 1,zl 52 51,z 53 (.bin .eql (.t 52) (.c (.i .i64 1)))]) (.ite (.t 53) (.seq (.reg [] [zf 54 4 1,zL 55 8 54,z 56 (.call 46 [.t
 55]),zm 2 56]) (.ret)) (.skip))) (.seq (.reg [] [zf 57 4 1,zL 58 8 57,z 6 (.alloc 33 [.nil,.nil,.s [],.s [],.s [],.s [],.i .i64 0,.i .i64 0]),zs (.store 8 [some 3,some
 3,none,none,none,none,none,none] (.t 6) (.t 58))]) (.seq (.seq (.reg [64,65,66,69,70,71,74,75,76,79,80,81] [zf 59 1 6,zl 60 59,z 61 (.len false (.t 60)),z 62
 (.bin .gtr (.t 61) (.c (.i .i64 0))),zm 63 62,⟨some 64,[(63,false)],.fld 4 (.t 6)⟩,⟨some 65,[(63,false)],.load none (.t 64)⟩,⟨some 66,[(63,false)],.bin .neq (.t 65) (.c
 (.s []))⟩,z 67 (.pick (.t 63) (.c (.b true)) (.t 66)),zm 68 67,⟨some 69,[(68,false)],.fld 5 (.t 6)⟩,⟨some 70,[(68,false)],.load none (.t 69)⟩,⟨some 71,[(68,false)],
 .bin .neq (.t 70) (.c (.s []))⟩,z 72 (.pick (.t 68) (.c (.b true)) (.t 71)),zm 73 72,⟨some 74,[(73,false)],.fld 6 (.t 6)⟩,⟨some 75,[(73,false)],.load none (.t 74)⟩,⟨some
 76,[(73,false)],.bin .neq (.t 75) (.c (.i .i64 0))⟩,z 77 (.pick (.t 73) (.c (.b true)) (.t 76)),zm 78 77,⟨some 79,[(78,false)],.fld 7 (.t 6)⟩,⟨some 80,[(78,false)],
 .load none (.t 79)⟩,⟨some 81,[(78,false)],.bin .neq (.t 80) (.c (.i .i64 0))⟩,z 82 (.pick (.t 78) (.c (.b true)) (.t 81))]) (.ite (.t 82) (.seq (.reg [] [z 2 (.mov (.c (.i .i64
 1)))]) (.ret)) (.skip))) (.seq (.reg [] [zL 83 8 6,z 84 (.call 47 [.t 83]),z 85 (.call 46 [.t 84]),zm 2 85]) (.ret)))))))))⟩
theorem c23:cFun Tryz.prog Tryz.f23=some p23:=by kernel_rfl
def p29:PFun:=⟨31,[.t 4],.seq (.reg [] [z 2 (.box 35 (.t 0)),z 3 (.box 35 (.t 1)),z 4 (.mov (.c (.b false)))]) (.seq (.reg [11,12,13,14,15,18,19,20,21,22,25,26,27,28,29] [zf 5 0
 2,zL 6 3 5,zf 7 0 3,zL 8 3 7,z 9 (.beq false [0,0,0] (.t 6) (.t 8)),zm 10 9,⟨some 11,[(10,true)],.fld 3 (.t 2)⟩,⟨some 12,[(10,true)],.load none (.t 11)⟩,⟨some 13,
 [(10,true)],.fld 3 (.t 3)⟩,⟨some 14,[(10,true)],.load none (.t 13)⟩,⟨some 15,[(10,true)],.bin .eql (.t 12) (.t 14)⟩,z 16 (.pick (.t 10) (.t 15) (.c (.b false))),zm 17
 16,⟨some 18,[(17,true)],.fld 4 (.t 2)⟩,⟨some 19,[(17,true)],.load (some 8) (.t 18)⟩,⟨some 20,[(17,true)],.fld 4 (.t 3)⟩,⟨some 21,[(17,true)],.load (some 8) (.t 20)⟩,
 ⟨some 22,[(17,true)],.call 30 [.t 19,.t 21]⟩,z 23 (.pick (.t 17) (.t 22) (.c (.b false))),zm 24 23,⟨some 25,[(24,true)],.fld 12 (.t 2)⟩,⟨some 26,[(24,true)],.load none
 (.t 25)⟩,⟨some 27,[(24,true)],.fld 12 (.t 3)⟩,⟨some 28,[(24,true)],.load none (.t 27)⟩,⟨some 29,[(24,true)],.call 14 [.t 26,.t 28]⟩,z 30 (.pick (.t 24) (.t 29) (.c (.b
 false))),zm 4 30]) (.ret))⟩
theorem c29:cFun Tryz.prog Tryz.f29=some p29:=by kernel_rfl
def p11_0:PCode:=.seq (.reg [] [z 14 (.bin .lss (.t 13) (.t 12))]) (.seq (.ite (.t 14) (.skip) (.exit 0)) (.seq (.block 1 (.seq (.reg [] [zm 15 13,zm 5 15]) (.seq (.dreg [] [zm 16 0,zm 17 5,z 18
 (.idx 13 (.t 16) (.t 17)),zL 19 13 18,zm 20 1,zm 21 5,z 22 (.idx 13 (.t 20) (.t 21)),zL 23 13 22] [] [z 24 (.call 29 [.t 19,.t 23]),z 25 (.un .not (.t 24))]) (.ite (.t 25)
 (.seq (.reg [] [z 4 (.mov (.c (.b false)))]) (.ret)) (.skip))))) (.reg [] [z 26 (.bin .add (.t 13) (.c (.i .i64 1))),zm 13 26])))
def p11:PFun:=⟨27,[.t 4],.seq (.reg [] [z 4 (.mov (.c (.b false)))]) (.seq (.seq (.reg [] [zm 6 0,z 7 (.len false (.t 6)),zm 8 1,z 9 (.len false (.t 8)),z 10 (.bin .neq (.t 7) (.t 9))])
 (.ite (.t 10) (.seq (.reg [] [z 4 (.mov (.c (.b false)))]) (.ret)) (.skip))) (.seq (.seq (.reg [] [zm 11 0,z 12 (.len false (.t 11)),z 13 (.mov (.c (.i .i64 0)))]) (.block 0
 (.loop p11_0))) (.seq (.reg [] [z 4 (.mov (.c (.b true)))]) (.ret))))⟩
theorem c11:cFun Tryz.prog Tryz.f11=some p11:=by kernel_rfl
def p20:PFun:=⟨36,[.t 4],.seq (.reg [] [z 4 (.mov (.c (.i .i64 0)))]) (.seq (.reg [] [z 5 (.mov (.c (.i .i64 0)))]) (.seq (.seq (.dreg [] [zm 6 0,z 7 (.nilck (.t 6)),zf 8 1 7,zl 9 8,zm 10
 0,z 11 (.nilck (.t 10)),zf 12 0 11,zl 13 12,z 14 (.len false (.t 13))] [] [z 15 (.bin .lss (.t 9) (.t 14))]) (.ite (.t 15) (.dreg [] [zm 16 0,z 17 (.nilck (.t 16)),zf 18 0 17,
 zl 19 18,zm 20 0,z 21 (.nilck (.t 20)),zf 22 1 21,zl 23 22] [] [z 24 (.idx 1 (.t 19) (.t 23)),zl 25 24,zm 5 25]) (.skip))) (.seq (.reg [] [zm 26 0,z 27 (.nilck (.t 26)),zf
 28 1 27,zl 29 28,z 30 (.bin .add (.t 29) (.c (.i .i64 1))),z 31 (.nilck (.t 26)),zf 32 1 31,zs (.store 1 [none] (.t 32) (.t 30))]) (.seq (.reg [] [zm 33 5,zm 34 1,z 35 (.call
 10 [.t 33,.t 34]),zm 4 35]) (.ret)))))⟩
theorem c20:cFun Tryz.prog Tryz.f20=some p20:=by kernel_rfl
def p82:PFun:=⟨8,[.t 2],.seq (.reg [] [z 2 (.mov (.c (.s [])))]) (.seq (.reg [] [z 3 (.bslice 1 [none] [.c (.s [114,101,100]),.c (.s [99,97,114]),.c (.s [82,101,100]),.c (.s [97]),.c
 (.s [99,97,114,115]),.c (.s [49,44,53]),.c (.s [50,50]),.c (.s [100,111,110,39,116]),.c (.s [46]),.c (.s [33]),.c (.s [32]),.c (.s [32,32]),.c (.s [60]),.c (.s
 [38]),.c (.s [123]),.c (.s [34]),.c (.s [92]),.c (.s [120,45,121]),.c (.s [10]),.c (.s [61]),.c (.s [125]),.c (.s [62]),.c (.s [9]),.c (.s [98])]),zm 4 0,z 5 (.call 20
 [.t 4,.c (.i .i64 24)]),z 6 (.idx 1 (.t 3) (.t 5)),zl 7 6,zm 2 7]) (.ret))⟩
theorem c82:cFun Tryz.prog Tryz.f82=some p82:=by kernel_rfl
def p43_0:PCode:=.seq (.seq (.reg [] [zm 12 6,z 13 (.bin .gtr (.t 12) (.c (.i .i64 0)))]) (.ite (.t 13) (.skip) (.exit 0))) (.seq (.block 1 (.seq (.reg [] [zm 16 0,z 17 (.call 82 [.t 16]),zm 7
 17]) (.seq (.seq (.reg [21,22,23] [zm 18 5,z 19 (.bin .neq (.t 18) (.c (.s []))),zm 20 19,⟨some 21,[(20,true)],.mov (.t 0)⟩,⟨some 22,[(20,true)],.call 20 [.t 21,.c (.i
 .i64 3)]⟩,⟨some 23,[(20,true)],.bin .gtr (.t 22) (.c (.i .i64 0))⟩,z 24 (.pick (.t 20) (.t 23) (.c (.b false)))]) (.ite (.t 24) (.reg [] [zm 25 5,z 26 (.bin .add (.t 25) (.c
 (.s [32]))),zm 5 26]) (.skip))) (.reg [] [zm 27 5,zm 28 7,z 29 (.bin .add (.t 27) (.t 28)),zm 5 29])))) (.reg [] [zm 14 6,z 15 (.bin .sub (.t 14) (.c (.i .i64 1))),zm 6 15]))
def p43:PFun:=⟨31,[.t 4],.seq (.reg [] [z 4 (.mov (.c (.s [])))]) (.seq (.reg [] [z 5 (.mov (.c (.s [])))]) (.seq (.seq (.reg [] [zm 8 0,zm 9 1,z 10 (.bin .add (.t 9) (.c (.i .i64 1))),z 11
 (.call 20 [.t 8,.t 10]),zm 6 11]) (.block 0 (.loop p43_0))) (.seq (.reg [] [zm 30 5,zm 4 30]) (.ret))))⟩
theorem c43:cFun Tryz.prog Tryz.f43=some p43:=by kernel_rfl
def p79_0:PCode:=.seq (.seq (.reg [] [zm 20 12,z 21 (.bin .gtr (.t 20) (.c (.i .i64 0)))]) (.ite (.t 21) (.skip) (.exit 0))) (.seq (.block 1 (.seq (.reg [] [zm 24 0,z 25 (.call 43 [.t 24,.c (.i
 .i64 3)]),z 26 (.build [.i .i64 0,.s [],.i .i64 0] [(0,1,.c (.i .i64 1)),(1,1,.t 25)]),z 13 (.alloc 79 [.i .i64 0,.s [],.i .i64 0]),zs (.store 3 [none,none,none] (.t
 13) (.t 26))]) (.seq (.seq (.reg [] [zm 27 0,z 28 (.call 20 [.t 27,.c (.i .i64 8)])]) (.block 2 (.seq (.seq (.reg [] [z 30 (.bin .eql (.t 28) (.c (.i .i64 0))),zm 29 30]) (.ite
 (.t 29) (.skip) (.reg [] [z 31 (.bin .eql (.t 28) (.c (.i .i64 1))),zm 29 31]))) (.ite (.t 29) (.reg [] [z 32 (.bslice 1 [none] [.c (.s [110]),.c (.s [110,97,109,101]),.c (.s
 [120,49])]),zm 33 0,z 34 (.call 20 [.t 33,.c (.i .i64 3)]),z 35 (.idx 1 (.t 32) (.t 34)),zl 36 35,z 37 (.build [.i .i64 0,.s [],.i .i64 0] [(0,1,.c (.i .i64 5)),(1,1,
 .t 36)]),zs (.store 3 [none,none,none] (.t 13) (.t 37))]) (.seq (.reg [] [z 39 (.bin .eql (.t 28) (.c (.i .i64 2))),zm 38 39]) (.ite (.t 38) (.seq (.reg [] [zm 40 2]) (.ite (.t
 40) (.seq (.reg [] [zm 41 11,z 42 (.bin .add (.t 41) (.c (.i .i64 1))),zm 11 42]) (.reg [] [z 43 (.bslice 1 [none] [.c (.s [98,114]),.c (.s [105,109,103,32,97])]),zm 44 0,
 z 45 (.call 20 [.t 44,.c (.i .i64 2)]),z 46 (.idx 1 (.t 43) (.t 45)),zl 47 46,zm 48 11,z 49 (.build [.i .i64 0,.s [],.i .i64 0] [(0,1,.c (.i .i64 4)),(1,1,.t 47),(2,1,
 .t 48)]),zs (.store 3 [none,none,none] (.t 13) (.t 49))])) (.skip))) (.seq (.seq (.reg [] [z 51 (.bin .eql (.t 28) (.c (.i .i64 3))),zm 50 51]) (.ite (.t 50) (.skip) (.reg [] [z
 52 (.bin .eql (.t 28) (.c (.i .i64 4))),zm 50 52]))) (.ite (.t 50) (.seq (.reg [] [zm 53 2]) (.ite (.t 53) (.seq (.reg [] [zm 54 11,z 55 (.bin .add (.t 54) (.c (.i .i64 1))),zm
 11 55]) (.seq (.reg [] [z 56 (.bslice 1 [none] [.c (.s [98]),.c (.s [105]),.c (.s [97,32,104,61,49])]),zm 57 0,z 58 (.call 20 [.t 57,.c (.i .i64 3)]),z 59 (.idx 1 (.t 56)
 (.t 58)),zl 60 59,zm 61 11,z 62 (.build [.i .i64 0,.s [],.i .i64 0] [(0,1,.c (.i .i64 2)),(1,1,.t 60),(2,1,.t 61)]),zs (.store 3 [none,none,none] (.t 13) (.t 62))])
 (.reg [] [zm 63 10,zL 64 3 13,z 65 (.bslice 3 [none,none,none] [.t 64]),z 66 (.app 79 3 32 (.t 63) (.t 65)),zm 10 66]))) (.skip))) (.seq (.seq (.reg [] [z 68 (.bin .eql (.t
 28) (.c (.i .i64 5))),zm 67 68]) (.ite (.t 67) (.skip) (.reg [] [z 69 (.bin .eql (.t 28) (.c (.i .i64 6))),zm 67 69]))) (.ite (.t 67) (.seq (.reg [] [zm 70 10,z 71 (.len false
 (.t 70)),z 72 (.bin .sub (.t 71) (.c (.i .i64 1))),zm 14 72]) (.seq (.reg [] [zm 73 14,z 74 (.bin .geq (.t 73) (.c (.i .i64 0)))]) (.ite (.t 74) (.seq (.seq (.reg [] [zm 75 3,z
 76 (.un .not (.t 75))]) (.ite (.t 76) (.reg [] [zm 77 0,zm 78 14,z 79 (.bin .add (.t 78) (.c (.i .i64 1))),z 80 (.call 20 [.t 77,.t 79]),zm 14 80]) (.skip))) (.seq (.dreg [([zm
 81 10,zm 82 14,z 83 (.idx 3 (.t 81) (.t 82)),zf 84 1 83,zl 85 84,zm 87 10,zm 88 14,z 89 (.idx 3 (.t 87) (.t 88)),zf 90 2 89,zl 91 90],z 86 (.call 126 [.t 85]),[z 89 (.idx
 3 (.t 87) (.t 88)),zf 90 2 89,zl 91 90])] [] [] [z 92 (.build [.i .i64 0,.s [],.i .i64 0] [(0,1,.c (.i .i64 3)),(1,1,.t 86),(2,1,.t 91)]),zs (.store 3 [none,none,
 none] (.t 13) (.t 92))]) (.dreg [([zm 93 10,zm 94 14,z 95 (.slice 3 (.t 93) none (some (.t 94))),zm 97 10,zm 98 14,z 99 (.bin .add (.t 98) (.c (.i .i64 1))),z 100 (.slice 3
 (.t 97) (some (.t 99)) none)],z 96 (.app 79 3 32 (.c .nil) (.t 95)),[z 100 (.slice 3 (.t 97) (some (.t 99)) none)])] [] [] [z 101 (.app 79 3 32 (.t 96) (.t 100)),zm 10 101])))
 (.seq (.reg [104,105] [zm 102 2,zm 103 102,⟨some 104,[(103,true)],.mov (.t 3)⟩,⟨some 105,[(103,true)],.un .not (.t 104)⟩,z 106 (.pick (.t 103) (.t 105) (.c (.b false)))])
 (.ite (.t 106) (.seq (.reg [] [zm 107 11,z 108 (.bin .add (.t 107) (.c (.i .i64 1))),zm 11 108]) (.reg [] [zm 109 11,z 110 (.build [.i .i64 0,.s [],.i .i64 0] [(0,1,.c (.i
 .i64 3)),(1,1,.c (.s [98])),(2,1,.t 109)]),zs (.store 3 [none,none,none] (.t 13) (.t 110))])) (.skip)))))) (.skip))))))))))) (.reg [] [zm 111 9,zL 112 3 13,z 113 (.bslice
 3 [none,none,none] [.t 112]),z 114 (.call 42 [.t 111,.t 113]),zm 9 114])))) (.reg [] [zm 22 12,z 23 (.bin .sub (.t 22) (.c (.i .i64 1))),zm 12 23]))
def p79_1:PCode:=.seq (.seq (.reg [121] [zm 118 15,z 119 (.bin .geq (.t 118) (.c (.i .i64 0))),zm 120 119,⟨some 121,[(120,true)],.mov (.t 3)⟩,z 122 (.pick (.t 120) (.t 121) (.c (.b false)))])
 (.ite (.t 122) (.skip) (.exit 3))) (.seq (.block 4 (.dreg [([zm 125 9,zm 126 10,zm 127 15,z 128 (.idx 3 (.t 126) (.t 127)),zf 129 1 128,zl 130 129,zm 132 10,zm 133 15,z 134
 (.idx 3 (.t 132) (.t 133)),zf 135 2 134,zl 136 135],z 131 (.call 126 [.t 130]),[z 134 (.idx 3 (.t 132) (.t 133)),zf 135 2 134,zl 136 135])] [z 137 (.build [.i .i64 0,.s [],
 .i .i64 0] [(0,1,.c (.i .i64 3)),(1,1,.t 131),(2,1,.t 136)]),z 138 (.bslice 3 [none,none,none] [.t 137])] [] [z 139 (.app 79 3 32 (.t 125) (.t 138)),zm 9 139])) (.reg []
 [zm 123 15,z 124 (.bin .sub (.t 123) (.c (.i .i64 1))),zm 15 124]))
def p79:PFun:=⟨141,[.t 8],.seq (.reg [] [z 8 (.mov (.c .nil))]) (.seq (.reg [] [z 9 (.mov (.c .nil)),z 10 (.mov (.c .nil))]) (.seq (.reg [] [z 11 (.mov (.c (.i .i64 0)))]) (.seq (.seq (.reg []
 [zm 16 0,zm 17 1,z 18 (.bin .add (.t 17) (.c (.i .i64 1))),z 19 (.call 20 [.t 16,.t 18]),zm 12 19]) (.block 0 (.loop p79_0))) (.seq (.seq (.reg [] [zm 115 10,z 116 (.len false
 (.t 115)),z 117 (.bin .sub (.t 116) (.c (.i .i64 1))),zm 15 117]) (.block 3 (.loop p79_1))) (.seq (.reg [] [zm 140 9,zm 8 140]) (.ret))))))⟩
theorem c79:cFun Tryz.prog Tryz.f79=some p79:=by kernel_rfl
def p22_0:PCode:=.seq (.reg [] [z 11 (.bin .lss (.t 10) (.t 9))]) (.seq (.ite (.t 11) (.skip) (.exit 0)) (.seq (.block 1 (.seq (.reg [] [zm 12 10,zm 6 12]) (.seq (.reg [] [zm 13 1,zm 14 6,z 15
 (.idx 3 (.t 13) (.t 14)),zL 16 3 15,z 7 (.alloc 79 [.i .i64 0,.s [],.i .i64 0]),zs (.store 3 [none,none,none] (.t 7) (.t 16))]) (.seq (.seq (.reg [] [zf 17 0 7,zl 18 17,z
 19 (.bin .eql (.t 18) (.c (.i .i64 1)))]) (.ite (.t 19) (.dreg [([zf 20 1 7,zl 21 20,z 22 (.bin .add (.c (.s [101,105,110,32])) (.t 21)),zf 23 1 7,zl 24 23,z 25 (.bslice 1
 [none] [.c (.s [114,111,116]),.c (.s [100,97,115,32,65,117,116,111]),.c (.s []),.t 22,.t 24]),zm 26 0],z 27 (.call 20 [.t 26,.c (.i .i64 5)]),[zf 20 1 7,zl 21 20,
 zf 23 1 7,zl 24 23,z 25 (.bslice 1 [none] [.c (.s [114,111,116]),.c (.s [100,97,115,32,65,117,116,111]),.c (.s []),.t 22,.t 24])])] [] [] [z 28 (.idx 1 (.t 25) (.t
 27)),zl 29 28,zf 30 1 7,zs (.store 1 [none] (.t 30) (.t 29))]) (.seq (.reg [] [zm 31 0,z 32 (.call 20 [.t 31,.c (.i .i64 3)]),z 33 (.bin .eql (.t 32) (.c (.i .i64 0)))]) (.ite
 (.t 33) (.reg [] [zm 34 5,zm 35 0,z 36 (.call 43 [.t 35,.c (.i .i64 2)]),z 37 (.build [.i .i64 0,.s [],.i .i64 0] [(0,1,.c (.i .i64 1)),(1,1,.t 36)]),z 38 (.bslice 3
 [none,none,none] [.t 37]),z 39 (.call 42 [.t 34,.t 38]),zm 5 39]) (.skip))))) (.reg [] [zm 40 5,zL 41 3 7,z 42 (.bslice 3 [none,none,none] [.t 41]),z 43 (.call 42 [.t 40,
 .t 42]),zm 5 43]))))) (.reg [] [z 44 (.bin .add (.t 10) (.c (.i .i64 1))),zm 10 44])))
def p22:PFun:=⟨46,[.t 4],.seq (.reg [] [z 4 (.mov (.c .nil))]) (.seq (.reg [] [z 5 (.mov (.c .nil))]) (.seq (.seq (.reg [] [zm 8 1,z 9 (.len false (.t 8)),z 10 (.mov (.c (.i .i64 0)))])
 (.block 0 (.loop p22_0))) (.seq (.reg [] [zm 45 5,zm 4 45]) (.ret))))⟩
theorem c22:cFun Tryz.prog Tryz.f22=some p22:=by kernel_rfl
def p40:PFun:=⟨56,[.c 2 (some 8)],.seq (.reg [] [z 2 (.alloc 33 [.nil,.nil,.s [],.s [],.s [],.s [],.i .i64 0,.i .i64 0])]) (.seq (.reg [] [zm 7 0,z 8 (.call 79 [.t 7,.c (.i .i64 4),.c
 (.b true),.c (.b true)]),zm 3 8]) (.seq (.seq (.reg [] [zm 9 3,z 10 (.len false (.t 9)),z 11 (.bin .eql (.t 10) (.c (.i .i64 0)))]) (.ite (.t 11) (.reg [] [z 12 (.bslice 1
 [none] [.c (.s [83,97,118,101]),.c (.s [114,101,100,32,99,97,114]),.c (.s [82,101,100,32,99,97,114,115])]),zm 13 0,z 14 (.call 20 [.t 13,.c (.i .i64 3)]),z 15
 (.idx 1 (.t 12) (.t 14)),zl 16 15,z 17 (.build [.i .i64 0,.s [],.i .i64 0] [(0,1,.c (.i .i64 1)),(1,1,.t 16)]),z 18 (.bslice 3 [none,none,none] [.t 17]),zm 3 18])
 (.skip))) (.seq (.reg [] [zm 19 0,zm 20 3,z 21 (.call 22 [.t 19,.t 20]),zm 4 21]) (.seq (.reg [] [zm 23 3,zm 24 4,z 25 (.call 80 [.t 23,.t 24]),zm 22 25,z 26 (.ext 0 (.t
 22)),z 27 (.ext 1 (.t 22)),zm 5 26,zm 6 27]) (.seq (.dreg [([zm 28 5,zm 29 6,z 30 (.bslice 1 [none] [.c (.s []),.c (.s []),.c (.s [83,97,118,101]),.c (.s [114,101,100,
 32,99,97,114])]),zm 31 0,z 35 (.bslice 1 [none] [.c (.s []),.c (.s []),.c (.s [120]),.c (.s [83,97,118,101])]),zm 36 0,z 40 (.bslice 1 [none] [.c (.s []),.c (.s [97,
 110,110]),.c (.s [98,111,98])]),zm 41 0,z 45 (.bslice 1 [none] [.c (.s []),.c (.s [112]),.c (.s [113])]),zm 46 0,zm 50 0,zm 52 0],z 32 (.call 20 [.t 31,.c (.i .i64
 4)]),[z 30 (.bslice 1 [none] [.c (.s []),.c (.s []),.c (.s [83,97,118,101]),.c (.s [114,101,100,32,99,97,114])]),z 35 (.bslice 1 [none] [.c (.s []),.c (.s []),.c (.s
 [120]),.c (.s [83,97,118,101])]),z 40 (.bslice 1 [none] [.c (.s []),.c (.s [97,110,110]),.c (.s [98,111,98])]),z 45 (.bslice 1 [none] [.c (.s []),.c (.s [112]),.c (.s
 [113])])]),([z 33 (.idx 1 (.t 30) (.t 32)),zl 34 33],z 37 (.call 20 [.t 36,.c (.i .i64 4)]),[z 30 (.bslice 1 [none] [.c (.s []),.c (.s []),.c (.s [83,97,118,101]),.c (.s
 [114,101,100,32,99,97,114])]),z 33 (.idx 1 (.t 30) (.t 32)),zl 34 33,z 35 (.bslice 1 [none] [.c (.s []),.c (.s []),.c (.s [120]),.c (.s [83,97,118,101])]),z 40
 (.bslice 1 [none] [.c (.s []),.c (.s [97,110,110]),.c (.s [98,111,98])]),z 45 (.bslice 1 [none] [.c (.s []),.c (.s [112]),.c (.s [113])])]),([z 38 (.idx 1 (.t 35) (.t
 37)),zl 39 38],z 42 (.call 20 [.t 41,.c (.i .i64 3)]),[z 30 (.bslice 1 [none] [.c (.s []),.c (.s []),.c (.s [83,97,118,101]),.c (.s [114,101,100,32,99,97,114])]),z
 33 (.idx 1 (.t 30) (.t 32)),zl 34 33,z 35 (.bslice 1 [none] [.c (.s []),.c (.s []),.c (.s [120]),.c (.s [83,97,118,101])]),z 38 (.idx 1 (.t 35) (.t 37)),zl 39 38,z 40
 (.bslice 1 [none] [.c (.s []),.c (.s [97,110,110]),.c (.s [98,111,98])]),z 45 (.bslice 1 [none] [.c (.s []),.c (.s [112]),.c (.s [113])])]),([z 43 (.idx 1 (.t 40) (.t
 42)),zl 44 43],z 47 (.call 20 [.t 46,.c (.i .i64 3)]),[z 30 (.bslice 1 [none] [.c (.s []),.c (.s []),.c (.s [83,97,118,101]),.c (.s [114,101,100,32,99,97,114])]),z
 33 (.idx 1 (.t 30) (.t 32)),zl 34 33,z 35 (.bslice 1 [none] [.c (.s []),.c (.s []),.c (.s [120]),.c (.s [83,97,118,101])]),z 38 (.idx 1 (.t 35) (.t 37)),zl 39 38,z 40
 (.bslice 1 [none] [.c (.s []),.c (.s [97,110,110]),.c (.s [98,111,98])]),z 43 (.idx 1 (.t 40) (.t 42)),zl 44 43,z 45 (.bslice 1 [none] [.c (.s []),.c (.s [112]),.c (.s
 [113])])]),([z 48 (.idx 1 (.t 45) (.t 47)),zl 49 48],z 51 (.call 20 [.t 50,.c (.i .i64 50)]),[z 30 (.bslice 1 [none] [.c (.s []),.c (.s []),.c (.s [83,97,118,101]),.c (.s
 [114,101,100,32,99,97,114])]),z 33 (.idx 1 (.t 30) (.t 32)),zl 34 33,z 35 (.bslice 1 [none] [.c (.s []),.c (.s []),.c (.s [120]),.c (.s [83,97,118,101])]),z 38 (.idx
 1 (.t 35) (.t 37)),zl 39 38,z 40 (.bslice 1 [none] [.c (.s []),.c (.s [97,110,110]),.c (.s [98,111,98])]),z 43 (.idx 1 (.t 40) (.t 42)),zl 44 43,z 45 (.bslice 1 [none]
 [.c (.s []),.c (.s [112]),.c (.s [113])]),z 48 (.idx 1 (.t 45) (.t 47)),zl 49 48]),([],z 53 (.call 20 [.t 52,.c (.i .i64 3)]),[z 30 (.bslice 1 [none] [.c (.s []),.c (.s
 []),.c (.s [83,97,118,101]),.c (.s [114,101,100,32,99,97,114])]),z 33 (.idx 1 (.t 30) (.t 32)),zl 34 33,z 35 (.bslice 1 [none] [.c (.s []),.c (.s []),.c (.s [120]),
 .c (.s [83,97,118,101])]),z 38 (.idx 1 (.t 35) (.t 37)),zl 39 38,z 40 (.bslice 1 [none] [.c (.s []),.c (.s [97,110,110]),.c (.s [98,111,98])]),z 43 (.idx 1 (.t 40) (.t
 42)),zl 44 43,z 45 (.bslice 1 [none] [.c (.s []),.c (.s [112]),.c (.s [113])]),z 48 (.idx 1 (.t 45) (.t 47)),zl 49 48])] [z 54 (.bin .add (.c (.i .i64 1)) (.t 53))] [] [z 55
 (.build [.nil,.nil,.s [],.s [],.s [],.s [],.i .i64 0,.i .i64 0] [(0,1,.t 28),(1,1,.t 29),(2,1,.t 34),(3,1,.t 39),(4,1,.t 44),(5,1,.t 49),(6,1,.t 51),(7,
 1,.t 54)]),zs (.store 8 [some 3,some 3,none,none,none,none,none,none] (.t 2) (.t 55))]) (.ret))))))⟩
theorem c40:cFun Tryz.prog Tryz.f40=some p40:=by kernel_rfl
def p21:PFun:=⟨52,[.c 2 (some 13)],.seq (.reg [] [z 2 (.alloc 35 [.i .i64 0,.i .i64 0,.i .i64 0,.i .i64 0,.nil,.nil,.s [],.s [],.s [],.s [],.i .i64 0,.i .i64 0,.nil])]) (.seq (.reg
 [] [zm 5 0,z 6 (.call 20 [.t 5,.c (.i .i64 9)]),z 7 (.bin .add (.c (.i .i64 1)) (.t 6)),zm 8 0,z 9 (.call 20 [.t 8,.c (.i .i64 3)]),zm 10 0,z 11 (.call 20 [.t 10,.c (.i
 .i64 3)]),z 12 (.bin .add (.c (.i .i64 1)) (.t 11)),z 13 (.build [.i .i64 0,.i .i64 0,.i .i64 0] [(0,1,.t 7),(1,1,.t 9),(2,1,.t 12)]),zm 14 0,z 15 (.call 40 [.t 14]),
 z 16 (.build [.i .i64 0,.i .i64 0,.i .i64 0,.i .i64 0,.nil,.nil,.s [],.s [],.s [],.s [],.i .i64 0,.i .i64 0,.nil] [(0,3,.t 13),(3,1,.c (.i .i64 1)),(4,8,.t
 15)]),z 3 (.alloc 35 [.i .i64 0,.i .i64 0,.i .i64 0,.i .i64 0,.nil,.nil,.s [],.s [],.s [],.s [],.i .i64 0,.i .i64 0,.nil]),zs (.store 13 [none,none,none,none,some
 3,some 3,none,none,none,none,none,none,some 1] (.t 3) (.t 16))]) (.seq (.reg [] [zm 17 0,z 18 (.call 20 [.t 17,.c (.i .i64 3)]),zm 19 0,z 20 (.call 20 [.t 19,.c (.i
 .i64 3)]),zm 21 0,z 22 (.call 20 [.t 21,.c (.i .i64 3)]),z 23 (.bown 3 1 8 [none] [.t 18,.t 20,.t 22]),zm 4 23]) (.seq (.reg [] [zm 24 4,zf 25 0 3,zf 26 1 25,zl 27 26,zf
 28 0 3,zf 29 2 28,zl 30 29,z 31 (.bin .sub (.t 30) (.c (.i .i64 1))),z 32 (.idx 1 (.t 24) (.t 27)),zs (.store 1 [none] (.t 32) (.t 31))]) (.seq (.reg [] [zm 33 4,z 34 (.call
 41 [.t 33]),zf 35 12 3,zs (.store 1 [some 1] (.t 35) (.t 34))]) (.seq (.seq (.reg [] [zm 36 0,z 37 (.call 20 [.t 36,.c (.i .i64 3)]),z 38 (.bin .eql (.t 37) (.c (.i .i64 0)))])
 (.ite (.t 38) (.seq (.reg [] [zf 39 3 3,zs (.store 1 [none] (.t 39) (.c (.i .i64 2)))]) (.reg [] [zf 40 4 3,zf 41 0 40,zl 42 41,zf 43 4 3,zf 44 2 43,zl 45 44,zf 46 4 3,zf 47
 3 46,zl 48 47,z 49 (.build [.nil,.nil,.s [],.s [],.s [],.s [],.i .i64 0,.i .i64 0] [(0,1,.t 42),(2,1,.t 45),(3,1,.t 48)]),zf 50 4 3,zs (.store 8 [some 3,some 3,
 none,none,none,none,none,none] (.t 50) (.t 49))])) (.skip))) (.seq (.reg [] [zL 51 13 3,zs (.store 13 [none,none,none,none,some 3,some 3,none,none,none,none,none,
 none,some 1] (.t 2) (.t 51))]) (.ret)))))))⟩
theorem c21:cFun Tryz.prog Tryz.f21=some p21:=by kernel_rfl
def p6_0:PCode:=.seq (.seq (.reg [] [zm 13 6,z 14 (.bin .gtr (.t 13) (.c (.i .i64 0)))]) (.ite (.t 14) (.skip) (.exit 0))) (.seq (.block 1 (.seq (.reg [] [zm 17 0,z 18 (.call 21 [.t 17]),z 7
 (.alloc 35 [.i .i64 0,.i .i64 0,.i .i64 0,.i .i64 0,.nil,.nil,.s [],.s [],.s [],.s [],.i .i64 0,.i .i64 0,.nil]),zs (.store 13 [none,none,none,none,some 3,some 3,
 none,none,none,none,none,none,some 1] (.t 7) (.t 18))]) (.seq (.seq (.reg [23,24,25] [zm 19 5,z 20 (.len false (.t 19)),z 21 (.bin .gtr (.t 20) (.c (.i .i64 0))),zm 22
 21,⟨some 23,[(22,true)],.mov (.t 0)⟩,⟨some 24,[(22,true)],.call 20 [.t 23,.c (.i .i64 2)]⟩,⟨some 25,[(22,true)],.bin .eql (.t 24) (.c (.i .i64 0))⟩,z 26 (.pick (.t 22)
 (.t 25) (.c (.b false)))]) (.ite (.t 26) (.seq (.reg [] [zm 27 5,zm 28 0,zm 29 5,z 30 (.len false (.t 29)),z 31 (.call 20 [.t 28,.t 30]),z 32 (.idx 13 (.t 27) (.t 31)),zf 33
 4 32,zL 34 8 33,z 8 (.alloc 33 [.nil,.nil,.s [],.s [],.s [],.s [],.i .i64 0,.i .i64 0]),zs (.store 8 [some 3,some 3,none,none,none,none,none,none] (.t 8) (.t 34))])
 (.seq (.dreg [([zf 35 0 8,zl 36 35,zf 37 2 8,zl 38 37,zf 39 3 8,zl 40 39,zf 41 4 7,zf 42 0 41],zs (.store 1 [some 3] (.t 42) (.t 36)),[zf 37 2 8,zl 38 37,zf 39 3 8,zl 40
 39]),([zf 43 4 7,zf 44 2 43],zs (.store 1 [none] (.t 44) (.t 38)),[zf 39 3 8,zl 40 39])] [] [] [zf 45 4 7,zf 46 3 45,zs (.store 1 [none] (.t 46) (.t 40))]) (.seq (.reg [] [zf
 47 3 7,zl 48 47,z 49 (.bin .eql (.t 48) (.c (.i .i64 1)))]) (.ite (.t 49) (.reg [] [zm 50 0,zf 51 0 8,zl 52 51,z 53 (.call 22 [.t 50,.t 52]),zf 54 4 7,zf 55 1 54,zs (.store
 1 [some 3] (.t 55) (.t 53))]) (.skip))))) (.skip))) (.seq (.reg [] [zL 56 13 7,z 57 (.call 23 [.t 56]),z 58 (.bin .eql (.t 57) (.c (.i .i64 0)))]) (.ite (.t 58) (.reg [] [zm 59 5,
 zL 60 13 7,z 61 (.bslice 13 [none,none,none,none,some 3,some 3,none,none,none,none,none,none,some 1] [.t 60]),z 62 (.app 35 13 184 (.t 59) (.t 61)),zm 5 62])
 (.skip)))))) (.reg [] [zm 15 6,z 16 (.bin .sub (.t 15) (.c (.i .i64 1))),zm 6 16]))
def p6:PFun:=⟨64,[.t 4],.seq (.reg [] [z 4 (.mov (.c .nil))]) (.seq (.reg [] [z 5 (.mov (.c .nil))]) (.seq (.seq (.reg [] [zm 9 0,zm 10 1,z 11 (.bin .add (.t 10) (.c (.i .i64 1))),z 12
 (.call 20 [.t 9,.t 11]),zm 6 12]) (.block 0 (.loop p6_0))) (.seq (.reg [] [zm 63 5,zm 4 63]) (.ret))))⟩
theorem c6:cFun Tryz.prog Tryz.f6=some p6:=by kernel_rfl
def p7:PFun:=⟨6,[.t 2],.seq (.reg [] [z 2 (.mov (.c .nilptr))]) (.seq (.reg [] [zm 3 0,z 4 (.build [.nil,.i .i64 0] [(0,1,.t 3)]),z 5 (.box 61 (.t 4)),zm 2 5]) (.ret))⟩
theorem c7:cFun Tryz.prog Tryz.f7=some p7:=by kernel_rfl
def p4_0:PCode:=.seq (.reg [] [z 9 (.bin .lss (.t 8) (.t 7))]) (.seq (.ite (.t 9) (.skip) (.exit 0)) (.seq (.block 1 (.seq (.reg [] [z 10 (.idx 1 (.t 6) (.t 8)),zl 11 10,zm 5 11]) (.reg [] [zm 12
 3,zm 13 5,z 14 (.len false (.t 13)),z 15 (.bin .add (.t 12) (.t 14)),zm 3 15]))) (.reg [] [z 16 (.bin .add (.t 8) (.c (.i .i64 1))),zm 8 16])))
def p4:PFun:=⟨19,[.t 2],.seq (.reg [] [z 2 (.mov (.c (.b false)))]) (.seq (.reg [] [z 3 (.mov (.c (.i .i64 0)))]) (.seq (.seq (.reg [] [zm 6 0,z 7 (.len false (.t 6)),z 8 (.mov (.c (.i .i64
 0)))]) (.block 0 (.loop p4_0))) (.seq (.reg [] [zm 17 3,z 18 (.bin .gtr (.t 17) (.c (.i .i64 160))),zm 2 18]) (.ret))))⟩
theorem c4:cFun Tryz.prog Tryz.f4=some p4:=by kernel_rfl
theorem tI:Ti Tryz.prog 3 1 8:=tiB_ok (by kernel_rfl)
end Go.Proofs.Tryz
