/- A part of the proof that for every input the law NetworkLimits returns true and leaves its argument as it was. -/
import Derived.Test.YtgihcpilgfbggaaGreatDoorProg
import Derived.KernelRfl
import Derived.Test.YtgihcpilgfbggaaGreatDoorL14
set_option linter.all false

namespace Go.Proofs.Tryz
open Go Go.Pm
def Vq:bM:=⟨23,[.t 4],.seq (.aj [] [z 2 (.box 65 (.t 0)),z 3 (.box 65 (.t 1)),z 4 (.aK (.c (.b false)))]) (.seq (.aj [] [zf 6 0 2,zL 7 3 6,zf 8 0 3,zL 9 3 8,z 10 (.call 196 [.t 7,
 .t 9]),zm 5 10]) (.seq (.aj [14,15,16,17,18,19,20,21] [zm 11 5,z 12 (.bin .gtr (.t 11) (.c (.i .i64 0))),zm 13 12,⟨some 14,[(13,false)],.aK (.t 5)⟩,⟨some 15,[(13,
 false)],.bin .eql (.t 14) (.c (.i .i64 0))⟩,⟨some 16,[(13,false)],.aK (.t 15)⟩,⟨some 17,[(13,false),(16,true)],.load (some 13) (.t 2)⟩,⟨some 18,[(13,false),(16,
 true)],.load (some 13) (.t 3)⟩,⟨some 19,[(13,false),(16,true)],.call 65 [.t 17,.t 18]⟩,⟨some 20,[(13,false),(16,true)],.bin .gtr (.t 19) (.c (.i .i64 0))⟩,⟨some 21,
 [(13,false)],.pick (.t 16) (.t 20) (.c (.b false))⟩,z 22 (.pick (.t 13) (.c (.b true)) (.t 21)),zm 4 22]) (.ret)))⟩
theorem aag:bL prog f173=some Vq:=by kernel_rfl
def RC:bM:=⟨13,[.t 4],.seq (.aj [] [z 4 (.aK (.c .nil))]) (.seq (.aj [] [zm 5 0,zm 6 1,z 7 (.bin .shr (.t 6) (.c (.i .u64 8))),z 8 (.rn .u8 (.t 7)),zm 9 1,z 10 (.rn .u8 (.t 9)),z
 11 (.bQ 1 [none] [.t 8,.t 10]),z 12 (.app 5 1 1 (.t 5) (.t 11)),zm 4 12]) (.ret))⟩
theorem XF:bL prog f130=some RC:=by kernel_rfl
def RE:bM:=⟨11,[.t 4],.seq (.aj [] [z 4 (.aK (.c .nil))]) (.seq (.aj [] [zm 5 0,zm 6 1,z 7 (.bin .shr (.t 6) (.c (.i .u64 16))),z 8 (.call 130 [.t 5,.t 7]),zm 9 1,z 10 (.call 130
 [.t 8,.t 9]),zm 4 10]) (.ret))⟩
theorem XG:bL prog f129=some RE:=by kernel_rfl
def BV:bj:=.seq (.aj [] [z 10 (.bin .lss (.t 9) (.t 8))]) (.seq (.ite (.t 10) (.skip) (.exit 0)) (.seq (.block 1 (.seq (.aj [] [z 11 (.idx 1 (.t 7) (.t 9)),zl 12 11,zm 6 12]) (.aj [] [zm
 13 0,zm 14 6,z 15 (.len true (.t 14)),z 16 (.call 129 [.t 13,.t 15]),zm 17 6,z 18 (.apps 5 (.t 16) (.t 17)),zm 0 18]))) (.aj [] [z 19 (.bin .add (.t 9) (.c (.i .i64 1))),zm
 9 19])))
def VL:bM:=⟨21,[.t 4],.seq (.aj [] [z 4 (.aK (.c .nil))]) (.seq (.seq (.aj [] [zm 7 1,z 8 (.len false (.t 7)),z 9 (.aK (.c (.i .i64 0)))]) (.block 0 (.loop BV))) (.seq (.aj [] [zm
 20 0,zm 4 20]) (.ret)))⟩
theorem aaB:bL prog f131=some VL:=by kernel_rfl
def Hj:bj:=.seq (.aj [] [z 49 (.bin .lss (.t 48) (.t 47))]) (.seq (.ite (.t 49) (.skip) (.exit 0)) (.seq (.block 1 (.seq (.aj [] [z 50 (.idx 1 (.t 46) (.t 48)),zl 51 50,zm 7 51]) (.aj []
 [zm 52 5,zm 53 7,z 54 (.call 130 [.t 52,.t 53]),zm 5 54]))) (.aj [] [z 55 (.bin .add (.t 48) (.c (.i .i64 1))),zm 48 55])))
def p94:bM:=⟨99,[.t 2,.t 3],.seq (.aj [] [z 1 (.box 65 (.t 0)),z 2 (.aK (.c .nil)),z 3 (.aK (.c (.i .i64 0)))]) (.seq (.seq (.aj [] [zL 13 13 1,z 14 (.call 79 [.t 13]),zm 4 14])
 (.seq (.aj [] [zm 15 4,z 16 (.bin .neq (.t 15) (.c (.i .i64 0)))]) (.ite (.t 16) (.seq (.aj [] [zm 17 4,z 2 (.aK (.c .nil)),zm 3 17]) (.ret)) (.skip)))) (.seq (.aj [] [zf 18
 3 1,zl 19 18,z 20 (.rn .u8 (.t 19)),z 21 (.bQ 1 [none] [.c (.i .u8 1),.t 20]),zf 22 0 1,zf 23 0 22,zl 24 23,z 25 (.call 129 [.t 21,.t 24]),zm 5 25]) (.seq (.aj []
 [zm 26 5,zf 27 0 1,zf 28 1 27,zl 29 28,z 30 (.rn .u8 (.t 29)),z 31 (.bQ 1 [none] [.t 30]),z 32 (.app 5 1 1 (.t 26) (.t 31)),zm 5 32]) (.seq (.aj [] [zm 33 5,zf 34 0 1,
 zf 35 2 34,zl 36 35,z 37 (.call 130 [.t 33,.t 36]),zm 5 37]) (.seq (.aj [] [zm 38 5,zf 39 12 1,zl 40 39,z 41 (.len false (.t 40)),z 42 (.rn .u8 (.t 41)),z 43 (.bQ 1
 [none] [.t 42]),z 44 (.app 5 1 1 (.t 38) (.t 43)),zm 5 44]) (.seq (.seq (.aj [] [zf 45 12 1,zl 46 45,z 47 (.len false (.t 46)),z 48 (.aK (.c (.i .i64 0)))]) (.block 0 (.loop
 Hj))) (.seq (.aj [] [zf 56 4 1,zL 57 8 56,z 8 (.alloc 34 [.nil,.nil,.s [],.s [],.s [],.s [],.i .i64 0,.i .i64 0]),zs (.store 8 [some 3,some 3,none,none,none,none,
 none,none] (.t 8) (.t 57))]) (.seq (.aj [] [zf 59 0 8,zl 60 59,z 61 (.call 125 [.t 60]),zm 58 61,z 62 (.ext 0 (.t 58)),z 63 (.ext 1 (.t 58)),zm 9 62,zm 10 63]) (.seq (.aj
 [] [zm 64 5,zm 65 9,zf 66 2 8,zl 67 66,zf 68 3 8,zl 69 68,z 70 (.bQ 1 [none] [.t 65,.t 67,.t 69]),z 71 (.call 131 [.t 64,.t 70]),zm 5 71]) (.seq (.seq (.aj [] [zf 72
 3 1,zl 73 72,z 74 (.bin .eql (.t 73) (.c (.i .i64 1)))]) (.ite (.t 74) (.seq (.aj [] [zf 76 1 8,zl 77 76,z 78 (.call 125 [.t 77]),zm 75 78,z 79 (.ext 0 (.t 75)),z 80 (.ext 1
 (.t 75)),zm 11 79,zm 12 80]) (.seq (.aj [] [zm 81 5,zm 82 11,zf 83 4 8,zl 84 83,zf 85 5 8,zl 86 85,z 87 (.bQ 1 [none] [.t 82,.t 84,.t 86]),z 88 (.call 131 [.t 81,.t
 87]),zm 5 88]) (.df [([zm 89 5,zf 90 6 8,zl 91 90,zf 93 7 8,zl 94 93,z 95 (.rn .u8 (.t 94)),z 96 (.bQ 1 [none] [.t 95])],z 92 (.call 129 [.t 89,.t 91]),[zf 93 7 8,
 zl 94 93,z 96 (.bQ 1 [none] [.t 95])])] [] [] [z 97 (.app 5 1 1 (.t 92) (.t 96)),zm 5 97]))) (.skip))) (.seq (.aj [] [zm 98 5,zm 2 98,z 3 (.aK (.c (.i .i64 0)))])
 (.ret))))))))))))⟩
theorem c94:bL prog f94=some p94:=by kernel_rfl
def xj:bj:=.seq (.aj [] [z 17 (.bin .lss (.t 16) (.t 15))]) (.seq (.ite (.t 17) (.skip) (.exit 0)) (.seq (.block 1 (.seq (.aj [] [z 18 (.idx 13 (.t 14) (.t 16)),zL 19 13 18,z 5 (.alloc 65
 [.i .i64 0,.i .i64 0,.i .i64 0,.i .i64 0,.nil,.nil,.s [],.s [],.s [],.s [],.i .i64 0,.i .i64 0,.nil]),zs (.store 13 [none,none,none,none,some 3,some 3,none,none,
 none,none,none,none,some 1] (.t 5) (.t 19))]) (.seq (.aj [] [zL 20 13 5,z 21 (.call 172 [.t 20]),zm 6 21]) (.seq (.seq (.aj [] [zm 22 6,z 23 (.bin .eql (.t 22) (.c (.s
 [])))]) (.ite (.t 23) (.exit 1) (.skip))) (.seq (.aj [] [zm 25 3,zm 26 6,z 27 (.look 1 (.agg [.i .i64 0,.i .i64 0,.i .i64 0,.i .i64 0,.sl 3 [],.sl 3 [],.s [],.s [],.s [],
 .s [],.i .i64 0,.i .i64 0,.sl 1 []]) true (.t 25) (.t 26)),zm 24 27,z 28 (.ext 0 (.t 24)),z 29 (.ext 1 (.t 24)),z 7 (.alloc 65 [.i .i64 0,.i .i64 0,.i .i64 0,.i .i64 0,
 .nil,.nil,.s [],.s [],.s [],.s [],.i .i64 0,.i .i64 0,.nil]),zs (.store 13 [none,none,none,none,some 3,some 3,none,none,none,none,none,none,some 1] (.t 7) (.t
 28)),zm 8 29]) (.seq (.aj [33,34,35] [zm 30 8,z 31 (.un .not (.t 30)),zm 32 31,⟨some 33,[(32,false)],.load (some 13) (.t 5)⟩,⟨some 34,[(32,false)],.load (some 13) (.t
 7)⟩,⟨some 35,[(32,false)],.call 173 [.t 33,.t 34]⟩,z 36 (.pick (.t 32) (.c (.b true)) (.t 35))]) (.ite (.t 36) (.aj [] [zm 37 3,zm 38 6,zL 39 13 5,zs (.vT 1 [none,none,
 none,none,some 3,some 3,none,none,none,none,none,none,some 1] (.t 37) (.t 38) (.t 39))]) (.skip)))))))) (.aj [] [z 40 (.bin .add (.t 16) (.c (.i .i64 1))),zm 16 40])))
def VK:bM:=⟨42,[.t 2],.seq (.aj [] [z 2 (.aK (.c .fE))]) (.seq (.aj [] [z 9 (.pk 9 65),zm 3 9]) (.seq (.seq (.aj [] [zm 10 0,z 11 (.len false (.t 10)),z 12 (.bin .gtr (.t 11)
 (.c (.i .i64 1024)))]) (.ite (.t 12) (.seq (.aj [] [zm 13 3,zm 2 13]) (.ret)) (.skip))) (.seq (.seq (.aj [] [zm 14 0,z 15 (.len false (.t 14)),z 16 (.aK (.c (.i .i64 0)))])
 (.block 0 (.loop xj))) (.seq (.aj [] [zm 41 3,zm 2 41]) (.ret)))))⟩
theorem aaA:bL prog f143=some VK:=by kernel_rfl
def Hi:bj:=.seq (.aj [] [z 14 (.bin .lss (.t 13) (.t 12))]) (.seq (.ite (.t 14) (.skip) (.exit 0)) (.seq (.block 1 (.seq (.aj [] [z 15 (.idx 1 (.t 11) (.t 13)),zl 16 15,zm 6 16]) (.aj []
 [zm 17 4,zm 18 3,zm 19 6,z 20 (.look 1 (.agg [.i .i64 0,.i .i64 0,.i .i64 0,.i .i64 0,.sl 3 [],.sl 3 [],.s [],.s [],.s [],.s [],.i .i64 0,.i .i64 0,.sl 1 []]) false
 (.t 18) (.t 19)),z 21 (.call 48 [.t 20]),z 22 (.bQ 13 [none,none,none,none,some 3,some 3,none,none,none,none,none,none,some 1] [.t 21]),z 23 (.app 65 13 184 (.t
 17) (.t 22)),zm 4 23]))) (.aj [] [z 24 (.bin .add (.t 13) (.c (.i .i64 1))),zm 13 24])))
def p99:bM:=⟨26,[.t 2],.seq (.aj [] [z 2 (.aK (.c .nil))]) (.seq (.aj [] [zm 7 0,z 8 (.call 143 [.t 7]),zm 3 8]) (.seq (.aj [] [z 4 (.aK (.c .nil))]) (.seq (.seq (.aj [] [zm 9 3,z 10
 (.call 145 [.t 9]),z 11 (.call 144 [.t 10]),z 12 (.len false (.t 11)),z 13 (.aK (.c (.i .i64 0)))]) (.block 0 (.loop Hi))) (.seq (.aj [] [zm 25 4,zm 2 25]) (.ret)))))⟩
theorem c99:bL prog f99=some p99:=by kernel_rfl
def DY:bj:=.seq (.aj [] [z 10 (.bin .lss (.t 9) (.t 8))]) (.seq (.ite (.t 10) (.skip) (.exit 0)) (.seq (.block 1 (.seq (.aj [] [z 11 (.idx 13 (.t 7) (.t 9)),zL 12 13 11,z 5 (.alloc 65 [.i
 .i64 0,.i .i64 0,.i .i64 0,.i .i64 0,.nil,.nil,.s [],.s [],.s [],.s [],.i .i64 0,.i .i64 0,.nil]),zs (.store 13 [none,none,none,none,some 3,some 3,none,none,
 none,none,none,none,some 1] (.t 5) (.t 12))]) (.seq (.aj [] [zf 13 3 5,zl 14 13,z 15 (.bin .eql (.t 14) (.c (.i .i64 1)))]) (.ite (.t 15) (.aj [] [zm 16 3,zf 17 4 5,zL 18
 8 17,z 19 (.bQ 8 [some 3,some 3,none,none,none,none,none,none] [.t 18]),z 20 (.app 34 8 128 (.t 16) (.t 19)),zm 3 20]) (.skip))))) (.aj [] [z 21 (.bin .add (.t 9) (.c
 (.i .i64 1))),zm 9 21])))
def p70:bM:=⟨23,[.t 2],.seq (.aj [] [z 2 (.aK (.c .nil))]) (.seq (.aj [] [z 3 (.aK (.c .nil))]) (.seq (.seq (.aj [] [zm 6 0,z 7 (.call 99 [.t 6]),z 8 (.len false (.t 7)),z 9 (.aK (.c
 (.i .i64 0)))]) (.block 0 (.loop DY))) (.seq (.aj [] [zm 22 3,zm 2 22]) (.ret))))⟩
theorem c70:bL prog f70=some p70:=by kernel_rfl
def p48:bM:=⟨12,[.c 2 (some 13)],.seq (.aj [] [z 1 (.box 65 (.t 0)),z 2 (.alloc 65 [.i .i64 0,.i .i64 0,.i .i64 0,.i .i64 0,.nil,.nil,.s [],.s [],.s [],.s [],.i .i64 0,.i .i64 0,
 .nil])]) (.seq (.df [([zf 3 4 1,zL 4 8 3,zf 6 12 1,zl 7 6],z 5 (.call 73 [.t 4]),[zf 6 12 1,zl 7 6]),([zf 9 4 1],z 8 (.call 74 [.t 7]),[zf 9 4 1])] [] [] [zs (.store 8
 [some 3,some 3,none,none,none,none,none,none] (.t 9) (.t 5)),zf 10 12 1,zs (.store 1 [some 1] (.t 10) (.t 8))]) (.seq (.aj [] [zL 11 13 1,zs (.store 13 [none,none,none,
 none,some 3,some 3,none,none,none,none,none,none,some 1] (.t 2) (.t 11))]) (.ret)))⟩
theorem c48:bL prog f48=some p48:=by kernel_rfl
def p73:bM:=⟨12,[.c 2 (some 8)],.seq (.aj [] [z 1 (.box 34 (.t 0)),z 2 (.alloc 34 [.nil,.nil,.s [],.s [],.s [],.s [],.i .i64 0,.i .i64 0])]) (.seq (.df [([zf 3 0 1,zl 4 3,zf 6 1
 1,zl 7 6],z 5 (.call 102 [.t 4]),[zf 6 1 1,zl 7 6]),([zf 9 0 1],z 8 (.call 102 [.t 7]),[zf 9 0 1])] [] [] [zs (.store 1 [some 3] (.t 9) (.t 5)),zf 10 1 1,zs (.store 1 [some
 3] (.t 10) (.t 8))]) (.seq (.aj [] [zL 11 8 1,zs (.store 8 [some 3,some 3,none,none,none,none,none,none] (.t 2) (.t 11))]) (.ret)))⟩
theorem c73:bL prog f73=some p73:=by kernel_rfl
def HE:bj:=.seq (.aj [] [z 14 (.bin .lss (.t 13) (.t 12))]) (.seq (.ite (.t 14) (.skip) (.exit 0)) (.seq (.block 1 (.seq (.aj [] [zm 15 13,zm 5 15]) (.seq (.df [] [zm 16 0,zm 17 5,z 18
 (.idx 8 (.t 16) (.t 17)),zL 19 8 18,zm 20 1,zm 21 5,z 22 (.idx 8 (.t 20) (.t 21)),zL 23 8 22] [] [z 24 (.call 44 [.t 19,.t 23]),z 25 (.un .not (.t 24))]) (.ite (.t 25) (.seq
 (.aj [] [z 4 (.aK (.c (.b false)))]) (.ret)) (.skip))))) (.aj [] [z 26 (.bin .add (.t 13) (.c (.i .i64 1))),zm 13 26])))
def p18:bM:=⟨27,[.t 4],.seq (.aj [] [z 4 (.aK (.c (.b false)))]) (.seq (.seq (.aj [] [zm 6 0,z 7 (.len false (.t 6)),zm 8 1,z 9 (.len false (.t 8)),z 10 (.bin .neq (.t 7) (.t 9))])
 (.ite (.t 10) (.seq (.aj [] [z 4 (.aK (.c (.b false)))]) (.ret)) (.skip))) (.seq (.seq (.aj [] [zm 11 0,z 12 (.len false (.t 11)),z 13 (.aK (.c (.i .i64 0)))]) (.block 0
 (.loop HE))) (.seq (.aj [] [z 4 (.aK (.c (.b true)))]) (.ret))))⟩
theorem c18:bL prog f18=some p18:=by kernel_rfl
def p44:bM:=⟨59,[.t 4],.seq (.aj [] [z 2 (.box 34 (.t 0)),z 3 (.box 34 (.t 1)),z 4 (.aK (.c (.b false)))]) (.seq (.aj [11,12,13,14,15,18,19,20,21,22,25,26,27,28,29,32,33,
 34,35,36,39,40,41,42,43,46,47,48,49,50,53,54,55,56,57] [zf 5 0 2,zl 6 5,zf 7 0 3,zl 8 7,z 9 (.call 71 [.t 6,.t 8]),zm 10 9,⟨some 11,[(10,true)],.eG 1 (.t
 2)⟩,⟨some 12,[(10,true)],.load none (.t 11)⟩,⟨some 13,[(10,true)],.eG 1 (.t 3)⟩,⟨some 14,[(10,true)],.load none (.t 13)⟩,⟨some 15,[(10,true)],.call 71 [.t 12,.t
 14]⟩,z 16 (.pick (.t 10) (.t 15) (.c (.b false))),zm 17 16,⟨some 18,[(17,true)],.eG 2 (.t 2)⟩,⟨some 19,[(17,true)],.load none (.t 18)⟩,⟨some 20,[(17,true)],.eG 2 (.t
 3)⟩,⟨some 21,[(17,true)],.load none (.t 20)⟩,⟨some 22,[(17,true)],.bin .eql (.t 19) (.t 21)⟩,z 23 (.pick (.t 17) (.t 22) (.c (.b false))),zm 24 23,⟨some 25,[(24,true)],
 .eG 3 (.t 2)⟩,⟨some 26,[(24,true)],.load none (.t 25)⟩,⟨some 27,[(24,true)],.eG 3 (.t 3)⟩,⟨some 28,[(24,true)],.load none (.t 27)⟩,⟨some 29,[(24,true)],.bin .eql
 (.t 26) (.t 28)⟩,z 30 (.pick (.t 24) (.t 29) (.c (.b false))),zm 31 30,⟨some 32,[(31,true)],.eG 4 (.t 2)⟩,⟨some 33,[(31,true)],.load none (.t 32)⟩,⟨some 34,[(31,
 true)],.eG 4 (.t 3)⟩,⟨some 35,[(31,true)],.load none (.t 34)⟩,⟨some 36,[(31,true)],.bin .eql (.t 33) (.t 35)⟩,z 37 (.pick (.t 31) (.t 36) (.c (.b false))),zm 38 37,
 ⟨some 39,[(38,true)],.eG 5 (.t 2)⟩,⟨some 40,[(38,true)],.load none (.t 39)⟩,⟨some 41,[(38,true)],.eG 5 (.t 3)⟩,⟨some 42,[(38,true)],.load none (.t 41)⟩,⟨some 43,
 [(38,true)],.bin .eql (.t 40) (.t 42)⟩,z 44 (.pick (.t 38) (.t 43) (.c (.b false))),zm 45 44,⟨some 46,[(45,true)],.eG 6 (.t 2)⟩,⟨some 47,[(45,true)],.load none (.t
 46)⟩,⟨some 48,[(45,true)],.eG 6 (.t 3)⟩,⟨some 49,[(45,true)],.load none (.t 48)⟩,⟨some 50,[(45,true)],.bin .eql (.t 47) (.t 49)⟩,z 51 (.pick (.t 45) (.t 50) (.c (.b
 false))),zm 52 51,⟨some 53,[(52,true)],.eG 7 (.t 2)⟩,⟨some 54,[(52,true)],.load none (.t 53)⟩,⟨some 55,[(52,true)],.eG 7 (.t 3)⟩,⟨some 56,[(52,true)],.load none
 (.t 55)⟩,⟨some 57,[(52,true)],.bin .eql (.t 54) (.t 56)⟩,z 58 (.pick (.t 52) (.t 57) (.c (.b false))),zm 4 58]) (.ret))⟩
theorem c44:bL prog f44=some p44:=by kernel_rfl
def p6:bM:=⟨14,[.t 4],.seq (.aj [] [z 4 (.aK (.c (.i .i64 0)))]) (.seq (.aj [] [zm 5 0,zm 6 1,z 7 (.bin .rem (.t 5) (.t 6)),zm 0 7]) (.seq (.seq (.aj [] [zm 8 0,z 9 (.bin .lss (.t 8)
 (.c (.i .i64 0)))]) (.ite (.t 9) (.aj [] [zm 10 0,zm 11 1,z 12 (.bin .add (.t 10) (.t 11)),zm 0 12]) (.skip))) (.seq (.aj [] [zm 13 0,zm 4 13]) (.ret))))⟩
theorem c6:bL prog f6=some p6:=by kernel_rfl
def p65:bM:=⟨54,[.t 4],.seq (.aj [] [z 2 (.box 65 (.t 0)),z 3 (.box 65 (.t 1)),z 4 (.aK (.c (.i .i64 0)))]) (.seq (.both (.df [([zf 12 0 2,zL 13 3 12,zf 14 0 3,zL 15 3 14],z 5
 (.alloc 62 [.i .i64 0,.i .i64 0,.i .i64 0]),[zf 12 0 2,zL 13 3 12,zf 14 0 3,zL 15 3 14]),([],z 6 (.alloc 62 [.i .i64 0,.i .i64 0,.i .i64 0]),[zf 12 0 2,zL 13 3 12,zf 14
 0 3,zL 15 3 14]),([],zs (.store 3 [none,none,none] (.t 5) (.t 13)),[zf 14 0 3,zL 15 3 14])] [] [] [zs (.store 3 [none,none,none] (.t 6) (.t 15))]) (.df [([zf 12 0 2,zL
 13 3 12,zf 14 0 3,zL 15 3 14],z 6 (.alloc 62 [.i .i64 0,.i .i64 0,.i .i64 0]),[zf 12 0 2,zL 13 3 12,zf 14 0 3,zL 15 3 14]),([],z 5 (.alloc 62 [.i .i64 0,.i .i64 0,.i
 .i64 0]),[zf 12 0 2,zL 13 3 12,zf 14 0 3,zL 15 3 14]),([],zs (.store 3 [none,none,none] (.t 5) (.t 13)),[zf 14 0 3,zL 15 3 14])] [] [] [zs (.store 3 [none,none,none] (.t
 6) (.t 15))])) (.seq (.seq (.df [([zf 16 1 5,zl 17 16,zf 18 1 6,zl 19 18,zf 21 2 5,zl 22 21,zf 23 2 6,zl 24 23,zf 26 0 5,zl 27 26,zf 28 0 6,zl 29 28,zf 31 3 2,zl 32
 31,zf 33 3 3,zl 34 33],z 20 (.call 31 [.t 17,.t 19]),[zf 21 2 5,zl 22 21,zf 23 2 6,zl 24 23,zf 26 0 5,zl 27 26,zf 28 0 6,zl 29 28,zf 31 3 2,zl 32 31,zf 33 3 3,zl 34
 33]),([],z 25 (.call 31 [.t 22,.t 24]),[zf 26 0 5,zl 27 26,zf 28 0 6,zl 29 28,zf 31 3 2,zl 32 31,zf 33 3 3,zl 34 33]),([],z 30 (.call 31 [.t 27,.t 29]),[zf 31 3 2,zl
 32 31,zf 33 3 3,zl 34 33])] [] [] [z 35 (.call 31 [.t 32,.t 34]),z 36 (.bQ 1 [none] [.t 20,.t 25,.t 30,.t 35]),z 37 (.call 30 [.t 36]),zm 7 37]) (.seq (.aj [] [zm 38
 7,z 39 (.bin .neq (.t 38) (.c (.i .i64 0)))]) (.ite (.t 39) (.seq (.aj [] [zm 40 7,zm 4 40]) (.ret)) (.skip)))) (.seq (.aj [] [zL 42 13 2,z 43 (.call 94 [.t 42]),zm 41 43,z
 44 (.ext 0 (.t 41)),z 45 (.ext 1 (.t 41)),zm 8 44,zm 9 45]) (.seq (.aj [] [zL 47 13 3,z 48 (.call 94 [.t 47]),zm 46 48,z 49 (.ext 0 (.t 46)),z 50 (.ext 1 (.t 46)),zm 10 49,
 zm 11 50]) (.seq (.aj [] [zm 51 8,zm 52 10,z 53 (.call 98 [.t 51,.t 52]),zm 4 53]) (.ret))))))⟩
theorem c65:bL prog f65=some p65:=by kernel_rfl
def xn:bj:=.seq (.aj [] [z 11 (.bin .lss (.t 10) (.t 9))]) (.seq (.ite (.t 11) (.skip) (.exit 0)) (.seq (.block 1 (.seq (.aj [] [z 12 (.idx 3 (.t 8) (.t 10)),zL 13 3 12,z 6 (.alloc 31 [.i
 .i64 0,.s [],.i .i64 0]),zs (.store 3 [none,none,none] (.t 6) (.t 13))]) (.seq (.aj [17,18,19,20,21] [zL 14 3 6,z 15 (.call 114 [.t 14]),zm 16 15,⟨some 17,[(16,
 true)],.aK (.t 4)⟩,⟨some 18,[(16,true)],.eG 2 (.t 6)⟩,⟨some 19,[(16,true)],.load none (.t 18)⟩,⟨some 20,[(16,true)],.look 0 (.b false) false (.t 17) (.t 19)⟩,⟨some
 21,[(16,true)],.un .not (.t 20)⟩,z 22 (.pick (.t 16) (.t 21) (.c (.b false)))]) (.ite (.t 22) (.seq (.aj [] [zm 23 4,zf 24 2 6,zl 25 24,zs (.vT 0 [none] (.t 23) (.t 25)
 (.c (.b true)))]) (.aj [] [zm 26 3,zf 27 2 6,zl 28 27,z 29 (.bQ 1 [none] [.t 28]),z 30 (.app 3 1 8 (.t 26) (.t 29)),zm 3 30])) (.skip))))) (.aj [] [z 31 (.bin .add (.t
 10) (.c (.i .i64 1))),zm 10 31])))
def VX:bM:=⟨33,[.t 2],.seq (.aj [] [z 2 (.aK (.c .nil))]) (.seq (.aj [] [z 3 (.aK (.c .nil))]) (.seq (.aj [] [z 7 (.pk 3 4),zm 4 7]) (.seq (.seq (.aj [] [zm 8 0,z 9 (.len false
 (.t 8)),z 10 (.aK (.c (.i .i64 0)))]) (.block 0 (.loop xn))) (.seq (.aj [] [zm 32 3,zm 2 32]) (.ret)))))⟩
theorem E0:bL prog f116=some VX:=by kernel_rfl
def BY:bj:=.seq (.aj [] [z 10 (.bin .lss (.t 9) (.t 8))]) (.seq (.ite (.t 10) (.skip) (.exit 0)) (.seq (.block 1 (.seq (.aj [] [zm 11 9,zm 4 11]) (.aj [] [zm 12 3,zm 13 4,zm 14 4,z 15
 (.bin .add (.t 14) (.c (.i .i64 1))),z 16 (.idx 1 (.t 12) (.t 13)),zs (.store 1 [none] (.t 16) (.t 15))]))) (.aj [] [z 17 (.bin .add (.t 9) (.c (.i .i64 1))),zm 9 17])))
def VT:bM:=⟨19,[.t 2],.seq (.aj [] [z 2 (.aK (.c .nil))]) (.seq (.aj [] [zm 5 0,z 6 (.mk 3 1 8 [.i .i64 0] (.t 5) (.t 5)),zm 3 6]) (.seq (.seq (.aj [] [zm 7 3,z 8 (.len false (.t 7)),
 z 9 (.aK (.c (.i .i64 0)))]) (.block 0 (.loop BY))) (.seq (.aj [] [zm 18 3,zm 2 18]) (.ret))))⟩
theorem aaG:bL prog f119=some VT:=by kernel_rfl
def BO:bj:=.seq (.seq (.aj [30,31,32,33,34,35] [zm 25 4,zm 26 0,z 27 (.len false (.t 26)),z 28 (.bin .lss (.t 25) (.t 27)),zm 29 28,⟨some 30,[(29,true)],.aK (.t 0)⟩,⟨some 31,
 [(29,true)],.aK (.t 4)⟩,⟨some 32,[(29,true)],.idx 3 (.t 30) (.t 31)⟩,⟨some 33,[(29,true)],.eG 0 (.t 32)⟩,⟨some 34,[(29,true)],.load none (.t 33)⟩,⟨some 35,[(29,
 true)],.bin .eql (.t 34) (.c (.i .i64 1))⟩,z 36 (.pick (.t 29) (.t 35) (.c (.b false)))]) (.ite (.t 36) (.skip) (.exit 2))) (.block 3 (.seq (.aj [] [zm 37 5,zm 38 0,zm 39 4,z
 40 (.idx 3 (.t 38) (.t 39)),zf 41 1 40,zl 42 41,z 43 (.apps 5 (.t 37) (.t 42)),zm 5 43]) (.aj [] [zm 44 4,z 45 (.bin .add (.t 44) (.c (.i .i64 1))),zm 4 45])))
def BN:bj:=.seq (.seq (.aj [] [zm 6 4,zm 7 0,z 8 (.len false (.t 7)),z 9 (.bin .lss (.t 6) (.t 8))]) (.ite (.t 9) (.skip) (.exit 0))) (.block 1 (.seq (.seq (.aj [] [zm 10 0,zm 11 4,z 12
 (.idx 3 (.t 10) (.t 11)),zf 13 0 12,zl 14 13,z 15 (.bin .neq (.t 14) (.c (.i .i64 1)))]) (.ite (.t 15) (.seq (.aj [] [zm 16 3,zm 17 0,zm 18 4,z 19 (.idx 3 (.t 17) (.t 18)),
 zL 20 3 19,z 21 (.bQ 3 [none,none,none] [.t 20]),z 22 (.app 31 3 32 (.t 16) (.t 21)),zm 3 22]) (.seq (.aj [] [zm 23 4,z 24 (.bin .add (.t 23) (.c (.i .i64 1))),zm 4 24])
 (.exit 1))) (.skip))) (.seq (.aj [] [z 5 (.aK (.c .nil))]) (.seq (.block 2 (.loop BO)) (.seq (.aj [] [zm 46 5,z 47 (.len false (.t 46)),z 48 (.bin .gtr (.t 47) (.c (.i .i64
 0)))]) (.ite (.t 48) (.aj [] [zm 49 3,zm 50 5,z 51 (.yx (.t 50)),z 52 (.build [.i .i64 0,.s [],.i .i64 0] [(0,1,.c (.i .i64 1)),(1,1,.t 51)]),z 53 (.bQ 3 [none,
 none,none] [.t 52]),z 54 (.app 31 3 32 (.t 49) (.t 53)),zm 3 54]) (.skip)))))))
def Vy:bM:=⟨56,[.t 2],.seq (.aj [] [z 2 (.aK (.c .nil))]) (.seq (.aj [] [z 3 (.aK (.c .nil))]) (.seq (.seq (.aj [] [z 4 (.aK (.c (.i .i64 0)))]) (.block 0 (.loop BN))) (.seq (.aj
 [] [zm 55 3,zm 2 55]) (.ret))))⟩
theorem aao:bL prog f159=some Vy:=by kernel_rfl
def BZ:bj:=.seq (.seq (.aj [] [zm 21 8,z 22 (.bin .geq (.t 21) (.c (.i .i64 0)))]) (.ite (.t 22) (.skip) (.exit 0))) (.seq (.block 1 (.df [] [zm 25 7,zm 26 1,zm 27 8,z 28 (.idx 1 (.t
 26) (.t 27)),zl 29 28,zm 30 2,zm 31 8,z 32 (.idx 1 (.t 30) (.t 31)),zl 33 32] [] [zs (.vT 0 [none] (.t 25) (.t 29) (.t 33))])) (.aj [] [zm 23 8,z 24 (.bin .sub (.t 23) (.c
 (.i .i64 1))),zm 8 24]))
def xl:bj:=.seq (.aj [] [z 37 (.bin .lss (.t 36) (.t 35))]) (.seq (.ite (.t 37) (.skip) (.exit 2)) (.seq (.block 3 (.seq (.aj [] [z 38 (.idx 3 (.t 34) (.t 36)),zL 39 3 38,z 11 (.alloc 31
 [.i .i64 0,.s [],.i .i64 0]),zs (.store 3 [none,none,none] (.t 11) (.t 39))]) (.seq (.seq (.aj [] [zL 40 3 11,z 41 (.call 114 [.t 40])]) (.ite (.t 41) (.seq (.aj [] [zm 43
 7,zf 44 2 11,zl 45 44,z 46 (.look 0 (.i .i64 0) true (.t 43) (.t 45)),zm 42 46,z 47 (.ext 0 (.t 42)),z 48 (.ext 1 (.t 42)),zm 12 47,zm 13 48]) (.seq (.seq (.aj [] [zm 49
 13,z 50 (.un .not (.t 49))]) (.ite (.t 50) (.exit 3) (.skip))) (.aj [] [zm 51 12,zf 52 2 11,zs (.store 1 [none] (.t 52) (.t 51))]))) (.skip))) (.aj [] [zm 53 9,zL 54 3 11,z
 55 (.bQ 3 [none,none,none] [.t 54]),z 56 (.app 31 3 32 (.t 53) (.t 55)),zm 9 56])))) (.aj [] [z 57 (.bin .add (.t 36) (.c (.i .i64 1))),zm 36 57])))
def VU:bM:=⟨60,[.t 6],.seq (.aj [] [z 6 (.aK (.c .nil))]) (.seq (.aj [] [z 14 (.pk 3 3),zm 7 14]) (.seq (.seq (.aj [] [zm 15 1,z 16 (.len false (.t 15)),zm 17 2,z 18 (.len false
 (.t 17)),z 19 (.min2 (.t 16) (.t 18)),z 20 (.bin .sub (.t 19) (.c (.i .i64 1))),zm 8 20]) (.block 0 (.loop BZ))) (.seq (.aj [] [z 9 (.aK (.c .nil))]) (.seq (.seq (.aj []
 [zm 34 0,z 35 (.len false (.t 34)),z 36 (.aK (.c (.i .i64 0)))]) (.block 2 (.loop xl))) (.seq (.aj [] [zm 58 9,z 59 (.call 159 [.t 58]),zm 6 59]) (.ret))))))⟩
theorem aaH:bL prog f118=some VU:=by kernel_rfl
def Hm:bj:=.seq (.aj [] [z 15 (.bin .lss (.t 14) (.t 13))]) (.seq (.ite (.t 15) (.skip) (.exit 0)) (.seq (.block 1 (.seq (.aj [] [z 16 (.idx 1 (.t 12) (.t 14)),zl 17 16,zm 8 17]) (.seq
 (.aj [] [zm 18 6,zm 19 8,z 20 (.call 117 [.t 18,.t 19]),z 21 (.un .not (.t 20))]) (.ite (.t 21) (.aj [] [zm 22 6,zm 23 8,z 24 (.bQ 1 [none] [.t 23]),z 25 (.app 3 1 8
 (.t 22) (.t 24)),zm 6 25]) (.skip))))) (.aj [] [z 26 (.bin .add (.t 14) (.c (.i .i64 1))),zm 14 26])))
def p83:bM:=⟨39,[.t 4,.t 5],.seq (.aj [] [z 4 (.aK (.c .nil)),z 5 (.aK (.c .nil))]) (.seq (.aj [] [zm 9 0,z 10 (.call 116 [.t 9]),zm 6 10]) (.seq (.seq (.aj [] [zm 11 1,z 12 (.call
 116 [.t 11]),z 13 (.len false (.t 12)),z 14 (.aK (.c (.i .i64 0)))]) (.block 0 (.loop Hm))) (.seq (.aj [] [zm 27 0,zm 28 6,zm 29 6,z 30 (.len false (.t 29)),z 31 (.call
 119 [.t 30]),z 32 (.call 118 [.t 27,.t 28,.t 31]),zm 33 1,zm 34 6,zm 35 6,z 36 (.len false (.t 35)),z 37 (.call 119 [.t 36]),z 38 (.call 118 [.t 33,.t 34,.t 37]),zm 4
 32,zm 5 38]) (.ret))))⟩
theorem c83:bL prog f83=some p83:=by kernel_rfl
def p84:bM:=⟨8,[.t 4],.seq (.aj [] [z 4 (.aK (.c (.b false)))]) (.seq (.aj [] [zm 5 0,zm 6 1,z 7 (.call 120 [.t 5,.t 6]),zm 4 7]) (.ret))⟩
theorem c84:bL prog f84=some p84:=by kernel_rfl
def VW:bM:=⟨9,[.t 4],.seq (.aj [] [z 4 (.aK (.c (.b false)))]) (.seq (.aj [] [zm 5 0,zm 6 1,z 7 (.call 158 [.t 5,.t 6]),z 8 (.bin .geq (.t 7) (.c (.i .i64 0))),zm 4 8]) (.ret))⟩
theorem aaI:bL prog f117=some VW:=by kernel_rfl
def BP:bj:=.seq (.aj [] [z 9 (.bin .lss (.t 8) (.t 7))]) (.seq (.ite (.t 9) (.skip) (.exit 0)) (.seq (.block 1 (.seq (.aj [] [zm 10 8,zm 5 10]) (.seq (.aj [] [zm 11 1,zm 12 0,zm 13 5,z
 14 (.idx 1 (.t 12) (.t 13)),zl 15 14,z 16 (.bin .eql (.t 11) (.t 15))]) (.ite (.t 16) (.seq (.aj [] [zm 17 5,zm 4 17]) (.ret)) (.skip))))) (.aj [] [z 18 (.bin .add (.t 8) (.c
 (.i .i64 1))),zm 8 18])))
def Vz:bM:=⟨19,[.t 4],.seq (.aj [] [z 4 (.aK (.c (.i .i64 0)))]) (.seq (.seq (.aj [] [zm 6 0,z 7 (.len false (.t 6)),z 8 (.aK (.c (.i .i64 0)))]) (.block 0 (.loop BP))) (.seq (.aj
 [] [z 4 (.aK (.c (.i .i64 (-1))))]) (.ret)))⟩
theorem aap:bL prog f158=some Vz:=by kernel_rfl
def BX:bj:=.seq (.aj [] [z 14 (.bin .lss (.t 13) (.t 12))]) (.seq (.ite (.t 14) (.skip) (.exit 0)) (.seq (.block 1 (.seq (.aj [] [zm 15 13,zm 5 15]) (.seq (.df [] [zm 16 0,zm 17 5,z 18
 (.idx 3 (.t 16) (.t 17)),zL 19 3 18,zm 20 1,zm 21 5,z 22 (.idx 3 (.t 20) (.t 21)),zL 23 3 22] [] [z 24 (.beq true [0,1,0] (.t 19) (.t 23))]) (.ite (.t 24) (.seq (.aj [] [z 4
 (.aK (.c (.b false)))]) (.ret)) (.skip))))) (.aj [] [z 25 (.bin .add (.t 13) (.c (.i .i64 1))),zm 13 25])))
def VS:bM:=⟨26,[.t 4],.seq (.aj [] [z 4 (.aK (.c (.b false)))]) (.seq (.seq (.aj [] [zm 6 0,z 7 (.len false (.t 6)),zm 8 1,z 9 (.len false (.t 8)),z 10 (.bin .neq (.t 7) (.t 9))])
 (.ite (.t 10) (.seq (.aj [] [z 4 (.aK (.c (.b false)))]) (.ret)) (.skip))) (.seq (.seq (.aj [] [zm 11 0,z 12 (.len false (.t 11)),z 13 (.aK (.c (.i .i64 0)))]) (.block 0
 (.loop BX))) (.seq (.aj [] [z 4 (.aK (.c (.b true)))]) (.ret))))⟩
theorem GY:bL prog f120=some VS:=by kernel_rfl
def p56:bM:=⟨109,[.t 2],.seq (.aj [] [z 1 (.box 34 (.t 0)),z 2 (.aK (.c (.i .i64 0)))]) (.seq (.seq (.aj [] [zf 13 0 1,zl 14 13,z 15 (.call 82 [.t 14]),zm 3 15]) (.seq (.aj [] [zm 16
 3,z 17 (.bin .neq (.t 16) (.c (.i .i64 0)))]) (.ite (.t 17) (.seq (.aj [] [zm 18 3,zm 2 18]) (.ret)) (.skip)))) (.seq (.seq (.aj [] [zf 19 1 1,zl 20 19,z 21 (.call 82 [.t
 20]),zm 4 21]) (.seq (.aj [] [zm 22 4,z 23 (.bin .neq (.t 22) (.c (.i .i64 0)))]) (.ite (.t 23) (.seq (.aj [] [zm 24 4,zm 2 24]) (.ret)) (.skip)))) (.seq (.aj [] [zf 26 0 1,
 zl 27 26,zf 28 1 1,zl 29 28,z 30 (.call 83 [.t 27,.t 29]),zm 25 30,z 31 (.ext 0 (.t 25)),z 32 (.ext 1 (.t 25)),zm 5 31,zm 6 32]) (.seq (.seq (.aj [38,39,40,41,42,45,
 46,47,48,49] [zf 33 0 1,zl 34 33,z 35 (.len false (.t 34)),z 36 (.bin .eql (.t 35) (.c (.i .i64 0))),zm 37 36,⟨some 38,[(37,false)],.aK (.t 5)⟩,⟨some 39,[(37,false)],
 .eG 0 (.t 1)⟩,⟨some 40,[(37,false)],.load none (.t 39)⟩,⟨some 41,[(37,false)],.call 84 [.t 38,.t 40]⟩,⟨some 42,[(37,false)],.un .not (.t 41)⟩,z 43 (.pick (.t 37) (.c
 (.b true)) (.t 42)),zm 44 43,⟨some 45,[(44,false)],.aK (.t 6)⟩,⟨some 46,[(44,false)],.eG 1 (.t 1)⟩,⟨some 47,[(44,false)],.load none (.t 46)⟩,⟨some 48,[(44,false)],
 .call 84 [.t 45,.t 47]⟩,⟨some 49,[(44,false)],.un .not (.t 48)⟩,z 50 (.pick (.t 44) (.c (.b true)) (.t 49))]) (.ite (.t 50) (.seq (.aj [] [z 2 (.aK (.c (.i .i64 1)))])
 (.ret)) (.skip))) (.seq (.seq (.aj [] [zf 52 2 1,zl 53 52,z 54 (.call 85 [.t 53]),zm 51 54,z 55 (.ext 0 (.t 51)),z 56 (.ext 1 (.t 51)),z 57 (.ext 2 (.t 51)),zm 7 55,zm 8
 56,zm 9 57]) (.seq (.aj [] [zm 58 9,z 59 (.bin .neq (.t 58) (.c (.i .i64 0)))]) (.ite (.t 59) (.seq (.aj [] [zm 60 9,zm 2 60]) (.ret)) (.skip)))) (.seq (.seq (.aj [] [zf 62 3
 1,zl 63 62,z 64 (.call 85 [.t 63]),zm 61 64,z 65 (.ext 0 (.t 61)),z 66 (.ext 1 (.t 61)),z 67 (.ext 2 (.t 61)),zm 10 65,zm 11 66,zm 12 67]) (.seq (.aj [] [zm 68 12,z 69
 (.bin .neq (.t 68) (.c (.i .i64 0)))]) (.ite (.t 69) (.seq (.aj [] [zm 70 12,zm 2 70]) (.ret)) (.skip)))) (.seq (.seq (.aj [75,76,77,78,81,82,83,84,85,86,87,88,89]
 [zf 71 4 1,zl 72 71,z 73 (.bin .neq (.t 72) (.c (.s []))),zm 74 73,⟨some 75,[(74,true)],.eG 4 (.t 1)⟩,⟨some 76,[(74,true)],.load none (.t 75)⟩,⟨some 77,[(74,true)],
 .call 86 [.t 76]⟩,⟨some 78,[(74,true)],.un .not (.t 77)⟩,z 79 (.pick (.t 74) (.t 78) (.c (.b false))),zm 80 79,⟨some 81,[(80,false)],.eG 5 (.t 1)⟩,⟨some 82,[(80,
 false)],.load none (.t 81)⟩,⟨some 83,[(80,false)],.bin .neq (.t 82) (.c (.s []))⟩,⟨some 84,[(80,false)],.aK (.t 83)⟩,⟨some 85,[(80,false),(84,true)],.eG 5 (.t 1)⟩,
 ⟨some 86,[(80,false),(84,true)],.load none (.t 85)⟩,⟨some 87,[(80,false),(84,true)],.call 86 [.t 86]⟩,⟨some 88,[(80,false),(84,true)],.un .not (.t 87)⟩,⟨some 89,
 [(80,false)],.pick (.t 84) (.t 88) (.c (.b false))⟩,z 90 (.pick (.t 80) (.c (.b true)) (.t 89))]) (.ite (.t 90) (.seq (.aj [] [z 2 (.aK (.c (.i .i64 4)))]) (.ret)) (.skip)))
 (.seq (.seq (.aj [95,96,97,100,101,102,105,106,107] [zf 91 6 1,zl 92 91,z 93 (.bin .lss (.t 92) (.c (.i .i64 0))),zm 94 93,⟨some 95,[(94,false)],.eG 6 (.t 1)⟩,
 ⟨some 96,[(94,false)],.load none (.t 95)⟩,⟨some 97,[(94,false)],.bin .gtr (.t 96) (.c (.i .i64 1073741824))⟩,z 98 (.pick (.t 94) (.c (.b true)) (.t 97)),zm 99 98,⟨some
 100,[(99,false)],.eG 7 (.t 1)⟩,⟨some 101,[(99,false)],.load none (.t 100)⟩,⟨some 102,[(99,false)],.bin .lss (.t 101) (.c (.i .i64 1))⟩,z 103 (.pick (.t 99) (.c (.b
 true)) (.t 102)),zm 104 103,⟨some 105,[(104,false)],.eG 7 (.t 1)⟩,⟨some 106,[(104,false)],.load none (.t 105)⟩,⟨some 107,[(104,false)],.bin .gtr (.t 106) (.c (.i .i64
 3))⟩,z 108 (.pick (.t 104) (.c (.b true)) (.t 107))]) (.ite (.t 108) (.seq (.aj [] [z 2 (.aK (.c (.i .i64 1)))]) (.ret)) (.skip))) (.seq (.aj [] [z 2 (.aK (.c (.i .i64 0)))])
 (.ret))))))))))⟩
theorem c56:bL prog f56=some p56:=by kernel_rfl
def p89:bM:=⟨20,[.t 2],.seq (.aj [] [z 1 (.box 34 (.t 0)),z 2 (.aK (.c (.s [])))]) (.seq (.aj [] [zf 6 0 1,zl 7 6,z 8 (.call 125 [.t 7]),zm 5 8,z 9 (.ext 0 (.t 5)),z 10 (.ext 1 (.t
 5)),zm 3 9,zm 4 10]) (.seq (.aj [] [zm 11 3,z 12 (.bin .add (.t 11) (.c (.s [10]))),zf 13 2 1,zl 14 13,z 15 (.bin .add (.t 12) (.t 14)),z 16 (.bin .add (.t 15) (.c (.s
 [10]))),zf 17 3 1,zl 18 17,z 19 (.bin .add (.t 16) (.t 18)),zm 2 19]) (.ret)))⟩
theorem c89:bL prog f89=some p89:=by kernel_rfl
def p59:bM:=⟨8,[.t 2],.seq (.aj [] [z 1 (.box 34 (.t 0)),z 2 (.aK (.c (.s [])))]) (.seq (.seq (.aj [] [zL 3 8 1,z 4 (.call 56 [.t 3]),z 5 (.bin .neq (.t 4) (.c (.i .i64 0)))]) (.ite (.t
 5) (.seq (.aj [] [z 2 (.aK (.c (.s [])))]) (.ret)) (.skip))) (.seq (.aj [] [zL 6 8 1,z 7 (.call 89 [.t 6]),zm 2 7]) (.ret)))⟩
theorem c59:bL prog f59=some p59:=by kernel_rfl
def V5:bM:=⟨20,[.c 2 (some 8)],.seq (.aj [] [z 1 (.box 65 (.t 0)),z 2 (.alloc 34 [.nil,.nil,.s [],.s [],.s [],.s [],.i .i64 0,.i .i64 0])]) (.seq (.seq (.aj [] [zf 4 3 1,zl 5 4,z
 6 (.bin .neq (.t 5) (.c (.i .i64 2)))]) (.ite (.t 6) (.seq (.aj [] [zf 7 4 1,zL 8 8 7,zs (.store 8 [some 3,some 3,none,none,none,none,none,none] (.t 2) (.t 8))]) (.ret))
 (.skip))) (.seq (.aj [] [zf 9 4 1,zL 10 8 9,z 3 (.alloc 34 [.nil,.nil,.s [],.s [],.s [],.s [],.i .i64 0,.i .i64 0]),zs (.store 8 [some 3,some 3,none,none,none,none,
 none,none] (.t 3) (.t 10))]) (.seq (.aj [] [zf 11 0 3,zl 12 11,zf 13 0 3,zl 14 13,zf 15 2 3,zl 16 15,zf 17 3 3,zl 18 17,z 19 (.build [.nil,.nil,.s [],.s [],.s [],.s
 [],.i .i64 0,.i .i64 0] [(0,1,.t 12),(1,1,.t 14),(2,1,.t 16),(3,1,.t 18),(7,1,.c (.i .i64 1))]),zs (.store 8 [some 3,some 3,none,none,none,none,none,none]
 (.t 2) (.t 19))]) (.ret))))⟩
theorem aaP:bL prog f107=some V5:=by kernel_rfl
def V6:bM:=⟨27,[.t 2],.seq (.aj [] [z 1 (.box 34 (.t 0)),z 2 (.aK (.c (.b false)))]) (.seq (.aj [8,9,10,13,14,15,18,19,20,23,24,25] [zf 3 1 1,zl 4 3,z 5 (.len false (.t 4)),
 z 6 (.bin .eql (.t 5) (.c (.i .i64 0))),zm 7 6,⟨some 8,[(7,true)],.eG 4 (.t 1)⟩,⟨some 9,[(7,true)],.load none (.t 8)⟩,⟨some 10,[(7,true)],.bin .eql (.t 9) (.c (.s
 []))⟩,z 11 (.pick (.t 7) (.t 10) (.c (.b false))),zm 12 11,⟨some 13,[(12,true)],.eG 5 (.t 1)⟩,⟨some 14,[(12,true)],.load none (.t 13)⟩,⟨some 15,[(12,true)],.bin .eql
 (.t 14) (.c (.s []))⟩,z 16 (.pick (.t 12) (.t 15) (.c (.b false))),zm 17 16,⟨some 18,[(17,true)],.eG 6 (.t 1)⟩,⟨some 19,[(17,true)],.load none (.t 18)⟩,⟨some 20,[(17,
 true)],.bin .eql (.t 19) (.c (.i .i64 0))⟩,z 21 (.pick (.t 17) (.t 20) (.c (.b false))),zm 22 21,⟨some 23,[(22,true)],.eG 7 (.t 1)⟩,⟨some 24,[(22,true)],.load none (.t
 23)⟩,⟨some 25,[(22,true)],.bin .eql (.t 24) (.c (.i .i64 0))⟩,z 26 (.pick (.t 22) (.t 25) (.c (.b false))),zm 2 26]) (.ret))⟩
theorem aaQ:bL prog f106=some V6:=by kernel_rfl
def Ho:bj:=.seq (.aj [] [z 33 (.bin .lss (.t 32) (.t 31))]) (.seq (.ite (.t 33) (.skip) (.exit 0)) (.seq (.block 1 (.seq (.aj [] [z 34 (.idx 1 (.t 30) (.t 32)),zl 35 34,zm 5 35]) (.seq
 (.aj [] [zm 36 5,z 37 (.bin .gtr (.t 36) (.c (.i .i64 128)))]) (.ite (.t 37) (.seq (.aj [] [z 2 (.aK (.c (.i .i64 1)))]) (.ret)) (.skip))))) (.aj [] [z 38 (.bin .add (.t 32)
 (.c (.i .i64 1))),zm 32 38])))
def p79:bM:=⟨62,[.t 2],.seq (.aj [] [z 1 (.box 65 (.t 0)),z 2 (.aK (.c (.i .i64 0)))]) (.seq (.seq (.aj [] [zf 6 0 1,zL 7 3 6,z 8 (.call 104 [.t 7]),zm 3 8]) (.seq (.aj [] [zm 9 3,z
 10 (.bin .neq (.t 9) (.c (.i .i64 0)))]) (.ite (.t 10) (.seq (.aj [] [zm 11 3,zm 2 11]) (.ret)) (.skip)))) (.seq (.seq (.df [([zf 12 3 1,zl 13 12,z 14 (.bin .neq (.t 13) (.c
 (.i .i64 1))),zm 15 14,⟨some 16,[(15,true)],.eG 3 (.t 1)⟩,⟨some 17,[(15,true)],.load none (.t 16)⟩,⟨some 18,[(15,true)],.bin .neq (.t 17) (.c (.i .i64 2))⟩,z 19
 (.pick (.t 15) (.t 18) (.c (.b false))),zm 20 19,⟨some 21,[(20,false)],.eG 12 (.t 1)⟩,⟨some 22,[(20,false)],.load none (.t 21)⟩,⟨some 24,[(20,false)],.eG 12 (.t 1)⟩,
 ⟨some 25,[(20,false)],.load none (.t 24)⟩],⟨some 23,[(20,false)],.call 51 [.t 22]⟩,[⟨some 24,[(20,false)],.eG 12 (.t 1)⟩,⟨some 25,[(20,false)],.load none (.t 24)⟩])]
 [] [16,17,18,21,22,23,24,25,26,27] [⟨some 26,[(20,false)],.call 105 [.t 23,.t 25]⟩,⟨some 27,[(20,false)],.un .not (.t 26)⟩,z 28 (.pick (.t 20) (.c (.b true)) (.t
 27))]) (.ite (.t 28) (.seq (.aj [] [z 2 (.aK (.c (.i .i64 1)))]) (.ret)) (.skip))) (.seq (.seq (.aj [] [zf 29 12 1,zl 30 29,z 31 (.len false (.t 30)),z 32 (.aK (.c (.i .i64
 0)))]) (.block 0 (.loop Ho))) (.seq (.seq (.df [([zf 39 12 1,zl 40 39,zf 41 0 1,zf 42 1 41,zl 43 42,zf 45 0 1,zf 46 2 45,zl 47 46,z 48 (.bin .sub (.t 47) (.c (.i .i64
 1)))],z 44 (.call 76 [.t 40,.t 43]),[zf 45 0 1,zf 46 2 45,zl 47 46])] [] [] [z 49 (.bin .neq (.t 44) (.t 48))]) (.ite (.t 49) (.seq (.aj [] [z 2 (.aK (.c (.i .i64 11)))])
 (.ret)) (.skip))) (.seq (.seq (.aj [54,55,56,57] [zf 50 3 1,zl 51 50,z 52 (.bin .eql (.t 51) (.c (.i .i64 2))),zm 53 52,⟨some 54,[(53,true)],.eG 4 (.t 1)⟩,⟨some 55,
 [(53,true)],.load (some 8) (.t 54)⟩,⟨some 56,[(53,true)],.call 106 [.t 55]⟩,⟨some 57,[(53,true)],.un .not (.t 56)⟩,z 58 (.pick (.t 53) (.t 57) (.c (.b false)))]) (.ite
 (.t 58) (.seq (.aj [] [z 2 (.aK (.c (.i .i64 1)))]) (.ret)) (.skip))) (.seq (.aj [] [zL 59 13 1,z 60 (.call 107 [.t 59]),z 61 (.call 56 [.t 60]),zm 2 61]) (.ret)))))))⟩
theorem c79:bL prog f79=some p79:=by kernel_rfl
def Vr:bM:=⟨9,[.t 2],.seq (.aj [] [z 1 (.box 65 (.t 0)),z 2 (.aK (.c (.s [])))]) (.seq (.seq (.aj [] [zL 3 13 1,z 4 (.call 79 [.t 3]),z 5 (.bin .neq (.t 4) (.c (.i .i64 0)))]) (.ite
 (.t 5) (.seq (.aj [] [z 2 (.aK (.c (.s [])))]) (.ret)) (.skip))) (.seq (.aj [] [zL 6 13 1,z 7 (.call 107 [.t 6]),z 8 (.call 59 [.t 7]),zm 2 8]) (.ret)))⟩
theorem aah:bL prog f172=some Vr:=by kernel_rfl
def Hl:bj:=.seq (.seq (.aj [] [zm 12 3,zm 13 0,z 14 (.len true (.t 13)),z 15 (.bin .lss (.t 12) (.t 14))]) (.ite (.t 15) (.skip) (.exit 0))) (.block 1 (.seq (.aj [] [zm 17 0,zm 18 3,z
 19 (.fv (.t 17) (some (.t 18)) none),z 20 (.call 121 [.t 19]),zm 16 20,z 21 (.ext 0 (.t 16)),z 22 (.ext 1 (.t 16)),z 23 (.ext 2 (.t 16)),z 6 (.alloc 31 [.i .i64 0,.s [],
 .i .i64 0]),zs (.store 3 [none,none,none] (.t 6) (.t 21)),zm 7 22,zm 8 23]) (.seq (.seq (.aj [] [zm 24 8,z 25 (.un .not (.t 24))]) (.ite (.t 25) (.seq (.aj [] [zm 26 3,z 2
 (.aK (.c .nil)),zm 3 26,z 4 (.aK (.c (.i .i64 2)))]) (.ret)) (.skip))) (.seq (.seq (.aj [] [zL 27 3 6,z 28 (.call 122 [.t 5,.t 27]),zm 9 28]) (.seq (.aj [] [zm 29 9,z 30
 (.bin .neq (.t 29) (.c (.i .i64 0)))]) (.ite (.t 30) (.seq (.aj [] [zm 31 3,zm 32 9,z 2 (.aK (.c .nil)),zm 3 31,zm 4 32]) (.ret)) (.skip)))) (.aj [] [zm 33 3,zm 34 7,z 35
 (.bin .add (.t 33) (.t 34)),zm 3 35])))))
def p85:bM:=⟨39,[.t 2,.t 3,.t 4],.seq (.aj [] [z 2 (.aK (.c .nil)),z 3 (.aK (.c (.i .i64 0))),z 4 (.aK (.c (.i .i64 0)))]) (.seq (.aj [] [z 10 (.pk 3 31),z 11 (.build [.nil,
 .nil,.i .i64 0,.fE] [(3,1,.t 10)]),z 5 (.alloc 166 [.nil,.nil,.i .i64 0,.fE]),zs (.store 4 [some 3,some 1,none,none] (.t 5) (.t 11))]) (.seq (.block 0 (.loop
 Hl)) (.seq (.aj [] [z 36 (.call 123 [.t 5])]) (.seq (.aj [] [zf 37 0 5,zl 38 37,zm 2 38,z 3 (.aK (.c (.i .i64 0))),z 4 (.aK (.c (.i .i64 0)))]) (.ret)))))⟩
theorem c85:bL prog f85=some p85:=by kernel_rfl
def VP:bM:=⟨123,[.t 4],.seq (.aj [] [z 3 (.box 31 (.t 1)),z 4 (.aK (.c (.i .i64 0)))]) (.seq (.aj [13,14,15] [zf 9 0 3,zl 10 9,z 11 (.bin .neq (.t 10) (.c (.i .i64 1))),zm 12 11,
 ⟨some 13,[(12,true)],.eG 0 (.t 3)⟩,⟨some 14,[(12,true)],.load none (.t 13)⟩,⟨some 15,[(12,true)],.bin .neq (.t 14) (.c (.i .i64 5))⟩,z 16 (.pick (.t 12) (.t 15) (.c (.b
 false))),zm 5 16]) (.seq (.seq (.aj [] [zm 17 5]) (.ite (.t 17) (.seq (.df [([zm 19 0,z 20 (.dF (.t 19)),zf 21 3 20,zl 22 21,zf 23 2 3,zl 24 23,z 25 (.look 0 (.agg [.i
 .i64 0,.s [],.i .i64 0]) true (.t 22) (.t 24)),zm 18 25,z 26 (.ext 0 (.t 18)),z 27 (.ext 1 (.t 18))],z 6 (.alloc 31 [.i .i64 0,.s [],.i .i64 0]),[z 20 (.dF (.t 19)),zf
 21 3 20,zl 22 21,zf 23 2 3,zl 24 23,z 25 (.look 0 (.agg [.i .i64 0,.s [],.i .i64 0]) true (.t 22) (.t 24))]),([],zs (.store 3 [none,none,none] (.t 6) (.t 26)),[])] [] []
 [zm 7 27]) (.seq (.df [([zm 28 7,zm 29 28,⟨some 30,[(29,true)],.eG 0 (.t 3)⟩,⟨some 31,[(29,true)],.load none (.t 30)⟩,⟨some 32,[(29,true)],.bin .neq (.t 31) (.c (.i
 .i64 3))⟩,⟨some 33,[(29,true)],.aK (.t 32)⟩,⟨some 34,[(29,true),(33,false)],.eG 0 (.t 6)⟩,⟨some 35,[(29,true),(33,false)],.load none (.t 34)⟩,⟨some 36,[(29,
 true),(33,false)],.bin .neq (.t 35) (.c (.i .i64 2))⟩,⟨some 37,[(29,true)],.pick (.t 33) (.c (.b true)) (.t 36)⟩,⟨some 38,[(29,true)],.aK (.t 37)⟩,⟨some 39,[(29,
 true),(38,false)],.eG 1 (.t 6)⟩,⟨some 40,[(29,true),(38,false)],.load none (.t 39)⟩,⟨some 42,[(29,true),(38,false)],.eG 1 (.t 3)⟩,⟨some 43,[(29,true),(38,
 false)],.load none (.t 42)⟩],⟨some 41,[(29,true),(38,false)],.call 164 [.t 40]⟩,[⟨some 42,[(29,true),(38,false)],.eG 1 (.t 3)⟩,⟨some 43,[(29,true),(38,false)],
 .load none (.t 42)⟩])] [] [30,31,32,33,34,35,36,37,38,39,40,41,42,43,44,45] [⟨some 44,[(29,true),(38,false)],.bin .neq (.t 41) (.t 43)⟩,⟨some 45,[(29,true)],
 .pick (.t 38) (.c (.b true)) (.t 44)⟩,z 46 (.pick (.t 29) (.t 45) (.c (.b false)))]) (.ite (.t 46) (.seq (.aj [] [z 4 (.aK (.c (.i .i64 7)))]) (.ret)) (.skip)))) (.skip))) (.seq
 (.aj [] [zm 47 0,z 48 (.dF (.t 47)),zf 49 0 48,zl 50 49,z 51 (.len false (.t 50)),zm 8 51]) (.seq (.seq (.aj [] [zm 52 0,z 53 (.dF (.t 52)),zf 54 1 53,zl 55 54,z 56
 (.len false (.t 55)),z 57 (.bin .gtr (.t 56) (.c (.i .i64 0)))]) (.ite (.t 57) (.aj [] [zm 58 8,z 59 (.bin .add (.t 58) (.c (.i .i64 1))),zm 8 59]) (.skip))) (.seq (.seq (.aj
 [64,65,66,67,68,69] [zf 60 0 3,zl 61 60,z 62 (.bin .neq (.t 61) (.c (.i .i64 1))),zm 63 62,⟨some 64,[(63,false)],.aK (.t 0)⟩,⟨some 65,[(63,false)],.dF (.t 64)⟩,
 ⟨some 66,[(63,false)],.eG 1 (.t 65)⟩,⟨some 67,[(63,false)],.load none (.t 66)⟩,⟨some 68,[(63,false)],.len false (.t 67)⟩,⟨some 69,[(63,false)],.bin .eql (.t 68) (.c
 (.i .i64 0))⟩,z 70 (.pick (.t 63) (.c (.b true)) (.t 69))]) (.ite (.t 70) (.aj [] [zm 71 8,z 72 (.bin .add (.t 71) (.c (.i .i64 1))),zm 8 72]) (.skip))) (.seq (.seq (.aj [76,
 77,78,79,80,81] [zm 73 8,z 74 (.bin .gtr (.t 73) (.c (.i .i64 512))),zm 75 74,⟨some 76,[(75,false)],.aK (.t 0)⟩,⟨some 77,[(75,false)],.dF (.t 76)⟩,⟨some 78,[(75,
 false)],.eG 2 (.t 77)⟩,⟨some 79,[(75,false)],.load none (.t 78)⟩,⟨some 80,[(75,false)],.bin .add (.t 79) (.c (.i .i64 1))⟩,⟨some 81,[(75,false)],.bin .gtr (.t 80) (.c
 (.i .i64 1024))⟩,z 82 (.pick (.t 75) (.c (.b true)) (.t 81))]) (.ite (.t 82) (.seq (.aj [] [z 4 (.aK (.c (.i .i64 3)))]) (.ret)) (.skip))) (.seq (.aj [] [zm 83 0,z 84 (.dF
 (.t 83)),zf 85 2 84,zl 86 85,z 87 (.bin .add (.t 86) (.c (.i .i64 1))),z 88 (.dF (.t 83)),zf 89 2 88,zs (.store 1 [none] (.t 89) (.t 87))]) (.seq (.seq (.aj [] [zf 90 0 3,
 zl 91 90,z 92 (.bin .eql (.t 91) (.c (.i .i64 1)))]) (.ite (.t 92) (.seq (.df [([zm 93 0,zm 94 0,z 95 (.dF (.t 94)),zf 96 1 95,zl 97 96,zf 98 1 3,zl 99 98],z 100 (.apps
 5 (.t 97) (.t 99)),[])] [] [] [z 101 (.dF (.t 93)),zf 102 1 101,zs (.store 1 [some 1] (.t 102) (.t 100))]) (.seq (.aj [] [z 4 (.aK (.c (.i .i64 0)))]) (.ret))) (.skip)))
 (.seq (.seq (.aj [] [zm 103 5]) (.ite (.t 103) (.df [] [zm 104 0,z 105 (.dF (.t 104)),zf 106 3 105,zl 107 106,zf 108 2 3,zl 109 108,zL 110 3 3] [] [zs (.vT 0 [none,
 none,none] (.t 107) (.t 109) (.t 110))]) (.skip))) (.seq (.aj [] [zm 111 0,z 112 (.call 123 [.t 111])]) (.seq (.df [([zm 113 0,zm 114 0,z 115 (.dF (.t 114)),zf 116 0 115,
 zl 117 116,zL 118 3 3,z 119 (.bQ 3 [none,none,none] [.t 118])],z 120 (.app 31 3 32 (.t 117) (.t 119)),[])] [] [] [z 121 (.dF (.t 113)),zf 122 0 121,zs (.store 1 [some
 3] (.t 122) (.t 120))]) (.seq (.aj [] [z 4 (.aK (.c (.i .i64 0)))]) (.ret)))))))))))))⟩
theorem aaE:bL prog f122=some VP:=by kernel_rfl
def VO:bM:=⟨26,[],.seq (.aj [] [zm 2 0,z 3 (.dF (.t 2)),zf 4 1 3,zl 5 4,z 6 (.len false (.t 5)),z 7 (.bin .gtr (.t 6) (.c (.i .i64 0)))]) (.ite (.t 7) (.seq (.df [([zm 8 0,zm 9
 0,z 10 (.dF (.t 9)),zf 11 0 10,zl 12 11,zm 13 0,z 14 (.dF (.t 13)),zf 15 1 14,zl 16 15,z 17 (.yx (.t 16)),z 18 (.build [.i .i64 0,.s [],.i .i64 0] [(0,1,.c (.i
 .i64 1)),(1,1,.t 17)]),z 19 (.bQ 3 [none,none,none] [.t 18])],z 20 (.app 31 3 32 (.t 12) (.t 19)),[])] [] [] [z 21 (.dF (.t 8)),zf 22 0 21,zs (.store 1 [some 3] (.t
 22) (.t 20))]) (.aj [] [zm 23 0,z 24 (.dF (.t 23)),zf 25 1 24,zs (.store 1 [some 1] (.t 25) (.c .nil))])) (.skip))⟩
theorem kR:bL prog f123=some VO:=by kernel_rfl
def xk:bj:=.seq (.aj [] [z 17 (.bin .lss (.t 16) (.t 15))]) (.seq (.ite (.t 17) (.skip) (.exit 0)) (.seq (.block 1 (.seq (.aj [] [z 18 (.idx 3 (.t 14) (.t 16)),zL 19 3 18,z 7 (.alloc 31
 [.i .i64 0,.s [],.i .i64 0]),zs (.store 3 [none,none,none] (.t 7) (.t 19))]) (.seq (.aj [] [zf 20 2 7,zl 21 20,z 22 (.call 165 [.t 21]),zm 8 22]) (.seq (.aj [] [zf 23 0 7,
 zl 24 23]) (.block 2 (.seq (.aj [] [z 26 (.bin .eql (.t 24) (.c (.i .i64 1))),zm 25 26]) (.ite (.t 25) (.aj [] [zm 27 5,zf 28 1 7,zl 29 28,z 30 (.call 166 [.t 27,.t 29]),zm
 5 30]) (.seq (.aj [] [z 32 (.bin .eql (.t 24) (.c (.i .i64 2))),zm 31 32]) (.ite (.t 31) (.aj [] [zm 33 5,zm 34 8,z 35 (.bin .add (.c (.s [60])) (.t 34)),z 36 (.bin .add (.t
 35) (.c (.s [58]))),zf 37 1 7,zl 38 37,z 39 (.bin .add (.t 36) (.t 38)),z 40 (.bin .add (.t 39) (.c (.s [62]))),z 41 (.apps 5 (.t 33) (.t 40)),zm 5 41]) (.seq (.aj [] [z 43
 (.bin .eql (.t 24) (.c (.i .i64 3))),zm 42 43]) (.ite (.t 42) (.aj [] [zm 44 5,zm 45 8,z 46 (.bin .add (.c (.s [60,47])) (.t 45)),z 47 (.bin .add (.t 46) (.c (.s [58]))),zf
 48 1 7,zl 49 48,z 50 (.bin .add (.t 47) (.t 49)),z 51 (.bin .add (.t 50) (.c (.s [62]))),z 52 (.apps 5 (.t 44) (.t 51)),zm 5 52]) (.seq (.aj [] [z 54 (.bin .eql (.t 24) (.c
 (.i .i64 4))),zm 53 54]) (.ite (.t 53) (.aj [] [zm 55 5,zm 56 8,z 57 (.bin .add (.c (.s [60])) (.t 56)),z 58 (.bin .add (.t 57) (.c (.s [58]))),zf 59 1 7,zl 60 59,z 61 (.bin
 .add (.t 58) (.t 60)),z 62 (.bin .add (.t 61) (.c (.s [47,62]))),z 63 (.apps 5 (.t 55) (.t 62)),zm 5 63]) (.seq (.aj [] [z 65 (.bin .eql (.t 24) (.c (.i .i64 5))),zm 64 65])
 (.ite (.t 64) (.aj [] [zm 66 5,zf 67 1 7,zl 68 67,z 69 (.bin .add (.c (.s [123])) (.t 68)),z 70 (.bin .add (.t 69) (.c (.s [125]))),z 71 (.apps 5 (.t 66) (.t 70)),zm 5 71])
 (.skip)))))))))))))))) (.aj [] [z 72 (.bin .add (.t 16) (.c (.i .i64 1))),zm 16 72])))
def VN:bM:=⟨75,[.t 2,.t 3],.seq (.aj [] [z 2 (.aK (.c (.s []))),z 3 (.aK (.c (.i .i64 0)))]) (.seq (.seq (.aj [] [zm 9 0,z 10 (.call 82 [.t 9]),zm 4 10]) (.seq (.aj [] [zm 11 4,z
 12 (.bin .neq (.t 11) (.c (.i .i64 0)))]) (.ite (.t 12) (.seq (.aj [] [zm 13 4,z 2 (.aK (.c (.s []))),zm 3 13]) (.ret)) (.skip)))) (.seq (.aj [] [z 5 (.aK (.c .nil))]) (.seq
 (.seq (.aj [] [zm 14 0,z 15 (.len false (.t 14)),z 16 (.aK (.c (.i .i64 0)))]) (.block 0 (.loop xk))) (.seq (.aj [] [zm 73 5,z 74 (.yx (.t 73)),zm 2 74,z 3 (.aK (.c
 (.i .i64 0)))]) (.ret)))))⟩
theorem aaD:bL prog f125=some VN:=by kernel_rfl
def p8:bM:=⟨13,[.c 2 (some 6),.t 3],.seq (.aj [] [z 2 (.alloc 44 [.i .i64 0,.i .i64 0,.nil,.nil,.i .i64 0,.b false]),z 3 (.aK (.c (.i .i64 0)))]) (.seq (.seq (.aj [7,8] [zm 4 0,z
 5 (.bin .lss (.t 4) (.c (.i .i64 0))),zm 6 5,⟨some 7,[(6,false)],.aK (.t 0)⟩,⟨some 8,[(6,false)],.bin .geq (.t 7) (.c (.i .i64 8))⟩,z 9 (.pick (.t 6) (.c (.b true)) (.t
 8))]) (.ite (.t 9) (.seq (.aj [] [z 10 (.build [.i .i64 0,.i .i64 0,.nil,.nil,.i .i64 0,.b false] []),zs (.store 6 [none,none,some 13,some 1,none,none] (.t 2) (.t 10)),
 z 3 (.aK (.c (.i .i64 1)))]) (.ret)) (.skip))) (.seq (.aj [] [zm 11 0,z 12 (.build [.i .i64 0,.i .i64 0,.nil,.nil,.i .i64 0,.b false] [(0,1,.t 11)]),zs (.store 6 [none,
 none,some 13,some 1,none,none] (.t 2) (.t 12)),z 3 (.aK (.c (.i .i64 0)))]) (.ret)))⟩
theorem c8:bL prog f8=some p8:=by kernel_rfl
def p64:bM:=⟨21,[.t 4],.seq (.aj [] [z 2 (.box 65 (.t 0)),z 3 (.box 65 (.t 1)),z 4 (.aK (.c (.i .i64 0)))]) (.seq (.df [([zf 5 0 2,zf 6 1 5,zl 7 6,zf 8 0 3,zf 9 1 8,zl 10 9,zf 12
 0 2,zf 13 2 12,zl 14 13,zf 15 0 3,zf 16 2 15,zl 17 16],z 11 (.call 31 [.t 7,.t 10]),[zf 12 0 2,zf 13 2 12,zl 14 13,zf 15 0 3,zf 16 2 15,zl 17 16])] [] [] [z 18 (.call
 31 [.t 14,.t 17]),z 19 (.bQ 1 [none] [.t 11,.t 18]),z 20 (.call 30 [.t 19]),zm 4 20]) (.ret))⟩
theorem c64:bL prog f64=some p64:=by kernel_rfl
def Yp:bM:=⟨25,[.t 4,.t 5],.seq (.aj [] [z 2 (.box 41 (.t 0)),z 3 (.box 65 (.t 1)),z 4 (.aK (.c (.i .i64 0))),z 5 (.aK (.c (.b false)))]) (.seq (.aj [] [zl 7 2,z 8 (.len false (.t
 7)),z 9 (.NQ 109 [.t 2,.t 3]),z 10 (.call 108 [.t 8,.t 9]),zm 6 10]) (.seq (.df [([zm 11 6,zm 12 6,zl 13 2,z 14 (.len false (.t 13)),z 15 (.bin .lss (.t 12) (.t 14)),zm
 16 15,⟨some 17,[(16,true)],.load none (.t 2)⟩,⟨some 18,[(16,true)],.aK (.t 6)⟩,⟨some 19,[(16,true)],.idx 13 (.t 17) (.t 18)⟩,⟨some 20,[(16,true)],.load (some 13)
 (.t 19)⟩,⟨some 21,[(16,true)],.load (some 13) (.t 3)⟩],⟨some 22,[(16,true)],.call 64 [.t 20,.t 21]⟩,[])] [⟨some 23,[(16,true)],.bin .eql (.t 22) (.c (.i .i64 0))⟩,z 24
 (.pick (.t 16) (.t 23) (.c (.b false))),zm 4 11] [17,18,19,20,21,22,23] [zm 5 24]) (.ret)))⟩
theorem c80:bL prog f80=some Yp:=by kernel_rfl
def RF:bM:=⟨12,[.t 4],.seq (.aj [] [z 4 (.aK (.c (.b false)))]) (.seq (.df [] [zl 5 1,zm 6 0,z 7 (.idx 13 (.t 5) (.t 6)),zL 8 13 7,zL 9 13 2] [] [z 10 (.call 64 [.t 8,.t 9]),z 11
 (.bin .geq (.t 10) (.c (.i .i64 0))),zm 4 11]) (.ret))⟩
theorem XH:bL prog f109=some RF:=by kernel_rfl
def p81:bM:=⟨59,[.c 4 (some 6),.t 5],.seq (.aj [] [z 2 (.box 44 (.t 0)),z 3 (.box 65 (.t 1)),z 4 (.alloc 44 [.i .i64 0,.i .i64 0,.nil,.nil,.i .i64 0,.b false]),z 5 (.aK (.c (.i
 .i64 0)))]) (.seq (.aj [] [zL 13 13 3,z 14 (.call 94 [.t 13]),zm 12 14,z 15 (.ext 0 (.t 12)),z 16 (.ext 1 (.t 12)),zm 6 15,zm 7 16]) (.seq (.seq (.aj [] [zm 17 7,z 18 (.bin
 .neq (.t 17) (.c (.i .i64 0)))]) (.ite (.t 18) (.seq (.aj [] [z 19 (.build [.i .i64 0,.i .i64 0,.nil,.nil,.i .i64 0,.b false] []),zm 20 7,zs (.store 6 [none,none,some 13,
 some 1,none,none] (.t 4) (.t 19)),zm 5 20]) (.ret)) (.skip))) (.seq (.aj [] [zf 22 3 2,zl 23 22,zm 24 6,z 25 (.call 110 [.t 23,.t 24]),zm 21 25,z 26 (.ext 0 (.t 21)),z 27
 (.ext 1 (.t 21)),zm 8 26,zm 7 27]) (.seq (.seq (.aj [] [zm 28 7,z 29 (.bin .neq (.t 28) (.c (.i .i64 0)))]) (.ite (.t 29) (.seq (.aj [] [z 30 (.build [.i .i64 0,.i .i64 0,
 .nil,.nil,.i .i64 0,.b false] []),zm 31 7,zs (.store 6 [none,none,some 13,some 1,none,none] (.t 4) (.t 30)),zm 5 31]) (.ret)) (.skip))) (.seq (.aj [] [zL 32 6 2,z 33
 (.call 22 [.t 32]),z 9 (.alloc 44 [.i .i64 0,.i .i64 0,.nil,.nil,.i .i64 0,.b false]),zs (.store 6 [none,none,some 13,some 1,none,none] (.t 9) (.t 33))]) (.seq (.aj []
 [zf 35 2 9,zl 36 35,zL 37 13 3,z 38 (.call 80 [.t 36,.t 37]),zm 34 38,z 39 (.ext 0 (.t 34)),z 40 (.ext 1 (.t 34)),zm 10 39,zm 11 40]) (.seq (.df [([zf 41 2 9,zl 42 41,
 zm 43 10,zL 44 13 3],z 45 (.call 48 [.t 44]),[zf 41 2 9,zl 42 41]),([],z 46 (.E7 65 13 184 [none,none,none,none,some 3,some 3,none,none,none,none,none,none,some
 1] [.t 45]),[zf 41 2 9,zl 42 41])] [] [] [z 47 (.call 111 [.t 42,.t 43,.t 46]),zf 48 2 9,zs (.store 1 [some 13] (.t 48) (.t 47))]) (.seq (.aj [] [zm 49 8,zf 50 3 9,zs
 (.store 1 [some 1] (.t 50) (.t 49))]) (.seq (.aj [] [zf 51 1 9,zl 52 51,zf 53 0 3,zf 54 0 53,zl 55 54,z 56 (.max2 (.t 52) (.t 55)),zf 57 1 9,zs (.store 1 [none] (.t 57) (.t
 56))]) (.seq (.aj [] [zL 58 6 9,zs (.store 6 [none,none,some 13,some 1,none,none] (.t 4) (.t 58)),z 5 (.aK (.c (.i .i64 0)))]) (.ret)))))))))))⟩
theorem c81:bL prog f81=some p81:=by kernel_rfl
def p57:bM:=⟨59,[.c 6 (some 6),.c 7 (some 13),.t 8],.seq (.aj [] [z 3 (.box 44 (.t 0)),z 5 (.box 34 (.t 2)),z 6 (.alloc 44 [.i .i64 0,.i .i64 0,.nil,.nil,.i .i64 0,.b false]),z 7
 (.alloc 65 [.i .i64 0,.i .i64 0,.i .i64 0,.i .i64 0,.nil,.nil,.s [],.s [],.s [],.s [],.i .i64 0,.i .i64 0,.nil]),z 8 (.aK (.c (.i .i64 0)))]) (.seq (.aj [] [zL 14 6
 3,z 15 (.call 26 [.t 14]),zm 9 15]) (.seq (.aj [] [zm 16 9,zf 17 0 3,zl 18 17,z 19 (.call 76 [.t 16,.t 18]),zm 10 19]) (.seq (.seq (.aj [23,24,25] [zm 20 10,z 21 (.bin
 .geq (.t 20) (.c (.i .i64 128))),zm 22 21,⟨some 23,[(22,false)],.eG 1 (.t 3)⟩,⟨some 24,[(22,false)],.load none (.t 23)⟩,⟨some 25,[(22,false)],.bin .geq (.t 24) (.c (.i
 .i64 1073741824))⟩,z 26 (.pick (.t 22) (.c (.b true)) (.t 25))]) (.ite (.t 26) (.seq (.aj [] [z 27 (.build [.i .i64 0,.i .i64 0,.nil,.nil,.i .i64 0,.b false] []),z 28
 (.build [.i .i64 0,.i .i64 0,.i .i64 0,.i .i64 0,.nil,.nil,.s [],.s [],.s [],.s [],.i .i64 0,.i .i64 0,.nil] []),zs (.store 6 [none,none,some 13,some 1,none,none]
 (.t 6) (.t 27)),zs (.store 13 [none,none,none,none,some 3,some 3,none,none,none,none,none,none,some 1] (.t 7) (.t 28)),z 8 (.aK (.c (.i .i64 3)))]) (.ret)) (.skip)))
 (.seq (.aj [] [zf 29 1 3,zl 30 29,z 31 (.bin .add (.t 30) (.c (.i .i64 1))),zf 32 0 3,zl 33 32,zm 34 10,z 35 (.bin .add (.t 34) (.c (.i .i64 1))),z 36 (.build [.i .i64 0,.i
 .i64 0,.i .i64 0] [(0,1,.t 31),(1,1,.t 33),(2,1,.t 35)]),zm 37 1,zL 38 8 5,zm 39 9,z 40 (.build [.i .i64 0,.i .i64 0,.i .i64 0,.i .i64 0,.nil,.nil,.s [],.s [],
 .s [],.s [],.i .i64 0,.i .i64 0,.nil] [(0,3,.t 36),(3,1,.t 37),(4,8,.t 38),(12,1,.t 39)]),z 11 (.alloc 65 [.i .i64 0,.i .i64 0,.i .i64 0,.i .i64 0,.nil,.nil,.s
 [],.s [],.s [],.s [],.i .i64 0,.i .i64 0,.nil]),zs (.store 13 [none,none,none,none,some 3,some 3,none,none,none,none,none,none,some 1] (.t 11) (.t 40))]) (.seq
 (.aj [] [zL 42 6 3,zL 43 13 11,z 44 (.call 81 [.t 42,.t 43]),zm 41 44,z 45 (.ext 0 (.t 41)),z 46 (.ext 1 (.t 41)),z 12 (.alloc 44 [.i .i64 0,.i .i64 0,.nil,.nil,.i .i64
 0,.b false]),zs (.store 6 [none,none,some 13,some 1,none,none] (.t 12) (.t 45)),zm 13 46]) (.seq (.seq (.aj [] [zm 47 13,z 48 (.bin .neq (.t 47) (.c (.i .i64 0)))]) (.ite
 (.t 48) (.seq (.aj [] [z 49 (.build [.i .i64 0,.i .i64 0,.nil,.nil,.i .i64 0,.b false] []),z 50 (.build [.i .i64 0,.i .i64 0,.i .i64 0,.i .i64 0,.nil,.nil,.s [],.s [],
 .s [],.s [],.i .i64 0,.i .i64 0,.nil] []),zm 51 13,zs (.store 6 [none,none,some 13,some 1,none,none] (.t 6) (.t 49)),zs (.store 13 [none,none,none,none,some 3,some
 3,none,none,none,none,none,none,some 1] (.t 7) (.t 50)),zm 8 51]) (.ret)) (.skip))) (.seq (.aj [] [zf 52 3 12,zl 53 52,z 54 (.len false (.t 53)),zf 55 4 12,zs (.store 1
 [none] (.t 55) (.t 54))]) (.seq (.df [([zL 56 6 12,zL 57 13 11],z 58 (.call 48 [.t 57]),[zL 56 6 12])] [] [] [zs (.store 6 [none,none,some 13,some 1,none,none] (.t 6) (.t
 56)),zs (.store 13 [none,none,none,none,some 3,some 3,none,none,none,none,none,none,some 1] (.t 7) (.t 58)),z 8 (.aK (.c (.i .i64 0)))]) (.ret)))))))))⟩
theorem c57:bL prog f57=some p57:=by kernel_rfl
def p36:bM:=⟨25,[.c 4 (some 6),.c 5 (some 13),.t 6],.seq (.aj [] [z 2 (.box 44 (.t 0)),z 3 (.box 34 (.t 1)),z 4 (.alloc 44 [.i .i64 0,.i .i64 0,.nil,.nil,.i .i64 0,.b false]),z 5
 (.alloc 65 [.i .i64 0,.i .i64 0,.i .i64 0,.i .i64 0,.nil,.nil,.s [],.s [],.s [],.s [],.i .i64 0,.i .i64 0,.nil]),z 6 (.aK (.c (.i .i64 0)))]) (.seq (.seq (.aj [] [zf
 8 5 2,zl 9 8]) (.ite (.t 9) (.seq (.aj [] [z 10 (.build [.i .i64 0,.i .i64 0,.nil,.nil,.i .i64 0,.b false] []),z 11 (.build [.i .i64 0,.i .i64 0,.i .i64 0,.i .i64 0,
 .nil,.nil,.s [],.s [],.s [],.s [],.i .i64 0,.i .i64 0,.nil] []),zs (.store 6 [none,none,some 13,some 1,none,none] (.t 4) (.t 10)),zs (.store 13 [none,none,none,
 none,some 3,some 3,none,none,none,none,none,none,some 1] (.t 5) (.t 11)),z 6 (.aK (.c (.i .i64 15)))]) (.ret)) (.skip))) (.seq (.seq (.aj [] [zL 12 8 3,z 13 (.call 56
 [.t 12]),zm 7 13]) (.seq (.aj [] [zm 14 7,z 15 (.bin .neq (.t 14) (.c (.i .i64 0)))]) (.ite (.t 15) (.seq (.aj [] [z 16 (.build [.i .i64 0,.i .i64 0,.nil,.nil,.i .i64 0,.b
 false] []),z 17 (.build [.i .i64 0,.i .i64 0,.i .i64 0,.i .i64 0,.nil,.nil,.s [],.s [],.s [],.s [],.i .i64 0,.i .i64 0,.nil] []),zm 18 7,zs (.store 6 [none,none,
 some 13,some 1,none,none] (.t 4) (.t 16)),zs (.store 13 [none,none,none,none,some 3,some 3,none,none,none,none,none,none,some 1] (.t 5) (.t 17)),zm 6 18]) (.ret))
 (.skip)))) (.seq (.aj [] [zL 19 6 2,zL 20 8 3,z 21 (.call 57 [.t 19,.c (.i .i64 1),.t 20]),z 22 (.ext 0 (.t 21)),z 23 (.ext 1 (.t 21)),z 24 (.ext 2 (.t 21)),zs (.store 6
 [none,none,some 13,some 1,none,none] (.t 4) (.t 22)),zs (.store 13 [none,none,none,none,some 3,some 3,none,none,none,none,none,none,some 1] (.t 5) (.t 23)),zm 6
 24]) (.ret))))⟩
theorem c36:bL prog f36=some p36:=by kernel_rfl
def Yq:bM:=⟨55,[.c 4 (some 6),.t 5],.seq (.aj [] [z 2 (.box 44 (.t 0)),z 3 (.box 65 (.t 1)),z 4 (.alloc 44 [.i .i64 0,.i .i64 0,.nil,.nil,.i .i64 0,.b false]),z 5 (.aK (.c (.i
 .i64 0)))]) (.seq (.seq (.aj [] [zf 9 5 2,zl 10 9]) (.ite (.t 10) (.seq (.aj [] [z 11 (.build [.i .i64 0,.i .i64 0,.nil,.nil,.i .i64 0,.b false] []),zs (.store 6 [none,
 none,some 13,some 1,none,none] (.t 4) (.t 11)),z 5 (.aK (.c (.i .i64 15)))]) (.ret)) (.skip))) (.seq (.seq (.aj [] [zL 12 13 3,z 13 (.call 79 [.t 12]),zm 6 13]) (.seq (.aj
 [] [zm 14 6,z 15 (.bin .neq (.t 14) (.c (.i .i64 0)))]) (.ite (.t 15) (.seq (.aj [] [z 16 (.build [.i .i64 0,.i .i64 0,.nil,.nil,.i .i64 0,.b false] []),zm 17 6,zs (.store
 6 [none,none,some 13,some 1,none,none] (.t 4) (.t 16)),zm 5 17]) (.ret)) (.skip)))) (.seq (.aj [] [zf 19 2 2,zl 20 19,zL 21 13 3,z 22 (.call 80 [.t 20,.t 21]),zm 18 22,
 z 23 (.ext 0 (.t 18)),z 24 (.ext 1 (.t 18)),zm 7 23,zm 8 24]) (.seq (.block 0 (.seq (.df [] [zm 26 8,zm 27 26,⟨some 28,[(27,true)],.eG 2 (.t 2)⟩,⟨some 29,[(27,true)],
 .load none (.t 28)⟩,⟨some 30,[(27,true)],.aK (.t 7)⟩,⟨some 31,[(27,true)],.idx 13 (.t 29) (.t 30)⟩,⟨some 32,[(27,true)],.load (some 13) (.t 31)⟩,⟨some 33,[(27,
 true)],.load (some 13) (.t 3)⟩] [28,29,30,31,32,33,34,35] [⟨some 34,[(27,true)],.call 65 [.t 32,.t 33]⟩,⟨some 35,[(27,true)],.bin .eql (.t 34) (.c (.i .i64 0))⟩,z
 36 (.pick (.t 27) (.t 35) (.c (.b false))),zm 25 36]) (.ite (.t 25) (.seq (.aj [] [zL 37 6 2,z 38 (.call 22 [.t 37]),zs (.store 6 [none,none,some 13,some 1,none,none] (.t
 4) (.t 38)),z 5 (.aK (.c (.i .i64 0)))]) (.ret)) (.seq (.aj [42,43,44,45,46,47] [zm 40 8,zm 41 40,⟨some 42,[(41,false)],.eG 0 (.t 3)⟩,⟨some 43,[(41,false)],.eG 1
 (.t 42)⟩,⟨some 44,[(41,false)],.load none (.t 43)⟩,⟨some 45,[(41,false)],.eG 0 (.t 2)⟩,⟨some 46,[(41,false)],.load none (.t 45)⟩,⟨some 47,[(41,false)],.bin .eql (.t
 44) (.t 46)⟩,z 48 (.pick (.t 41) (.c (.b true)) (.t 47)),zm 39 48]) (.ite (.t 39) (.seq (.aj [] [z 49 (.build [.i .i64 0,.i .i64 0,.nil,.nil,.i .i64 0,.b false] []),zs
 (.store 6 [none,none,some 13,some 1,none,none] (.t 4) (.t 49)),z 5 (.aK (.c (.i .i64 11)))]) (.ret)) (.skip)))))) (.seq (.aj [] [zL 50 6 2,zL 51 13 3,z 52 (.call 81 [.t
 50,.t 51]),z 53 (.ext 0 (.t 52)),z 54 (.ext 1 (.t 52)),zs (.store 6 [none,none,some 13,some 1,none,none] (.t 4) (.t 53)),zm 5 54]) (.ret))))))⟩
theorem c55:bL prog f55=some Yq:=by kernel_rfl
def UG:bj:=.seq (.aj [] [z 34 (.bin .lss (.t 33) (.t 32))]) (.seq (.ite (.t 34) (.skip) (.exit 0)) (.seq (.block 1 (.seq (.aj [] [z 35 (.idx 1 (.t 31) (.t 33)),zl 36 35,zm 8 36]) (.seq
 (.aj [] [zm 38 8,z 39 (.call 62 [.t 38]),zm 37 39,z 40 (.ext 0 (.t 37)),z 41 (.ext 1 (.t 37)),z 9 (.alloc 65 [.i .i64 0,.i .i64 0,.i .i64 0,.i .i64 0,.nil,.nil,.s [],.s
 [],.s [],.s [],.i .i64 0,.i .i64 0,.nil]),zs (.store 13 [none,none,none,none,some 3,some 3,none,none,none,none,none,none,some 1] (.t 9) (.t 40)),zm 10 41]) (.seq
 (.seq (.aj [] [zm 42 10,z 43 (.bin .neq (.t 42) (.c (.i .i64 0)))]) (.ite (.t 43) (.seq (.aj [] [z 44 (.build [.i .i64 0,.i .i64 0,.nil,.nil,.i .i64 0,.b false] []),zm 45
 10,zs (.store 6 [none,none,some 13,some 1,none,none] (.t 2) (.t 44)),zm 3 45]) (.ret)) (.skip))) (.seq (.aj [] [zf 46 2 4,zl 47 46,zL 48 13 9,z 49 (.bQ 13 [none,
 none,none,none,some 3,some 3,none,none,none,none,none,none,some 1] [.t 48]),z 50 (.app 65 13 184 (.t 47) (.t 49)),zf 51 2 4,zs (.store 1 [some 13] (.t 51) (.t 50))])
 (.aj [] [zf 52 1 4,zl 53 52,zf 54 0 9,zf 55 0 54,zl 56 55,z 57 (.max2 (.t 53) (.t 56)),zf 58 1 4,zs (.store 1 [none] (.t 58) (.t 57))])))))) (.aj [] [z 59 (.bin .add (.t
 33) (.c (.i .i64 1))),zm 33 59])))
def p40:bM:=⟨64,[.c 2 (some 6),.t 3],.seq (.aj [] [z 1 (.box 44 (.t 0)),z 2 (.alloc 44 [.i .i64 0,.i .i64 0,.nil,.nil,.i .i64 0,.b false]),z 3 (.aK (.c (.i .i64 0)))]) (.seq (.seq
 (.aj [] [zf 11 5 1,zl 12 11,z 13 (.un .not (.t 12))]) (.ite (.t 13) (.seq (.aj [] [z 14 (.build [.i .i64 0,.i .i64 0,.nil,.nil,.i .i64 0,.b false] []),zs (.store 6 [none,
 none,some 13,some 1,none,none] (.t 2) (.t 14)),z 3 (.aK (.c (.i .i64 8)))]) (.ret)) (.skip))) (.seq (.M1 [(4,44,[.i .i64 0,.i .i64 0,.nil,.nil,.i .i64 0,.b false])]
 [([zf 15 0 1,zl 16 15,zf 17 3 1,zl 18 17],z 19 (.call 60 [.t 18]),[zf 15 0 1,zl 16 15])] [] [z 20 (.build [.i .i64 0,.i .i64 0,.nil,.nil,.i .i64 0,.b false] [(0,1,.t
 16),(3,1,.t 19)])] [] [zs (.store 6 [none,none,some 13,some 1,none,none] (.t 4) (.t 20))]) (.seq (.aj [] [zf 21 3 4,zl 22 21,z 23 (.len false (.t 22)),zf 24 4 4,zs
 (.store 1 [none] (.t 24) (.t 23))]) (.seq (.aj [] [zf 26 3 4,zl 27 26,z 28 (.call 61 [.t 27]),zm 25 28,z 29 (.ext 0 (.t 25)),z 30 (.ext 1 (.t 25)),zm 5 29,zm 6 30]) (.seq
 (.seq (.aj [] [zm 31 5,z 32 (.len false (.t 31)),z 33 (.aK (.c (.i .i64 0)))]) (.block 0 (.loop UG))) (.seq (.aj [] [zf 60 2 4,zl 61 60,z 62 (.call 63 [.t 61,.c (.fn 64
 [])])]) (.seq (.aj [] [zL 63 6 4,zs (.store 6 [none,none,some 13,some 1,none,none] (.t 2) (.t 63)),z 3 (.aK (.c (.i .i64 0)))]) (.ret))))))))⟩
theorem c40:bL prog f40=some p40:=by kernel_rfl
def D1:bj:=.seq (.aj [] [z 17 (.bin .lss (.t 16) (.t 15))]) (.seq (.ite (.t 17) (.skip) (.exit 0)) (.seq (.block 1 (.seq (.aj [] [z 18 (.idx 13 (.t 14) (.t 16)),zL 19 13 18,z 5 (.alloc 65
 [.i .i64 0,.i .i64 0,.i .i64 0,.i .i64 0,.nil,.nil,.s [],.s [],.s [],.s [],.i .i64 0,.i .i64 0,.nil]),zs (.store 13 [none,none,none,none,some 3,some 3,none,none,
 none,none,none,none,some 1] (.t 5) (.t 19))]) (.aj [] [zm 20 3,zf 21 0 5,zf 22 1 21,zl 23 22,zf 24 0 5,zf 25 2 24,zl 26 25,z 27 (.build [.i .i64 0,.i .i64 0] [(0,1,.t
 23),(1,1,.t 26)]),z 28 (.build [] []),zs (.vT 3 [] (.t 20) (.t 27) (.t 28))]))) (.aj [] [z 29 (.bin .add (.t 16) (.c (.i .i64 1))),zm 16 29])))
def HC:bj:=.block 5 (.seq (.seq (.aj [] [zm 34 3,zm 35 7,zm 36 7,z 37 (.C2 8 1 (.t 6) (.t 36)),zl 38 37,z 39 (.bin .add (.t 38) (.c (.i .i64 1))),z 40 (.build [.i .i64 0,.i .i64 0]
 [(0,1,.t 35),(1,1,.t 39)]),z 41 (.look 3 (.agg []) true (.t 34) (.t 40)),zm 33 41,z 42 (.ext 0 (.t 33)),z 43 (.ext 1 (.t 33)),z 8 (.alloc 94 []),zs (.store 0 [] (.t 8)
 (.t 42)),zm 9 43]) (.seq (.aj [] [zm 44 9,z 45 (.un .not (.t 44))]) (.ite (.t 45) (.exit 4) (.skip)))) (.aj [] [zm 46 7,z 47 (.C2 8 1 (.t 6) (.t 46)),zl 48 47,z 49 (.bin
 .add (.t 48) (.c (.i .i64 1))),z 50 (.C2 8 1 (.t 6) (.t 46)),zs (.store 1 [none] (.t 50) (.t 49))]))
def HB:bj:=.seq (.aj [] [z 31 (.bin .lss (.t 30) (.c (.i .i64 8)))]) (.seq (.ite (.t 31) (.skip) (.exit 2)) (.seq (.block 3 (.seq (.aj [] [zm 32 30,zm 7 32]) (.block 4 (.loop HC))))
 (.aj [] [z 51 (.bin .add (.t 30) (.c (.i .i64 1))),zm 30 51])))
def p26:bM:=⟨54,[.t 2],.seq (.aj [] [z 1 (.box 44 (.t 0)),z 2 (.aK (.c .nil))]) (.seq (.seq (.aj [] [zf 10 5 1,zl 11 10]) (.ite (.t 11) (.seq (.aj [] [z 2 (.aK (.c .nil))]) (.ret))
 (.skip))) (.seq (.aj [] [z 12 (.pk 59 94),zm 3 12]) (.seq (.seq (.aj [] [zf 13 2 1,zl 14 13,z 15 (.len false (.t 14)),z 16 (.aK (.c (.i .i64 0)))]) (.block 0 (.loop
 D1))) (.seq (.aj [] [z 6 (.alloc 95 [.i .i64 0,.i .i64 0,.i .i64 0,.i .i64 0,.i .i64 0,.i .i64 0,.i .i64 0,.i .i64 0])]) (.seq (.seq (.aj [] [z 30 (.aK (.c (.i .i64
 0)))]) (.block 2 (.loop HB))) (.seq (.aj [] [z 52 (.TS 8 (.t 6)),z 53 (.call 51 [.t 52]),zm 2 53]) (.ret)))))))⟩
theorem c26:bL prog f26=some p26:=by kernel_rfl
def p43:bM:=⟨8,[.t 2],.seq (.aj [] [z 1 (.box 44 (.t 0)),z 2 (.aK (.c .nil))]) (.seq (.seq (.aj [] [zf 3 5 1,zl 4 3]) (.ite (.t 4) (.seq (.aj [] [z 2 (.aK (.c .nil))]) (.ret))
 (.skip))) (.seq (.aj [] [zf 5 2 1,zl 6 5,z 7 (.call 70 [.t 6]),zm 2 7]) (.ret)))⟩
theorem c43:bL prog f43=some p43:=by kernel_rfl
def xo:bj:=.seq (.seq (.aj [] [zm 9 5,zm 10 6,z 11 (.bin .lss (.t 9) (.t 10))]) (.ite (.t 11) (.skip) (.exit 0))) (.block 1 (.seq (.aj [] [zm 12 5,zm 13 6,z 14 (.bin .add (.t 12) (.t
 13)),z 15 (.rn .u64 (.t 14)),z 16 (.bin .shr (.t 15) (.c (.i .u64 1))),z 17 (.rn .i64 (.t 16)),zm 7 17]) (.seq (.aj [] [zm 18 1,zm 19 7,z 20 (.jy (.t 18) [.t 19]),z 21
 (.un .not (.t 20))]) (.ite (.t 21) (.aj [] [zm 22 7,z 23 (.bin .add (.t 22) (.c (.i .i64 1))),zm 5 23]) (.aj [] [zm 24 7,zm 6 24])))))
def V4:bM:=⟨26,[.t 4],.seq (.aj [] [z 4 (.aK (.c (.i .i64 0)))]) (.seq (.aj [] [zm 8 0,z 5 (.aK (.c (.i .i64 0))),zm 6 8]) (.seq (.block 0 (.loop xo)) (.seq (.aj [] [zm 25 5,zm 4
 25]) (.ret))))⟩
theorem aaO:bL prog f108=some V4:=by kernel_rfl
def p22:bM:=⟨12,[.c 2 (some 6)],.seq (.aj [] [z 1 (.box 44 (.t 0)),z 2 (.alloc 44 [.i .i64 0,.i .i64 0,.nil,.nil,.i .i64 0,.b false])]) (.seq (.df [([zf 3 2 1,zl 4 3,zf 6 3 1,zl 7
 6],z 5 (.call 46 [.t 4]),[zf 6 3 1,zl 7 6]),([zf 9 2 1],z 8 (.call 47 [.t 7]),[zf 9 2 1])] [] [] [zs (.store 1 [some 13] (.t 9) (.t 5)),zf 10 3 1,zs (.store 1 [some 1] (.t
 10) (.t 8))]) (.seq (.aj [] [zL 11 6 1,zs (.store 6 [none,none,some 13,some 1,none,none] (.t 2) (.t 11))]) (.ret)))⟩
theorem c22:bL prog f22=some p22:=by kernel_rfl
def Hy:bj:=.seq (.aj [] [z 9 (.bin .lss (.t 8) (.t 7))]) (.seq (.ite (.t 9) (.skip) (.exit 0)) (.seq (.block 1 (.seq (.aj [] [z 10 (.idx 13 (.t 6) (.t 8)),zL 11 13 10,z 5 (.alloc 65 [.i
 .i64 0,.i .i64 0,.i .i64 0,.i .i64 0,.nil,.nil,.s [],.s [],.s [],.s [],.i .i64 0,.i .i64 0,.nil]),zs (.store 13 [none,none,none,none,some 3,some 3,none,none,
 none,none,none,none,some 1] (.t 5) (.t 11))]) (.aj [] [zm 12 3,zL 13 13 5,z 14 (.call 48 [.t 13]),z 15 (.bQ 13 [none,none,none,none,some 3,some 3,none,none,none,
 none,none,none,some 1] [.t 14]),z 16 (.app 65 13 184 (.t 12) (.t 15)),zm 3 16]))) (.aj [] [z 17 (.bin .add (.t 8) (.c (.i .i64 1))),zm 8 17])))
def p46:bM:=⟨19,[.t 2],.seq (.aj [] [z 2 (.aK (.c .nil))]) (.seq (.aj [] [z 3 (.aK (.c .nil))]) (.seq (.seq (.aj [] [zm 6 0,z 7 (.len false (.t 6)),z 8 (.aK (.c (.i .i64 0)))])
 (.block 0 (.loop Hy))) (.seq (.aj [] [zm 18 3,zm 2 18]) (.ret))))⟩
theorem c46:bL prog f46=some p46:=by kernel_rfl
def BW:bj:=.seq (.aj [] [z 10 (.bin .lss (.t 9) (.t 8))]) (.seq (.ite (.t 10) (.skip) (.exit 0)) (.seq (.block 1 (.seq (.aj [] [z 11 (.idx 1 (.t 7) (.t 9)),zl 12 11,zm 6 12]) (.aj [] [zm
 13 0,zm 14 6,z 15 (.rn .u32 (.t 14)),z 16 (.bin .xor (.t 13) (.t 15)),z 17 (.bin .mul (.t 16) (.c (.i .u32 16777619))),zm 0 17]))) (.aj [] [z 18 (.bin .add (.t 9) (.c (.i
 .i64 1))),zm 9 18])))
def VM:bM:=⟨20,[.t 4],.seq (.aj [] [z 4 (.aK (.c (.i .u32 0)))]) (.seq (.seq (.aj [] [zm 7 1,z 8 (.len false (.t 7)),z 9 (.aK (.c (.i .i64 0)))]) (.block 0 (.loop BW))) (.seq (.aj
 [] [zm 19 0,zm 4 19]) (.ret)))⟩
theorem aaC:bL prog f127=some VM:=by kernel_rfl
def VE:bM:=⟨15,[.t 2],.seq (.aj [] [z 2 (.aK (.c .nil))]) (.seq (.aj [] [zm 3 0,z 4 (.bin .shr (.t 3) (.c (.i .u64 24))),z 5 (.rn .u8 (.t 4)),zm 6 0,z 7 (.bin .shr (.t 6) (.c (.i
 .u64 16))),z 8 (.rn .u8 (.t 7)),zm 9 0,z 10 (.bin .shr (.t 9) (.c (.i .u64 8))),z 11 (.rn .u8 (.t 10)),zm 12 0,z 13 (.rn .u8 (.t 12)),z 14 (.bQ 1 [none] [.t 5,.t 8,
 .t 11,.t 13]),zm 2 14]) (.ret))⟩
theorem aau:bL prog f151=some VE:=by kernel_rfl
def V3:bM:=⟨35,[.t 4,.t 5],.seq (.aj [] [z 4 (.aK (.c .nil)),z 5 (.aK (.c (.i .i64 0)))]) (.seq (.seq (.aj [12,13,14,15,16,17,18] [zm 8 1,z 9 (.len false (.t 8)),z 10 (.bin
 .gtr (.t 9) (.c (.i .i64 65536))),zm 11 10,⟨some 12,[(11,false)],.aK (.t 0)⟩,⟨some 13,[(11,false)],.len false (.t 12)⟩,⟨some 14,[(11,false)],.bin .add (.t 13) (.c (.i
 .i64 8))⟩,⟨some 15,[(11,false)],.aK (.t 1)⟩,⟨some 16,[(11,false)],.len false (.t 15)⟩,⟨some 17,[(11,false)],.bin .add (.t 14) (.t 16)⟩,⟨some 18,[(11,false)],.bin
 .gtr (.t 17) (.c (.i .i64 4194304))⟩,z 19 (.pick (.t 11) (.c (.b true)) (.t 18))]) (.ite (.t 19) (.seq (.aj [] [z 4 (.aK (.c .nil)),z 5 (.aK (.c (.i .i64 3)))]) (.ret))
 (.skip))) (.seq (.aj [] [zm 20 1,z 21 (.len false (.t 20)),z 22 (.rn .u32 (.t 21)),z 23 (.call 151 [.t 22]),zm 6 23]) (.seq (.aj [] [zm 24 6,z 25 (.call 127 [.c (.i .u32
 2166136261),.t 24]),zm 26 1,z 27 (.call 127 [.t 25,.t 26]),z 28 (.call 151 [.t 27]),zm 7 28]) (.seq (.aj [] [zm 29 0,zm 30 6,zm 31 7,zm 32 1,z 33 (.bQ 1 [some 1] [.t
 29,.t 30,.t 31,.t 32]),z 34 (.call 152 [.t 33]),zm 4 34,z 5 (.aK (.c (.i .i64 0)))]) (.ret)))))⟩
theorem zI:bL prog f110=some V3:=by kernel_rfl
def BS:bj:=.seq (.aj [] [z 12 (.bin .lss (.t 11) (.t 10))]) (.seq (.ite (.t 12) (.skip) (.exit 0)) (.seq (.block 1 (.seq (.aj [] [z 13 (.idx 1 (.t 9) (.t 11)),zl 14 13,zm 5 14]) (.seq
 (.aj [] [zm 15 3,zm 16 5,z 17 (.len false (.t 16)),z 18 (.bin .add (.t 15) (.t 17)),zm 3 18]) (.seq (.aj [] [zm 19 3,z 20 (.bin .lss (.t 19) (.c (.i .i64 0)))]) (.ite (.t 20)
 (.aj [] [z 21 (.stop),zs (.stop)]) (.skip)))))) (.aj [] [z 22 (.bin .add (.t 11) (.c (.i .i64 1))),zm 11 22])))
def BR:bj:=.seq (.aj [] [z 28 (.bin .lss (.t 27) (.t 26))]) (.seq (.ite (.t 28) (.skip) (.exit 2)) (.seq (.block 3 (.seq (.aj [] [z 29 (.idx 1 (.t 25) (.t 27)),zl 30 29,zm 8 30]) (.aj []
 [zm 31 6,zm 32 8,z 33 (.app 5 1 1 (.t 31) (.t 32)),zm 6 33]))) (.aj [] [z 34 (.bin .add (.t 27) (.c (.i .i64 1))),zm 27 34])))
def VD:bM:=⟨36,[.t 2],.seq (.aj [] [z 2 (.aK (.c .nil))]) (.seq (.aj [] [z 3 (.aK (.c (.i .i64 0)))]) (.seq (.seq (.aj [] [zm 9 0,z 10 (.len false (.t 9)),z 11 (.aK (.c (.i .i64
 0)))]) (.block 0 (.loop BS))) (.seq (.aj [] [zm 23 3,z 24 (.call 185 [.c .nil,.t 23]),zm 6 24]) (.seq (.seq (.aj [] [zm 25 0,z 26 (.len false (.t 25)),z 27 (.aK (.c (.i
 .i64 0)))]) (.block 2 (.loop BR))) (.seq (.aj [] [zm 35 6,zm 2 35]) (.ret))))))⟩
theorem aat:bL prog f152=some VD:=by kernel_rfl
def V2:bM:=⟨95,[.t 6],.seq (.aj [] [z 6 (.aK (.c .nil))]) (.seq (.aj [] [zm 10 0,zm 11 1,z 12 (.slice 13 (.t 10) (some (.t 11)) none)]) (.seq (.aj [] [zm 13 2,z 14 (.len false (.t
 13)),zm 7 14]) (.seq (.seq (.aj [] [zm 15 7,z 16 (.bin .eql (.t 15) (.c (.i .i64 0)))]) (.ite (.t 16) (.seq (.aj [] [zm 17 0,zm 6 17]) (.ret)) (.skip))) (.seq (.aj [] [zm 18
 0,z 19 (.len false (.t 18)),zm 8 19]) (.seq (.seq (.aj [] [zm 20 1,zm 21 8,z 22 (.bin .eql (.t 20) (.t 21))]) (.ite (.t 22) (.seq (.aj [] [zm 23 0,zm 24 2,z 25 (.app 65 13
 184 (.t 23) (.t 24)),zm 6 25]) (.ret)) (.skip))) (.seq (.seq (.aj [] [zm 26 8,zm 27 7,z 28 (.bin .add (.t 26) (.t 27)),zm 29 0,z 30 (.stop),z 31 (.bin .gtr (.t 28) (.t 30))])
 (.ite (.t 31) (.seq (.aj [] [zm 32 0,zm 33 1,z 34 (.slice 13 (.t 32) none (some (.t 33))),zm 35 8,zm 36 7,z 37 (.bin .add (.t 35) (.t 36)),zm 38 1,z 39 (.bin .sub (.t 37)
 (.t 38)),z 40 (.stop),zm 9 40]) (.seq (.aj [] [zm 41 9,zm 42 1,z 43 (.slice 13 (.t 41) (some (.t 42)) none),zm 44 2,z 45 (.stop)]) (.seq (.df [] [zm 46 9,zm 47 1,zm 48 7,
 z 49 (.bin .add (.t 47) (.t 48)),z 50 (.slice 13 (.t 46) (some (.t 49)) none),zm 51 0,zm 52 1,z 53 (.slice 13 (.t 51) (some (.t 52)) none)] [] [z 54 (.stop)]) (.seq (.aj [] [zm
 55 9,zm 6 55]) (.ret))))) (.skip))) (.seq (.aj [] [zm 56 0,zm 57 8,zm 58 7,z 59 (.bin .add (.t 57) (.t 58)),z 60 (.slice 13 (.t 56) none (some (.t 59))),zm 0 60]) (.seq (.seq
 (.aj [] [zm 61 2,zm 62 0,zm 63 1,zm 64 7,z 65 (.bin .add (.t 63) (.t 64)),z 66 (.slice 13 (.t 62) (some (.t 65)) none),z 67 (.stop),z 68 (.un .not (.t 67))]) (.ite (.t 68)
 (.seq (.df [] [zm 69 0,zm 70 1,zm 71 7,z 72 (.bin .add (.t 70) (.t 71)),z 73 (.slice 13 (.t 69) (some (.t 72)) none),zm 74 0,zm 75 1,z 76 (.slice 13 (.t 74) (some (.t 75))
 none)] [] [z 77 (.stop)]) (.seq (.aj [] [zm 78 0,zm 79 1,z 80 (.slice 13 (.t 78) (some (.t 79)) none),zm 81 2,z 82 (.stop)]) (.seq (.aj [] [zm 83 0,zm 6 83]) (.ret))))
 (.skip))) (.seq (.aj [] [zm 84 0,zm 85 8,z 86 (.slice 13 (.t 84) (some (.t 85)) none),zm 87 2,z 88 (.stop)]) (.seq (.aj [] [zm 89 0,zm 90 1,z 91 (.slice 13 (.t 89) (some (.t
 90)) none),zm 92 7,z 93 (.call 154 [.t 91,.t 92])]) (.seq (.aj [] [zm 94 0,zm 6 94]) (.ret))))))))))))⟩
theorem aaN:bL prog f111=some V2:=by kernel_rfl
def p38:bM:=⟨15,[.c 2 (some 6),.t 3],.seq (.aj [] [z 1 (.box 44 (.t 0)),z 2 (.alloc 44 [.i .i64 0,.i .i64 0,.nil,.nil,.i .i64 0,.b false]),z 3 (.aK (.c (.i .i64 0)))]) (.seq (.seq
 (.aj [] [zf 5 5 1,zl 6 5]) (.ite (.t 6) (.seq (.aj [] [z 7 (.build [.i .i64 0,.i .i64 0,.nil,.nil,.i .i64 0,.b false] []),zs (.store 6 [none,none,some 13,some 1,none,
 none] (.t 2) (.t 7)),z 3 (.aK (.c (.i .i64 15)))]) (.ret)) (.skip))) (.seq (.aj [] [zL 8 6 1,z 9 (.call 22 [.t 8]),z 4 (.alloc 44 [.i .i64 0,.i .i64 0,.nil,.nil,.i .i64 0,
 .b false]),zs (.store 6 [none,none,some 13,some 1,none,none] (.t 4) (.t 9))]) (.seq (.aj [] [zf 10 3 4,zl 11 10,z 12 (.len false (.t 11)),zf 13 4 4,zs (.store 1 [none]
 (.t 13) (.t 12))]) (.seq (.aj [] [zL 14 6 4,zs (.store 6 [none,none,some 13,some 1,none,none] (.t 2) (.t 14)),z 3 (.aK (.c (.i .i64 0)))]) (.ret)))))⟩
theorem c38:bL prog f38=some p38:=by kernel_rfl
def HD:bj:=.seq (.aj [] [z 14 (.bin .lss (.t 13) (.t 12))]) (.seq (.ite (.t 14) (.skip) (.exit 0)) (.seq (.block 1 (.seq (.aj [] [z 15 (.idx 13 (.t 11) (.t 13)),zL 16 13 15,z 7 (.alloc 65
 [.i .i64 0,.i .i64 0,.i .i64 0,.i .i64 0,.nil,.nil,.s [],.s [],.s [],.s [],.i .i64 0,.i .i64 0,.nil]),zs (.store 13 [none,none,none,none,some 3,some 3,none,none,
 none,none,none,none,some 1] (.t 7) (.t 16))]) (.seq (.aj [] [zm 17 1,zf 18 0 7,zL 19 3 18,z 20 (.call 50 [.t 17,.t 19]),z 21 (.un .not (.t 20))]) (.ite (.t 21) (.aj []
 [zm 22 5,zL 23 13 7,z 24 (.call 48 [.t 23]),z 25 (.bQ 13 [none,none,none,none,some 3,some 3,none,none,none,none,none,none,some 1] [.t 24]),z 26 (.app 65 13 184
 (.t 22) (.t 25)),zm 5 26]) (.skip))))) (.aj [] [z 27 (.bin .add (.t 13) (.c (.i .i64 1))),zm 13 27])))
def p25:bM:=⟨29,[.t 4],.seq (.aj [] [z 2 (.box 44 (.t 0)),z 4 (.aK (.c .nil))]) (.seq (.seq (.aj [] [zf 8 5 2,zl 9 8]) (.ite (.t 9) (.seq (.aj [] [z 4 (.aK (.c .nil))]) (.ret))
 (.skip))) (.seq (.aj [] [z 5 (.aK (.c .nil))]) (.seq (.seq (.aj [] [zf 10 2 2,zl 11 10,z 12 (.len false (.t 11)),z 13 (.aK (.c (.i .i64 0)))]) (.block 0 (.loop HD))) (.seq
 (.aj [] [zm 28 5,zm 4 28]) (.ret)))))⟩
theorem c25:bL prog f25=some p25:=by kernel_rfl
end Go.Proofs.Tryz
