/- A part of the proof that for every input the law NetworkLimits returns true and leaves its argument as it was. -/
import Derived.Test.YtgihcpilgfbggaaGreatDoorProg
import Derived.KernelRfl
import Derived.Test.YtgihcpilgfbggaaGreatDoorL14
set_option linter.all false

namespace Go.Proofs.Tryz
open Go Go.Pm
def p20:bM:=⟨12,[.t 4],.seq (.aj [] [z 4 (.aK (.c (.b false)))]) (.seq (.aj [8,9,10] [zm 5 0,z 6 (.bin .geq (.t 5) (.c (.i .i64 0))),zm 7 6,⟨some 8,[(7,true)],.aK (.t 0)⟩,⟨some
 9,[(7,true)],.aK (.t 1)⟩,⟨some 10,[(7,true)],.bin .lss (.t 8) (.t 9)⟩,z 11 (.pick (.t 7) (.t 10) (.c (.b false))),zm 4 11]) (.ret))⟩
theorem c20:bL prog f20=some p20:=by kernel_rfl
def p27:bM:=⟨12,[.c 4 (some 2)],.seq (.aj [] [z 4 (.alloc 59 [.i .i64 0,.i .i64 0])]) (.seq (.aj [] [zm 5 0,zm 6 1,z 7 (.min2 (.t 5) (.t 6)),zm 8 0,zm 9 1,z 10 (.max2 (.t 8) (.t 9)),
 z 11 (.build [.i .i64 0,.i .i64 0] [(0,1,.t 7),(1,1,.t 10)]),zs (.store 2 [none] (.t 4) (.t 11))]) (.ret))⟩
theorem c27:bL prog f27=some p27:=by kernel_rfl
def p24:bM:=⟨13,[.t 6],.seq (.aj [] [z 3 (.box 26 (.t 0)),z 6 (.aK (.c (.b false)))]) (.seq (.df [([zf 7 2 3,zl 8 7,zm 9 1,zm 10 2],z 11 (.call 27 [.t 9,.t 10]),[zf 7 2 3,zl 8
 7])] [] [] [z 12 (.call 49 [.t 8,.t 11]),zm 6 12]) (.ret))⟩
theorem c24:bL prog f24=some p24:=by kernel_rfl
def p23:bM:=⟨8,[.c 2 (some 15)],.seq (.aj [] [z 1 (.box 67 (.t 0)),z 2 (.alloc 67 [.i .i64 0,.i .i64 0,.i .i64 0,.i .i64 0,.i .i64 0,.i .i64 0,.nil,.nil,.s [],.s [],.s [],.s [],
 .i .i64 0,.i .i64 0,.nil])]) (.seq (.aj [] [zf 3 2 1,zL 4 13 3,z 5 (.call 48 [.t 4]),zf 6 2 1,zs (.store 13 [none,none,none,none,some 3,some 3,none,none,none,none,
 none,none,some 1] (.t 6) (.t 5))]) (.seq (.aj [] [zL 7 15 1,zs (.store 15 [none,none,none,none,none,none,some 3,some 3,none,none,none,none,none,none,some 1] (.t 2)
 (.t 7))]) (.ret)))⟩
theorem c23:bL prog f23=some p23:=by kernel_rfl
def p9:bM:=⟨44,[.t 4],.seq (.aj [] [z 2 (.box 26 (.t 0)),z 3 (.box 37 (.t 1)),z 4 (.aK (.c (.b false)))]) (.seq (.aj [] [zf 6 1 3,zl 7 6,zf 8 0 2,zl 9 8,z 10 (.len false (.t 9)),z
 11 (.call 20 [.t 7,.t 10]),zm 5 11]) (.seq (.seq (.aj [] [zf 12 0 3,zl 13 12]) (.block 0 (.seq (.seq (.aj [] [z 15 (.bin .eql (.t 13) (.c (.i .i64 1))),zm 14 15]) (.ite (.t
 14) (.skip) (.seq (.aj [] [z 16 (.bin .eql (.t 13) (.c (.i .i64 2))),zm 14 16]) (.ite (.t 14) (.skip) (.seq (.aj [] [z 17 (.bin .eql (.t 13) (.c (.i .i64 9))),zm 14 17]) (.ite
 (.t 14) (.skip) (.seq (.aj [] [z 18 (.bin .eql (.t 13) (.c (.i .i64 10))),zm 14 18]) (.ite (.t 14) (.skip) (.aj [] [z 19 (.bin .eql (.t 13) (.c (.i .i64 11))),zm 14 19])))))))))
 (.ite (.t 14) (.seq (.aj [] [zm 20 5,zm 4 20]) (.ret)) (.seq (.seq (.aj [] [z 22 (.bin .eql (.t 13) (.c (.i .i64 3))),zm 21 22]) (.ite (.t 21) (.skip) (.seq (.aj [] [z 23 (.bin
 .eql (.t 13) (.c (.i .i64 7))),zm 21 23]) (.ite (.t 21) (.skip) (.aj [] [z 24 (.bin .eql (.t 13) (.c (.i .i64 8))),zm 21 24]))))) (.ite (.t 21) (.seq (.aj [27,28,29,30,31,
 32] [zm 25 5,zm 26 25,⟨some 27,[(26,true)],.eG 2 (.t 3)⟩,⟨some 28,[(26,true)],.load none (.t 27)⟩,⟨some 29,[(26,true)],.eG 0 (.t 2)⟩,⟨some 30,[(26,true)],.load
 none (.t 29)⟩,⟨some 31,[(26,true)],.len false (.t 30)⟩,⟨some 32,[(26,true)],.call 20 [.t 28,.t 31]⟩,z 33 (.pick (.t 26) (.t 32) (.c (.b false))),zm 4 33]) (.ret)) (.seq
 (.seq (.aj [] [z 35 (.bin .eql (.t 13) (.c (.i .i64 4))),zm 34 35]) (.ite (.t 34) (.skip) (.seq (.aj [] [z 36 (.bin .eql (.t 13) (.c (.i .i64 5))),zm 34 36]) (.ite (.t 34)
 (.skip) (.aj [] [z 37 (.bin .eql (.t 13) (.c (.i .i64 6))),zm 34 37]))))) (.ite (.t 34) (.seq (.aj [] [zf 38 3 3,zl 39 38,zf 40 1 2,zl 41 40,z 42 (.len false (.t 41)),z 43
 (.call 20 [.t 39,.t 42]),zm 4 43]) (.ret)) (.skip))))))))) (.seq (.aj [] [z 4 (.aK (.c (.b false)))]) (.ret))))⟩
theorem c9:bL prog f9=some p9:=by kernel_rfl
def HM:bj:=.seq (.aj [] [z 16 (.bin .lss (.t 15) (.t 14))]) (.seq (.ite (.t 16) (.skip) (.exit 0)) (.seq (.block 1 (.seq (.aj [] [z 17 (.idx 6 (.t 13) (.t 15)),zL 18 6 17,z 5 (.alloc 44
 [.i .i64 0,.i .i64 0,.nil,.nil,.i .i64 0,.b false]),zs (.store 6 [none,none,some 13,some 1,none,none] (.t 5) (.t 18))]) (.df [([zf 19 0 3,zl 20 19,zL 21 6 5],z 22
 (.call 22 [.t 21]),[zf 19 0 3,zl 20 19])] [z 23 (.bQ 6 [none,none,some 13,some 1,none,none] [.t 22])] [] [z 24 (.app 44 6 80 (.t 20) (.t 23)),zf 25 0 3,zs (.store 1
 [some 6] (.t 25) (.t 24))]))) (.aj [] [z 26 (.bin .add (.t 15) (.c (.i .i64 1))),zm 15 26])))
def HL:bj:=.seq (.aj [] [z 31 (.bin .lss (.t 30) (.t 29))]) (.seq (.ite (.t 31) (.skip) (.exit 2)) (.seq (.block 3 (.seq (.aj [] [z 32 (.idx 15 (.t 28) (.t 30)),zL 33 15 32,z 7 (.alloc 67
 [.i .i64 0,.i .i64 0,.i .i64 0,.i .i64 0,.i .i64 0,.i .i64 0,.nil,.nil,.s [],.s [],.s [],.s [],.i .i64 0,.i .i64 0,.nil]),zs (.store 15 [none,none,none,none,none,
 none,some 3,some 3,none,none,none,none,none,none,some 1] (.t 7) (.t 33))]) (.df [([zf 34 1 3,zl 35 34,zL 36 15 7],z 37 (.call 23 [.t 36]),[zf 34 1 3,zl 35 34])] [z
 38 (.bQ 15 [none,none,none,none,none,none,some 3,some 3,none,none,none,none,none,none,some 1] [.t 37])] [] [z 39 (.app 67 15 200 (.t 35) (.t 38)),zf 40 1 3,zs
 (.store 1 [some 15] (.t 40) (.t 39))]))) (.aj [] [z 41 (.bin .add (.t 30) (.c (.i .i64 1))),zm 30 41])))
def p10:bM:=⟨43,[.c 2 (some 3)],.seq (.aj [] [z 1 (.box 26 (.t 0)),z 2 (.alloc 26 [.nil,.nil,.nil])]) (.seq (.aj [] [zf 8 2 1,zl 9 8,z 10 (.call 21 [.t 9]),z 11 (.build [.nil,.nil,
 .nil] [(2,1,.t 10)]),z 3 (.alloc 26 [.nil,.nil,.nil]),zs (.store 3 [some 6,some 15,some 2] (.t 3) (.t 11))]) (.seq (.seq (.aj [] [zf 12 0 1,zl 13 12,z 14 (.len false (.t
 13)),z 15 (.aK (.c (.i .i64 0)))]) (.block 0 (.loop HM))) (.seq (.seq (.aj [] [zf 27 1 1,zl 28 27,z 29 (.len false (.t 28)),z 30 (.aK (.c (.i .i64 0)))]) (.block 2 (.loop
 HL))) (.seq (.aj [] [zL 42 3 3,zs (.store 3 [some 6,some 15,some 2] (.t 2) (.t 42))]) (.ret)))))⟩
theorem NR:bL prog f10=some p10:=by kernel_rfl
def Oh:bj:=.seq (.aj [] [z 17 (.bin .lss (.t 16) (.t 15))]) (.seq (.ite (.t 17) (.skip) (.exit 0)) (.seq (.block 1 (.seq (.aj [] [zm 18 16,zm 5 18]) (.seq (.aj [] [zm 20 5,z 21 (.call 8
 [.t 20]),zm 19 21,z 22 (.ext 0 (.t 19)),z 23 (.ext 1 (.t 19)),z 6 (.alloc 44 [.i .i64 0,.i .i64 0,.nil,.nil,.i .i64 0,.b false]),zs (.store 6 [none,none,some 13,some 1,
 none,none] (.t 6) (.t 22)),zm 7 23]) (.aj [] [zf 24 0 4,zl 25 24,zL 26 6 6,z 27 (.bQ 6 [none,none,some 13,some 1,none,none] [.t 26]),z 28 (.app 44 6 80 (.t 25) (.t
 27)),zf 29 0 4,zs (.store 1 [some 6] (.t 29) (.t 28))])))) (.aj [] [z 30 (.bin .add (.t 16) (.c (.i .i64 1))),zm 16 30])))
def p4:bM:=⟨32,[.c 2 (some 3),.t 3],.seq (.aj [] [z 2 (.alloc 26 [.nil,.nil,.nil]),z 3 (.aK (.c (.i .i64 0)))]) (.seq (.seq (.aj [11,12] [zm 8 0,z 9 (.bin .lss (.t 8) (.c (.i .i64
 1))),zm 10 9,⟨some 11,[(10,false)],.aK (.t 0)⟩,⟨some 12,[(10,false)],.bin .gtr (.t 11) (.c (.i .i64 8))⟩,z 13 (.pick (.t 10) (.c (.b true)) (.t 12))]) (.ite (.t 13) (.seq
 (.aj [] [z 14 (.build [.nil,.nil,.nil] []),zs (.store 3 [some 6,some 15,some 2] (.t 2) (.t 14)),z 3 (.aK (.c (.i .i64 1)))]) (.ret)) (.skip))) (.seq (.aj [] [z 4 (.alloc 26
 [.nil,.nil,.nil])]) (.seq (.seq (.aj [] [zm 15 0,z 16 (.aK (.c (.i .i64 0)))]) (.block 0 (.loop Oh))) (.seq (.aj [] [zL 31 3 4,zs (.store 3 [some 6,some 15,some 2] (.t 2)
 (.t 31)),z 3 (.aK (.c (.i .i64 0)))]) (.ret)))))⟩
theorem c4:bL prog f4=some p4:=by kernel_rfl
def p14:bM:=⟨68,[.t 4],.seq (.aj [] [z 3 (.box 37 (.t 1)),z 4 (.aK (.c (.i .i64 0)))]) (.seq (.df [([zm 7 0,z 8 (.dF (.t 7)),zf 9 0 8,zl 10 9,zf 11 1 3,zl 12 11,z 13 (.idx 6 (.t
 10) (.t 12)),zL 14 6 13],z 5 (.alloc 44 [.i .i64 0,.i .i64 0,.nil,.nil,.i .i64 0,.b false]),[z 8 (.dF (.t 7)),zf 9 0 8,zl 10 9,zf 11 1 3,zl 12 11,z 13 (.idx 6 (.t
 10) (.t 12)),zL 14 6 13])] [] [] [zs (.store 6 [none,none,some 13,some 1,none,none] (.t 5) (.t 14))]) (.seq (.aj [] [z 6 (.aK (.c (.i .i64 0)))]) (.seq (.seq (.aj [] [zf 15
 0 3,zl 16 15]) (.block 0 (.seq (.aj [] [z 18 (.bin .eql (.t 16) (.c (.i .i64 1))),zm 17 18]) (.ite (.t 17) (.aj [] [zL 20 6 5,zf 21 4 3,zL 22 8 21,z 23 (.call 36 [.t 20,.t
 22]),zm 19 23,z 24 (.ext 0 (.t 19)),z 25 (.ext 1 (.t 19)),z 26 (.ext 2 (.t 19)),zs (.store 6 [none,none,some 13,some 1,none,none] (.t 5) (.t 24)),zm 6 26]) (.seq (.aj []
 [z 28 (.bin .eql (.t 16) (.c (.i .i64 2))),zm 27 28]) (.ite (.t 27) (.aj [] [zL 30 6 5,zf 31 4 3,zL 32 8 31,z 33 (.call 37 [.t 30,.t 32]),zm 29 33,z 34 (.ext 0 (.t 29)),z
 35 (.ext 1 (.t 29)),z 36 (.ext 2 (.t 29)),zs (.store 6 [none,none,some 13,some 1,none,none] (.t 5) (.t 34)),zm 6 36]) (.seq (.aj [] [z 38 (.bin .eql (.t 16) (.c (.i .i64
 9))),zm 37 38]) (.ite (.t 37) (.aj [] [zL 40 6 5,z 41 (.call 38 [.t 40]),zm 39 41,z 42 (.ext 0 (.t 39)),z 43 (.ext 1 (.t 39)),zs (.store 6 [none,none,some 13,some 1,none,
 none] (.t 5) (.t 42)),zm 6 43]) (.seq (.aj [] [z 45 (.bin .eql (.t 16) (.c (.i .i64 10))),zm 44 45]) (.ite (.t 44) (.seq (.seq (.aj [] [zf 46 5 5,zl 47 46]) (.ite (.t 47) (.seq
 (.aj [] [z 4 (.aK (.c (.i .i64 15)))]) (.ret)) (.skip))) (.aj [] [zL 48 6 5,zf 49 3 3,zl 50 49,z 51 (.call 39 [.t 48,.t 50]),zs (.store 6 [none,none,some 13,some 1,none,
 none] (.t 5) (.t 51))])) (.seq (.aj [] [z 53 (.bin .eql (.t 16) (.c (.i .i64 11))),zm 52 53]) (.ite (.t 52) (.aj [] [zL 55 6 5,z 56 (.call 40 [.t 55]),zm 54 56,z 57 (.ext 0
 (.t 54)),z 58 (.ext 1 (.t 54)),zs (.store 6 [none,none,some 13,some 1,none,none] (.t 5) (.t 57)),zm 6 58]) (.skip))))))))))))) (.seq (.df [] [zm 59 0,z 60 (.dF (.t
 59)),zf 61 0 60,zl 62 61,zf 63 1 3,zl 64 63,zL 65 6 5] [] [z 66 (.idx 6 (.t 62) (.t 64)),zs (.store 6 [none,none,some 13,some 1,none,none] (.t 66) (.t 65))]) (.seq (.aj
 [] [zm 67 6,zm 4 67]) (.ret))))))⟩
theorem c14:bL prog f14=some p14:=by kernel_rfl
def HK:bj:=.seq (.aj [] [z 68 (.bin .lss (.t 67) (.t 66))]) (.seq (.ite (.t 68) (.skip) (.exit 1)) (.seq (.block 2 (.seq (.aj [] [z 69 (.idx 13 (.t 65) (.t 67)),zL 70 13 69,z 9 (.alloc 65
 [.i .i64 0,.i .i64 0,.i .i64 0,.i .i64 0,.nil,.nil,.s [],.s [],.s [],.s [],.i .i64 0,.i .i64 0,.nil]),zs (.store 13 [none,none,none,none,some 3,some 3,none,none,
 none,none,none,none,some 1] (.t 9) (.t 70))]) (.df [([zm 71 0,zm 72 0,z 73 (.dF (.t 72)),zf 74 1 73,zl 75 74,zm 76 1,zm 77 2,zL 78 13 9,z 79 (.build [.i .i64 0,.i
 .i64 0,.i .i64 0,.i .i64 0,.i .i64 0,.i .i64 0,.nil,.nil,.s [],.s [],.s [],.s [],.i .i64 0,.i .i64 0,.nil] [(0,1,.t 76),(1,1,.t 77),(2,13,.t 78)]),z 80
 (.bQ 15 [none,none,none,none,none,none,some 3,some 3,none,none,none,none,none,none,some 1] [.t 79])],z 81 (.app 67 15 200 (.t 75) (.t 80)),[])] [] [] [z 82
 (.dF (.t 71)),zf 83 1 82,zs (.store 1 [some 15] (.t 83) (.t 81))]))) (.aj [] [z 84 (.bin .add (.t 67) (.c (.i .i64 1))),zm 67 84])))
def Yr:bM:=⟨85,[.t 6],.seq (.aj [] [z 6 (.aK (.c (.i .i64 0)))]) (.seq (.block 0 (.seq (.aj [] [zm 11 1,zm 12 2,z 13 (.bin .eql (.t 11) (.t 12)),zm 10 13]) (.ite (.t 10) (.seq (.aj []
 [z 6 (.aK (.c (.i .i64 1)))]) (.ret)) (.seq (.aj [24,25,26,27,28,29,30,31] [zm 15 0,z 16 (.dF (.t 15)),zf 17 0 16,zl 18 17,zm 19 1,z 20 (.idx 6 (.t 18) (.t 19)),zf
 21 5 20,zl 22 21,zm 23 22,⟨some 24,[(23,false)],.aK (.t 0)⟩,⟨some 25,[(23,false)],.dF (.t 24)⟩,⟨some 26,[(23,false)],.eG 0 (.t 25)⟩,⟨some 27,[(23,false)],
 .load none (.t 26)⟩,⟨some 28,[(23,false)],.aK (.t 2)⟩,⟨some 29,[(23,false)],.idx 6 (.t 27) (.t 28)⟩,⟨some 30,[(23,false)],.eG 5 (.t 29)⟩,⟨some 31,[(23,false)],
 .load none (.t 30)⟩,z 32 (.pick (.t 23) (.c (.b true)) (.t 31)),zm 14 32]) (.ite (.t 14) (.seq (.aj [] [z 6 (.aK (.c (.i .i64 15)))]) (.ret)) (.seq (.aj [] [zm 34 0,z 35
 (.dF (.t 34)),zL 36 3 35,zm 37 1,zm 38 2,z 39 (.call 24 [.t 36,.t 37,.t 38]),zm 33 39]) (.ite (.t 33) (.seq (.aj [] [z 6 (.aK (.c (.i .i64 8)))]) (.ret)) (.skip))))))))
 (.seq (.df [([zm 40 0,z 41 (.dF (.t 40)),zf 42 0 41,zl 43 42,zm 44 1,z 45 (.idx 6 (.t 43) (.t 44)),zL 46 6 45,zm 47 0,z 48 (.dF (.t 47)),zf 49 0 48,zl 50 49,zm 51
 2,z 52 (.idx 6 (.t 50) (.t 51)),zL 53 6 52],z 54 (.call 26 [.t 53]),[z 41 (.dF (.t 40)),zf 42 0 41,zl 43 42,z 45 (.idx 6 (.t 43) (.t 44)),zL 46 6 45])] [] [] [z 55 (.call
 25 [.t 46,.t 54]),zm 7 55]) (.seq (.seq (.aj [] [zm 56 0,z 57 (.dF (.t 56)),zf 58 1 57,zl 59 58,z 60 (.len false (.t 59)),zm 61 7,z 62 (.len false (.t 61)),z 63 (.bin
 .add (.t 60) (.t 62)),z 64 (.bin .gtr (.t 63) (.c (.i .i64 256)))]) (.ite (.t 64) (.seq (.aj [] [z 6 (.aK (.c (.i .i64 3)))]) (.ret)) (.skip))) (.seq (.seq (.aj [] [zm 65 7,z
 66 (.len false (.t 65)),z 67 (.aK (.c (.i .i64 0)))]) (.block 1 (.loop HK))) (.seq (.aj [] [z 6 (.aK (.c (.i .i64 0)))]) (.ret))))))⟩
theorem c11:bL prog f11=some Yr:=by kernel_rfl
def p13:bM:=⟨65,[.t 4],.seq (.aj [] [z 3 (.box 37 (.t 1)),z 4 (.aK (.c (.i .i64 0)))]) (.seq (.df [([zm 7 0,z 8 (.dF (.t 7)),zf 9 1 8,zl 10 9,zf 11 3 3,zl 12 11,z 13 (.idx 15
 (.t 10) (.t 12)),zL 14 15 13],z 5 (.alloc 67 [.i .i64 0,.i .i64 0,.i .i64 0,.i .i64 0,.i .i64 0,.i .i64 0,.nil,.nil,.s [],.s [],.s [],.s [],.i .i64 0,.i .i64 0,
 .nil]),[z 8 (.dF (.t 7)),zf 9 1 8,zl 10 9,zf 11 3 3,zl 12 11,z 13 (.idx 15 (.t 10) (.t 12)),zL 14 15 13])] [] [] [zs (.store 15 [none,none,none,none,none,none,some
 3,some 3,none,none,none,none,none,none,some 1] (.t 5) (.t 14))]) (.seq (.seq (.aj [] [zf 15 0 3,zl 16 15]) (.block 0 (.seq (.aj [] [z 18 (.bin .eql (.t 16) (.c (.i .i64
 6))),zm 17 18]) (.ite (.t 17) (.seq (.seq (.aj [] [zm 19 0,z 20 (.dF (.t 19)),zf 21 1 20,zl 22 21,z 23 (.len false (.t 22)),z 24 (.bin .eql (.t 23) (.c (.i .i64 256)))])
 (.ite (.t 24) (.seq (.aj [] [z 4 (.aK (.c (.i .i64 3)))]) (.ret)) (.skip))) (.seq (.df [([zm 25 0,zm 26 0,z 27 (.dF (.t 26)),zf 28 1 27,zl 29 28,zL 30 15 5],z 31 (.call
 23 [.t 30]),[z 27 (.dF (.t 26)),zf 28 1 27,zl 29 28]),([z 32 (.bQ 15 [none,none,none,none,none,none,some 3,some 3,none,none,none,none,none,none,some 1] [.t
 31])],z 33 (.app 67 15 200 (.t 29) (.t 32)),[])] [] [] [z 34 (.dF (.t 25)),zf 35 1 34,zs (.store 1 [some 15] (.t 35) (.t 33))]) (.seq (.aj [] [z 4 (.aK (.c (.i .i64 0)))])
 (.ret)))) (.seq (.aj [] [z 37 (.bin .eql (.t 16) (.c (.i .i64 4))),zm 36 37]) (.ite (.t 36) (.seq (.seq (.df [] [zm 38 0,z 39 (.dF (.t 38)),zL 40 3 39,zf 41 0 5,zl 42 41,
 zf 43 1 5,zl 44 43] [] [z 45 (.call 24 [.t 40,.t 42,.t 44])]) (.ite (.t 45) (.seq (.aj [] [z 4 (.aK (.c (.i .i64 8)))]) (.ret)) (.skip))) (.seq (.aj [] [zm 46 0,zL 47 15 5,z
 48 (.call 34 [.t 46,.t 47]),zm 6 48]) (.seq (.aj [] [zm 49 6,z 50 (.bin .neq (.t 49) (.c (.i .i64 0)))]) (.ite (.t 50) (.seq (.aj [] [zm 51 6,zm 4 51]) (.ret)) (.skip)))))
 (.skip))))))) (.seq (.df [([zm 52 0,zm 53 0,z 54 (.dF (.t 53)),zf 55 1 54,zl 56 55,zf 57 3 3,zl 58 57,zf 59 3 3,zl 60 59,z 61 (.bin .add (.t 60) (.c (.i .i64 1)))],z
 62 (.call 35 [.t 56,.t 58,.t 61]),[])] [] [] [z 63 (.dF (.t 52)),zf 64 1 63,zs (.store 1 [some 15] (.t 64) (.t 62))]) (.seq (.aj [] [z 4 (.aK (.c (.i .i64 0)))])
 (.ret)))))⟩
theorem c13:bL prog f13=some p13:=by kernel_rfl
def p12:bM:=⟨57,[.t 4],.seq (.aj [] [z 3 (.box 37 (.t 1)),z 4 (.aK (.c (.i .i64 0)))]) (.seq (.aj [] [zf 8 1 3,zl 9 8,zf 10 2 3,zl 11 10,z 12 (.call 27 [.t 9,.t 11]),z 5 (.alloc 59
 [.i .i64 0,.i .i64 0]),zs (.store 2 [none] (.t 5) (.t 12))]) (.seq (.df [([zm 14 0,z 15 (.dF (.t 14)),zf 16 2 15,zl 17 16,zL 18 2 5],z 19 (.call 28 [.t 17,.t 18,.c
 (.fn 29 [])]),[])] [zm 13 19,z 20 (.ext 0 (.t 13)),z 21 (.ext 1 (.t 13)),zm 6 20] [] [zm 7 21]) (.seq (.seq (.aj [] [zf 22 0 3,zl 23 22,z 24 (.bin .eql (.t 23) (.c (.i .i64
 8)))]) (.ite (.t 24) (.seq (.seq (.aj [] [zm 25 7,z 26 (.un .not (.t 25))]) (.ite (.t 26) (.seq (.aj [] [z 4 (.aK (.c (.i .i64 6)))]) (.ret)) (.skip))) (.seq (.aj [] [zm 27 0,
 zm 28 0,z 29 (.dF (.t 28)),zf 30 2 29,zl 31 30,zm 32 6,zm 33 6,z 34 (.bin .add (.t 33) (.c (.i .i64 1))),z 35 (.call 32 [.t 31,.t 32,.t 34]),z 36 (.dF (.t 27)),zf
 37 2 36,zs (.store 1 [some 2] (.t 37) (.t 35))]) (.seq (.aj [] [z 4 (.aK (.c (.i .i64 0)))]) (.ret)))) (.skip))) (.seq (.block 0 (.seq (.aj [] [zf 39 1 3,zl 40 39,zf 41 2 3,
 zl 42 41,z 43 (.bin .eql (.t 40) (.t 42)),zm 38 43]) (.ite (.t 38) (.seq (.aj [] [z 4 (.aK (.c (.i .i64 1)))]) (.ret)) (.seq (.aj [] [zm 45 7,zm 44 45]) (.ite (.t 44) (.seq
 (.aj [] [z 4 (.aK (.c (.i .i64 5)))]) (.ret)) (.skip)))))) (.seq (.df [([zm 46 0,zm 47 0,z 48 (.dF (.t 47)),zf 49 2 48,zl 50 49,zm 51 6,zL 52 2 5,z 53 (.bQ 2
 [none] [.t 52])],z 54 (.call 33 [.t 50,.t 51,.t 53]),[])] [] [] [z 55 (.dF (.t 46)),zf 56 2 55,zs (.store 1 [some 2] (.t 56) (.t 54))]) (.seq (.aj [] [z 4 (.aK (.c (.i
 .i64 0)))]) (.ret)))))))⟩
theorem c12:bL prog f12=some p12:=by kernel_rfl
def p5:bM:=⟨42,[.c 4 (some 3),.t 5],.seq (.aj [] [z 2 (.box 26 (.t 0)),z 3 (.box 37 (.t 1)),z 4 (.alloc 26 [.nil,.nil,.nil]),z 5 (.aK (.c (.i .i64 0)))]) (.seq (.seq (.aj [] [zL 8 3
 2,zL 9 12 3,z 10 (.call 9 [.t 8,.t 9]),z 11 (.un .not (.t 10))]) (.ite (.t 11) (.seq (.aj [] [z 12 (.build [.nil,.nil,.nil] []),zs (.store 3 [some 6,some 15,some 2] (.t 4)
 (.t 12)),z 5 (.aK (.c (.i .i64 1)))]) (.ret)) (.skip))) (.seq (.aj [] [zL 13 3 2,z 14 (.call 10 [.t 13]),z 6 (.alloc 26 [.nil,.nil,.nil]),zs (.store 3 [some 6,some 15,some
 2] (.t 6) (.t 14))]) (.seq (.aj [] [z 7 (.aK (.c (.i .i64 0)))]) (.seq (.seq (.aj [] [zf 15 0 3,zl 16 15]) (.block 0 (.seq (.aj [] [z 20 (.bin .eql (.t 16) (.c (.i .i64 3))),
 zm 19 20]) (.ite (.t 19) (.aj [] [zf 21 1 3,zl 22 21,zf 23 2 3,zl 24 23,z 25 (.call 11 [.t 6,.t 22,.t 24]),zm 7 25]) (.seq (.seq (.aj [] [z 27 (.bin .eql (.t 16) (.c (.i
 .i64 7))),zm 26 27]) (.ite (.t 26) (.skip) (.aj [] [z 28 (.bin .eql (.t 16) (.c (.i .i64 8))),zm 26 28]))) (.ite (.t 26) (.aj [] [zL 29 12 3,z 30 (.call 12 [.t 6,.t 29]),zm 7
 30]) (.seq (.seq (.aj [] [z 32 (.bin .eql (.t 16) (.c (.i .i64 4))),zm 31 32]) (.ite (.t 31) (.skip) (.seq (.aj [] [z 33 (.bin .eql (.t 16) (.c (.i .i64 5))),zm 31 33]) (.ite
 (.t 31) (.skip) (.aj [] [z 34 (.bin .eql (.t 16) (.c (.i .i64 6))),zm 31 34]))))) (.ite (.t 31) (.aj [] [zL 35 12 3,z 36 (.call 13 [.t 6,.t 35]),zm 7 36]) (.aj [] [zL 17 12
 3,z 18 (.call 14 [.t 6,.t 17]),zm 7 18]))))))))) (.seq (.seq (.aj [] [zm 37 7,z 38 (.bin .neq (.t 37) (.c (.i .i64 0)))]) (.ite (.t 38) (.seq (.aj [] [z 39 (.build [.nil,
 .nil,.nil] []),zm 40 7,zs (.store 3 [some 6,some 15,some 2] (.t 4) (.t 39)),zm 5 40]) (.ret)) (.skip))) (.seq (.aj [] [zL 41 3 6,zs (.store 3 [some 6,some 15,some 2] (.t
 4) (.t 41)),z 5 (.aK (.c (.i .i64 0)))]) (.ret)))))))⟩
theorem c5:bL prog f5=some p5:=by kernel_rfl
def p34:bM:=⟨41,[.t 4],.seq (.aj [] [z 3 (.box 67 (.t 1)),z 4 (.aK (.c (.i .i64 0)))]) (.seq (.seq (.df [] [zf 7 1 3,zl 8 7,zm 9 0,z 10 (.dF (.t 9)),zf 11 0 10,zl 12 11,z 13
 (.len false (.t 12))] [] [z 14 (.call 20 [.t 8,.t 13]),z 15 (.un .not (.t 14))]) (.ite (.t 15) (.seq (.aj [] [z 4 (.aK (.c (.i .i64 1)))]) (.ret)) (.skip))) (.seq (.M1 [(5,44,
 [.i .i64 0,.i .i64 0,.nil,.nil,.i .i64 0,.b false])] [([zm 17 0,z 18 (.dF (.t 17)),zf 19 0 18,zl 20 19,zf 21 1 3,zl 22 21,z 23 (.idx 6 (.t 20) (.t 22)),zL 24 6 23,zf
 25 2 3,zL 26 13 25],z 27 (.call 55 [.t 24,.t 26]),[])] [([zm 16 27,z 28 (.ext 0 (.t 16)),z 29 (.ext 1 (.t 16))],zs (.store 6 [none,none,some 13,some 1,none,none] (.t 5)
 (.t 28)),[])] [] [] [zm 6 29]) (.seq (.seq (.aj [] [zm 30 6,z 31 (.bin .eql (.t 30) (.c (.i .i64 0)))]) (.ite (.t 31) (.df [] [zm 32 0,z 33 (.dF (.t 32)),zf 34 0 33,zl 35
 34,zf 36 1 3,zl 37 36,zL 38 6 5] [] [z 39 (.idx 6 (.t 35) (.t 37)),zs (.store 6 [none,none,some 13,some 1,none,none] (.t 39) (.t 38))]) (.skip))) (.seq (.aj [] [zm 40 6,
 zm 4 40]) (.ret)))))⟩
theorem c34:bL prog f34=some p34:=by kernel_rfl
def p67:bM:=⟨9,[.t 4],.seq (.aj [] [z 2 (.box 65 (.t 0)),z 3 (.box 65 (.t 1)),z 4 (.aK (.c (.b false)))]) (.seq (.aj [] [zL 5 13 2,zL 6 13 3,z 7 (.call 65 [.t 5,.t 6]),z 8 (.bin .eql
 (.t 7) (.c (.i .i64 0))),zm 4 8]) (.ret))⟩
theorem c67:bL prog f67=some p67:=by kernel_rfl
def Hz:bj:=.seq (.aj [] [z 10 (.bin .lss (.t 9) (.t 8))]) (.seq (.ite (.t 10) (.skip) (.exit 0)) (.seq (.block 1 (.seq (.aj [] [z 11 (.idx 6 (.t 7) (.t 9)),zL 12 6 11,z 5 (.alloc 44 [.i
 .i64 0,.i .i64 0,.nil,.nil,.i .i64 0,.b false]),zs (.store 6 [none,none,some 13,some 1,none,none] (.t 5) (.t 12))]) (.aj [] [zm 13 3,zf 14 2 5,zl 15 14,z 16 (.app 65
 13 184 (.t 13) (.t 15)),zm 3 16]))) (.aj [] [z 17 (.bin .add (.t 9) (.c (.i .i64 1))),zm 9 17])))
def p41:bM:=⟨22,[.t 2],.seq (.aj [] [z 1 (.box 26 (.t 0)),z 2 (.aK (.c .nil))]) (.seq (.aj [] [z 3 (.aK (.c .nil))]) (.seq (.seq (.aj [] [zf 6 0 1,zl 7 6,z 8 (.len false (.t 7)),z 9
 (.aK (.c (.i .i64 0)))]) (.block 0 (.loop Hz))) (.seq (.aj [] [zm 18 3,z 19 (.call 63 [.t 18,.c (.fn 65 [])])]) (.seq (.aj [] [zm 20 3,z 21 (.call 66 [.t 20,.c (.fn 67
 [])]),zm 2 21]) (.ret)))))⟩
theorem c41:bL prog f41=some p41:=by kernel_rfl
def p42:bM:=⟨8,[.t 4],.seq (.aj [] [z 4 (.aK (.c (.b false)))]) (.seq (.aj [] [zm 5 0,zm 6 1,z 7 (.call 68 [.t 5,.t 6,.c (.fn 69 [])]),zm 4 7]) (.ret))⟩
theorem c42:bL prog f42=some p42:=by kernel_rfl
def Ah:bj:=.seq (.aj [] [z 9 (.bin .lss (.t 8) (.t 7))]) (.seq (.ite (.t 9) (.skip) (.exit 0)) (.seq (.block 1 (.seq (.aj [] [zm 10 8,z 11 (.idx 6 (.t 6) (.t 8)),zL 12 6 11,z 4 (.alloc 44
 [.i .i64 0,.i .i64 0,.nil,.nil,.i .i64 0,.b false]),zm 3 10,zs (.store 6 [none,none,some 13,some 1,none,none] (.t 4) (.t 12))]) (.seq (.df [([zf 13 5 4,zl 14 13,zm
 15 14,⟨some 16,[(15,false)],.aK (.t 3)⟩,⟨some 17,[(15,false)],.bin .gtr (.t 16) (.c (.i .i64 0))⟩,⟨some 18,[(15,false)],.aK (.t 17)⟩,⟨some 19,[(15,false),(18,
 true)],.load (some 6) (.t 4)⟩,⟨some 21,[(15,false),(18,true)],.eG 0 (.t 1)⟩,⟨some 22,[(15,false),(18,true)],.load none (.t 21)⟩,⟨some 23,[(15,false),(18,true)],
 .idx 6 (.t 22) (.c (.i .i64 0))⟩,⟨some 24,[(15,false),(18,true)],.load (some 6) (.t 23)⟩],⟨some 20,[(15,false),(18,true)],.call 43 [.t 19]⟩,[⟨some 21,[(15,false),
 (18,true)],.eG 0 (.t 1)⟩,⟨some 22,[(15,false),(18,true)],.load none (.t 21)⟩,⟨some 23,[(15,false),(18,true)],.idx 6 (.t 22) (.c (.i .i64 0))⟩,⟨some 24,[(15,false),
 (18,true)],.load (some 6) (.t 23)⟩])] [] [16,17,18,19,20,21,22,23,24,25,26,27,28] [⟨some 25,[(15,false),(18,true)],.call 43 [.t 24]⟩,⟨some 26,[(15,false),(18,
 true)],.call 42 [.t 20,.t 25]⟩,⟨some 27,[(15,false),(18,true)],.un .not (.t 26)⟩,⟨some 28,[(15,false)],.pick (.t 18) (.t 27) (.c (.b false))⟩,z 29 (.pick (.t 15) (.c
 (.b true)) (.t 28))]) (.ite (.t 29) (.seq (.aj [] [z 2 (.aK (.c (.b false)))]) (.ret)) (.skip))))) (.aj [] [z 30 (.bin .add (.t 8) (.c (.i .i64 1))),zm 8 30])))
def p17:bM:=⟨31,[.t 2],.seq (.aj [] [z 1 (.box 26 (.t 0)),z 2 (.aK (.c (.b false)))]) (.seq (.seq (.aj [] [zf 5 0 1,zl 6 5,z 7 (.len false (.t 6)),z 8 (.aK (.c (.i .i64 0)))]) (.block
 0 (.loop Ah))) (.seq (.aj [] [z 2 (.aK (.c (.b true)))]) (.ret)))⟩
theorem c17:bL prog f17=some p17:=by kernel_rfl
def HJ:bj:=.seq (.aj [] [z 24 (.bin .lss (.t 23) (.t 22))]) (.seq (.ite (.t 24) (.skip) (.exit 0)) (.seq (.block 1 (.seq (.aj [] [zm 25 23,z 26 (.idx 6 (.t 21) (.t 23)),zL 27 6 26,z 5
 (.alloc 44 [.i .i64 0,.i .i64 0,.nil,.nil,.i .i64 0,.b false]),zm 4 25,zs (.store 6 [none,none,some 13,some 1,none,none] (.t 5) (.t 27))]) (.seq (.aj [] [zL 29 6 5,z
 30 (.call 40 [.t 29]),zm 28 30,z 31 (.ext 0 (.t 28)),z 32 (.ext 1 (.t 28)),z 6 (.alloc 44 [.i .i64 0,.i .i64 0,.nil,.nil,.i .i64 0,.b false]),zs (.store 6 [none,none,
 some 13,some 1,none,none] (.t 6) (.t 31)),zm 7 32]) (.seq (.aj [] [zm 33 7,z 34 (.bin .eql (.t 33) (.c (.i .i64 0)))]) (.ite (.t 34) (.aj [] [zf 35 0 3,zl 36 35,zm 37 4,zL
 38 6 6,z 39 (.idx 6 (.t 36) (.t 37)),zs (.store 6 [none,none,some 13,some 1,none,none] (.t 39) (.t 38))]) (.skip)))))) (.aj [] [z 40 (.bin .add (.t 23) (.c (.i .i64 1))),zm
 23 40])))
def HI:bj:=.seq (.aj [] [z 45 (.bin .lss (.t 44) (.t 43))]) (.seq (.ite (.t 45) (.skip) (.exit 2)) (.seq (.block 3 (.seq (.aj [] [z 46 (.idx 15 (.t 42) (.t 44)),zL 47 15 46,z 9 (.alloc 67
 [.i .i64 0,.i .i64 0,.i .i64 0,.i .i64 0,.i .i64 0,.i .i64 0,.nil,.nil,.s [],.s [],.s [],.s [],.i .i64 0,.i .i64 0,.nil]),zs (.store 15 [none,none,none,none,none,
 none,some 3,some 3,none,none,none,none,none,none,some 1] (.t 9) (.t 47))]) (.aj [] [zL 48 15 9,z 49 (.call 34 [.t 3,.t 48])]))) (.aj [] [z 50 (.bin .add (.t 44) (.c (.i
 .i64 1))),zm 44 50])))
def HH:bj:=.seq (.aj [] [z 62 (.bin .lss (.t 61) (.t 60))]) (.seq (.ite (.t 62) (.skip) (.exit 6)) (.seq (.block 7 (.seq (.aj [] [z 63 (.idx 13 (.t 59) (.t 61)),zL 64 13 63,z 12 (.alloc 65
 [.i .i64 0,.i .i64 0,.i .i64 0,.i .i64 0,.nil,.nil,.s [],.s [],.s [],.s [],.i .i64 0,.i .i64 0,.nil]),zs (.store 13 [none,none,none,none,some 3,some 3,none,none,
 none,none,none,none,some 1] (.t 12) (.t 64))]) (.aj [] [zm 65 10,zL 66 13 12,z 67 (.build [.i .i64 0,.i .i64 0,.i .i64 0,.i .i64 0,.i .i64 0,.i .i64 0,.nil,.nil,.s
 [],.s [],.s [],.s [],.i .i64 0,.i .i64 0,.nil] [(1,1,.t 65),(2,13,.t 66)]),z 68 (.call 34 [.t 3,.t 67])]))) (.aj [] [z 69 (.bin .add (.t 61) (.c (.i .i64 1))),zm 61
 69])))
def HG:bj:=.seq (.aj [] [z 56 (.bin .lss (.t 55) (.t 54))]) (.seq (.ite (.t 56) (.skip) (.exit 4)) (.seq (.block 5 (.seq (.aj [] [zm 57 55,zm 10 57]) (.seq (.aj [] [zL 58 3 3,z 59 (.call
 41 [.t 58]),z 60 (.len false (.t 59)),z 61 (.aK (.c (.i .i64 0)))]) (.block 6 (.loop HH))))) (.aj [] [z 70 (.bin .add (.t 55) (.c (.i .i64 1))),zm 55 70])))
def HF:bj:=.seq (.aj [] [z 75 (.bin .lss (.t 74) (.t 73))]) (.seq (.ite (.t 75) (.skip) (.exit 8)) (.seq (.block 9 (.seq (.aj [] [zm 76 74,z 77 (.idx 6 (.t 72) (.t 74)),zL 78 6 77,z 14
 (.alloc 44 [.i .i64 0,.i .i64 0,.nil,.nil,.i .i64 0,.b false]),zm 13 76,zs (.store 6 [none,none,some 13,some 1,none,none] (.t 14) (.t 78))]) (.seq (.aj [] [zL 80 6 14,
 z 81 (.call 38 [.t 80]),zm 79 81,z 82 (.ext 0 (.t 79)),z 83 (.ext 1 (.t 79)),z 15 (.alloc 44 [.i .i64 0,.i .i64 0,.nil,.nil,.i .i64 0,.b false]),zs (.store 6 [none,none,
 some 13,some 1,none,none] (.t 15) (.t 82)),zm 16 83]) (.seq (.aj [] [zm 84 16,z 85 (.bin .eql (.t 84) (.c (.i .i64 0)))]) (.ite (.t 85) (.aj [] [zf 86 0 3,zl 87 86,zm 88
 13,zL 89 6 15,z 90 (.idx 6 (.t 87) (.t 88)),zs (.store 6 [none,none,some 13,some 1,none,none] (.t 90) (.t 89))]) (.skip)))))) (.aj [] [z 91 (.bin .add (.t 74) (.c (.i .i64
 1))),zm 74 91])))
def p16:bM:=⟨93,[.c 2 (some 3)],.seq (.aj [] [z 1 (.box 26 (.t 0)),z 2 (.alloc 26 [.nil,.nil,.nil])]) (.seq (.aj [] [zL 17 3 1,z 18 (.call 10 [.t 17]),z 3 (.alloc 26 [.nil,.nil,
 .nil]),zs (.store 3 [some 6,some 15,some 2] (.t 3) (.t 18))]) (.seq (.aj [] [zf 19 2 3,zs (.store 1 [some 2] (.t 19) (.c .nil))]) (.seq (.seq (.aj [] [zf 20 0 3,zl 21 20,z
 22 (.len false (.t 21)),z 23 (.aK (.c (.i .i64 0)))]) (.block 0 (.loop HJ))) (.seq (.seq (.aj [] [zf 41 1 3,zl 42 41,z 43 (.len false (.t 42)),z 44 (.aK (.c (.i .i64
 0)))]) (.block 2 (.loop HI))) (.seq (.aj [] [zf 51 1 3,zs (.store 1 [some 15] (.t 51) (.c .nil))]) (.seq (.seq (.aj [] [zf 52 0 3,zl 53 52,z 54 (.len false (.t 53)),z 55
 (.aK (.c (.i .i64 0)))]) (.block 4 (.loop HG))) (.seq (.seq (.aj [] [zf 71 0 3,zl 72 71,z 73 (.len false (.t 72)),z 74 (.aK (.c (.i .i64 0)))]) (.block 8 (.loop HF)))
 (.seq (.aj [] [zL 92 3 3,zs (.store 3 [some 6,some 15,some 2] (.t 2) (.t 92))]) (.ret)))))))))⟩
theorem c16:bL prog f16=some p16:=by kernel_rfl
def QJ:bj:=.seq (.seq (.aj [] [zm 15 9,zm 16 10,z 17 (.bin .lss (.t 15) (.t 16))]) (.ite (.t 17) (.skip) (.exit 0))) (.block 1 (.seq (.aj [] [zm 18 9,zm 19 10,z 20 (.bin .add (.t 18) (.t
 19)),z 21 (.rn .u64 (.t 20)),z 22 (.bin .shr (.t 21) (.c (.i .u64 1))),z 23 (.rn .i64 (.t 22)),zm 11 23]) (.seq (.df [] [zm 24 2,zm 25 0,zm 26 11,z 27 (.idx 2 (.t 25) (.t
 26)),zL 28 2 27,zL 29 2 4] [] [z 30 (.jy (.t 24) [.t 28,.t 29]),z 31 (.bin .lss (.t 30) (.c (.i .i64 0)))]) (.ite (.t 31) (.aj [] [zm 32 11,z 33 (.bin .add (.t 32) (.c (.i
 .i64 1))),zm 9 33]) (.aj [] [zm 34 11,zm 10 34])))))
def p28:bM:=⟨49,[.t 6,.t 7],.seq (.aj [] [z 4 (.box 59 (.t 1)),z 6 (.aK (.c (.i .i64 0))),z 7 (.aK (.c (.b false)))]) (.seq (.aj [] [zm 12 0,z 13 (.len false (.t 12)),zm 8 13]) (.seq
 (.aj [] [zm 14 8,z 9 (.aK (.c (.i .i64 0))),zm 10 14]) (.seq (.block 0 (.loop QJ)) (.seq (.df [([zm 35 9,zm 36 9,zm 37 8,z 38 (.bin .lss (.t 36) (.t 37)),zm 39 38,
 ⟨some 40,[(39,true)],.aK (.t 2)⟩,⟨some 41,[(39,true)],.aK (.t 0)⟩,⟨some 42,[(39,true)],.aK (.t 9)⟩,⟨some 43,[(39,true)],.idx 2 (.t 41) (.t 42)⟩,⟨some 44,[(39,
 true)],.load (some 2) (.t 43)⟩,⟨some 45,[(39,true)],.load (some 2) (.t 4)⟩],⟨some 46,[(39,true)],.jy (.t 40) [.t 44,.t 45]⟩,[])] [⟨some 47,[(39,true)],.bin .eql (.t
 46) (.c (.i .i64 0))⟩,z 48 (.pick (.t 39) (.t 47) (.c (.b false))),zm 6 35] [40,41,42,43,44,45,46,47] [zm 7 48]) (.ret)))))⟩
theorem c28:bL prog f28=some p28:=by kernel_rfl
def p33:bM:=⟨95,[.t 6],.seq (.aj [] [z 6 (.aK (.c .nil))]) (.seq (.aj [] [zm 10 0,zm 11 1,z 12 (.slice 2 (.t 10) (some (.t 11)) none)]) (.seq (.aj [] [zm 13 2,z 14 (.len false (.t
 13)),zm 7 14]) (.seq (.seq (.aj [] [zm 15 7,z 16 (.bin .eql (.t 15) (.c (.i .i64 0)))]) (.ite (.t 16) (.seq (.aj [] [zm 17 0,zm 6 17]) (.ret)) (.skip))) (.seq (.aj [] [zm 18
 0,z 19 (.len false (.t 18)),zm 8 19]) (.seq (.seq (.aj [] [zm 20 1,zm 21 8,z 22 (.bin .eql (.t 20) (.t 21))]) (.ite (.t 22) (.seq (.aj [] [zm 23 0,zm 24 2,z 25 (.app 59 2 16
 (.t 23) (.t 24)),zm 6 25]) (.ret)) (.skip))) (.seq (.seq (.aj [] [zm 26 8,zm 27 7,z 28 (.bin .add (.t 26) (.t 27)),zm 29 0,z 30 (.stop),z 31 (.bin .gtr (.t 28) (.t 30))])
 (.ite (.t 31) (.seq (.aj [] [zm 32 0,zm 33 1,z 34 (.slice 2 (.t 32) none (some (.t 33))),zm 35 8,zm 36 7,z 37 (.bin .add (.t 35) (.t 36)),zm 38 1,z 39 (.bin .sub (.t 37) (.t
 38)),z 40 (.stop),zm 9 40]) (.seq (.aj [] [zm 41 9,zm 42 1,z 43 (.slice 2 (.t 41) (some (.t 42)) none),zm 44 2,z 45 (.stop)]) (.seq (.df [] [zm 46 9,zm 47 1,zm 48 7,z 49
 (.bin .add (.t 47) (.t 48)),z 50 (.slice 2 (.t 46) (some (.t 49)) none),zm 51 0,zm 52 1,z 53 (.slice 2 (.t 51) (some (.t 52)) none)] [] [z 54 (.stop)]) (.seq (.aj [] [zm 55 9,
 zm 6 55]) (.ret))))) (.skip))) (.seq (.aj [] [zm 56 0,zm 57 8,zm 58 7,z 59 (.bin .add (.t 57) (.t 58)),z 60 (.slice 2 (.t 56) none (some (.t 59))),zm 0 60]) (.seq (.seq (.aj
 [] [zm 61 2,zm 62 0,zm 63 1,zm 64 7,z 65 (.bin .add (.t 63) (.t 64)),z 66 (.slice 2 (.t 62) (some (.t 65)) none),z 67 (.stop),z 68 (.un .not (.t 67))]) (.ite (.t 68) (.seq
 (.df [] [zm 69 0,zm 70 1,zm 71 7,z 72 (.bin .add (.t 70) (.t 71)),z 73 (.slice 2 (.t 69) (some (.t 72)) none),zm 74 0,zm 75 1,z 76 (.slice 2 (.t 74) (some (.t 75)) none)]
 [] [z 77 (.stop)]) (.seq (.aj [] [zm 78 0,zm 79 1,z 80 (.slice 2 (.t 78) (some (.t 79)) none),zm 81 2,z 82 (.stop)]) (.seq (.aj [] [zm 83 0,zm 6 83]) (.ret)))) (.skip)))
 (.seq (.aj [] [zm 84 0,zm 85 8,z 86 (.slice 2 (.t 84) (some (.t 85)) none),zm 87 2,z 88 (.stop)]) (.seq (.aj [] [zm 89 0,zm 90 1,z 91 (.slice 2 (.t 89) (some (.t 90)) none),
 zm 92 7,z 93 (.call 54 [.t 91,.t 92])]) (.seq (.aj [] [zm 94 0,zm 6 94]) (.ret))))))))))))⟩
theorem c33:bL prog f33=some p33:=by kernel_rfl
def p49:bM:=⟨9,[.t 4],.seq (.aj [] [z 3 (.box 59 (.t 1)),z 4 (.aK (.c (.b false)))]) (.seq (.aj [] [zm 5 0,zL 6 2 3,z 7 (.call 75 [.t 5,.t 6]),z 8 (.bin .geq (.t 7) (.c (.i .i64 0))),
 zm 4 8]) (.ret))⟩
theorem c49:bL prog f49=some p49:=by kernel_rfl
def Hq:bj:=.seq (.aj [] [z 9 (.bin .lss (.t 8) (.t 7))]) (.seq (.ite (.t 9) (.skip) (.exit 0)) (.seq (.block 1 (.seq (.aj [] [zm 10 8,zm 5 10]) (.seq (.df [] [zL 11 2 3,zm 12 0,zm 13 5,
 z 14 (.idx 2 (.t 12) (.t 13)),zL 15 2 14] [] [z 16 (.beq false [0,0] (.t 11) (.t 15))]) (.ite (.t 16) (.seq (.aj [] [zm 17 5,zm 4 17]) (.ret)) (.skip))))) (.aj [] [z 18 (.bin
 .add (.t 8) (.c (.i .i64 1))),zm 8 18])))
def p75:bM:=⟨19,[.t 4],.seq (.aj [] [z 3 (.box 59 (.t 1)),z 4 (.aK (.c (.i .i64 0)))]) (.seq (.seq (.aj [] [zm 6 0,z 7 (.len false (.t 6)),z 8 (.aK (.c (.i .i64 0)))]) (.block 0 (.loop
 Hq))) (.seq (.aj [] [z 4 (.aK (.c (.i .i64 (-1))))]) (.ret)))⟩
theorem c75:bL prog f75=some p75:=by kernel_rfl
def Hw:bj:=.seq (.seq (.aj [] [zm 32 7,zm 33 6,z 34 (.len false (.t 33)),z 35 (.bin .lss (.t 32) (.t 34))]) (.ite (.t 35) (.skip) (.exit 2))) (.seq (.block 3 (.seq (.df [] [zm 38 1,zm
 39 6,zm 40 7,z 41 (.idx 13 (.t 39) (.t 40)),zL 42 13 41,zm 43 6,zm 44 7,z 45 (.bin .sub (.t 44) (.c (.i .i64 1))),z 46 (.idx 13 (.t 43) (.t 45)),zL 47 13 46] [] [z 48
 (.jy (.t 38) [.t 42,.t 47]),z 49 (.un .not (.t 48))]) (.ite (.t 49) (.seq (.aj [] [zm 50 0,zm 51 5,zm 52 6,zm 53 7,z 54 (.idx 13 (.t 52) (.t 53)),zL 55 13 54,z 56 (.idx
 13 (.t 50) (.t 51)),zs (.store 13 [none,none,none,none,some 3,some 3,none,none,none,none,none,none,some 1] (.t 56) (.t 55))]) (.aj [] [zm 57 5,z 58 (.bin .add (.t 57)
 (.c (.i .i64 1))),zm 5 58])) (.skip)))) (.aj [] [zm 36 7,z 37 (.bin .add (.t 36) (.c (.i .i64 1))),zm 7 37]))
def Hv:bj:=.seq (.seq (.aj [] [zm 12 5,zm 13 0,z 14 (.len false (.t 13)),z 15 (.bin .lss (.t 12) (.t 14))]) (.ite (.t 15) (.skip) (.exit 0))) (.seq (.block 1 (.seq (.df [] [zm 18 1,zm
 19 0,zm 20 5,z 21 (.idx 13 (.t 19) (.t 20)),zL 22 13 21,zm 23 0,zm 24 5,z 25 (.bin .sub (.t 24) (.c (.i .i64 1))),z 26 (.idx 13 (.t 23) (.t 25)),zL 27 13 26] [] [z 28
 (.jy (.t 18) [.t 22,.t 27])]) (.ite (.t 28) (.seq (.aj [] [zm 29 0,zm 30 5,z 31 (.slice 13 (.t 29) (some (.t 30)) none),zm 6 31]) (.seq (.seq (.aj [] [z 7 (.aK (.c (.i
 .i64 1)))]) (.block 2 (.loop Hw))) (.seq (.aj [] [zm 59 0,zm 60 5,z 61 (.slice 13 (.t 59) (some (.t 60)) none),zs (.Dd 13 [.i .i64 0,.i .i64 0,.i .i64 0,.i .i64 0,.sl 3
 [],.sl 3 [],.s [],.s [],.s [],.s [],.i .i64 0,.i .i64 0,.sl 1 []] (.t 61))]) (.seq (.aj [] [zm 62 0,zm 63 5,z 64 (.slice 13 (.t 62) none (some (.t 63))),zm 4 64])
 (.ret))))) (.skip)))) (.aj [] [zm 16 5,z 17 (.bin .add (.t 16) (.c (.i .i64 1))),zm 5 17]))
def p66:bM:=⟨66,[.t 4],.seq (.aj [] [z 4 (.aK (.c .nil))]) (.seq (.seq (.aj [] [zm 8 0,z 9 (.len false (.t 8)),z 10 (.bin .lss (.t 9) (.c (.i .i64 2)))]) (.ite (.t 10) (.seq (.aj [] [zm
 11 0,zm 4 11]) (.ret)) (.skip))) (.seq (.seq (.aj [] [z 5 (.aK (.c (.i .i64 1)))]) (.block 0 (.loop Hv))) (.seq (.aj [] [zm 65 0,zm 4 65]) (.ret))))⟩
theorem c66:bL prog f66=some p66:=by kernel_rfl
def Hu:bj:=.seq (.aj [] [z 18 (.bin .lss (.t 17) (.t 16))]) (.seq (.ite (.t 18) (.skip) (.exit 0)) (.seq (.block 1 (.seq (.aj [] [zm 19 17,z 20 (.idx 8 (.t 15) (.t 17)),zL 21 8 20,z 8
 (.alloc 34 [.nil,.nil,.s [],.s [],.s [],.s [],.i .i64 0,.i .i64 0]),zm 7 19,zs (.store 8 [some 3,some 3,none,none,none,none,none,none] (.t 8) (.t 21))]) (.seq (.aj
 [] [zm 22 1,zm 23 7,z 24 (.idx 8 (.t 22) (.t 23)),zL 25 8 24,z 9 (.alloc 34 [.nil,.nil,.s [],.s [],.s [],.s [],.i .i64 0,.i .i64 0]),zs (.store 8 [some 3,some 3,none,
 none,none,none,none,none] (.t 9) (.t 25))]) (.seq (.aj [] [zm 26 2,zL 27 8 8,zL 28 8 9,z 29 (.jy (.t 26) [.t 27,.t 28]),z 30 (.un .not (.t 29))]) (.ite (.t 30) (.seq
 (.aj [] [z 6 (.aK (.c (.b false)))]) (.ret)) (.skip)))))) (.aj [] [z 31 (.bin .add (.t 17) (.c (.i .i64 1))),zm 17 31])))
def p68:bM:=⟨32,[.t 6],.seq (.aj [] [z 6 (.aK (.c (.b false)))]) (.seq (.seq (.aj [] [zm 10 0,z 11 (.len false (.t 10)),zm 12 1,z 13 (.len false (.t 12)),z 14 (.bin .neq (.t 11) (.t
 13))]) (.ite (.t 14) (.seq (.aj [] [z 6 (.aK (.c (.b false)))]) (.ret)) (.skip))) (.seq (.seq (.aj [] [zm 15 0,z 16 (.len false (.t 15)),z 17 (.aK (.c (.i .i64 0)))]) (.block
 0 (.loop Hu))) (.seq (.aj [] [z 6 (.aK (.c (.b true)))]) (.ret))))⟩
theorem c68:bL prog f68=some p68:=by kernel_rfl
def p69:bM:=⟨59,[.t 4],.seq (.aj [] [z 2 (.box 34 (.t 0)),z 3 (.box 34 (.t 1)),z 4 (.aK (.c (.b false)))]) (.seq (.aj [11,12,13,14,15,18,19,20,21,22,25,26,27,28,29,32,33,
 34,35,36,39,40,41,42,43,46,47,48,49,50,53,54,55,56,57] [zf 5 0 2,zl 6 5,zf 7 0 3,zl 8 7,z 9 (.call 84 [.t 6,.t 8]),zm 10 9,⟨some 11,[(10,true)],.eG 1 (.t
 2)⟩,⟨some 12,[(10,true)],.load none (.t 11)⟩,⟨some 13,[(10,true)],.eG 1 (.t 3)⟩,⟨some 14,[(10,true)],.load none (.t 13)⟩,⟨some 15,[(10,true)],.call 84 [.t 12,.t
 14]⟩,z 16 (.pick (.t 10) (.t 15) (.c (.b false))),zm 17 16,⟨some 18,[(17,true)],.eG 2 (.t 2)⟩,⟨some 19,[(17,true)],.load none (.t 18)⟩,⟨some 20,[(17,true)],.eG 2 (.t
 3)⟩,⟨some 21,[(17,true)],.load none (.t 20)⟩,⟨some 22,[(17,true)],.bin .eql (.t 19) (.t 21)⟩,z 23 (.pick (.t 17) (.t 22) (.c (.b false))),zm 24 23,⟨some 25,[(24,true)],
 .eG 3 (.t 2)⟩,⟨some 26,[(24,true)],.load none (.t 25)⟩,⟨some 27,[(24,true)],.eG 3 (.t 3)⟩,⟨some 28,[(24,true)],.load none (.t 27)⟩,⟨some 29,[(24,true)],.bin .eql
 (.t 26) (.t 28)⟩,z 30 (.pick (.t 24) (.t 29) (.c (.b false))),zm 31 30,⟨some 32,[(31,true)],.eG 4 (.t 2)⟩,⟨some 33,[(31,true)],.load none (.t 32)⟩,⟨some 34,[(31,
 true)],.eG 4 (.t 3)⟩,⟨some 35,[(31,true)],.load none (.t 34)⟩,⟨some 36,[(31,true)],.bin .eql (.t 33) (.t 35)⟩,z 37 (.pick (.t 31) (.t 36) (.c (.b false))),zm 38 37,
 ⟨some 39,[(38,true)],.eG 5 (.t 2)⟩,⟨some 40,[(38,true)],.load none (.t 39)⟩,⟨some 41,[(38,true)],.eG 5 (.t 3)⟩,⟨some 42,[(38,true)],.load none (.t 41)⟩,⟨some 43,
 [(38,true)],.bin .eql (.t 40) (.t 42)⟩,z 44 (.pick (.t 38) (.t 43) (.c (.b false))),zm 45 44,⟨some 46,[(45,true)],.eG 6 (.t 2)⟩,⟨some 47,[(45,true)],.load none (.t
 46)⟩,⟨some 48,[(45,true)],.eG 6 (.t 3)⟩,⟨some 49,[(45,true)],.load none (.t 48)⟩,⟨some 50,[(45,true)],.bin .eql (.t 47) (.t 49)⟩,z 51 (.pick (.t 45) (.t 50) (.c (.b
 false))),zm 52 51,⟨some 53,[(52,true)],.eG 7 (.t 2)⟩,⟨some 54,[(52,true)],.load none (.t 53)⟩,⟨some 55,[(52,true)],.eG 7 (.t 3)⟩,⟨some 56,[(52,true)],.load none
 (.t 55)⟩,⟨some 57,[(52,true)],.bin .eql (.t 54) (.t 56)⟩,z 58 (.pick (.t 52) (.t 57) (.c (.b false))),zm 4 58]) (.ret))⟩
theorem c69:bL prog f69=some p69:=by kernel_rfl
def p15:bM:=⟨9,[.c 2 (some 8)],.seq (.aj [] [z 2 (.alloc 34 [.nil,.nil,.s [],.s [],.s [],.s [],.i .i64 0,.i .i64 0])]) (.seq (.aj [] [z 3 (.build [.i .i64 0,.s [],.i .i64 0] [(0,
 1,.c (.i .i64 1)),(1,1,.c (.s [97]))]),z 4 (.bQ 3 [none,none,none] [.t 3]),zm 5 0,z 6 (.build [.i .i64 0,.s [],.i .i64 0] [(0,1,.c (.i .i64 1)),(1,1,.t 5)]),z 7
 (.bQ 3 [none,none,none] [.t 6]),z 8 (.build [.nil,.nil,.s [],.s [],.s [],.s [],.i .i64 0,.i .i64 0] [(0,1,.t 4),(1,1,.t 7),(7,1,.c (.i .i64 1))]),zs (.store 8
 [some 3,some 3,none,none,none,none,none,none] (.t 2) (.t 8))]) (.ret))⟩
theorem c15:bL prog f15=some p15:=by kernel_rfl
def p7:bM:=⟨82,[.t 0],.seq (.aj [] [z 0 (.aK (.c (.b false)))]) (.seq (.aj [] [z 1 (.aK (.c (.fn 15 [])))]) (.seq (.aj [] [z 11 (.call 4 [.c (.i .i64 2)]),zm 10 11,z 12 (.ext 0 (.t
 10)),z 13 (.ext 1 (.t 10)),z 2 (.alloc 26 [.nil,.nil,.nil]),zs (.store 3 [some 6,some 15,some 2] (.t 2) (.t 12)),zm 3 13]) (.seq (.aj [] [zL 15 3 2,z 16 (.build [.i .i64
 0,.i .i64 0,.i .i64 0,.i .i64 0,.nil,.nil,.s [],.s [],.s [],.s [],.i .i64 0,.i .i64 0] [(0,1,.c (.i .i64 7)),(1,1,.c (.i .i64 1)),(2,1,.c (.i .i64 0))]),z 17
 (.call 5 [.t 15,.t 16]),zm 14 17,z 18 (.ext 0 (.t 14)),z 19 (.ext 1 (.t 14)),zs (.store 3 [some 6,some 15,some 2] (.t 2) (.t 18)),zm 4 19]) (.seq (.df [([zL 21 3 2,zm 22
 1],z 23 (.jy (.t 22) [.c (.s [120])]),[zL 21 3 2]),([z 24 (.build [.i .i64 0,.i .i64 0,.i .i64 0,.i .i64 0,.nil,.nil,.s [],.s [],.s [],.s [],.i .i64 0,.i .i64 0]
 [(0,1,.c (.i .i64 1)),(1,1,.c (.i .i64 0)),(4,8,.t 23)])],z 25 (.call 5 [.t 21,.t 24]),[]),([zm 20 25,z 26 (.ext 0 (.t 20)),z 27 (.ext 1 (.t 20))],zs (.store 3 [some
 6,some 15,some 2] (.t 2) (.t 26)),[])] [] [] [zm 5 27]) (.seq (.df [([zL 29 3 2,zm 30 1],z 31 (.jy (.t 30) [.c (.s [121])]),[zL 29 3 2]),([z 32 (.build [.i .i64 0,.i
 .i64 0,.i .i64 0,.i .i64 0,.nil,.nil,.s [],.s [],.s [],.s [],.i .i64 0,.i .i64 0] [(0,1,.c (.i .i64 1)),(1,1,.c (.i .i64 1)),(4,8,.t 31)])],z 33 (.call 5 [.t 29,
 .t 32]),[]),([zm 28 33,z 34 (.ext 0 (.t 28)),z 35 (.ext 1 (.t 28))],zs (.store 3 [some 6,some 15,some 2] (.t 2) (.t 34)),[])] [] [] [zm 6 35]) (.seq (.aj [] [zL 37 3 2,z
 38 (.build [.i .i64 0,.i .i64 0,.i .i64 0,.i .i64 0,.nil,.nil,.s [],.s [],.s [],.s [],.i .i64 0,.i .i64 0] [(0,1,.c (.i .i64 3)),(1,1,.c (.i .i64 0)),(2,1,.c (.i
 .i64 1))]),z 39 (.call 5 [.t 37,.t 38]),zm 36 39,z 40 (.ext 0 (.t 36)),z 41 (.ext 1 (.t 36)),z 7 (.alloc 26 [.nil,.nil,.nil]),zs (.store 3 [some 6,some 15,some 2] (.t 7)
 (.t 40)),zm 8 41]) (.seq (.aj [] [zL 42 3 2,z 43 (.call 16 [.t 42]),z 9 (.alloc 26 [.nil,.nil,.nil]),zs (.store 3 [some 6,some 15,some 2] (.t 9) (.t 43))]) (.seq (.aj [47,
 48,51,52,55,56,59,60,63,64,65,68,69,72,73,74,75,76,77,78,79,80] [zm 44 3,z 45 (.bin .eql (.t 44) (.c (.i .i64 0))),zm 46 45,⟨some 47,[(46,true)],.aK (.t
 4)⟩,⟨some 48,[(46,true)],.bin .eql (.t 47) (.c (.i .i64 0))⟩,z 49 (.pick (.t 46) (.t 48) (.c (.b false))),zm 50 49,⟨some 51,[(50,true)],.aK (.t 5)⟩,⟨some 52,[(50,
 true)],.bin .eql (.t 51) (.c (.i .i64 0))⟩,z 53 (.pick (.t 50) (.t 52) (.c (.b false))),zm 54 53,⟨some 55,[(54,true)],.aK (.t 6)⟩,⟨some 56,[(54,true)],.bin .eql (.t 55)
 (.c (.i .i64 0))⟩,z 57 (.pick (.t 54) (.t 56) (.c (.b false))),zm 58 57,⟨some 59,[(58,true)],.aK (.t 8)⟩,⟨some 60,[(58,true)],.bin .eql (.t 59) (.c (.i .i64 8))⟩,z 61
 (.pick (.t 58) (.t 60) (.c (.b false))),zm 62 61,⟨some 63,[(62,true)],.load (some 3) (.t 2)⟩,⟨some 64,[(62,true)],.call 17 [.t 63]⟩,⟨some 65,[(62,true)],.un .not (.t
 64)⟩,z 66 (.pick (.t 62) (.t 65) (.c (.b false))),zm 67 66,⟨some 68,[(67,true)],.load (some 3) (.t 9)⟩,⟨some 69,[(67,true)],.call 17 [.t 68]⟩,z 70 (.pick (.t 67) (.t 69)
 (.c (.b false))),zm 71 70,⟨some 72,[(71,true)],.eG 0 (.t 9)⟩,⟨some 73,[(71,true)],.load none (.t 72)⟩,⟨some 74,[(71,true)],.idx 6 (.t 73) (.c (.i .i64 0))⟩,⟨some 75,
 [(71,true)],.load (some 6) (.t 74)⟩,⟨some 76,[(71,true)],.call 19 [.t 75]⟩,⟨some 77,[(71,true)],.aK (.t 1)⟩,⟨some 78,[(71,true)],.jy (.t 77) [.c (.s [121])]⟩,
 ⟨some 79,[(71,true)],.bQ 8 [some 3,some 3,none,none,none,none,none,none] [.t 78]⟩,⟨some 80,[(71,true)],.call 18 [.t 76,.t 79]⟩,z 81 (.pick (.t 71) (.t 80) (.c
 (.b false))),zm 0 81]) (.ret)))))))))⟩
theorem c7:bL prog f7=some p7:=by kernel_rfl
def Lm:bj:=.seq (.seq (.aj [] [zm 24 6,z 25 (.bin .lss (.t 24) (.c (.i .i64 2)))]) (.ite (.t 25) (.skip) (.exit 0))) (.seq (.block 1 (.seq (.aj [] [zL 29 3 3,zL 30 8 5,z 31 (.build [.i
 .i64 0,.i .i64 0,.i .i64 0,.i .i64 0,.nil,.nil,.s [],.s [],.s [],.s [],.i .i64 0,.i .i64 0] [(0,1,.c (.i .i64 1)),(4,8,.t 30)]),z 32 (.call 5 [.t 29,.t 31]),zm 28
 32,z 33 (.ext 0 (.t 28)),z 34 (.ext 1 (.t 28)),z 7 (.alloc 26 [.nil,.nil,.nil]),zs (.store 3 [some 6,some 15,some 2] (.t 7) (.t 33)),zm 8 34]) (.seq (.seq (.aj [] [zm 35
 8,z 36 (.bin .neq (.t 35) (.c (.i .i64 0)))]) (.ite (.t 36) (.seq (.aj [] [z 2 (.aK (.c (.b false)))]) (.ret)) (.skip))) (.aj [] [zL 37 3 7,zs (.store 3 [some 6,some 15,some
 2] (.t 3) (.t 37))])))) (.aj [] [zm 26 6,z 27 (.bin .add (.t 26) (.c (.i .i64 1))),zm 6 27]))
def Oj:bj:=.seq (.seq (.aj [] [zm 38 9,z 39 (.bin .lss (.t 38) (.c (.i .i64 127)))]) (.ite (.t 39) (.skip) (.exit 2))) (.seq (.block 3 (.seq (.aj [] [zL 43 3 3,z 44 (.build [.i .i64 0,.i
 .i64 0,.i .i64 0,.i .i64 0,.nil,.nil,.s [],.s [],.s [],.s [],.i .i64 0,.i .i64 0] [(0,1,.c (.i .i64 3)),(1,1,.c (.i .i64 0)),(2,1,.c (.i .i64 1))]),z 45 (.call 5
 [.t 43,.t 44]),zm 42 45,z 46 (.ext 0 (.t 42)),z 47 (.ext 1 (.t 42)),z 10 (.alloc 26 [.nil,.nil,.nil]),zs (.store 3 [some 6,some 15,some 2] (.t 10) (.t 46)),zm 11 47])
 (.seq (.seq (.aj [51,52,53,54,55,56,57] [zm 48 11,z 49 (.bin .neq (.t 48) (.c (.i .i64 0))),zm 50 49,⟨some 51,[(50,false)],.eG 1 (.t 10)⟩,⟨some 52,[(50,false)],
 .load none (.t 51)⟩,⟨some 53,[(50,false)],.len false (.t 52)⟩,⟨some 54,[(50,false)],.aK (.t 9)⟩,⟨some 55,[(50,false)],.bin .mul (.c (.i .i64 2)) (.t 54)⟩,⟨some 56,
 [(50,false)],.bin .add (.t 55) (.c (.i .i64 2))⟩,⟨some 57,[(50,false)],.bin .neq (.t 53) (.t 56)⟩,z 58 (.pick (.t 50) (.c (.b true)) (.t 57))]) (.ite (.t 58) (.seq (.aj []
 [z 2 (.aK (.c (.b false)))]) (.ret)) (.skip))) (.aj [] [zL 59 3 10,zs (.store 3 [some 6,some 15,some 2] (.t 3) (.t 59))])))) (.aj [] [zm 40 9,z 41 (.bin .add (.t 40) (.c (.i
 .i64 1))),zm 9 41]))
def Oi:bj:=.seq (.seq (.aj [] [zm 62 12,z 63 (.bin .gtr (.t 62) (.c (.i .i64 0)))]) (.ite (.t 63) (.skip) (.exit 4))) (.seq (.block 5 (.aj [] [zL 67 3 3,z 68 (.build [.i .i64 0,.i .i64 0,
 .i .i64 0,.i .i64 0,.nil,.nil,.s [],.s [],.s [],.s [],.i .i64 0,.i .i64 0] [(0,1,.c (.i .i64 6))]),z 69 (.call 5 [.t 67,.t 68]),zm 66 69,z 70 (.ext 0 (.t 66)),z 71
 (.ext 1 (.t 66)),zs (.store 3 [some 6,some 15,some 2] (.t 3) (.t 70))])) (.aj [] [zm 64 12,z 65 (.bin .sub (.t 64) (.c (.i .i64 1))),zm 12 65]))
def p3:bM:=⟨121,[.t 2],.seq (.aj [] [z 2 (.aK (.c (.b false)))]) (.seq (.aj [] [z 18 (.call 4 [.c (.i .i64 2)]),zm 17 18,z 19 (.ext 0 (.t 17)),z 20 (.ext 1 (.t 17)),z 3 (.alloc 26
 [.nil,.nil,.nil]),zs (.store 3 [some 6,some 15,some 2] (.t 3) (.t 19)),zm 4 20]) (.seq (.aj [] [z 21 (.build [.i .i64 0,.s [],.i .i64 0] [(0,1,.c (.i .i64 1)),(1,1,.c
 (.s [97]))]),z 22 (.bQ 3 [none,none,none] [.t 21]),z 23 (.build [.nil,.nil,.s [],.s [],.s [],.s [],.i .i64 0,.i .i64 0] [(0,1,.t 22),(7,1,.c (.i .i64 1))]),z 5
 (.alloc 34 [.nil,.nil,.s [],.s [],.s [],.s [],.i .i64 0,.i .i64 0]),zs (.store 8 [some 3,some 3,none,none,none,none,none,none] (.t 5) (.t 23))]) (.seq (.seq (.aj []
 [z 6 (.aK (.c (.i .i64 0)))]) (.block 0 (.loop Lm))) (.seq (.seq (.aj [] [z 9 (.aK (.c (.i .i64 0)))]) (.block 2 (.loop Oj))) (.seq (.seq (.aj [] [zm 60 0,z 61 (.call 6 [.t
 60,.c (.i .i64 3)]),zm 12 61]) (.block 4 (.loop Oi))) (.seq (.aj [] [zL 73 3 3,z 74 (.build [.i .i64 0,.i .i64 0,.i .i64 0,.i .i64 0,.nil,.nil,.s [],.s [],.s [],.s
 [],.i .i64 0,.i .i64 0] [(0,1,.c (.i .i64 3)),(1,1,.c (.i .i64 0)),(2,1,.c (.i .i64 1))]),z 75 (.call 5 [.t 73,.t 74]),zm 72 75,z 76 (.ext 0 (.t 72)),z 77 (.ext 1 (.t
 72)),z 13 (.alloc 26 [.nil,.nil,.nil]),zs (.store 3 [some 6,some 15,some 2] (.t 13) (.t 76)),zm 14 77]) (.seq (.aj [] [zL 79 3 3,z 80 (.build [.i .i64 0,.i .i64 0,.i .i64
 0,.i .i64 0,.nil,.nil,.s [],.s [],.s [],.s [],.i .i64 0,.i .i64 0] [(0,1,.c (.i .i64 6)),(3,1,.c (.i .i64 1))]),z 81 (.call 5 [.t 79,.t 80]),zm 78 81,z 82 (.ext 0
 (.t 78)),z 83 (.ext 1 (.t 78)),z 15 (.alloc 26 [.nil,.nil,.nil]),zs (.store 3 [some 6,some 15,some 2] (.t 15) (.t 82)),zm 16 83]) (.seq (.aj [93,94,95,96,97,98,99,
 100,103,104,105,106,107,108,111,112,113,114,115,116,119] [zm 84 14,z 85 (.bin .eql (.t 84) (.c (.i .i64 0))),zf 86 1 3,zl 87 86,z 88 (.len false (.t 87)),z 89
 (.bin .add (.t 88) (.c (.i .i64 2))),z 90 (.bin .leq (.t 89) (.c (.i .i64 256))),z 91 (.NS false (.t 85) (.t 90)),zm 92 91,⟨some 93,[(92,true)],.aK (.t 16)⟩,⟨some 94,
 [(92,true)],.bin .eql (.t 93) (.c (.i .i64 0))⟩,⟨some 95,[(92,true)],.eG 1 (.t 3)⟩,⟨some 96,[(92,true)],.load none (.t 95)⟩,⟨some 97,[(92,true)],.len false (.t 96)⟩,
 ⟨some 98,[(92,true)],.bin .add (.t 97) (.c (.i .i64 1))⟩,⟨some 99,[(92,true)],.bin .leq (.t 98) (.c (.i .i64 256))⟩,⟨some 100,[(92,true)],.NS false (.t 94) (.t 99)⟩,z
 101 (.pick (.t 92) (.t 100) (.c (.b false))),zm 102 101,⟨some 103,[(102,true)],.aK (.t 14)⟩,⟨some 104,[(102,true)],.bin .eql (.t 103) (.c (.i .i64 0))⟩,⟨some 105,[(102,
 true)],.aK (.t 104)⟩,⟨some 106,[(102,true),(105,false)],.aK (.t 14)⟩,⟨some 107,[(102,true),(105,false)],.bin .eql (.t 106) (.c (.i .i64 3))⟩,⟨some 108,[(102,
 true)],.pick (.t 105) (.c (.b true)) (.t 107)⟩,z 109 (.pick (.t 102) (.t 108) (.c (.b false))),zm 110 109,⟨some 111,[(110,true)],.aK (.t 16)⟩,⟨some 112,[(110,true)],.bin
 .eql (.t 111) (.c (.i .i64 0))⟩,⟨some 113,[(110,true)],.aK (.t 112)⟩,⟨some 114,[(110,true),(113,false)],.aK (.t 16)⟩,⟨some 115,[(110,true),(113,false)],.bin .eql
 (.t 114) (.c (.i .i64 3))⟩,⟨some 116,[(110,true)],.pick (.t 113) (.c (.b true)) (.t 115)⟩,z 117 (.pick (.t 110) (.t 116) (.c (.b false))),zm 118 117,⟨some 119,[(118,true)],
 .call 7 []⟩,z 120 (.pick (.t 118) (.t 119) (.c (.b false))),zm 2 120]) (.ret)))))))))⟩
theorem c3:bL prog f3=some p3:=by kernel_rfl
def UI:bM:=⟨51,[.t 2],.seq (.aj [] [z 2 (.aK (.c (.i .i64 0)))]) (.seq (.block 0 (.seq (.aj [7,8,11,12,15,16] [zm 4 0,z 5 (.bin .eql (.t 4) (.c (.i .u8 9))),zm 6 5,⟨some 7,[(6,
 false)],.aK (.t 0)⟩,⟨some 8,[(6,false)],.bin .eql (.t 7) (.c (.i .u8 10))⟩,z 9 (.pick (.t 6) (.c (.b true)) (.t 8)),zm 10 9,⟨some 11,[(10,false)],.aK (.t 0)⟩,⟨some 12,
 [(10,false)],.bin .eql (.t 11) (.c (.i .u8 13))⟩,z 13 (.pick (.t 10) (.c (.b true)) (.t 12)),zm 14 13,⟨some 15,[(14,false)],.aK (.t 0)⟩,⟨some 16,[(14,false)],.bin .eql
 (.t 15) (.c (.i .u8 32))⟩,z 17 (.pick (.t 14) (.c (.b true)) (.t 16)),zm 3 17]) (.ite (.t 3) (.seq (.aj [] [z 2 (.aK (.c (.i .i64 2)))]) (.ret)) (.seq (.aj [22,23] [zm 19 0,z
 20 (.bin .lss (.t 19) (.c (.i .u8 32))),zm 21 20,⟨some 22,[(21,false)],.aK (.t 0)⟩,⟨some 23,[(21,false)],.bin .eql (.t 22) (.c (.i .u8 127))⟩,z 24 (.pick (.t 21) (.c (.b
 true)) (.t 23)),zm 18 24]) (.ite (.t 18) (.seq (.aj [] [z 2 (.aK (.c (.i .i64 1)))]) (.ret)) (.seq (.aj [29,30] [zm 26 0,z 27 (.bin .geq (.t 26) (.c (.i .u8 48))),zm 28 27,
 ⟨some 29,[(28,true)],.aK (.t 0)⟩,⟨some 30,[(28,true)],.bin .leq (.t 29) (.c (.i .u8 57))⟩,z 31 (.pick (.t 28) (.t 30) (.c (.b false))),zm 25 31]) (.ite (.t 25) (.seq (.aj
 [] [z 2 (.aK (.c (.i .i64 3)))]) (.ret)) (.seq (.aj [36,37,40,41,42,43,44,45,48,49] [zm 33 0,z 34 (.bin .geq (.t 33) (.c (.i .u8 65))),zm 35 34,⟨some 36,[(35,true)],
 .aK (.t 0)⟩,⟨some 37,[(35,true)],.bin .leq (.t 36) (.c (.i .u8 90))⟩,z 38 (.pick (.t 35) (.t 37) (.c (.b false))),zm 39 38,⟨some 40,[(39,false)],.aK (.t 0)⟩,⟨some 41,
 [(39,false)],.bin .geq (.t 40) (.c (.i .u8 97))⟩,⟨some 42,[(39,false)],.aK (.t 41)⟩,⟨some 43,[(39,false),(42,true)],.aK (.t 0)⟩,⟨some 44,[(39,false),(42,true)],
 .bin .leq (.t 43) (.c (.i .u8 122))⟩,⟨some 45,[(39,false)],.pick (.t 42) (.t 44) (.c (.b false))⟩,z 46 (.pick (.t 39) (.c (.b true)) (.t 45)),zm 47 46,⟨some 48,[(47,
 false)],.aK (.t 0)⟩,⟨some 49,[(47,false)],.bin .geq (.t 48) (.c (.i .u8 128))⟩,z 50 (.pick (.t 47) (.c (.b true)) (.t 49)),zm 32 50]) (.ite (.t 32) (.seq (.aj [] [z 2 (.aK
 (.c (.i .i64 4)))]) (.ret)) (.skip)))))))))) (.seq (.aj [] [z 2 (.aK (.c (.i .i64 5)))]) (.ret)))⟩
theorem Zz:bL prog f247=some UI:=by kernel_rfl
def xf:bj:=.seq (.seq (.aj [] [zm 13 3,zm 14 0,z 15 (.len true (.t 14)),z 16 (.bin .lss (.t 13) (.t 15))]) (.ite (.t 16) (.skip) (.exit 0))) (.seq (.block 1 (.seq (.aj [] [zm 19 0,zm 20
 3,z 21 (.gQ (.t 19) (.t 20)),zm 4 21]) (.seq (.seq (.aj [25,26,29,30,31,32,33,34,35,36,37,38,39,40,41,42] [zm 22 4,z 23 (.bin .geq (.t 22) (.c (.i .u8 97))),zm
 24 23,⟨some 25,[(24,true)],.aK (.t 4)⟩,⟨some 26,[(24,true)],.bin .leq (.t 25) (.c (.i .u8 122))⟩,z 27 (.pick (.t 24) (.t 26) (.c (.b false))),zm 28 27,⟨some 29,[(28,
 false)],.aK (.t 3)⟩,⟨some 30,[(28,false)],.bin .gtr (.t 29) (.c (.i .i64 0))⟩,⟨some 31,[(28,false)],.aK (.t 30)⟩,⟨some 32,[(28,false),(31,true)],.aK (.t 4)⟩,⟨some
 33,[(28,false),(31,true)],.bin .geq (.t 32) (.c (.i .u8 48))⟩,⟨some 34,[(28,false),(31,true)],.aK (.t 33)⟩,⟨some 35,[(28,false),(31,true),(34,true)],.aK (.t
 4)⟩,⟨some 36,[(28,false),(31,true),(34,true)],.bin .leq (.t 35) (.c (.i .u8 57))⟩,⟨some 37,[(28,false),(31,true)],.pick (.t 34) (.t 36) (.c (.b false))⟩,⟨some 38,
 [(28,false),(31,true)],.aK (.t 37)⟩,⟨some 39,[(28,false),(31,true),(38,false)],.aK (.t 4)⟩,⟨some 40,[(28,false),(31,true),(38,false)],.bin .eql (.t 39) (.c (.i
 .u8 45))⟩,⟨some 41,[(28,false),(31,true)],.pick (.t 38) (.c (.b true)) (.t 40)⟩,⟨some 42,[(28,false)],.pick (.t 31) (.t 41) (.c (.b false))⟩,z 43 (.pick (.t 28) (.c (.b
 true)) (.t 42))]) (.ite (.t 43) (.exit 1) (.skip))) (.seq (.aj [] [z 2 (.aK (.c (.b false)))]) (.ret))))) (.aj [] [zm 17 3,z 18 (.bin .add (.t 17) (.c (.i .i64 1))),zm 3 18]))
def UR:bM:=⟨44,[.t 2],.seq (.aj [] [z 2 (.aK (.c (.b false)))]) (.seq (.seq (.aj [9,10,11] [zm 5 0,z 6 (.len true (.t 5)),z 7 (.bin .lss (.t 6) (.c (.i .i64 1))),zm 8 7,⟨some 9,
 [(8,false)],.aK (.t 0)⟩,⟨some 10,[(8,false)],.len true (.t 9)⟩,⟨some 11,[(8,false)],.bin .gtr (.t 10) (.c (.i .i64 24))⟩,z 12 (.pick (.t 8) (.c (.b true)) (.t 11))])
 (.ite (.t 12) (.seq (.aj [] [z 2 (.aK (.c (.b false)))]) (.ret)) (.skip))) (.seq (.seq (.aj [] [z 3 (.aK (.c (.i .i64 0)))]) (.block 0 (.loop xf))) (.seq (.aj [] [z 2 (.aK
 (.c (.b true)))]) (.ret))))⟩
theorem ZI:bL prog f229=some UR:=by kernel_rfl
def UP:bM:=⟨16,[.t 2],.seq (.aj [] [z 2 (.aK (.c (.s [])))]) (.seq (.seq (.aj [6,7] [zm 3 0,z 4 (.bin .lss (.t 3) (.c (.i .i64 0))),zm 5 4,⟨some 6,[(5,true)],.aK (.t 0)⟩,⟨some 7,
 [(5,true)],.bin .gtr (.t 6) (.c (.i .i64 (-4611686018427387904)))⟩,z 8 (.pick (.t 5) (.t 7) (.c (.b false)))]) (.ite (.t 8) (.seq (.aj [] [zm 9 0,z 10 (.un .neg (.t 9)),z 11
 (.call 248 [.t 10]),z 12 (.bin .add (.c (.s [45])) (.t 11)),zm 2 12]) (.ret)) (.skip))) (.seq (.aj [] [zm 13 0,z 14 (.max2 (.t 13) (.c (.i .i64 0))),z 15 (.call 248 [.t 14]),
 zm 2 15]) (.ret)))⟩
theorem ZG:bL prog f231=some UP:=by kernel_rfl
def xc:bj:=.block 1 (.seq (.aj [] [zm 4 0,z 5 (.bin .rem (.t 4) (.c (.i .i64 10))),z 6 (.bin .add (.c (.i .i64 48)) (.t 5)),z 7 (.rn .u8 (.t 6)),z 8 (.bQ 1 [none] [.t 7]),z 9 (.yx
 (.t 8)),zm 10 3,z 11 (.bin .add (.t 9) (.t 10)),zm 3 11]) (.seq (.aj [] [zm 12 0,z 13 (.bin .quo (.t 12) (.c (.i .i64 10))),zm 0 13]) (.seq (.aj [] [zm 14 0,z 15 (.bin .eql
 (.t 14) (.c (.i .i64 0)))]) (.ite (.t 15) (.seq (.aj [] [zm 16 3,zm 2 16]) (.ret)) (.skip)))))
def UH:bM:=⟨17,[.t 2],.seq (.aj [] [z 2 (.aK (.c (.s [])))]) (.seq (.aj [] [z 3 (.aK (.c (.s [])))]) (.block 0 (.loop xc)))⟩
theorem Zy:bL prog f248=some UH:=by kernel_rfl
def Ht:bj:=.seq (.aj [] [z 14 (.bin .lss (.t 13) (.t 12))]) (.seq (.ite (.t 14) (.skip) (.exit 0)) (.seq (.block 1 (.seq (.aj [] [zm 15 13,zm 5 15]) (.seq (.df [] [zm 16 0,zm 17 5,z 18
 (.idx 3 (.t 16) (.t 17)),zL 19 3 18,zm 20 1,zm 21 5,z 22 (.idx 3 (.t 20) (.t 21)),zL 23 3 22] [] [z 24 (.beq true [0,1,0] (.t 19) (.t 23))]) (.ite (.t 24) (.seq (.aj [] [z 4
 (.aK (.c (.b false)))]) (.ret)) (.skip))))) (.aj [] [z 25 (.bin .add (.t 13) (.c (.i .i64 1))),zm 13 25])))
def p71:bM:=⟨26,[.t 4],.seq (.aj [] [z 4 (.aK (.c (.b false)))]) (.seq (.seq (.aj [] [zm 6 0,z 7 (.len false (.t 6)),zm 8 1,z 9 (.len false (.t 8)),z 10 (.bin .neq (.t 7) (.t 9))])
 (.ite (.t 10) (.seq (.aj [] [z 4 (.aK (.c (.b false)))]) (.ret)) (.skip))) (.seq (.seq (.aj [] [zm 11 0,z 12 (.len false (.t 11)),z 13 (.aK (.c (.i .i64 0)))]) (.block 0
 (.loop Ht))) (.seq (.aj [] [z 4 (.aK (.c (.b true)))]) (.ret))))⟩
theorem c71:bL prog f71=some p71:=by kernel_rfl
def UN:bM:=⟨16,[.t 2],.seq (.aj [] [z 1 (.box 31 (.t 0)),z 2 (.aK (.c (.b false)))]) (.seq (.aj [7,8,9,12,13,14] [zf 3 0 1,zl 4 3,z 5 (.bin .eql (.t 4) (.c (.i .i64 2))),zm 6 5,
 ⟨some 7,[(6,false)],.eG 0 (.t 1)⟩,⟨some 8,[(6,false)],.load none (.t 7)⟩,⟨some 9,[(6,false)],.bin .eql (.t 8) (.c (.i .i64 3))⟩,z 10 (.pick (.t 6) (.c (.b true)) (.t
 9)),zm 11 10,⟨some 12,[(11,false)],.eG 0 (.t 1)⟩,⟨some 13,[(11,false)],.load none (.t 12)⟩,⟨some 14,[(11,false)],.bin .eql (.t 13) (.c (.i .i64 4))⟩,z 15 (.pick (.t
 11) (.c (.b true)) (.t 14)),zm 2 15]) (.ret))⟩
theorem ZE:bL prog f242=some UN:=by kernel_rfl
def Bw:bj:=.seq (.seq (.aj [] [zm 4 3,zm 5 0,z 6 (.len true (.t 5)),z 7 (.bin .lss (.t 4) (.t 6))]) (.ite (.t 7) (.skip) (.exit 0))) (.seq (.block 1 (.seq (.aj [] [zm 10 0,zm 11 3,z 12
 (.gQ (.t 10) (.t 11)),z 13 (.bin .eql (.t 12) (.c (.i .u8 32)))]) (.ite (.t 13) (.seq (.aj [] [zm 14 0,zm 15 3,z 16 (.fv (.t 14) none (some (.t 15))),zm 2 16]) (.ret))
 (.skip)))) (.aj [] [zm 8 3,z 9 (.bin .add (.t 8) (.c (.i .i64 1))),zm 3 9]))
def UM:bM:=⟨18,[.t 2],.seq (.aj [] [z 2 (.aK (.c (.s [])))]) (.seq (.seq (.aj [] [z 3 (.aK (.c (.i .i64 0)))]) (.block 0 (.loop Bw))) (.seq (.aj [] [zm 17 0,zm 2 17]) (.ret)))⟩
theorem ZD:bL prog f243=some UM:=by kernel_rfl
def Bx:bj:=.seq (.seq (.aj [] [zm 9 3,zm 10 0,z 11 (.len true (.t 10)),z 12 (.bin .lss (.t 9) (.t 11))]) (.ite (.t 12) (.skip) (.exit 0))) (.seq (.block 1 (.seq (.aj [] [zm 15 0,zm 16 3,
 z 17 (.gQ (.t 15) (.t 16)),zm 4 17]) (.seq (.aj [21,22,25,26,29,30,33,34,37,38] [zm 18 4,z 19 (.bin .lss (.t 18) (.c (.i .u8 32))),zm 20 19,⟨some 21,[(20,false)],
 .aK (.t 4)⟩,⟨some 22,[(20,false)],.bin .gtr (.t 21) (.c (.i .u8 126))⟩,z 23 (.pick (.t 20) (.c (.b true)) (.t 22)),zm 24 23,⟨some 25,[(24,false)],.aK (.t 4)⟩,⟨some 26,
 [(24,false)],.bin .eql (.t 25) (.c (.i .u8 60))⟩,z 27 (.pick (.t 24) (.c (.b true)) (.t 26)),zm 28 27,⟨some 29,[(28,false)],.aK (.t 4)⟩,⟨some 30,[(28,false)],.bin .eql
 (.t 29) (.c (.i .u8 62))⟩,z 31 (.pick (.t 28) (.c (.b true)) (.t 30)),zm 32 31,⟨some 33,[(32,false)],.aK (.t 4)⟩,⟨some 34,[(32,false)],.bin .eql (.t 33) (.c (.i .u8
 123))⟩,z 35 (.pick (.t 32) (.c (.b true)) (.t 34)),zm 36 35,⟨some 37,[(36,false)],.aK (.t 4)⟩,⟨some 38,[(36,false)],.bin .eql (.t 37) (.c (.i .u8 125))⟩,z 39 (.pick (.t
 36) (.c (.b true)) (.t 38))]) (.ite (.t 39) (.seq (.aj [] [z 2 (.aK (.c (.b false)))]) (.ret)) (.skip))))) (.aj [] [zm 13 3,z 14 (.bin .add (.t 13) (.c (.i .i64 1))),zm 3 14]))
def UO:bM:=⟨67,[.t 2],.seq (.aj [] [z 2 (.aK (.c (.b false)))]) (.seq (.seq (.aj [] [zm 6 0,z 7 (.len true (.t 6)),z 8 (.bin .gtr (.t 7) (.c (.i .i64 64)))]) (.ite (.t 8) (.seq (.aj []
 [z 2 (.aK (.c (.b false)))]) (.ret)) (.skip))) (.seq (.seq (.aj [] [z 3 (.aK (.c (.i .i64 0)))]) (.block 0 (.loop Bx))) (.seq (.aj [] [zm 40 0,z 41 (.call 243 [.t 40]),zm
 5 41]) (.seq (.aj [45,46,47,48,49,50,51,52,53,54,55,56,57,60,61,62,63,64,65] [zm 42 5,z 43 (.call 229 [.t 42]),zm 44 43,⟨some 45,[(44,true)],.aK (.t 5)⟩,
 ⟨some 46,[(44,true)],.len true (.t 45)⟩,⟨some 47,[(44,true)],.aK (.t 0)⟩,⟨some 48,[(44,true)],.len true (.t 47)⟩,⟨some 49,[(44,true)],.bin .eql (.t 46) (.t 48)⟩,
 ⟨some 50,[(44,true)],.aK (.t 49)⟩,⟨some 51,[(44,true),(50,false)],.aK (.t 0)⟩,⟨some 52,[(44,true),(50,false)],.len true (.t 51)⟩,⟨some 53,[(44,true),(50,
 false)],.aK (.t 5)⟩,⟨some 54,[(44,true),(50,false)],.len true (.t 53)⟩,⟨some 55,[(44,true),(50,false)],.bin .add (.t 54) (.c (.i .i64 1))⟩,⟨some 56,[(44,true),(50,
 false)],.bin .gtr (.t 52) (.t 55)⟩,⟨some 57,[(44,true)],.pick (.t 50) (.c (.b true)) (.t 56)⟩,z 58 (.pick (.t 44) (.t 57) (.c (.b false))),zm 59 58,⟨some 60,[(59,true)],
 .aK (.t 0)⟩,⟨some 61,[(59,true)],.aK (.t 0)⟩,⟨some 62,[(59,true)],.len true (.t 61)⟩,⟨some 63,[(59,true)],.bin .sub (.t 62) (.c (.i .i64 1))⟩,⟨some 64,[(59,true)],
 .gQ (.t 60) (.t 63)⟩,⟨some 65,[(59,true)],.bin .neq (.t 64) (.c (.i .u8 47))⟩,z 66 (.pick (.t 59) (.t 65) (.c (.b false))),zm 2 66]) (.ret)))))⟩
theorem ZF:bL prog f241=some UO:=by kernel_rfl
def tX:bj:=.seq (.aj [] [z 81 (.bin .lss (.t 80) (.t 79))]) (.seq (.ite (.t 81) (.skip) (.exit 1)) (.seq (.block 2 (.seq (.aj [] [zm 82 80,zm 5 82]) (.seq (.aj [] [zm 83 0,zm 84 5,z 85
 (.idx 3 (.t 83) (.t 84)),zL 86 3 85,z 6 (.alloc 31 [.i .i64 0,.s [],.i .i64 0]),zs (.store 3 [none,none,none] (.t 6) (.t 86))]) (.seq (.seq (.aj [91,92,93,94,95] [zL 87
 3 6,z 88 (.call 242 [.t 87]),z 89 (.un .not (.t 88)),zm 90 89,⟨some 91,[(90,false)],.eG 2 (.t 6)⟩,⟨some 92,[(90,false)],.load none (.t 91)⟩,⟨some 93,[(90,false)],
 .eG 2 (.t 3)⟩,⟨some 94,[(90,false)],.load none (.t 93)⟩,⟨some 95,[(90,false)],.bin .neq (.t 92) (.t 94)⟩,z 96 (.pick (.t 90) (.c (.b true)) (.t 95))]) (.ite (.t 96) (.exit
 2) (.skip))) (.seq (.df [([zf 97 0 3,zl 98 97,z 99 (.bin .neq (.t 98) (.c (.i .i64 3))),zm 100 99,⟨some 101,[(100,false)],.eG 0 (.t 6)⟩,⟨some 102,[(100,false)],.load
 none (.t 101)⟩,⟨some 103,[(100,false)],.bin .neq (.t 102) (.c (.i .i64 2))⟩,z 104 (.pick (.t 100) (.c (.b true)) (.t 103)),zm 105 104,⟨some 106,[(105,false)],.eG 1 (.t
 6)⟩,⟨some 107,[(105,false)],.load none (.t 106)⟩,⟨some 109,[(105,false)],.eG 1 (.t 3)⟩,⟨some 110,[(105,false)],.load none (.t 109)⟩],⟨some 108,[(105,false)],.call
 243 [.t 107]⟩,[⟨some 109,[(105,false)],.eG 1 (.t 3)⟩,⟨some 110,[(105,false)],.load none (.t 109)⟩])] [] [101,102,103,106,107,108,109,110,111] [⟨some 111,[(105,
 false)],.bin .neq (.t 108) (.t 110)⟩,z 112 (.pick (.t 105) (.c (.b true)) (.t 111))]) (.ite (.t 112) (.seq (.aj [] [z 4 (.aK (.c (.i .i64 7)))]) (.ret)) (.skip))))))) (.aj []
 [z 113 (.bin .add (.t 80) (.c (.i .i64 1))),zm 80 113])))
def UY:bM:=⟨114,[.t 4],.seq (.aj [] [z 3 (.box 31 (.t 1)),z 4 (.aK (.c (.i .i64 0)))]) (.seq (.seq (.aj [] [zf 7 0 3,zl 8 7]) (.block 0 (.seq (.aj [] [z 10 (.bin .eql (.t 8) (.c (.i
 .i64 1))),zm 9 10]) (.ite (.t 9) (.seq (.seq (.aj [15,16,17,20,21,22,23,24,25,26,27,28,29,30,31,32] [zf 11 1 3,zl 12 11,z 13 (.bin .eql (.t 12) (.c (.s []))),zm
 14 13,⟨some 15,[(14,false)],.eG 2 (.t 3)⟩,⟨some 16,[(14,false)],.load none (.t 15)⟩,⟨some 17,[(14,false)],.bin .neq (.t 16) (.c (.i .i64 0))⟩,z 18 (.pick (.t 14) (.c
 (.b true)) (.t 17)),zm 19 18,⟨some 20,[(19,false)],.aK (.t 0)⟩,⟨some 21,[(19,false)],.len false (.t 20)⟩,⟨some 22,[(19,false)],.bin .gtr (.t 21) (.c (.i .i64 0))⟩,
 ⟨some 23,[(19,false)],.aK (.t 22)⟩,⟨some 24,[(19,false),(23,true)],.aK (.t 0)⟩,⟨some 25,[(19,false),(23,true)],.aK (.t 0)⟩,⟨some 26,[(19,false),(23,true)],
 .len false (.t 25)⟩,⟨some 27,[(19,false),(23,true)],.bin .sub (.t 26) (.c (.i .i64 1))⟩,⟨some 28,[(19,false),(23,true)],.idx 3 (.t 24) (.t 27)⟩,⟨some 29,[(19,false),
 (23,true)],.eG 0 (.t 28)⟩,⟨some 30,[(19,false),(23,true)],.load none (.t 29)⟩,⟨some 31,[(19,false),(23,true)],.bin .eql (.t 30) (.c (.i .i64 1))⟩,⟨some 32,[(19,
 false)],.pick (.t 23) (.t 31) (.c (.b false))⟩,z 33 (.pick (.t 19) (.c (.b true)) (.t 32))]) (.ite (.t 33) (.seq (.aj [] [z 4 (.aK (.c (.i .i64 1)))]) (.ret)) (.skip))) (.seq
 (.aj [] [z 4 (.aK (.c (.i .i64 0)))]) (.ret))) (.seq (.aj [] [z 35 (.bin .eql (.t 8) (.c (.i .i64 5))),zm 34 35]) (.ite (.t 34) (.seq (.seq (.aj [41,42,43] [zf 36 1 3,zl 37
 36,z 38 (.call 229 [.t 37]),z 39 (.un .not (.t 38)),zm 40 39,⟨some 41,[(40,false)],.eG 2 (.t 3)⟩,⟨some 42,[(40,false)],.load none (.t 41)⟩,⟨some 43,[(40,false)],.bin
 .neq (.t 42) (.c (.i .i64 0))⟩,z 44 (.pick (.t 40) (.c (.b true)) (.t 43))]) (.ite (.t 44) (.seq (.aj [] [z 4 (.aK (.c (.i .i64 1)))]) (.ret)) (.skip))) (.seq (.aj [] [z 4 (.aK
 (.c (.i .i64 0)))]) (.ret))) (.seq (.seq (.aj [] [z 46 (.bin .eql (.t 8) (.c (.i .i64 2))),zm 45 46]) (.ite (.t 45) (.skip) (.aj [] [z 47 (.bin .eql (.t 8) (.c (.i .i64 4))),zm
 45 47]))) (.ite (.t 45) (.seq (.aj [53,54,55,58,59,60] [zf 48 1 3,zl 49 48,z 50 (.call 241 [.t 49]),z 51 (.un .not (.t 50)),zm 52 51,⟨some 53,[(52,false)],.eG 2 (.t
 3)⟩,⟨some 54,[(52,false)],.load none (.t 53)⟩,⟨some 55,[(52,false)],.bin .lss (.t 54) (.c (.i .i64 1))⟩,z 56 (.pick (.t 52) (.c (.b true)) (.t 55)),zm 57 56,⟨some 58,
 [(57,false)],.eG 2 (.t 3)⟩,⟨some 59,[(57,false)],.load none (.t 58)⟩,⟨some 60,[(57,false)],.bin .gtr (.t 59) (.c (.i .i64 999))⟩,z 61 (.pick (.t 57) (.c (.b true)) (.t
 60))]) (.ite (.t 61) (.seq (.aj [] [z 4 (.aK (.c (.i .i64 1)))]) (.ret)) (.skip))) (.seq (.aj [] [z 63 (.bin .eql (.t 8) (.c (.i .i64 3))),zm 62 63]) (.ite (.t 62) (.seq (.aj
 [69,70,71,74,75,76] [zf 64 1 3,zl 65 64,z 66 (.call 229 [.t 65]),z 67 (.un .not (.t 66)),zm 68 67,⟨some 69,[(68,false)],.eG 2 (.t 3)⟩,⟨some 70,[(68,false)],.load
 none (.t 69)⟩,⟨some 71,[(68,false)],.bin .lss (.t 70) (.c (.i .i64 1))⟩,z 72 (.pick (.t 68) (.c (.b true)) (.t 71)),zm 73 72,⟨some 74,[(73,false)],.eG 2 (.t 3)⟩,⟨some
 75,[(73,false)],.load none (.t 74)⟩,⟨some 76,[(73,false)],.bin .gtr (.t 75) (.c (.i .i64 999))⟩,z 77 (.pick (.t 73) (.c (.b true)) (.t 76))]) (.ite (.t 77) (.seq (.aj [] [z
 4 (.aK (.c (.i .i64 1)))]) (.ret)) (.skip))) (.seq (.aj [] [z 4 (.aK (.c (.i .i64 1)))]) (.ret)))))))))))) (.seq (.seq (.aj [] [zm 78 0,z 79 (.len false (.t 78)),z 80 (.aK
 (.c (.i .i64 0)))]) (.block 1 (.loop tX))) (.seq (.aj [] [z 4 (.aK (.c (.i .i64 0)))]) (.ret))))⟩
theorem ZO:bL prog f223=some UY:=by kernel_rfl
def BG:bj:=.seq (.aj [] [z 16 (.bin .lss (.t 15) (.t 14))]) (.seq (.ite (.t 16) (.skip) (.exit 0)) (.seq (.block 1 (.seq (.aj [] [zm 17 15,zm 3 17]) (.seq (.df [] [zm 18 0,zm 19 3,z 20
 (.slice 3 (.t 18) none (some (.t 19))),zm 21 0,zm 22 3,z 23 (.idx 3 (.t 21) (.t 22)),zL 24 3 23] [] [z 25 (.call 223 [.t 20,.t 24]),zm 4 25]) (.seq (.aj [] [zm 26 4,z 27
 (.bin .neq (.t 26) (.c (.i .i64 0)))]) (.ite (.t 27) (.seq (.aj [] [zm 28 4,zm 2 28]) (.ret)) (.skip)))))) (.aj [] [z 29 (.bin .add (.t 15) (.c (.i .i64 1))),zm 15 29])))
def Va:bM:=⟨30,[.t 2],.seq (.aj [] [z 2 (.aK (.c (.i .i64 0)))]) (.seq (.seq (.aj [9,10,11] [zm 5 0,z 6 (.len false (.t 5)),z 7 (.bin .gtr (.t 6) (.c (.i .i64 512))),zm 8 7,⟨some 9,
 [(8,false)],.aK (.t 0)⟩,⟨some 10,[(8,false)],.call 222 [.t 9]⟩,⟨some 11,[(8,false)],.bin .gtr (.t 10) (.c (.i .i64 1024))⟩,z 12 (.pick (.t 8) (.c (.b true)) (.t 11))])
 (.ite (.t 12) (.seq (.aj [] [z 2 (.aK (.c (.i .i64 3)))]) (.ret)) (.skip))) (.seq (.seq (.aj [] [zm 13 0,z 14 (.len false (.t 13)),z 15 (.aK (.c (.i .i64 0)))]) (.block 0
 (.loop BG))) (.seq (.aj [] [z 2 (.aK (.c (.i .i64 0)))]) (.ret))))⟩
theorem Z0:bL prog f199=some Va:=by kernel_rfl
def BC:bj:=.seq (.aj [] [z 8 (.bin .lss (.t 7) (.t 6))]) (.seq (.ite (.t 8) (.skip) (.exit 0)) (.seq (.block 1 (.seq (.aj [] [zm 9 7,zm 4 9]) (.seq (.aj [] [zm 10 0,zm 11 4,z 12 (.idx 3
 (.t 10) (.t 11)),zf 13 0 12,zl 14 13,z 15 (.bin .eql (.t 14) (.c (.i .i64 1)))]) (.ite (.t 15) (.aj [] [zm 16 3,zm 17 0,zm 18 4,z 19 (.idx 3 (.t 17) (.t 18)),zf 20 1 19,zl
 21 20,z 22 (.len true (.t 21)),z 23 (.bin .add (.t 16) (.t 22)),zm 3 23]) (.aj [] [zm 24 3,z 25 (.bin .add (.t 24) (.c (.i .i64 1))),zm 3 25]))))) (.aj [] [z 26 (.bin .add
 (.t 7) (.c (.i .i64 1))),zm 7 26])))
def UZ:bM:=⟨28,[.t 2],.seq (.aj [] [z 2 (.aK (.c (.i .i64 0)))]) (.seq (.aj [] [z 3 (.aK (.c (.i .i64 0)))]) (.seq (.seq (.aj [] [zm 5 0,z 6 (.len false (.t 5)),z 7 (.aK (.c (.i .i64
 0)))]) (.block 0 (.loop BC))) (.seq (.aj [] [zm 27 3,zm 2 27]) (.ret))))⟩
theorem ZP:bL prog f222=some UZ:=by kernel_rfl
def xe:bj:=.seq (.aj [] [z 10 (.bin .lss (.t 9) (.t 8))]) (.seq (.ite (.t 10) (.skip) (.exit 0)) (.seq (.block 1 (.seq (.aj [] [zm 11 9,zm 4 11]) (.seq (.aj [] [zm 12 0,zm 13 4,z 14
 (.idx 3 (.t 12) (.t 13)),zL 15 3 14,z 5 (.alloc 31 [.i .i64 0,.s [],.i .i64 0]),zs (.store 3 [none,none,none] (.t 5) (.t 15))]) (.seq (.seq (.aj [] [zf 16 0 5,zl 17 16,z
 18 (.bin .neq (.t 17) (.c (.i .i64 1)))]) (.ite (.t 18) (.seq (.aj [] [zm 19 3,zL 20 3 5,z 21 (.bQ 3 [none,none,none] [.t 20]),z 22 (.app 31 3 32 (.t 19) (.t 21)),zm 3
 22]) (.exit 1)) (.skip))) (.seq (.seq (.aj [] [zf 23 1 5,zl 24 23,z 25 (.bin .eql (.t 24) (.c (.s [])))]) (.ite (.t 25) (.exit 1) (.skip))) (.seq (.aj [] [zm 26 3,z 27 (.len
 false (.t 26)),zm 6 27]) (.seq (.aj [31,32,33,34,35,36,37] [zm 28 6,z 29 (.bin .gtr (.t 28) (.c (.i .i64 0))),zm 30 29,⟨some 31,[(30,true)],.aK (.t 3)⟩,⟨some 32,
 [(30,true)],.aK (.t 6)⟩,⟨some 33,[(30,true)],.bin .sub (.t 32) (.c (.i .i64 1))⟩,⟨some 34,[(30,true)],.idx 3 (.t 31) (.t 33)⟩,⟨some 35,[(30,true)],.eG 0 (.t 34)⟩,
 ⟨some 36,[(30,true)],.load none (.t 35)⟩,⟨some 37,[(30,true)],.bin .eql (.t 36) (.c (.i .i64 1))⟩,z 38 (.pick (.t 30) (.t 37) (.c (.b false)))]) (.ite (.t 38) (.df [] [zm
 39 3,zm 40 6,z 41 (.bin .sub (.t 40) (.c (.i .i64 1))),zm 42 3,zm 43 6,z 44 (.bin .sub (.t 43) (.c (.i .i64 1))),z 45 (.idx 3 (.t 42) (.t 44)),zf 46 1 45,zl 47 46,zf 48 1
 5,zl 49 48,z 50 (.bin .add (.t 47) (.t 49)),z 51 (.build [.i .i64 0,.s [],.i .i64 0] [(0,1,.c (.i .i64 1)),(1,1,.t 50)])] [] [z 52 (.idx 3 (.t 39) (.t 41)),zs (.store 3
 [none,none,none] (.t 52) (.t 51))]) (.aj [] [zm 53 3,zf 54 1 5,zl 55 54,z 56 (.build [.i .i64 0,.s [],.i .i64 0] [(0,1,.c (.i .i64 1)),(1,1,.t 55)]),z 57 (.bQ 3
 [none,none,none] [.t 56]),z 58 (.app 31 3 32 (.t 53) (.t 57)),zm 3 58]))))))))) (.aj [] [z 59 (.bin .add (.t 9) (.c (.i .i64 1))),zm 9 59])))
def UK:bM:=⟨61,[.t 2],.seq (.aj [] [z 2 (.aK (.c .nil))]) (.seq (.aj [] [z 3 (.aK (.c .nil))]) (.seq (.seq (.aj [] [zm 7 0,z 8 (.len false (.t 7)),z 9 (.aK (.c (.i .i64 0)))])
 (.block 0 (.loop xe))) (.seq (.aj [] [zm 60 3,zm 2 60]) (.ret))))⟩
theorem ZB:bL prog f245=some UK:=by kernel_rfl
def US:bM:=⟨10,[.t 4],.seq (.aj [] [z 4 (.aK (.c .nil))]) (.seq (.aj [] [zm 5 0,z 6 (.app 31 3 32 (.c .nil) (.t 5)),zm 7 1,z 8 (.app 31 3 32 (.t 6) (.t 7)),z 9 (.call 245 [.t 8]),zm
 4 9]) (.ret))⟩
theorem ZJ:bL prog f228=some US:=by kernel_rfl
def BM:bj:=.seq (.aj [] [z 14 (.bin .lss (.t 13) (.t 12))]) (.seq (.ite (.t 14) (.skip) (.exit 0)) (.seq (.block 1 (.seq (.aj [] [zm 15 13,zm 5 15]) (.seq (.df [] [zm 16 0,zm 17 5,z 18
 (.idx 1 (.t 16) (.t 17)),zl 19 18,zm 20 1,zm 21 5,z 22 (.idx 1 (.t 20) (.t 21)),zl 23 22] [] [z 24 (.bin .neq (.t 19) (.t 23))]) (.ite (.t 24) (.seq (.aj [] [z 4 (.aK (.c (.b
 false)))]) (.ret)) (.skip))))) (.aj [] [z 25 (.bin .add (.t 13) (.c (.i .i64 1))),zm 13 25])))
def Vo:bM:=⟨26,[.t 4],.seq (.aj [] [z 4 (.aK (.c (.b false)))]) (.seq (.seq (.aj [] [zm 6 0,z 7 (.len false (.t 6)),zm 8 1,z 9 (.len false (.t 8)),z 10 (.bin .neq (.t 7) (.t 9))])
 (.ite (.t 10) (.seq (.aj [] [z 4 (.aK (.c (.b false)))]) (.ret)) (.skip))) (.seq (.seq (.aj [] [zm 11 0,z 12 (.len false (.t 11)),z 13 (.aK (.c (.i .i64 0)))]) (.block 0
 (.loop BM))) (.seq (.aj [] [z 4 (.aK (.c (.b true)))]) (.ret))))⟩
theorem aae:bL prog f178=some Vo:=by kernel_rfl
def Bu:bj:=.seq (.aj [] [z 9 (.bin .lss (.t 8) (.t 7))]) (.seq (.ite (.t 9) (.skip) (.exit 0)) (.seq (.block 1 (.seq (.aj [] [zm 10 8,zm 5 10]) (.seq (.aj [] [zm 11 0,zm 12 5,z 13 (.idx
 1 (.t 11) (.t 12)),zl 14 13,zm 15 1,z 16 (.bin .eql (.t 14) (.t 15))]) (.ite (.t 16) (.seq (.aj [] [z 4 (.aK (.c (.b true)))]) (.ret)) (.skip))))) (.aj [] [z 17 (.bin .add (.t
 8) (.c (.i .i64 1))),zm 8 17])))
def UL:bM:=⟨18,[.t 4],.seq (.aj [] [z 4 (.aK (.c (.b false)))]) (.seq (.seq (.aj [] [zm 6 0,z 7 (.len false (.t 6)),z 8 (.aK (.c (.i .i64 0)))]) (.block 0 (.loop Bu))) (.seq (.aj
 [] [z 4 (.aK (.c (.b false)))]) (.ret)))⟩
theorem ZC:bL prog f244=some UL:=by kernel_rfl
def BB:bj:=.seq (.aj [] [z 8 (.bin .lss (.t 7) (.t 6))]) (.seq (.ite (.t 8) (.skip) (.exit 0)) (.seq (.block 1 (.seq (.aj [] [zm 9 7,zm 4 9]) (.seq (.aj [16,17,18,19,20,21,22,23]
 [zm 10 0,zm 11 4,z 12 (.idx 3 (.t 10) (.t 11)),zL 13 3 12,z 14 (.call 242 [.t 13]),zm 15 14,⟨some 16,[(15,true)],.aK (.t 3)⟩,⟨some 17,[(15,true)],.aK (.t 0)⟩,⟨some
 18,[(15,true)],.aK (.t 4)⟩,⟨some 19,[(15,true)],.idx 3 (.t 17) (.t 18)⟩,⟨some 20,[(15,true)],.eG 2 (.t 19)⟩,⟨some 21,[(15,true)],.load none (.t 20)⟩,⟨some 22,
 [(15,true)],.call 244 [.t 16,.t 21]⟩,⟨some 23,[(15,true)],.un .not (.t 22)⟩,z 24 (.pick (.t 15) (.t 23) (.c (.b false)))]) (.ite (.t 24) (.aj [] [zm 25 3,zm 26 0,zm 27 4,
 z 28 (.idx 3 (.t 26) (.t 27)),zf 29 2 28,zl 30 29,z 31 (.bQ 1 [none] [.t 30]),z 32 (.app 3 1 8 (.t 25) (.t 31)),zm 3 32]) (.skip))))) (.aj [] [z 33 (.bin .add (.t 7) (.c
 (.i .i64 1))),zm 7 33])))
def UX:bM:=⟨35,[.t 2],.seq (.aj [] [z 2 (.aK (.c .nil))]) (.seq (.aj [] [z 3 (.aK (.c .nil))]) (.seq (.seq (.aj [] [zm 5 0,z 6 (.len false (.t 5)),z 7 (.aK (.c (.i .i64 0)))])
 (.block 0 (.loop BB))) (.seq (.aj [] [zm 34 3,zm 2 34]) (.ret))))⟩
theorem ZN:bL prog f224=some UX:=by kernel_rfl
def Bz:bj:=.seq (.seq (.aj [32,33,34,35] [zm 27 10,zm 28 1,z 29 (.len false (.t 28)),z 30 (.bin .lss (.t 27) (.t 29)),zm 31 30,⟨some 32,[(31,true)],.aK (.t 10)⟩,⟨some 33,[(31,
 true)],.aK (.t 2)⟩,⟨some 34,[(31,true)],.len false (.t 33)⟩,⟨some 35,[(31,true)],.bin .lss (.t 32) (.t 34)⟩,z 36 (.pick (.t 31) (.t 35) (.c (.b false)))]) (.ite (.t 36)
 (.skip) (.exit 2))) (.seq (.block 3 (.seq (.df [] [zm 39 1,zm 40 10,z 41 (.idx 1 (.t 39) (.t 40)),zl 42 41,zf 43 2 9,zl 44 43] [] [z 45 (.bin .eql (.t 42) (.t 44))]) (.ite
 (.t 45) (.seq (.df [] [zm 46 7,zf 47 0 9,zl 48 47,zf 49 1 9,zl 50 49,zm 51 2,zm 52 10,z 53 (.idx 1 (.t 51) (.t 52)),zl 54 53,z 55 (.build [.i .i64 0,.s [],.i .i64 0]
 [(0,1,.t 48),(1,1,.t 50),(2,1,.t 54)]),z 56 (.bQ 3 [none,none,none] [.t 55])] [] [z 57 (.app 31 3 32 (.t 46) (.t 56)),zm 7 57]) (.exit 2)) (.skip)))) (.aj [] [zm 37
 10,z 38 (.bin .add (.t 37) (.c (.i .i64 1))),zm 10 38]))
def xh:bj:=.seq (.aj [] [z 14 (.bin .lss (.t 13) (.t 12))]) (.seq (.ite (.t 14) (.skip) (.exit 0)) (.seq (.block 1 (.seq (.aj [] [zm 15 13,zm 8 15]) (.seq (.aj [] [zm 16 0,zm 17 8,z 18
 (.idx 3 (.t 16) (.t 17)),zL 19 3 18,z 9 (.alloc 31 [.i .i64 0,.s [],.i .i64 0]),zs (.store 3 [none,none,none] (.t 9) (.t 19))]) (.seq (.seq (.aj [] [zL 20 3 9,z 21 (.call
 242 [.t 20]),z 22 (.un .not (.t 21))]) (.ite (.t 22) (.seq (.aj [] [zm 23 7,zL 24 3 9,z 25 (.bQ 3 [none,none,none] [.t 24]),z 26 (.app 31 3 32 (.t 23) (.t 25)),zm 7 26])
 (.exit 1)) (.skip))) (.seq (.aj [] [z 10 (.aK (.c (.i .i64 0)))]) (.block 2 (.loop Bz))))))) (.aj [] [z 58 (.bin .add (.t 13) (.c (.i .i64 1))),zm 13 58])))
def UU:bM:=⟨61,[.t 6],.seq (.aj [] [z 6 (.aK (.c .nil))]) (.seq (.aj [] [z 7 (.aK (.c .nil))]) (.seq (.seq (.aj [] [zm 11 0,z 12 (.len false (.t 11)),z 13 (.aK (.c (.i .i64 0)))])
 (.block 0 (.loop xh))) (.seq (.aj [] [zm 59 7,z 60 (.call 245 [.t 59]),zm 6 60]) (.ret))))⟩
theorem ZL:bL prog f226=some UU:=by kernel_rfl
def BA:bj:=.seq (.seq (.aj [] [zm 5 4,zm 6 0,z 7 (.bin .leq (.t 5) (.t 6))]) (.ite (.t 7) (.skip) (.exit 0))) (.seq (.block 1 (.aj [] [zm 10 3,zm 11 4,z 12 (.bQ 1 [none] [.t 11]),z
 13 (.app 3 1 8 (.t 10) (.t 12)),zm 3 13])) (.aj [] [zm 8 4,z 9 (.bin .add (.t 8) (.c (.i .i64 1))),zm 4 9]))
def UW:bM:=⟨15,[.t 2],.seq (.aj [] [z 2 (.aK (.c .nil))]) (.seq (.aj [] [z 3 (.aK (.c .nil))]) (.seq (.seq (.aj [] [z 4 (.aK (.c (.i .i64 1)))]) (.block 0 (.loop BA))) (.seq (.aj
 [] [zm 14 3,zm 2 14]) (.ret))))⟩
theorem ZM:bL prog f225=some UW:=by kernel_rfl
def U9:bM:=⟨24,[.t 4,.t 5],.seq (.aj [] [z 4 (.aK (.c .nil)),z 5 (.aK (.c .nil))]) (.seq (.aj [] [zm 8 0,z 9 (.app 31 3 32 (.c .nil) (.t 8)),zm 10 1,z 11 (.app 31 3 32 (.t 9) (.t
 10)),z 12 (.call 224 [.t 11]),zm 6 12]) (.seq (.aj [] [zm 13 6,z 14 (.len false (.t 13)),z 15 (.call 225 [.t 14]),zm 7 15]) (.seq (.aj [] [zm 16 0,zm 17 6,zm 18 7,z 19
 (.call 226 [.t 16,.t 17,.t 18]),zm 20 1,zm 21 6,zm 22 7,z 23 (.call 226 [.t 20,.t 21,.t 22]),zm 4 19,zm 5 23]) (.ret))))⟩
theorem ZZ:bL prog f200=some U9:=by kernel_rfl
def UQ:bM:=⟨44,[.t 2],.seq (.aj [] [z 2 (.aK (.c (.s [])))]) (.seq (.block 0 (.seq (.aj [7,8,11,12] [zm 4 0,z 5 (.bin .eql (.t 4) (.c (.i .u8 92))),zm 6 5,⟨some 7,[(6,false)],
 .aK (.t 0)⟩,⟨some 8,[(6,false)],.bin .eql (.t 7) (.c (.i .u8 60))⟩,z 9 (.pick (.t 6) (.c (.b true)) (.t 8)),zm 10 9,⟨some 11,[(10,false)],.aK (.t 0)⟩,⟨some 12,[(10,
 false)],.bin .eql (.t 11) (.c (.i .u8 123))⟩,z 13 (.pick (.t 10) (.c (.b true)) (.t 12)),zm 3 13]) (.ite (.t 3) (.seq (.aj [] [zm 14 0,z 15 (.bQ 1 [none] [.t 14]),z 16
 (.yx (.t 15)),z 17 (.bin .add (.c (.s [92])) (.t 16)),zm 2 17]) (.ret)) (.seq (.aj [] [zm 19 0,z 20 (.bin .eql (.t 19) (.c (.i .u8 10))),zm 18 20]) (.ite (.t 18) (.seq (.aj
 [] [z 2 (.aK (.c (.s [92,110])))]) (.ret)) (.seq (.aj [] [zm 22 0,z 23 (.bin .eql (.t 22) (.c (.i .u8 9))),zm 21 23]) (.ite (.t 21) (.seq (.aj [] [z 2 (.aK (.c (.s [92,
 116])))]) (.ret)) (.seq (.aj [28,29,30] [zm 25 0,z 26 (.bin .eql (.t 25) (.c (.i .u8 13))),zm 27 26,⟨some 28,[(27,false)],.aK (.t 0)⟩,⟨some 29,[(27,false)],.call 247
 [.t 28]⟩,⟨some 30,[(27,false)],.bin .eql (.t 29) (.c (.i .i64 1))⟩,z 31 (.pick (.t 27) (.c (.b true)) (.t 30)),zm 24 31]) (.ite (.t 24) (.seq (.df [] [zm 32 0,z 33 (.bin
 .quo (.t 32) (.c (.i .u8 16))),z 34 (.gQ (.c (.s [48,49,50,51,52,53,54,55,56,57,97,98,99,100,101,102])) (.t 33)),zm 35 0,z 36 (.bin .rem (.t 35) (.c (.i .u8
 16))),z 37 (.gQ (.c (.s [48,49,50,51,52,53,54,55,56,57,97,98,99,100,101,102])) (.t 36))] [] [z 38 (.bQ 1 [none] [.t 34,.t 37]),z 39 (.yx (.t 38)),z 40
 (.bin .add (.c (.s [92,120])) (.t 39)),zm 2 40]) (.ret)) (.skip)))))))))) (.seq (.aj [] [zm 41 0,z 42 (.bQ 1 [none] [.t 41]),z 43 (.yx (.t 42)),zm 2 43]) (.ret)))⟩
theorem ZH:bL prog f230=some UQ:=by kernel_rfl
def BE:bj:=.seq (.seq (.aj [] [zm 9 4,zf 10 1 1,zl 11 10,z 12 (.len true (.t 11)),z 13 (.bin .lss (.t 9) (.t 12))]) (.ite (.t 13) (.skip) (.exit 1))) (.seq (.block 2 (.aj [] [zm 16 3,zf
 17 1 1,zl 18 17,zm 19 4,z 20 (.gQ (.t 18) (.t 19)),z 21 (.call 230 [.t 20]),z 22 (.bin .add (.t 16) (.t 21)),zm 3 22])) (.aj [] [zm 14 4,z 15 (.bin .add (.t 14) (.c (.i
 .i64 1))),zm 4 15]))
def U6:bM:=⟨61,[.t 2],.seq (.aj [] [z 1 (.box 31 (.t 0)),z 2 (.aK (.c (.s [])))]) (.seq (.seq (.aj [] [zf 5 0 1,zl 6 5]) (.block 0 (.seq (.aj [] [z 8 (.bin .eql (.t 6) (.c (.i .i64
 1))),zm 7 8]) (.ite (.t 7) (.seq (.aj [] [z 3 (.aK (.c (.s [])))]) (.seq (.seq (.aj [] [z 4 (.aK (.c (.i .i64 0)))]) (.block 1 (.loop BE))) (.seq (.aj [] [zm 23 3,zm 2
 23]) (.ret)))) (.seq (.aj [] [z 25 (.bin .eql (.t 6) (.c (.i .i64 2))),zm 24 25]) (.ite (.t 24) (.seq (.df [([zf 26 2 1,zl 27 26,zf 31 1 1,zl 32 31],z 28 (.call 231 [.t
 27]),[zf 31 1 1,zl 32 31])] [z 29 (.bin .add (.c (.s [60])) (.t 28)),z 30 (.bin .add (.t 29) (.c (.s [58])))] [] [z 33 (.bin .add (.t 30) (.t 32)),z 34 (.bin .add (.t 33) (.c
 (.s [62]))),zm 2 34]) (.ret)) (.seq (.aj [] [z 36 (.bin .eql (.t 6) (.c (.i .i64 3))),zm 35 36]) (.ite (.t 35) (.seq (.df [([zf 37 2 1,zl 38 37,zf 42 1 1,zl 43 42],z 39
 (.call 231 [.t 38]),[zf 42 1 1,zl 43 42])] [z 40 (.bin .add (.c (.s [60,47])) (.t 39)),z 41 (.bin .add (.t 40) (.c (.s [58])))] [] [z 44 (.bin .add (.t 41) (.t 43)),z 45 (.bin
 .add (.t 44) (.c (.s [62]))),zm 2 45]) (.ret)) (.seq (.aj [] [z 47 (.bin .eql (.t 6) (.c (.i .i64 4))),zm 46 47]) (.ite (.t 46) (.seq (.df [([zf 48 2 1,zl 49 48,zf 53 1 1,zl
 54 53],z 50 (.call 231 [.t 49]),[zf 53 1 1,zl 54 53])] [z 51 (.bin .add (.c (.s [60])) (.t 50)),z 52 (.bin .add (.t 51) (.c (.s [58])))] [] [z 55 (.bin .add (.t 52) (.t 54)),z
 56 (.bin .add (.t 55) (.c (.s [47,62]))),zm 2 56]) (.ret)) (.skip))))))))))) (.seq (.aj [] [zf 57 1 1,zl 58 57,z 59 (.bin .add (.c (.s [123])) (.t 58)),z 60 (.bin .add (.t 59)
 (.c (.s [125]))),zm 2 60]) (.ret)))⟩
theorem ZW:bL prog f203=some U6:=by kernel_rfl
def BJ:bj:=.seq (.aj [] [z 15 (.bin .lss (.t 14) (.t 13))]) (.seq (.ite (.t 15) (.skip) (.exit 0)) (.seq (.block 1 (.seq (.aj [] [zm 16 14,zm 6 16]) (.aj [] [zm 17 5,zm 18 0,zm 19 6,z
 20 (.idx 3 (.t 18) (.t 19)),zL 21 3 20,z 22 (.call 203 [.t 21]),z 23 (.bin .add (.t 17) (.t 22)),zm 5 23]))) (.aj [] [z 24 (.bin .add (.t 14) (.c (.i .i64 1))),zm 14 24])))
def Vk:bM:=⟨26,[.t 2,.t 3],.seq (.aj [] [z 2 (.aK (.c (.s []))),z 3 (.aK (.c (.i .i64 0)))]) (.seq (.seq (.aj [] [zm 7 0,z 8 (.call 199 [.t 7]),zm 4 8]) (.seq (.aj [] [zm 9 4,z 10
 (.bin .neq (.t 9) (.c (.i .i64 0)))]) (.ite (.t 10) (.seq (.aj [] [zm 11 4,z 2 (.aK (.c (.s []))),zm 3 11]) (.ret)) (.skip)))) (.seq (.aj [] [z 5 (.aK (.c (.s [])))]) (.seq
 (.seq (.aj [] [zm 12 0,z 13 (.len false (.t 12)),z 14 (.aK (.c (.i .i64 0)))]) (.block 0 (.loop BJ))) (.seq (.aj [] [zm 25 5,zm 2 25,z 3 (.aK (.c (.i .i64 0)))])
 (.ret)))))⟩
theorem aaa:bL prog f182=some Vk:=by kernel_rfl
def xg:bj:=.seq (.seq (.aj [16,17] [zm 11 4,zm 12 0,z 13 (.len true (.t 12)),z 14 (.bin .lss (.t 11) (.t 13)),zm 15 14,⟨some 16,[(15,true)],.aK (.t 4)⟩,⟨some 17,[(15,true)],.bin
 .leq (.t 16) (.c (.i .i64 25))⟩,z 18 (.pick (.t 15) (.t 17) (.c (.b false)))]) (.ite (.t 18) (.skip) (.exit 1))) (.seq (.block 2 (.seq (.aj [26,27,28,29] [zm 21 0,zm 22 4,z
 23 (.gQ (.t 21) (.t 22)),z 24 (.bin .eql (.t 23) (.c (.i .u8 125))),zm 25 24,⟨some 26,[(25,true)],.aK (.t 0)⟩,⟨some 27,[(25,true)],.aK (.t 4)⟩,⟨some 28,[(25,true)],
 .fv (.t 26) (some (.c (.i .i64 1))) (some (.t 27))⟩,⟨some 29,[(25,true)],.call 229 [.t 28]⟩,z 30 (.pick (.t 25) (.t 29) (.c (.b false)))]) (.ite (.t 30) (.seq (.aj [] [zm
 31 0,zm 32 4,z 33 (.fv (.t 31) (some (.c (.i .i64 1))) (some (.t 32))),z 34 (.build [.i .i64 0,.s [],.i .i64 0] [(0,1,.c (.i .i64 5)),(1,1,.t 33)]),zm 35 4,z 36
 (.bin .add (.t 35) (.c (.i .i64 1))),zs (.store 3 [none,none,none] (.t 2) (.t 34)),zm 3 36]) (.ret)) (.skip)))) (.aj [] [zm 19 4,z 20 (.bin .add (.t 19) (.c (.i .i64 1))),zm
 4 20]))
def By:bj:=.seq (.seq (.aj [] [zm 46 5,z 47 (.bin .lss (.t 46) (.c (.i .i64 256)))]) (.ite (.t 47) (.skip) (.exit 3))) (.seq (.block 4 (.seq (.aj [] [zm 50 5,z 51 (.rn .u8 (.t 50)),z 52
 (.call 230 [.t 51]),zm 6 52]) (.seq (.aj [59,60,61,62,63,64] [zm 53 0,z 54 (.len true (.t 53)),zm 55 6,z 56 (.len true (.t 55)),z 57 (.bin .geq (.t 54) (.t 56)),zm 58
 57,⟨some 59,[(58,true)],.aK (.t 0)⟩,⟨some 60,[(58,true)],.aK (.t 6)⟩,⟨some 61,[(58,true)],.len true (.t 60)⟩,⟨some 62,[(58,true)],.fv (.t 59) none (some (.t
 61))⟩,⟨some 63,[(58,true)],.aK (.t 6)⟩,⟨some 64,[(58,true)],.bin .eql (.t 62) (.t 63)⟩,z 65 (.pick (.t 58) (.t 64) (.c (.b false)))]) (.ite (.t 65) (.seq (.aj [] [zm 66
 5,z 67 (.rn .u8 (.t 66)),z 68 (.bQ 1 [none] [.t 67]),z 69 (.yx (.t 68)),z 70 (.build [.i .i64 0,.s [],.i .i64 0] [(0,1,.c (.i .i64 1)),(1,1,.t 69)]),zm 71 6,z 72
 (.len true (.t 71)),zs (.store 3 [none,none,none] (.t 2) (.t 70)),zm 3 72]) (.ret)) (.skip))))) (.aj [] [zm 48 5,z 49 (.bin .add (.t 48) (.c (.i .i64 1))),zm 5 49]))
def UT:bM:=⟨74,[.c 2 (some 3),.t 3],.seq (.aj [] [z 2 (.alloc 31 [.i .i64 0,.s [],.i .i64 0]),z 3 (.aK (.c (.i .i64 0)))]) (.seq (.block 0 (.seq (.aj [] [zm 8 0,z 9 (.gQ (.t 8) (.c
 (.i .i64 0))),z 10 (.bin .eql (.t 9) (.c (.i .u8 123))),zm 7 10]) (.ite (.t 7) (.seq (.seq (.aj [] [z 4 (.aK (.c (.i .i64 1)))]) (.block 1 (.loop xg))) (.seq (.aj [] [z 37
 (.build [.i .i64 0,.s [],.i .i64 0] []),zs (.store 3 [none,none,none] (.t 2) (.t 37)),z 3 (.aK (.c (.i .i64 0)))]) (.ret))) (.seq (.aj [] [zm 39 0,z 40 (.gQ (.t 39) (.c
 (.i .i64 0))),z 41 (.bin .eql (.t 40) (.c (.i .u8 60))),zm 38 41]) (.ite (.t 38) (.seq (.aj [] [zm 42 0,z 43 (.call 246 [.t 42]),z 44 (.ext 0 (.t 43)),z 45 (.ext 1 (.t 43)),
 zs (.store 3 [none,none,none] (.t 2) (.t 44)),zm 3 45]) (.ret)) (.skip)))))) (.seq (.seq (.aj [] [z 5 (.aK (.c (.i .i64 0)))]) (.block 3 (.loop By))) (.seq (.aj [] [z 73
 (.build [.i .i64 0,.s [],.i .i64 0] []),zs (.store 3 [none,none,none] (.t 2) (.t 73)),z 3 (.aK (.c (.i .i64 0)))]) (.ret))))⟩
theorem ZK:bL prog f227=some UT:=by kernel_rfl
def Bs:bj:=.seq (.seq (.aj [15,16,17,18] [zm 10 4,zm 11 0,z 12 (.len true (.t 11)),z 13 (.bin .lss (.t 10) (.t 12)),zm 14 13,⟨some 15,[(14,true)],.aK (.t 0)⟩,⟨some 16,[(14,
 true)],.aK (.t 4)⟩,⟨some 17,[(14,true)],.gQ (.t 15) (.t 16)⟩,⟨some 18,[(14,true)],.bin .neq (.t 17) (.c (.i .u8 62))⟩,z 19 (.pick (.t 14) (.t 18) (.c (.b false)))])
 (.ite (.t 19) (.skip) (.exit 0))) (.block 1 (.aj [] [zm 20 4,z 21 (.bin .add (.t 20) (.c (.i .i64 1))),zm 4 21]))
def xd:bj:=.seq (.seq (.aj [61,62,65,66,67,68,71,72,73,74] [zm 56 8,zm 57 5,z 58 (.len true (.t 57)),z 59 (.bin .lss (.t 56) (.t 58)),zm 60 59,⟨some 61,[(60,true)],.aK (.t
 8)⟩,⟨some 62,[(60,true)],.bin .lss (.t 61) (.c (.i .i64 4))⟩,z 63 (.pick (.t 60) (.t 62) (.c (.b false))),zm 64 63,⟨some 65,[(64,true)],.aK (.t 5)⟩,⟨some 66,[(64,
 true)],.aK (.t 8)⟩,⟨some 67,[(64,true)],.gQ (.t 65) (.t 66)⟩,⟨some 68,[(64,true)],.bin .geq (.t 67) (.c (.i .u8 48))⟩,z 69 (.pick (.t 64) (.t 68) (.c (.b false))),zm
 70 69,⟨some 71,[(70,true)],.aK (.t 5)⟩,⟨some 72,[(70,true)],.aK (.t 8)⟩,⟨some 73,[(70,true)],.gQ (.t 71) (.t 72)⟩,⟨some 74,[(70,true)],.bin .leq (.t 73) (.c (.i
 .u8 57))⟩,z 75 (.pick (.t 70) (.t 74) (.c (.b false)))]) (.ite (.t 75) (.skip) (.exit 2))) (.block 3 (.seq (.aj [] [zm 76 7,z 77 (.bin .mul (.c (.i .i64 10)) (.t 76)),zm 78 5,
 zm 79 8,z 80 (.gQ (.t 78) (.t 79)),z 81 (.bin .sub (.t 80) (.c (.i .u8 48))),z 82 (.rn .i64 (.t 81)),z 83 (.bin .add (.t 77) (.t 82)),zm 7 83]) (.aj [] [zm 84 8,z 85 (.bin
 .add (.t 84) (.c (.i .i64 1))),zm 8 85])))
def UJ:bM:=⟨139,[.c 2 (some 3),.t 3],.seq (.aj [] [z 2 (.alloc 31 [.i .i64 0,.s [],.i .i64 0]),z 3 (.aK (.c (.i .i64 0)))]) (.seq (.aj [] [z 4 (.aK (.c (.i .i64 1)))]) (.seq (.block
 0 (.loop Bs)) (.seq (.seq (.aj [] [zm 22 4,zm 23 0,z 24 (.len true (.t 23)),z 25 (.bin .geq (.t 22) (.t 24))]) (.ite (.t 25) (.seq (.aj [] [z 26 (.build [.i .i64 0,.s [],
 .i .i64 0] []),zs (.store 3 [none,none,none] (.t 2) (.t 26)),z 3 (.aK (.c (.i .i64 0)))]) (.ret)) (.skip))) (.seq (.aj [] [zm 27 0,zm 28 4,z 29 (.fv (.t 27) (some (.c
 (.i .i64 1))) (some (.t 28))),zm 5 29,z 6 (.aK (.c (.i .i64 2)))]) (.seq (.seq (.aj [34,35,36] [zm 30 5,z 31 (.len true (.t 30)),z 32 (.bin .gtr (.t 31) (.c (.i .i64 0))),
 zm 33 32,⟨some 34,[(33,true)],.aK (.t 5)⟩,⟨some 35,[(33,true)],.gQ (.t 34) (.c (.i .i64 0))⟩,⟨some 36,[(33,true)],.bin .eql (.t 35) (.c (.i .u8 47))⟩,z 37 (.pick (.t
 33) (.t 36) (.c (.b false)))]) (.ite (.t 37) (.aj [] [zm 38 5,z 39 (.fv (.t 38) (some (.c (.i .i64 1))) none),zm 5 39,z 6 (.aK (.c (.i .i64 3)))]) (.seq (.aj [44,45,46,
 47,48,49] [zm 40 5,z 41 (.len true (.t 40)),z 42 (.bin .gtr (.t 41) (.c (.i .i64 0))),zm 43 42,⟨some 44,[(43,true)],.aK (.t 5)⟩,⟨some 45,[(43,true)],.aK (.t 5)⟩,
 ⟨some 46,[(43,true)],.len true (.t 45)⟩,⟨some 47,[(43,true)],.bin .sub (.t 46) (.c (.i .i64 1))⟩,⟨some 48,[(43,true)],.gQ (.t 44) (.t 47)⟩,⟨some 49,[(43,true)],.bin
 .eql (.t 48) (.c (.i .u8 47))⟩,z 50 (.pick (.t 43) (.t 49) (.c (.b false)))]) (.ite (.t 50) (.aj [] [zm 51 5,zm 52 5,z 53 (.len true (.t 52)),z 54 (.bin .sub (.t 53) (.c (.i
 .i64 1))),z 55 (.fv (.t 51) none (some (.t 54))),zm 5 55,z 6 (.aK (.c (.i .i64 4)))]) (.skip))))) (.seq (.aj [] [z 7 (.aK (.c (.i .i64 0))),z 8 (.aK (.c (.i .i64 0)))])
 (.seq (.block 2 (.loop xd)) (.seq (.seq (.aj [89,90,91,92,95,96,97,100,101,104,105,106,107] [zm 86 8,z 87 (.bin .eql (.t 86) (.c (.i .i64 0))),zm 88 87,⟨some 89,
 [(88,false)],.aK (.t 8)⟩,⟨some 90,[(88,false)],.aK (.t 5)⟩,⟨some 91,[(88,false)],.len true (.t 90)⟩,⟨some 92,[(88,false)],.bin .geq (.t 89) (.t 91)⟩,z 93 (.pick (.t
 88) (.c (.b true)) (.t 92)),zm 94 93,⟨some 95,[(94,false)],.aK (.t 5)⟩,⟨some 96,[(94,false)],.gQ (.t 95) (.c (.i .i64 0))⟩,⟨some 97,[(94,false)],.bin .eql (.t 96)
 (.c (.i .u8 48))⟩,z 98 (.pick (.t 94) (.c (.b true)) (.t 97)),zm 99 98,⟨some 100,[(99,false)],.aK (.t 7)⟩,⟨some 101,[(99,false)],.bin .gtr (.t 100) (.c (.i .i64 999))⟩,z
 102 (.pick (.t 99) (.c (.b true)) (.t 101)),zm 103 102,⟨some 104,[(103,false)],.aK (.t 5)⟩,⟨some 105,[(103,false)],.aK (.t 8)⟩,⟨some 106,[(103,false)],.gQ (.t 104)
 (.t 105)⟩,⟨some 107,[(103,false)],.bin .neq (.t 106) (.c (.i .u8 58))⟩,z 108 (.pick (.t 103) (.c (.b true)) (.t 107))]) (.ite (.t 108) (.seq (.aj [] [z 109 (.build [.i .i64 0,
 .s [],.i .i64 0] []),zs (.store 3 [none,none,none] (.t 2) (.t 109)),z 3 (.aK (.c (.i .i64 0)))]) (.ret)) (.skip))) (.seq (.aj [] [zm 110 6,zm 111 5,zm 112 8,z 113 (.bin
 .add (.t 112) (.c (.i .i64 1))),z 114 (.fv (.t 111) (some (.t 113)) none),zm 115 7,z 116 (.build [.i .i64 0,.s [],.i .i64 0] [(0,1,.t 110),(1,1,.t 114),(2,1,.t
 115)]),z 9 (.alloc 31 [.i .i64 0,.s [],.i .i64 0]),zs (.store 3 [none,none,none] (.t 9) (.t 116))]) (.seq (.seq (.aj [120,121,122,123,126,127,128,129,130,131,132,
 133] [zm 117 6,z 118 (.bin .eql (.t 117) (.c (.i .i64 3))),zm 119 118,⟨some 120,[(119,true)],.eG 1 (.t 9)⟩,⟨some 121,[(119,true)],.load none (.t 120)⟩,⟨some 122,[(119,
 true)],.call 229 [.t 121]⟩,⟨some 123,[(119,true)],.un .not (.t 122)⟩,z 124 (.pick (.t 119) (.t 123) (.c (.b false))),zm 125 124,⟨some 126,[(125,false)],.aK (.t 6)⟩,
 ⟨some 127,[(125,false)],.bin .neq (.t 126) (.c (.i .i64 3))⟩,⟨some 128,[(125,false)],.aK (.t 127)⟩,⟨some 129,[(125,false),(128,true)],.eG 1 (.t 9)⟩,⟨some 130,[(125,
 false),(128,true)],.load none (.t 129)⟩,⟨some 131,[(125,false),(128,true)],.call 241 [.t 130]⟩,⟨some 132,[(125,false),(128,true)],.un .not (.t 131)⟩,⟨some 133,
 [(125,false)],.pick (.t 128) (.t 132) (.c (.b false))⟩,z 134 (.pick (.t 125) (.c (.b true)) (.t 133))]) (.ite (.t 134) (.seq (.aj [] [z 135 (.build [.i .i64 0,.s [],.i .i64 0]
 []),zs (.store 3 [none,none,none] (.t 2) (.t 135)),z 3 (.aK (.c (.i .i64 0)))]) (.ret)) (.skip))) (.seq (.aj [] [zL 136 3 9,zm 137 4,z 138 (.bin .add (.t 137) (.c (.i .i64
 1))),zs (.store 3 [none,none,none] (.t 2) (.t 136)),zm 3 138]) (.ret))))))))))))⟩
theorem ZA:bL prog f246=some UJ:=by kernel_rfl
def BF:bj:=.seq (.seq (.aj [] [zm 12 6,zm 13 0,z 14 (.len true (.t 13)),z 15 (.bin .lss (.t 12) (.t 14))]) (.ite (.t 15) (.skip) (.exit 0))) (.block 1 (.seq (.aj [] [zm 17 0,zm 18 6,z
 19 (.fv (.t 17) (some (.t 18)) none),z 20 (.call 227 [.t 19]),zm 16 20,z 21 (.ext 0 (.t 16)),z 22 (.ext 1 (.t 16)),z 8 (.alloc 31 [.i .i64 0,.s [],.i .i64 0]),zs (.store
 3 [none,none,none] (.t 8) (.t 21)),zm 9 22]) (.seq (.seq (.aj [] [zm 23 9,z 24 (.bin .eql (.t 23) (.c (.i .i64 0)))]) (.ite (.t 24) (.seq (.aj [] [zm 25 6,z 2 (.aK (.c
 .nil)),zm 3 25,z 4 (.aK (.c (.i .i64 2)))]) (.ret)) (.skip))) (.seq (.seq (.aj [] [zf 26 0 8,zl 27 26,z 28 (.bin .neq (.t 27) (.c (.i .i64 1)))]) (.ite (.t 28) (.seq (.aj []
 [zm 29 5,zL 30 3 8,z 31 (.call 223 [.t 29,.t 30]),zm 10 31]) (.seq (.aj [] [zm 32 10,z 33 (.bin .neq (.t 32) (.c (.i .i64 0)))]) (.ite (.t 33) (.seq (.aj [] [zm 34 6,zm 35
 10,z 2 (.aK (.c .nil)),zm 3 34,zm 4 35]) (.ret)) (.skip)))) (.skip))) (.seq (.aj [] [zm 36 5,zL 37 3 8,z 38 (.bQ 3 [none,none,none] [.t 37]),z 39 (.call 228 [.t 36,.t
 38]),zm 11 39]) (.seq (.aj [] [zm 40 7,z 41 (.bin .add (.t 40) (.c (.i .i64 1))),zm 7 41]) (.seq (.seq (.aj [46,47] [zm 42 11,z 43 (.len false (.t 42)),z 44 (.bin .gtr (.t
 43) (.c (.i .i64 512))),zm 45 44,⟨some 46,[(45,false)],.aK (.t 7)⟩,⟨some 47,[(45,false)],.bin .gtr (.t 46) (.c (.i .i64 1024))⟩,z 48 (.pick (.t 45) (.c (.b true)) (.t
 47))]) (.ite (.t 48) (.seq (.aj [] [zm 49 6,z 2 (.aK (.c .nil)),zm 3 49,z 4 (.aK (.c (.i .i64 3)))]) (.ret)) (.skip))) (.seq (.aj [] [zm 50 11,zm 5 50]) (.aj [] [zm 51 6,
 zm 52 9,z 53 (.bin .add (.t 51) (.t 52)),zm 6 53])))))))))
def U8:bM:=⟨55,[.t 2,.t 3,.t 4],.seq (.aj [] [z 2 (.aK (.c .nil)),z 3 (.aK (.c (.i .i64 0))),z 4 (.aK (.c (.i .i64 0)))]) (.seq (.aj [] [z 5 (.aK (.c .nil))]) (.seq (.aj [] [z 6
 (.aK (.c (.i .i64 0))),z 7 (.aK (.c (.i .i64 0)))]) (.seq (.block 0 (.loop BF)) (.seq (.aj [] [zm 54 5,zm 2 54,z 3 (.aK (.c (.i .i64 0))),z 4 (.aK (.c (.i .i64 0)))])
 (.ret)))))⟩
theorem ZY:bL prog f201=some U8:=by kernel_rfl
end Go.Proofs.Tryz
