/- A part of a proof; the claim's last text says of what. -/
import Derived.Test.YtlakkaamfadipaaGreatDoorProg
import Derived.KernelRfl
import Derived.Test.YtlakkaamfadipaaGreatDoorV15
set_option linter.all false

namespace Go.Proofs.Tryz
open Go Go.Pm
def p14:cu:=⟨14,[.t 4],.seq (.ax [] [z 4 (.aT (.c (.i .i64 0)))]) (.seq (.ax [] [zm 5 0,zm 6 1,z 7 (.bin .rem (.t 5) (.t 6)),zm 0 7]) (.seq (.seq (.ax [] [zm 8 0,z 9 (.bin .lss (.t 8)
 (.c (.i .i64 0)))]) (.ite (.t 9) (.ax [] [zm 10 0,zm 11 1,z 12 (.bin .add (.t 10) (.t 11)),zm 0 12]) (.skip))) (.seq (.ax [] [zm 13 0,zm 4 13]) (.ret))))⟩
theorem c14:cq prog f14=some p14:=by kernel_rfl
def p43:cu:=⟨36,[.t 4],.seq (.ax [] [z 4 (.aT (.c (.i .i64 0)))]) (.seq (.ax [] [z 5 (.aT (.c (.i .i64 0)))]) (.seq (.seq (.dC [] [zm 6 0,z 7 (.di (.t 6)),zf 8 1 7,zl 9 8,zm 10
 0,z 11 (.di (.t 10)),zf 12 0 11,zl 13 12,z 14 (.len false (.t 13))] [] [z 15 (.bin .lss (.t 9) (.t 14))]) (.ite (.t 15) (.dC [] [zm 16 0,z 17 (.di (.t 16)),zf 18 0 17,
 zl 19 18,zm 20 0,z 21 (.di (.t 20)),zf 22 1 21,zl 23 22] [] [z 24 (.idx 1 (.t 19) (.t 23)),zl 25 24,zm 5 25]) (.skip))) (.seq (.ax [] [zm 26 0,z 27 (.di (.t 26)),zf
 28 1 27,zl 29 28,z 30 (.bin .add (.t 29) (.c (.i .i64 1))),z 31 (.di (.t 26)),zf 32 1 31,zs (.store 1 [none] (.t 32) (.t 30))]) (.seq (.ax [] [zm 33 5,zm 34 1,z 35 (.call
 14 [.t 33,.t 34]),zm 4 35]) (.ret)))))⟩
theorem c43:cq prog f43=some p43:=by kernel_rfl
def W8:cu:=⟨8,[.t 2],.seq (.ax [] [z 2 (.aT (.c (.s [])))]) (.seq (.ax [] [z 3 (.bL 1 [none] [.c (.s [114,101,100]),.c (.s [99,97,114]),.c (.s [82,101,100]),.c (.s [97]),.c
 (.s [99,97,114,115]),.c (.s [49,44,53]),.c (.s [50,50]),.c (.s [100,111,110,39,116]),.c (.s [46]),.c (.s [33]),.c (.s [32]),.c (.s [32,32]),.c (.s [60]),.c (.s
 [38]),.c (.s [123]),.c (.s [34]),.c (.s [92]),.c (.s [120,45,121]),.c (.s [10]),.c (.s [61]),.c (.s [125]),.c (.s [62]),.c (.s [9]),.c (.s [98])]),zm 4 0,z 5 (.call 43
 [.t 4,.c (.i .i64 24)]),z 6 (.idx 1 (.t 3) (.t 5)),zl 7 6,zm 2 7]) (.ret))⟩
theorem acC:cq prog f141=some W8:=by kernel_rfl
def HL:bH:=.seq (.seq (.ax [] [zm 12 6,z 13 (.bin .gtr (.t 12) (.c (.i .i64 0)))]) (.ite (.t 13) (.skip) (.exit 0))) (.seq (.block 1 (.seq (.ax [] [zm 16 0,z 17 (.call 141 [.t 16]),zm 7
 17]) (.seq (.seq (.ax [21,22,23] [zm 18 5,z 19 (.bin .neq (.t 18) (.c (.s []))),zm 20 19,⟨some 21,[(20,true)],.aT (.t 0)⟩,⟨some 22,[(20,true)],.call 43 [.t 21,.c (.i
 .i64 3)]⟩,⟨some 23,[(20,true)],.bin .gtr (.t 22) (.c (.i .i64 0))⟩,z 24 (.pick (.t 20) (.t 23) (.c (.b false)))]) (.ite (.t 24) (.ax [] [zm 25 5,z 26 (.bin .add (.t 25) (.c
 (.s [32]))),zm 5 26]) (.skip))) (.ax [] [zm 27 5,zm 28 7,z 29 (.bin .add (.t 27) (.t 28)),zm 5 29])))) (.ax [] [zm 14 6,z 15 (.bin .sub (.t 14) (.c (.i .i64 1))),zm 6 15]))
def p79:cu:=⟨31,[.t 4],.seq (.ax [] [z 4 (.aT (.c (.s [])))]) (.seq (.ax [] [z 5 (.aT (.c (.s [])))]) (.seq (.seq (.ax [] [zm 8 0,zm 9 1,z 10 (.bin .add (.t 9) (.c (.i .i64 1))),z 11
 (.call 43 [.t 8,.t 10]),zm 6 11]) (.block 0 (.loop HL))) (.seq (.ax [] [zm 30 5,zm 4 30]) (.ret))))⟩
theorem c79:cq prog f79=some p79:=by kernel_rfl
def HX:bH:=.seq (.seq (.ax [] [zm 20 12,z 21 (.bin .gtr (.t 20) (.c (.i .i64 0)))]) (.ite (.t 21) (.skip) (.exit 0))) (.seq (.block 1 (.seq (.ax [] [zm 24 0,z 25 (.call 79 [.t 24,.c (.i
 .i64 3)]),z 26 (.build [.i .i64 0,.s [],.i .i64 0] [(0,1,.c (.i .i64 1)),(1,1,.t 25)]),z 13 (.alloc 61 [.i .i64 0,.s [],.i .i64 0]),zs (.store 3 [none,none,none] (.t
 13) (.t 26))]) (.seq (.seq (.ax [] [zm 27 0,z 28 (.call 43 [.t 27,.c (.i .i64 8)])]) (.block 2 (.seq (.seq (.ax [] [z 30 (.bin .eql (.t 28) (.c (.i .i64 0))),zm 29 30]) (.ite
 (.t 29) (.skip) (.ax [] [z 31 (.bin .eql (.t 28) (.c (.i .i64 1))),zm 29 31]))) (.ite (.t 29) (.ax [] [z 32 (.bL 1 [none] [.c (.s [110]),.c (.s [110,97,109,101]),.c (.s
 [120,49])]),zm 33 0,z 34 (.call 43 [.t 33,.c (.i .i64 3)]),z 35 (.idx 1 (.t 32) (.t 34)),zl 36 35,z 37 (.build [.i .i64 0,.s [],.i .i64 0] [(0,1,.c (.i .i64 5)),(1,1,
 .t 36)]),zs (.store 3 [none,none,none] (.t 13) (.t 37))]) (.seq (.ax [] [z 39 (.bin .eql (.t 28) (.c (.i .i64 2))),zm 38 39]) (.ite (.t 38) (.seq (.ax [] [zm 40 2]) (.ite (.t
 40) (.seq (.ax [] [zm 41 11,z 42 (.bin .add (.t 41) (.c (.i .i64 1))),zm 11 42]) (.ax [] [z 43 (.bL 1 [none] [.c (.s [98,114]),.c (.s [105,109,103,32,97])]),zm 44 0,
 z 45 (.call 43 [.t 44,.c (.i .i64 2)]),z 46 (.idx 1 (.t 43) (.t 45)),zl 47 46,zm 48 11,z 49 (.build [.i .i64 0,.s [],.i .i64 0] [(0,1,.c (.i .i64 4)),(1,1,.t 47),(2,1,
 .t 48)]),zs (.store 3 [none,none,none] (.t 13) (.t 49))])) (.skip))) (.seq (.seq (.ax [] [z 51 (.bin .eql (.t 28) (.c (.i .i64 3))),zm 50 51]) (.ite (.t 50) (.skip) (.ax [] [z
 52 (.bin .eql (.t 28) (.c (.i .i64 4))),zm 50 52]))) (.ite (.t 50) (.seq (.ax [] [zm 53 2]) (.ite (.t 53) (.seq (.ax [] [zm 54 11,z 55 (.bin .add (.t 54) (.c (.i .i64 1))),zm
 11 55]) (.seq (.ax [] [z 56 (.bL 1 [none] [.c (.s [98]),.c (.s [105]),.c (.s [97,32,104,61,49])]),zm 57 0,z 58 (.call 43 [.t 57,.c (.i .i64 3)]),z 59 (.idx 1 (.t 56)
 (.t 58)),zl 60 59,zm 61 11,z 62 (.build [.i .i64 0,.s [],.i .i64 0] [(0,1,.c (.i .i64 2)),(1,1,.t 60),(2,1,.t 61)]),zs (.store 3 [none,none,none] (.t 13) (.t 62))])
 (.ax [] [zm 63 10,zL 64 3 13,z 65 (.bL 3 [none,none,none] [.t 64]),z 66 (.app 61 3 32 (.t 63) (.t 65)),zm 10 66]))) (.skip))) (.seq (.seq (.ax [] [z 68 (.bin .eql (.t
 28) (.c (.i .i64 5))),zm 67 68]) (.ite (.t 67) (.skip) (.ax [] [z 69 (.bin .eql (.t 28) (.c (.i .i64 6))),zm 67 69]))) (.ite (.t 67) (.seq (.ax [] [zm 70 10,z 71 (.len false
 (.t 70)),z 72 (.bin .sub (.t 71) (.c (.i .i64 1))),zm 14 72]) (.seq (.ax [] [zm 73 14,z 74 (.bin .geq (.t 73) (.c (.i .i64 0)))]) (.ite (.t 74) (.seq (.seq (.ax [] [zm 75 3,z
 76 (.un .not (.t 75))]) (.ite (.t 76) (.ax [] [zm 77 0,zm 78 14,z 79 (.bin .add (.t 78) (.c (.i .i64 1))),z 80 (.call 43 [.t 77,.t 79]),zm 14 80]) (.skip))) (.seq (.dC [([zm
 81 10,zm 82 14,z 83 (.idx 3 (.t 81) (.t 82)),zf 84 1 83,zl 85 84,zm 87 10,zm 88 14,z 89 (.idx 3 (.t 87) (.t 88)),zf 90 2 89,zl 91 90],z 86 (.call 80 [.t 85]),[z 89 (.idx
 3 (.t 87) (.t 88)),zf 90 2 89,zl 91 90])] [] [] [z 92 (.build [.i .i64 0,.s [],.i .i64 0] [(0,1,.c (.i .i64 3)),(1,1,.t 86),(2,1,.t 91)]),zs (.store 3 [none,none,
 none] (.t 13) (.t 92))]) (.dC [([zm 93 10,zm 94 14,z 95 (.slice 3 (.t 93) none (some (.t 94))),zm 97 10,zm 98 14,z 99 (.bin .add (.t 98) (.c (.i .i64 1))),z 100 (.slice 3
 (.t 97) (some (.t 99)) none)],z 96 (.app 61 3 32 (.c .nil) (.t 95)),[z 100 (.slice 3 (.t 97) (some (.t 99)) none)])] [] [] [z 101 (.app 61 3 32 (.t 96) (.t 100)),zm 10 101])))
 (.seq (.ax [104,105] [zm 102 2,zm 103 102,⟨some 104,[(103,true)],.aT (.t 3)⟩,⟨some 105,[(103,true)],.un .not (.t 104)⟩,z 106 (.pick (.t 103) (.t 105) (.c (.b false)))])
 (.ite (.t 106) (.seq (.ax [] [zm 107 11,z 108 (.bin .add (.t 107) (.c (.i .i64 1))),zm 11 108]) (.ax [] [zm 109 11,z 110 (.build [.i .i64 0,.s [],.i .i64 0] [(0,1,.c (.i
 .i64 3)),(1,1,.c (.s [98])),(2,1,.t 109)]),zs (.store 3 [none,none,none] (.t 13) (.t 110))])) (.skip)))))) (.skip))))))))))) (.ax [] [zm 111 9,zL 112 3 13,z 113 (.bL
 3 [none,none,none] [.t 112]),z 114 (.call 48 [.t 111,.t 113]),zm 9 114])))) (.ax [] [zm 22 12,z 23 (.bin .sub (.t 22) (.c (.i .i64 1))),zm 12 23]))
def HW:bH:=.seq (.seq (.ax [121] [zm 118 15,z 119 (.bin .geq (.t 118) (.c (.i .i64 0))),zm 120 119,⟨some 121,[(120,true)],.aT (.t 3)⟩,z 122 (.pick (.t 120) (.t 121) (.c (.b false)))])
 (.ite (.t 122) (.skip) (.exit 3))) (.seq (.block 4 (.dC [([zm 125 9,zm 126 10,zm 127 15,z 128 (.idx 3 (.t 126) (.t 127)),zf 129 1 128,zl 130 129,zm 132 10,zm 133 15,z 134
 (.idx 3 (.t 132) (.t 133)),zf 135 2 134,zl 136 135],z 131 (.call 80 [.t 130]),[z 134 (.idx 3 (.t 132) (.t 133)),zf 135 2 134,zl 136 135])] [z 137 (.build [.i .i64 0,.s [],.i
 .i64 0] [(0,1,.c (.i .i64 3)),(1,1,.t 131),(2,1,.t 136)]),z 138 (.bL 3 [none,none,none] [.t 137])] [] [z 139 (.app 61 3 32 (.t 125) (.t 138)),zm 9 139])) (.ax []
 [zm 123 15,z 124 (.bin .sub (.t 123) (.c (.i .i64 1))),zm 15 124]))
def p34:cu:=⟨141,[.t 8],.seq (.ax [] [z 8 (.aT (.c .nil))]) (.seq (.ax [] [z 9 (.aT (.c .nil)),z 10 (.aT (.c .nil))]) (.seq (.ax [] [z 11 (.aT (.c (.i .i64 0)))]) (.seq (.seq (.ax []
 [zm 16 0,zm 17 1,z 18 (.bin .add (.t 17) (.c (.i .i64 1))),z 19 (.call 43 [.t 16,.t 18]),zm 12 19]) (.block 0 (.loop HX))) (.seq (.seq (.ax [] [zm 115 10,z 116 (.len false
 (.t 115)),z 117 (.bin .sub (.t 116) (.c (.i .i64 1))),zm 15 117]) (.block 3 (.loop HW))) (.seq (.ax [] [zm 140 9,zm 8 140]) (.ret))))))⟩
theorem c34:cq prog f34=some p34:=by kernel_rfl
def DP:bH:=.seq (.ax [] [z 11 (.bin .lss (.t 10) (.t 9))]) (.seq (.ite (.t 11) (.skip) (.exit 0)) (.seq (.block 1 (.seq (.ax [] [zm 12 10,zm 6 12]) (.seq (.ax [] [zm 13 1,zm 14 6,z 15
 (.idx 3 (.t 13) (.t 14)),zL 16 3 15,z 7 (.alloc 61 [.i .i64 0,.s [],.i .i64 0]),zs (.store 3 [none,none,none] (.t 7) (.t 16))]) (.seq (.seq (.ax [] [zf 17 0 7,zl 18 17,z
 19 (.bin .eql (.t 18) (.c (.i .i64 1)))]) (.ite (.t 19) (.dC [([zf 20 1 7,zl 21 20,z 22 (.bin .add (.c (.s [101,105,110,32])) (.t 21)),zf 23 1 7,zl 24 23,z 25 (.bL 1
 [none] [.c (.s [114,111,116]),.c (.s [100,97,115,32,65,117,116,111]),.c (.s []),.t 22,.t 24]),zm 26 0],z 27 (.call 43 [.t 26,.c (.i .i64 5)]),[zf 20 1 7,zl 21 20,
 zf 23 1 7,zl 24 23,z 25 (.bL 1 [none] [.c (.s [114,111,116]),.c (.s [100,97,115,32,65,117,116,111]),.c (.s []),.t 22,.t 24])])] [] [] [z 28 (.idx 1 (.t 25) (.t
 27)),zl 29 28,zf 30 1 7,zs (.store 1 [none] (.t 30) (.t 29))]) (.seq (.ax [] [zm 31 0,z 32 (.call 43 [.t 31,.c (.i .i64 3)]),z 33 (.bin .eql (.t 32) (.c (.i .i64 0)))]) (.ite
 (.t 33) (.ax [] [zm 34 5,zm 35 0,z 36 (.call 79 [.t 35,.c (.i .i64 2)]),z 37 (.build [.i .i64 0,.s [],.i .i64 0] [(0,1,.c (.i .i64 1)),(1,1,.t 36)]),z 38 (.bL 3
 [none,none,none] [.t 37]),z 39 (.call 48 [.t 34,.t 38]),zm 5 39]) (.skip))))) (.ax [] [zm 40 5,zL 41 3 7,z 42 (.bL 3 [none,none,none] [.t 41]),z 43 (.call 48 [.t 40,
 .t 42]),zm 5 43]))))) (.ax [] [z 44 (.bin .add (.t 10) (.c (.i .i64 1))),zm 10 44])))
def p94:cu:=⟨46,[.t 4],.seq (.ax [] [z 4 (.aT (.c .nil))]) (.seq (.ax [] [z 5 (.aT (.c .nil))]) (.seq (.seq (.ax [] [zm 8 1,z 9 (.len false (.t 8)),z 10 (.aT (.c (.i .i64 0)))])
 (.block 0 (.loop DP))) (.seq (.ax [] [zm 45 5,zm 4 45]) (.ret))))⟩
theorem c94:cq prog f94=some p94:=by kernel_rfl
def p41:cu:=⟨56,[.c 2 (some 8)],.seq (.ax [] [z 2 (.alloc 37 [.nil,.nil,.s [],.s [],.s [],.s [],.i .i64 0,.i .i64 0])]) (.seq (.ax [] [zm 7 0,z 8 (.call 34 [.t 7,.c (.i .i64 4),.c
 (.b true),.c (.b true)]),zm 3 8]) (.seq (.seq (.ax [] [zm 9 3,z 10 (.len false (.t 9)),z 11 (.bin .eql (.t 10) (.c (.i .i64 0)))]) (.ite (.t 11) (.ax [] [z 12 (.bL 1
 [none] [.c (.s [83,97,118,101]),.c (.s [114,101,100,32,99,97,114]),.c (.s [82,101,100,32,99,97,114,115])]),zm 13 0,z 14 (.call 43 [.t 13,.c (.i .i64 3)]),z 15
 (.idx 1 (.t 12) (.t 14)),zl 16 15,z 17 (.build [.i .i64 0,.s [],.i .i64 0] [(0,1,.c (.i .i64 1)),(1,1,.t 16)]),z 18 (.bL 3 [none,none,none] [.t 17]),zm 3 18])
 (.skip))) (.seq (.ax [] [zm 19 0,zm 20 3,z 21 (.call 94 [.t 19,.t 20]),zm 4 21]) (.seq (.ax [] [zm 23 3,zm 24 4,z 25 (.call 49 [.t 23,.t 24]),zm 22 25,z 26 (.ext 0 (.t
 22)),z 27 (.ext 1 (.t 22)),zm 5 26,zm 6 27]) (.seq (.dC [([zm 28 5,zm 29 6,z 30 (.bL 1 [none] [.c (.s []),.c (.s []),.c (.s [83,97,118,101]),.c (.s [114,101,100,
 32,99,97,114])]),zm 31 0,z 35 (.bL 1 [none] [.c (.s []),.c (.s []),.c (.s [120]),.c (.s [83,97,118,101])]),zm 36 0,z 40 (.bL 1 [none] [.c (.s []),.c (.s [97,
 110,110]),.c (.s [98,111,98])]),zm 41 0,z 45 (.bL 1 [none] [.c (.s []),.c (.s [112]),.c (.s [113])]),zm 46 0,zm 50 0,zm 52 0],z 32 (.call 43 [.t 31,.c (.i .i64
 4)]),[z 30 (.bL 1 [none] [.c (.s []),.c (.s []),.c (.s [83,97,118,101]),.c (.s [114,101,100,32,99,97,114])]),z 35 (.bL 1 [none] [.c (.s []),.c (.s []),.c (.s
 [120]),.c (.s [83,97,118,101])]),z 40 (.bL 1 [none] [.c (.s []),.c (.s [97,110,110]),.c (.s [98,111,98])]),z 45 (.bL 1 [none] [.c (.s []),.c (.s [112]),.c (.s
 [113])])]),([z 33 (.idx 1 (.t 30) (.t 32)),zl 34 33],z 37 (.call 43 [.t 36,.c (.i .i64 4)]),[z 30 (.bL 1 [none] [.c (.s []),.c (.s []),.c (.s [83,97,118,101]),.c (.s
 [114,101,100,32,99,97,114])]),z 33 (.idx 1 (.t 30) (.t 32)),zl 34 33,z 35 (.bL 1 [none] [.c (.s []),.c (.s []),.c (.s [120]),.c (.s [83,97,118,101])]),z 40
 (.bL 1 [none] [.c (.s []),.c (.s [97,110,110]),.c (.s [98,111,98])]),z 45 (.bL 1 [none] [.c (.s []),.c (.s [112]),.c (.s [113])])]),([z 38 (.idx 1 (.t 35) (.t
 37)),zl 39 38],z 42 (.call 43 [.t 41,.c (.i .i64 3)]),[z 30 (.bL 1 [none] [.c (.s []),.c (.s []),.c (.s [83,97,118,101]),.c (.s [114,101,100,32,99,97,114])]),z
 33 (.idx 1 (.t 30) (.t 32)),zl 34 33,z 35 (.bL 1 [none] [.c (.s []),.c (.s []),.c (.s [120]),.c (.s [83,97,118,101])]),z 38 (.idx 1 (.t 35) (.t 37)),zl 39 38,z 40
 (.bL 1 [none] [.c (.s []),.c (.s [97,110,110]),.c (.s [98,111,98])]),z 45 (.bL 1 [none] [.c (.s []),.c (.s [112]),.c (.s [113])])]),([z 43 (.idx 1 (.t 40) (.t
 42)),zl 44 43],z 47 (.call 43 [.t 46,.c (.i .i64 3)]),[z 30 (.bL 1 [none] [.c (.s []),.c (.s []),.c (.s [83,97,118,101]),.c (.s [114,101,100,32,99,97,114])]),z
 33 (.idx 1 (.t 30) (.t 32)),zl 34 33,z 35 (.bL 1 [none] [.c (.s []),.c (.s []),.c (.s [120]),.c (.s [83,97,118,101])]),z 38 (.idx 1 (.t 35) (.t 37)),zl 39 38,z 40
 (.bL 1 [none] [.c (.s []),.c (.s [97,110,110]),.c (.s [98,111,98])]),z 43 (.idx 1 (.t 40) (.t 42)),zl 44 43,z 45 (.bL 1 [none] [.c (.s []),.c (.s [112]),.c (.s
 [113])])]),([z 48 (.idx 1 (.t 45) (.t 47)),zl 49 48],z 51 (.call 43 [.t 50,.c (.i .i64 50)]),[z 30 (.bL 1 [none] [.c (.s []),.c (.s []),.c (.s [83,97,118,101]),.c (.s
 [114,101,100,32,99,97,114])]),z 33 (.idx 1 (.t 30) (.t 32)),zl 34 33,z 35 (.bL 1 [none] [.c (.s []),.c (.s []),.c (.s [120]),.c (.s [83,97,118,101])]),z 38 (.idx
 1 (.t 35) (.t 37)),zl 39 38,z 40 (.bL 1 [none] [.c (.s []),.c (.s [97,110,110]),.c (.s [98,111,98])]),z 43 (.idx 1 (.t 40) (.t 42)),zl 44 43,z 45 (.bL 1 [none]
 [.c (.s []),.c (.s [112]),.c (.s [113])]),z 48 (.idx 1 (.t 45) (.t 47)),zl 49 48]),([],z 53 (.call 43 [.t 52,.c (.i .i64 3)]),[z 30 (.bL 1 [none] [.c (.s []),.c (.s
 []),.c (.s [83,97,118,101]),.c (.s [114,101,100,32,99,97,114])]),z 33 (.idx 1 (.t 30) (.t 32)),zl 34 33,z 35 (.bL 1 [none] [.c (.s []),.c (.s []),.c (.s [120]),
 .c (.s [83,97,118,101])]),z 38 (.idx 1 (.t 35) (.t 37)),zl 39 38,z 40 (.bL 1 [none] [.c (.s []),.c (.s [97,110,110]),.c (.s [98,111,98])]),z 43 (.idx 1 (.t 40) (.t
 42)),zl 44 43,z 45 (.bL 1 [none] [.c (.s []),.c (.s [112]),.c (.s [113])]),z 48 (.idx 1 (.t 45) (.t 47)),zl 49 48])] [z 54 (.bin .add (.c (.i .i64 1)) (.t 53))] [] [z 55
 (.build [.nil,.nil,.s [],.s [],.s [],.s [],.i .i64 0,.i .i64 0] [(0,1,.t 28),(1,1,.t 29),(2,1,.t 34),(3,1,.t 39),(4,1,.t 44),(5,1,.t 49),(6,1,.t 51),(7,
 1,.t 54)]),zs (.store 8 [some 3,some 3,none,none,none,none,none,none] (.t 2) (.t 55))]) (.ret))))))⟩
theorem c41:cq prog f41=some p41:=by kernel_rfl
def Wu:cu:=⟨51,[.t 2],.seq (.ax [] [z 2 (.aT (.c (.i .i64 0)))]) (.seq (.block 0 (.seq (.ax [7,8,11,12,15,16] [zm 4 0,z 5 (.bin .eql (.t 4) (.c (.i .u8 9))),zm 6 5,⟨some 7,[(6,
 false)],.aT (.t 0)⟩,⟨some 8,[(6,false)],.bin .eql (.t 7) (.c (.i .u8 10))⟩,z 9 (.pick (.t 6) (.c (.b true)) (.t 8)),zm 10 9,⟨some 11,[(10,false)],.aT (.t 0)⟩,⟨some 12,
 [(10,false)],.bin .eql (.t 11) (.c (.i .u8 13))⟩,z 13 (.pick (.t 10) (.c (.b true)) (.t 12)),zm 14 13,⟨some 15,[(14,false)],.aT (.t 0)⟩,⟨some 16,[(14,false)],.bin .eql
 (.t 15) (.c (.i .u8 32))⟩,z 17 (.pick (.t 14) (.c (.b true)) (.t 16)),zm 3 17]) (.ite (.t 3) (.seq (.ax [] [z 2 (.aT (.c (.i .i64 2)))]) (.ret)) (.seq (.ax [22,23] [zm 19 0,z
 20 (.bin .lss (.t 19) (.c (.i .u8 32))),zm 21 20,⟨some 22,[(21,false)],.aT (.t 0)⟩,⟨some 23,[(21,false)],.bin .eql (.t 22) (.c (.i .u8 127))⟩,z 24 (.pick (.t 21) (.c (.b
 true)) (.t 23)),zm 18 24]) (.ite (.t 18) (.seq (.ax [] [z 2 (.aT (.c (.i .i64 1)))]) (.ret)) (.seq (.ax [29,30] [zm 26 0,z 27 (.bin .geq (.t 26) (.c (.i .u8 48))),zm 28 27,
 ⟨some 29,[(28,true)],.aT (.t 0)⟩,⟨some 30,[(28,true)],.bin .leq (.t 29) (.c (.i .u8 57))⟩,z 31 (.pick (.t 28) (.t 30) (.c (.b false))),zm 25 31]) (.ite (.t 25) (.seq (.ax
 [] [z 2 (.aT (.c (.i .i64 3)))]) (.ret)) (.seq (.ax [36,37,40,41,42,43,44,45,48,49] [zm 33 0,z 34 (.bin .geq (.t 33) (.c (.i .u8 65))),zm 35 34,⟨some 36,[(35,true)],
 .aT (.t 0)⟩,⟨some 37,[(35,true)],.bin .leq (.t 36) (.c (.i .u8 90))⟩,z 38 (.pick (.t 35) (.t 37) (.c (.b false))),zm 39 38,⟨some 40,[(39,false)],.aT (.t 0)⟩,⟨some 41,
 [(39,false)],.bin .geq (.t 40) (.c (.i .u8 97))⟩,⟨some 42,[(39,false)],.aT (.t 41)⟩,⟨some 43,[(39,false),(42,true)],.aT (.t 0)⟩,⟨some 44,[(39,false),(42,true)],
 .bin .leq (.t 43) (.c (.i .u8 122))⟩,⟨some 45,[(39,false)],.pick (.t 42) (.t 44) (.c (.b false))⟩,z 46 (.pick (.t 39) (.c (.b true)) (.t 45)),zm 47 46,⟨some 48,[(47,
 false)],.aT (.t 0)⟩,⟨some 49,[(47,false)],.bin .geq (.t 48) (.c (.i .u8 128))⟩,z 50 (.pick (.t 47) (.c (.b true)) (.t 49)),zm 32 50]) (.ite (.t 32) (.seq (.ax [] [z 2 (.aT
 (.c (.i .i64 4)))]) (.ret)) (.skip)))))))))) (.seq (.ax [] [z 2 (.aT (.c (.i .i64 5)))]) (.ret)))⟩
theorem abX:cq prog f212=some Wu:=by kernel_rfl
def xO:bH:=.seq (.seq (.ax [] [zm 13 3,zm 14 0,z 15 (.len true (.t 14)),z 16 (.bin .lss (.t 13) (.t 15))]) (.ite (.t 16) (.skip) (.exit 0))) (.seq (.block 1 (.seq (.ax [] [zm 19 0,zm 20
 3,z 21 (.ft (.t 19) (.t 20)),zm 4 21]) (.seq (.seq (.ax [25,26,29,30,31,32,33,34,35,36,37,38,39,40,41,42] [zm 22 4,z 23 (.bin .geq (.t 22) (.c (.i .u8 97))),zm
 24 23,⟨some 25,[(24,true)],.aT (.t 4)⟩,⟨some 26,[(24,true)],.bin .leq (.t 25) (.c (.i .u8 122))⟩,z 27 (.pick (.t 24) (.t 26) (.c (.b false))),zm 28 27,⟨some 29,[(28,
 false)],.aT (.t 3)⟩,⟨some 30,[(28,false)],.bin .gtr (.t 29) (.c (.i .i64 0))⟩,⟨some 31,[(28,false)],.aT (.t 30)⟩,⟨some 32,[(28,false),(31,true)],.aT (.t 4)⟩,⟨some
 33,[(28,false),(31,true)],.bin .geq (.t 32) (.c (.i .u8 48))⟩,⟨some 34,[(28,false),(31,true)],.aT (.t 33)⟩,⟨some 35,[(28,false),(31,true),(34,true)],.aT (.t
 4)⟩,⟨some 36,[(28,false),(31,true),(34,true)],.bin .leq (.t 35) (.c (.i .u8 57))⟩,⟨some 37,[(28,false),(31,true)],.pick (.t 34) (.t 36) (.c (.b false))⟩,⟨some 38,
 [(28,false),(31,true)],.aT (.t 37)⟩,⟨some 39,[(28,false),(31,true),(38,false)],.aT (.t 4)⟩,⟨some 40,[(28,false),(31,true),(38,false)],.bin .eql (.t 39) (.c (.i
 .u8 45))⟩,⟨some 41,[(28,false),(31,true)],.pick (.t 38) (.c (.b true)) (.t 40)⟩,⟨some 42,[(28,false)],.pick (.t 31) (.t 41) (.c (.b false))⟩,z 43 (.pick (.t 28) (.c (.b
 true)) (.t 42))]) (.ite (.t 43) (.exit 1) (.skip))) (.seq (.ax [] [z 2 (.aT (.c (.b false)))]) (.ret))))) (.ax [] [zm 17 3,z 18 (.bin .add (.t 17) (.c (.i .i64 1))),zm 3 18]))
def WX:cu:=⟨44,[.t 2],.seq (.ax [] [z 2 (.aT (.c (.b false)))]) (.seq (.seq (.ax [9,10,11] [zm 5 0,z 6 (.len true (.t 5)),z 7 (.bin .lss (.t 6) (.c (.i .i64 1))),zm 8 7,⟨some 9,
 [(8,false)],.aT (.t 0)⟩,⟨some 10,[(8,false)],.len true (.t 9)⟩,⟨some 11,[(8,false)],.bin .gtr (.t 10) (.c (.i .i64 24))⟩,z 12 (.pick (.t 8) (.c (.b true)) (.t 11))])
 (.ite (.t 12) (.seq (.ax [] [z 2 (.aT (.c (.b false)))]) (.ret)) (.skip))) (.seq (.seq (.ax [] [z 3 (.aT (.c (.i .i64 0)))]) (.block 0 (.loop xO))) (.seq (.ax [] [z 2 (.aT
 (.c (.b true)))]) (.ret))))⟩
theorem acq:cq prog f161=some WX:=by kernel_rfl
def p81:cu:=⟨16,[.t 2],.seq (.ax [] [z 1 (.box 61 (.t 0)),z 2 (.aT (.c (.b false)))]) (.seq (.ax [7,8,9,12,13,14] [zf 3 0 1,zl 4 3,z 5 (.bin .eql (.t 4) (.c (.i .i64 2))),zm 6 5,
 ⟨some 7,[(6,false)],.fv 0 (.t 1)⟩,⟨some 8,[(6,false)],.load none (.t 7)⟩,⟨some 9,[(6,false)],.bin .eql (.t 8) (.c (.i .i64 3))⟩,z 10 (.pick (.t 6) (.c (.b true)) (.t
 9)),zm 11 10,⟨some 12,[(11,false)],.fv 0 (.t 1)⟩,⟨some 13,[(11,false)],.load none (.t 12)⟩,⟨some 14,[(11,false)],.bin .eql (.t 13) (.c (.i .i64 4))⟩,z 15 (.pick (.t
 11) (.c (.b true)) (.t 14)),zm 2 15]) (.ret))⟩
theorem c81:cq prog f81=some p81:=by kernel_rfl
def HK:bH:=.seq (.seq (.ax [] [zm 4 3,zm 5 0,z 6 (.len true (.t 5)),z 7 (.bin .lss (.t 4) (.t 6))]) (.ite (.t 7) (.skip) (.exit 0))) (.seq (.block 1 (.seq (.ax [] [zm 10 0,zm 11 3,z 12
 (.ft (.t 10) (.t 11)),z 13 (.bin .eql (.t 12) (.c (.i .u8 32)))]) (.ite (.t 13) (.seq (.ax [] [zm 14 0,zm 15 3,z 16 (.eK (.t 14) none (some (.t 15))),zm 2 16]) (.ret))
 (.skip)))) (.ax [] [zm 8 3,z 9 (.bin .add (.t 8) (.c (.i .i64 1))),zm 3 9]))
def p80:cu:=⟨18,[.t 2],.seq (.ax [] [z 2 (.aT (.c (.s [])))]) (.seq (.seq (.ax [] [z 3 (.aT (.c (.i .i64 0)))]) (.block 0 (.loop HK))) (.seq (.ax [] [zm 17 0,zm 2 17]) (.ret)))⟩
theorem c80:cq prog f80=some p80:=by kernel_rfl
def B1:bH:=.seq (.seq (.ax [] [zm 9 3,zm 10 0,z 11 (.len true (.t 10)),z 12 (.bin .lss (.t 9) (.t 11))]) (.ite (.t 12) (.skip) (.exit 0))) (.seq (.block 1 (.seq (.ax [] [zm 15 0,zm 16 3,
 z 17 (.ft (.t 15) (.t 16)),zm 4 17]) (.seq (.ax [21,22,25,26,29,30,33,34,37,38] [zm 18 4,z 19 (.bin .lss (.t 18) (.c (.i .u8 32))),zm 20 19,⟨some 21,[(20,false)],
 .aT (.t 4)⟩,⟨some 22,[(20,false)],.bin .gtr (.t 21) (.c (.i .u8 126))⟩,z 23 (.pick (.t 20) (.c (.b true)) (.t 22)),zm 24 23,⟨some 25,[(24,false)],.aT (.t 4)⟩,⟨some 26,
 [(24,false)],.bin .eql (.t 25) (.c (.i .u8 60))⟩,z 27 (.pick (.t 24) (.c (.b true)) (.t 26)),zm 28 27,⟨some 29,[(28,false)],.aT (.t 4)⟩,⟨some 30,[(28,false)],.bin .eql
 (.t 29) (.c (.i .u8 62))⟩,z 31 (.pick (.t 28) (.c (.b true)) (.t 30)),zm 32 31,⟨some 33,[(32,false)],.aT (.t 4)⟩,⟨some 34,[(32,false)],.bin .eql (.t 33) (.c (.i .u8
 123))⟩,z 35 (.pick (.t 32) (.c (.b true)) (.t 34)),zm 36 35,⟨some 37,[(36,false)],.aT (.t 4)⟩,⟨some 38,[(36,false)],.bin .eql (.t 37) (.c (.i .u8 125))⟩,z 39 (.pick (.t
 36) (.c (.b true)) (.t 38))]) (.ite (.t 39) (.seq (.ax [] [z 2 (.aT (.c (.b false)))]) (.ret)) (.skip))))) (.ax [] [zm 13 3,z 14 (.bin .add (.t 13) (.c (.i .i64 1))),zm 3 14]))
def WW:cu:=⟨67,[.t 2],.seq (.ax [] [z 2 (.aT (.c (.b false)))]) (.seq (.seq (.ax [] [zm 6 0,z 7 (.len true (.t 6)),z 8 (.bin .gtr (.t 7) (.c (.i .i64 64)))]) (.ite (.t 8) (.seq (.ax []
 [z 2 (.aT (.c (.b false)))]) (.ret)) (.skip))) (.seq (.seq (.ax [] [z 3 (.aT (.c (.i .i64 0)))]) (.block 0 (.loop B1))) (.seq (.ax [] [zm 40 0,z 41 (.call 80 [.t 40]),zm 5
 41]) (.seq (.ax [45,46,47,48,49,50,51,52,53,54,55,56,57,60,61,62,63,64,65] [zm 42 5,z 43 (.call 161 [.t 42]),zm 44 43,⟨some 45,[(44,true)],.aT (.t 5)⟩,
 ⟨some 46,[(44,true)],.len true (.t 45)⟩,⟨some 47,[(44,true)],.aT (.t 0)⟩,⟨some 48,[(44,true)],.len true (.t 47)⟩,⟨some 49,[(44,true)],.bin .eql (.t 46) (.t 48)⟩,
 ⟨some 50,[(44,true)],.aT (.t 49)⟩,⟨some 51,[(44,true),(50,false)],.aT (.t 0)⟩,⟨some 52,[(44,true),(50,false)],.len true (.t 51)⟩,⟨some 53,[(44,true),(50,
 false)],.aT (.t 5)⟩,⟨some 54,[(44,true),(50,false)],.len true (.t 53)⟩,⟨some 55,[(44,true),(50,false)],.bin .add (.t 54) (.c (.i .i64 1))⟩,⟨some 56,[(44,true),(50,
 false)],.bin .gtr (.t 52) (.t 55)⟩,⟨some 57,[(44,true)],.pick (.t 50) (.c (.b true)) (.t 56)⟩,z 58 (.pick (.t 44) (.t 57) (.c (.b false))),zm 59 58,⟨some 60,[(59,true)],
 .aT (.t 0)⟩,⟨some 61,[(59,true)],.aT (.t 0)⟩,⟨some 62,[(59,true)],.len true (.t 61)⟩,⟨some 63,[(59,true)],.bin .sub (.t 62) (.c (.i .i64 1))⟩,⟨some 64,[(59,true)],
 .ft (.t 60) (.t 63)⟩,⟨some 65,[(59,true)],.bin .neq (.t 64) (.c (.i .u8 47))⟩,z 66 (.pick (.t 59) (.t 65) (.c (.b false))),zm 2 66]) (.ret)))))⟩
theorem acp:cq prog f162=some WW:=by kernel_rfl
def um:bH:=.seq (.ax [] [z 81 (.bin .lss (.t 80) (.t 79))]) (.seq (.ite (.t 81) (.skip) (.exit 1)) (.seq (.block 2 (.seq (.ax [] [zm 82 80,zm 5 82]) (.seq (.ax [] [zm 83 0,zm 84 5,z 85
 (.idx 3 (.t 83) (.t 84)),zL 86 3 85,z 6 (.alloc 61 [.i .i64 0,.s [],.i .i64 0]),zs (.store 3 [none,none,none] (.t 6) (.t 86))]) (.seq (.seq (.ax [91,92,93,94,95] [zL 87
 3 6,z 88 (.call 81 [.t 87]),z 89 (.un .not (.t 88)),zm 90 89,⟨some 91,[(90,false)],.fv 2 (.t 6)⟩,⟨some 92,[(90,false)],.load none (.t 91)⟩,⟨some 93,[(90,false)],.fv
 2 (.t 3)⟩,⟨some 94,[(90,false)],.load none (.t 93)⟩,⟨some 95,[(90,false)],.bin .neq (.t 92) (.t 94)⟩,z 96 (.pick (.t 90) (.c (.b true)) (.t 95))]) (.ite (.t 96) (.exit 2)
 (.skip))) (.seq (.dC [([zf 97 0 3,zl 98 97,z 99 (.bin .neq (.t 98) (.c (.i .i64 3))),zm 100 99,⟨some 101,[(100,false)],.fv 0 (.t 6)⟩,⟨some 102,[(100,false)],.load none
 (.t 101)⟩,⟨some 103,[(100,false)],.bin .neq (.t 102) (.c (.i .i64 2))⟩,z 104 (.pick (.t 100) (.c (.b true)) (.t 103)),zm 105 104,⟨some 106,[(105,false)],.fv 1 (.t 6)⟩,
 ⟨some 107,[(105,false)],.load none (.t 106)⟩,⟨some 109,[(105,false)],.fv 1 (.t 3)⟩,⟨some 110,[(105,false)],.load none (.t 109)⟩],⟨some 108,[(105,false)],.call 80 [.t
 107]⟩,[⟨some 109,[(105,false)],.fv 1 (.t 3)⟩,⟨some 110,[(105,false)],.load none (.t 109)⟩])] [] [101,102,103,106,107,108,109,110,111] [⟨some 111,[(105,false)],
 .bin .neq (.t 108) (.t 110)⟩,z 112 (.pick (.t 105) (.c (.b true)) (.t 111))]) (.ite (.t 112) (.seq (.ax [] [z 4 (.aT (.c (.i .i64 7)))]) (.ret)) (.skip))))))) (.ax [] [z 113
 (.bin .add (.t 80) (.c (.i .i64 1))),zm 80 113])))
def Xu:cu:=⟨114,[.t 4],.seq (.ax [] [z 3 (.box 61 (.t 1)),z 4 (.aT (.c (.i .i64 0)))]) (.seq (.seq (.ax [] [zf 7 0 3,zl 8 7]) (.block 0 (.seq (.ax [] [z 10 (.bin .eql (.t 8) (.c (.i
 .i64 1))),zm 9 10]) (.ite (.t 9) (.seq (.seq (.ax [15,16,17,20,21,22,23,24,25,26,27,28,29,30,31,32] [zf 11 1 3,zl 12 11,z 13 (.bin .eql (.t 12) (.c (.s []))),zm
 14 13,⟨some 15,[(14,false)],.fv 2 (.t 3)⟩,⟨some 16,[(14,false)],.load none (.t 15)⟩,⟨some 17,[(14,false)],.bin .neq (.t 16) (.c (.i .i64 0))⟩,z 18 (.pick (.t 14) (.c
 (.b true)) (.t 17)),zm 19 18,⟨some 20,[(19,false)],.aT (.t 0)⟩,⟨some 21,[(19,false)],.len false (.t 20)⟩,⟨some 22,[(19,false)],.bin .gtr (.t 21) (.c (.i .i64 0))⟩,
 ⟨some 23,[(19,false)],.aT (.t 22)⟩,⟨some 24,[(19,false),(23,true)],.aT (.t 0)⟩,⟨some 25,[(19,false),(23,true)],.aT (.t 0)⟩,⟨some 26,[(19,false),(23,true)],
 .len false (.t 25)⟩,⟨some 27,[(19,false),(23,true)],.bin .sub (.t 26) (.c (.i .i64 1))⟩,⟨some 28,[(19,false),(23,true)],.idx 3 (.t 24) (.t 27)⟩,⟨some 29,[(19,false),
 (23,true)],.fv 0 (.t 28)⟩,⟨some 30,[(19,false),(23,true)],.load none (.t 29)⟩,⟨some 31,[(19,false),(23,true)],.bin .eql (.t 30) (.c (.i .i64 1))⟩,⟨some 32,[(19,
 false)],.pick (.t 23) (.t 31) (.c (.b false))⟩,z 33 (.pick (.t 19) (.c (.b true)) (.t 32))]) (.ite (.t 33) (.seq (.ax [] [z 4 (.aT (.c (.i .i64 1)))]) (.ret)) (.skip))) (.seq
 (.ax [] [z 4 (.aT (.c (.i .i64 0)))]) (.ret))) (.seq (.ax [] [z 35 (.bin .eql (.t 8) (.c (.i .i64 5))),zm 34 35]) (.ite (.t 34) (.seq (.seq (.ax [41,42,43] [zf 36 1 3,zl 37
 36,z 38 (.call 161 [.t 37]),z 39 (.un .not (.t 38)),zm 40 39,⟨some 41,[(40,false)],.fv 2 (.t 3)⟩,⟨some 42,[(40,false)],.load none (.t 41)⟩,⟨some 43,[(40,false)],.bin
 .neq (.t 42) (.c (.i .i64 0))⟩,z 44 (.pick (.t 40) (.c (.b true)) (.t 43))]) (.ite (.t 44) (.seq (.ax [] [z 4 (.aT (.c (.i .i64 1)))]) (.ret)) (.skip))) (.seq (.ax [] [z 4 (.aT
 (.c (.i .i64 0)))]) (.ret))) (.seq (.seq (.ax [] [z 46 (.bin .eql (.t 8) (.c (.i .i64 2))),zm 45 46]) (.ite (.t 45) (.skip) (.ax [] [z 47 (.bin .eql (.t 8) (.c (.i .i64 4))),zm
 45 47]))) (.ite (.t 45) (.seq (.ax [53,54,55,58,59,60] [zf 48 1 3,zl 49 48,z 50 (.call 162 [.t 49]),z 51 (.un .not (.t 50)),zm 52 51,⟨some 53,[(52,false)],.fv 2 (.t
 3)⟩,⟨some 54,[(52,false)],.load none (.t 53)⟩,⟨some 55,[(52,false)],.bin .lss (.t 54) (.c (.i .i64 1))⟩,z 56 (.pick (.t 52) (.c (.b true)) (.t 55)),zm 57 56,⟨some 58,
 [(57,false)],.fv 2 (.t 3)⟩,⟨some 59,[(57,false)],.load none (.t 58)⟩,⟨some 60,[(57,false)],.bin .gtr (.t 59) (.c (.i .i64 999))⟩,z 61 (.pick (.t 57) (.c (.b true)) (.t
 60))]) (.ite (.t 61) (.seq (.ax [] [z 4 (.aT (.c (.i .i64 1)))]) (.ret)) (.skip))) (.seq (.ax [] [z 63 (.bin .eql (.t 8) (.c (.i .i64 3))),zm 62 63]) (.ite (.t 62) (.seq (.ax
 [69,70,71,74,75,76] [zf 64 1 3,zl 65 64,z 66 (.call 161 [.t 65]),z 67 (.un .not (.t 66)),zm 68 67,⟨some 69,[(68,false)],.fv 2 (.t 3)⟩,⟨some 70,[(68,false)],.load
 none (.t 69)⟩,⟨some 71,[(68,false)],.bin .lss (.t 70) (.c (.i .i64 1))⟩,z 72 (.pick (.t 68) (.c (.b true)) (.t 71)),zm 73 72,⟨some 74,[(73,false)],.fv 2 (.t 3)⟩,⟨some
 75,[(73,false)],.load none (.t 74)⟩,⟨some 76,[(73,false)],.bin .gtr (.t 75) (.c (.i .i64 999))⟩,z 77 (.pick (.t 73) (.c (.b true)) (.t 76))]) (.ite (.t 77) (.seq (.ax [] [z
 4 (.aT (.c (.i .i64 1)))]) (.ret)) (.skip))) (.seq (.ax [] [z 4 (.aT (.c (.i .i64 1)))]) (.ret)))))))))))) (.seq (.seq (.ax [] [zm 78 0,z 79 (.len false (.t 78)),z 80 (.aT
 (.c (.i .i64 0)))]) (.block 1 (.loop um))) (.seq (.ax [] [z 4 (.aT (.c (.i .i64 0)))]) (.ret))))⟩
theorem acV:cq prog f103=some Xu:=by kernel_rfl
def HR:bH:=.seq (.ax [] [z 16 (.bin .lss (.t 15) (.t 14))]) (.seq (.ite (.t 16) (.skip) (.exit 0)) (.seq (.block 1 (.seq (.ax [] [zm 17 15,zm 3 17]) (.seq (.dC [] [zm 18 0,zm 19 3,z 20
 (.slice 3 (.t 18) none (some (.t 19))),zm 21 0,zm 22 3,z 23 (.idx 3 (.t 21) (.t 22)),zL 24 3 23] [] [z 25 (.call 103 [.t 20,.t 24]),zm 4 25]) (.seq (.ax [] [zm 26 4,z 27
 (.bin .neq (.t 26) (.c (.i .i64 0)))]) (.ite (.t 27) (.seq (.ax [] [zm 28 4,zm 2 28]) (.ret)) (.skip)))))) (.ax [] [z 29 (.bin .add (.t 15) (.c (.i .i64 1))),zm 15 29])))
def p46:cu:=⟨30,[.t 2],.seq (.ax [] [z 2 (.aT (.c (.i .i64 0)))]) (.seq (.seq (.ax [9,10,11] [zm 5 0,z 6 (.len false (.t 5)),z 7 (.bin .gtr (.t 6) (.c (.i .i64 512))),zm 8 7,⟨some 9,
 [(8,false)],.aT (.t 0)⟩,⟨some 10,[(8,false)],.call 102 [.t 9]⟩,⟨some 11,[(8,false)],.bin .gtr (.t 10) (.c (.i .i64 1024))⟩,z 12 (.pick (.t 8) (.c (.b true)) (.t 11))])
 (.ite (.t 12) (.seq (.ax [] [z 2 (.aT (.c (.i .i64 3)))]) (.ret)) (.skip))) (.seq (.seq (.ax [] [zm 13 0,z 14 (.len false (.t 13)),z 15 (.aT (.c (.i .i64 0)))]) (.block 0
 (.loop HR))) (.seq (.ax [] [z 2 (.aT (.c (.i .i64 0)))]) (.ret))))⟩
theorem c46:cq prog f46=some p46:=by kernel_rfl
def Cg:bH:=.seq (.ax [] [z 8 (.bin .lss (.t 7) (.t 6))]) (.seq (.ite (.t 8) (.skip) (.exit 0)) (.seq (.block 1 (.seq (.ax [] [zm 9 7,zm 4 9]) (.seq (.ax [] [zm 10 0,zm 11 4,z 12 (.idx 3
 (.t 10) (.t 11)),zf 13 0 12,zl 14 13,z 15 (.bin .eql (.t 14) (.c (.i .i64 1)))]) (.ite (.t 15) (.ax [] [zm 16 3,zm 17 0,zm 18 4,z 19 (.idx 3 (.t 17) (.t 18)),zf 20 1 19,zl
 21 20,z 22 (.len true (.t 21)),z 23 (.bin .add (.t 16) (.t 22)),zm 3 23]) (.ax [] [zm 24 3,z 25 (.bin .add (.t 24) (.c (.i .i64 1))),zm 3 25]))))) (.ax [] [z 26 (.bin .add
 (.t 7) (.c (.i .i64 1))),zm 7 26])))
def Xv:cu:=⟨28,[.t 2],.seq (.ax [] [z 2 (.aT (.c (.i .i64 0)))]) (.seq (.ax [] [z 3 (.aT (.c (.i .i64 0)))]) (.seq (.seq (.ax [] [zm 5 0,z 6 (.len false (.t 5)),z 7 (.aT (.c (.i .i64
 0)))]) (.block 0 (.loop Cg))) (.seq (.ax [] [zm 27 3,zm 2 27]) (.ret))))⟩
theorem acW:cq prog f102=some Xv:=by kernel_rfl
def DR:bH:=.seq (.ax [] [z 10 (.bin .lss (.t 9) (.t 8))]) (.seq (.ite (.t 10) (.skip) (.exit 0)) (.seq (.block 1 (.seq (.ax [] [zm 11 9,zm 4 11]) (.seq (.ax [] [zm 12 0,zm 13 4,z 14
 (.idx 3 (.t 12) (.t 13)),zL 15 3 14,z 5 (.alloc 61 [.i .i64 0,.s [],.i .i64 0]),zs (.store 3 [none,none,none] (.t 5) (.t 15))]) (.seq (.seq (.ax [] [zf 16 0 5,zl 17 16,z
 18 (.bin .neq (.t 17) (.c (.i .i64 1)))]) (.ite (.t 18) (.seq (.ax [] [zm 19 3,zL 20 3 5,z 21 (.bL 3 [none,none,none] [.t 20]),z 22 (.app 61 3 32 (.t 19) (.t 21)),zm 3
 22]) (.exit 1)) (.skip))) (.seq (.seq (.ax [] [zf 23 1 5,zl 24 23,z 25 (.bin .eql (.t 24) (.c (.s [])))]) (.ite (.t 25) (.exit 1) (.skip))) (.seq (.ax [] [zm 26 3,z 27 (.len
 false (.t 26)),zm 6 27]) (.seq (.ax [31,32,33,34,35,36,37] [zm 28 6,z 29 (.bin .gtr (.t 28) (.c (.i .i64 0))),zm 30 29,⟨some 31,[(30,true)],.aT (.t 3)⟩,⟨some 32,
 [(30,true)],.aT (.t 6)⟩,⟨some 33,[(30,true)],.bin .sub (.t 32) (.c (.i .i64 1))⟩,⟨some 34,[(30,true)],.idx 3 (.t 31) (.t 33)⟩,⟨some 35,[(30,true)],.fv 0 (.t 34)⟩,
 ⟨some 36,[(30,true)],.load none (.t 35)⟩,⟨some 37,[(30,true)],.bin .eql (.t 36) (.c (.i .i64 1))⟩,z 38 (.pick (.t 30) (.t 37) (.c (.b false)))]) (.ite (.t 38) (.dC [] [zm
 39 3,zm 40 6,z 41 (.bin .sub (.t 40) (.c (.i .i64 1))),zm 42 3,zm 43 6,z 44 (.bin .sub (.t 43) (.c (.i .i64 1))),z 45 (.idx 3 (.t 42) (.t 44)),zf 46 1 45,zl 47 46,zf 48 1
 5,zl 49 48,z 50 (.bin .add (.t 47) (.t 49)),z 51 (.build [.i .i64 0,.s [],.i .i64 0] [(0,1,.c (.i .i64 1)),(1,1,.t 50)])] [] [z 52 (.idx 3 (.t 39) (.t 41)),zs (.store 3
 [none,none,none] (.t 52) (.t 51))]) (.ax [] [zm 53 3,zf 54 1 5,zl 55 54,z 56 (.build [.i .i64 0,.s [],.i .i64 0] [(0,1,.c (.i .i64 1)),(1,1,.t 55)]),z 57 (.bL 3
 [none,none,none] [.t 56]),z 58 (.app 61 3 32 (.t 53) (.t 57)),zm 3 58]))))))))) (.ax [] [z 59 (.bin .add (.t 9) (.c (.i .i64 1))),zm 9 59])))
def ZI:cu:=⟨61,[.t 2],.seq (.ax [] [z 2 (.aT (.c .nil))]) (.seq (.ax [] [z 3 (.aT (.c .nil))]) (.seq (.seq (.ax [] [zm 7 0,z 8 (.len false (.t 7)),z 9 (.aT (.c (.i .i64 0)))])
 (.block 0 (.loop DR))) (.seq (.ax [] [zm 60 3,zm 2 60]) (.ret))))⟩
theorem c82:cq prog f82=some ZI:=by kernel_rfl
def ZJ:cu:=⟨10,[.t 4],.seq (.ax [] [z 4 (.aT (.c .nil))]) (.seq (.ax [] [zm 5 0,z 6 (.app 61 3 32 (.c .nil) (.t 5)),zm 7 1,z 8 (.app 61 3 32 (.t 6) (.t 7)),z 9 (.call 82 [.t 8]),zm 4
 9]) (.ret))⟩
theorem c48:cq prog f48=some ZJ:=by kernel_rfl
def HJ:bH:=.seq (.ax [] [z 9 (.bin .lss (.t 8) (.t 7))]) (.seq (.ite (.t 9) (.skip) (.exit 0)) (.seq (.block 1 (.seq (.ax [] [zm 10 8,zm 5 10]) (.seq (.ax [] [zm 11 0,zm 12 5,z 13 (.idx
 1 (.t 11) (.t 12)),zl 14 13,zm 15 1,z 16 (.bin .eql (.t 14) (.t 15))]) (.ite (.t 16) (.seq (.ax [] [z 4 (.aT (.c (.b true)))]) (.ret)) (.skip))))) (.ax [] [z 17 (.bin .add (.t
 8) (.c (.i .i64 1))),zm 8 17])))
def p83:cu:=⟨18,[.t 4],.seq (.ax [] [z 4 (.aT (.c (.b false)))]) (.seq (.seq (.ax [] [zm 6 0,z 7 (.len false (.t 6)),z 8 (.aT (.c (.i .i64 0)))]) (.block 0 (.loop HJ))) (.seq (.ax
 [] [z 4 (.aT (.c (.b false)))]) (.ret)))⟩
theorem c83:cq prog f83=some p83:=by kernel_rfl
def HU:bH:=.seq (.ax [] [z 8 (.bin .lss (.t 7) (.t 6))]) (.seq (.ite (.t 8) (.skip) (.exit 0)) (.seq (.block 1 (.seq (.ax [] [zm 9 7,zm 4 9]) (.seq (.ax [16,17,18,19,20,21,22,23]
 [zm 10 0,zm 11 4,z 12 (.idx 3 (.t 10) (.t 11)),zL 13 3 12,z 14 (.call 81 [.t 13]),zm 15 14,⟨some 16,[(15,true)],.aT (.t 3)⟩,⟨some 17,[(15,true)],.aT (.t 0)⟩,⟨some
 18,[(15,true)],.aT (.t 4)⟩,⟨some 19,[(15,true)],.idx 3 (.t 17) (.t 18)⟩,⟨some 20,[(15,true)],.fv 2 (.t 19)⟩,⟨some 21,[(15,true)],.load none (.t 20)⟩,⟨some 22,
 [(15,true)],.call 83 [.t 16,.t 21]⟩,⟨some 23,[(15,true)],.un .not (.t 22)⟩,z 24 (.pick (.t 15) (.t 23) (.c (.b false)))]) (.ite (.t 24) (.ax [] [zm 25 3,zm 26 0,zm 27 4,
 z 28 (.idx 3 (.t 26) (.t 27)),zf 29 2 28,zl 30 29,z 31 (.bL 1 [none] [.t 30]),z 32 (.app 3 1 8 (.t 25) (.t 31)),zm 3 32]) (.skip))))) (.ax [] [z 33 (.bin .add (.t 7) (.c
 (.i .i64 1))),zm 7 33])))
def p36:cu:=⟨35,[.t 2],.seq (.ax [] [z 2 (.aT (.c .nil))]) (.seq (.ax [] [z 3 (.aT (.c .nil))]) (.seq (.seq (.ax [] [zm 5 0,z 6 (.len false (.t 5)),z 7 (.aT (.c (.i .i64 0)))])
 (.block 0 (.loop HU))) (.seq (.ax [] [zm 34 3,zm 2 34]) (.ret))))⟩
theorem c36:cq prog f36=some p36:=by kernel_rfl
def HV:bH:=.seq (.seq (.ax [32,33,34,35] [zm 27 10,zm 28 1,z 29 (.len false (.t 28)),z 30 (.bin .lss (.t 27) (.t 29)),zm 31 30,⟨some 32,[(31,true)],.aT (.t 10)⟩,⟨some 33,[(31,
 true)],.aT (.t 2)⟩,⟨some 34,[(31,true)],.len false (.t 33)⟩,⟨some 35,[(31,true)],.bin .lss (.t 32) (.t 34)⟩,z 36 (.pick (.t 31) (.t 35) (.c (.b false)))]) (.ite (.t 36)
 (.skip) (.exit 2))) (.seq (.block 3 (.seq (.dC [] [zm 39 1,zm 40 10,z 41 (.idx 1 (.t 39) (.t 40)),zl 42 41,zf 43 2 9,zl 44 43] [] [z 45 (.bin .eql (.t 42) (.t 44))]) (.ite
 (.t 45) (.seq (.dC [] [zm 46 7,zf 47 0 9,zl 48 47,zf 49 1 9,zl 50 49,zm 51 2,zm 52 10,z 53 (.idx 1 (.t 51) (.t 52)),zl 54 53,z 55 (.build [.i .i64 0,.s [],.i .i64 0]
 [(0,1,.t 48),(1,1,.t 50),(2,1,.t 54)]),z 56 (.bL 3 [none,none,none] [.t 55])] [] [z 57 (.app 61 3 32 (.t 46) (.t 56)),zm 7 57]) (.exit 2)) (.skip)))) (.ax [] [zm 37
 10,z 38 (.bin .add (.t 37) (.c (.i .i64 1))),zm 10 38]))
def DV:bH:=.seq (.ax [] [z 14 (.bin .lss (.t 13) (.t 12))]) (.seq (.ite (.t 14) (.skip) (.exit 0)) (.seq (.block 1 (.seq (.ax [] [zm 15 13,zm 8 15]) (.seq (.ax [] [zm 16 0,zm 17 8,z 18
 (.idx 3 (.t 16) (.t 17)),zL 19 3 18,z 9 (.alloc 61 [.i .i64 0,.s [],.i .i64 0]),zs (.store 3 [none,none,none] (.t 9) (.t 19))]) (.seq (.seq (.ax [] [zL 20 3 9,z 21 (.call
 81 [.t 20]),z 22 (.un .not (.t 21))]) (.ite (.t 22) (.seq (.ax [] [zm 23 7,zL 24 3 9,z 25 (.bL 3 [none,none,none] [.t 24]),z 26 (.app 61 3 32 (.t 23) (.t 25)),zm 7 26])
 (.exit 1)) (.skip))) (.seq (.ax [] [z 10 (.aT (.c (.i .i64 0)))]) (.block 2 (.loop HV))))))) (.ax [] [z 58 (.bin .add (.t 13) (.c (.i .i64 1))),zm 13 58])))
def p35:cu:=⟨61,[.t 6],.seq (.ax [] [z 6 (.aT (.c .nil))]) (.seq (.ax [] [z 7 (.aT (.c .nil))]) (.seq (.seq (.ax [] [zm 11 0,z 12 (.len false (.t 11)),z 13 (.aT (.c (.i .i64 0)))])
 (.block 0 (.loop DV))) (.seq (.ax [] [zm 59 7,z 60 (.call 82 [.t 59]),zm 6 60]) (.ret))))⟩
theorem c35:cq prog f35=some p35:=by kernel_rfl
def Ce:bH:=.seq (.seq (.ax [] [zm 5 4,zm 6 0,z 7 (.bin .leq (.t 5) (.t 6))]) (.ite (.t 7) (.skip) (.exit 0))) (.seq (.block 1 (.ax [] [zm 10 3,zm 11 4,z 12 (.bL 1 [none] [.t 11]),z
 13 (.app 3 1 8 (.t 10) (.t 12)),zm 3 13])) (.ax [] [zm 8 4,z 9 (.bin .add (.t 8) (.c (.i .i64 1))),zm 4 9]))
def Xr:cu:=⟨15,[.t 2],.seq (.ax [] [z 2 (.aT (.c .nil))]) (.seq (.ax [] [z 3 (.aT (.c .nil))]) (.seq (.seq (.ax [] [z 4 (.aT (.c (.i .i64 1)))]) (.block 0 (.loop Ce))) (.seq (.ax
 [] [zm 14 3,zm 2 14]) (.ret))))⟩
theorem acT:cq prog f105=some Xr:=by kernel_rfl
def p49:cu:=⟨24,[.t 4,.t 5],.seq (.ax [] [z 4 (.aT (.c .nil)),z 5 (.aT (.c .nil))]) (.seq (.ax [] [zm 8 0,z 9 (.app 61 3 32 (.c .nil) (.t 8)),zm 10 1,z 11 (.app 61 3 32 (.t 9) (.t
 10)),z 12 (.call 36 [.t 11]),zm 6 12]) (.seq (.ax [] [zm 13 6,z 14 (.len false (.t 13)),z 15 (.call 105 [.t 14]),zm 7 15]) (.seq (.ax [] [zm 16 0,zm 17 6,zm 18 7,z 19
 (.call 35 [.t 16,.t 17,.t 18]),zm 20 1,zm 21 6,zm 22 7,z 23 (.call 35 [.t 20,.t 21,.t 22]),zm 4 19,zm 5 23]) (.ret))))⟩
theorem c49:cq prog f49=some p49:=by kernel_rfl
def WU:cu:=⟨44,[.t 2],.seq (.ax [] [z 2 (.aT (.c (.s [])))]) (.seq (.block 0 (.seq (.ax [7,8,11,12] [zm 4 0,z 5 (.bin .eql (.t 4) (.c (.i .u8 92))),zm 6 5,⟨some 7,[(6,false)],
 .aT (.t 0)⟩,⟨some 8,[(6,false)],.bin .eql (.t 7) (.c (.i .u8 60))⟩,z 9 (.pick (.t 6) (.c (.b true)) (.t 8)),zm 10 9,⟨some 11,[(10,false)],.aT (.t 0)⟩,⟨some 12,[(10,
 false)],.bin .eql (.t 11) (.c (.i .u8 123))⟩,z 13 (.pick (.t 10) (.c (.b true)) (.t 12)),zm 3 13]) (.ite (.t 3) (.seq (.ax [] [zm 14 0,z 15 (.bL 1 [none] [.t 14]),z 16
 (.C2 (.t 15)),z 17 (.bin .add (.c (.s [92])) (.t 16)),zm 2 17]) (.ret)) (.seq (.ax [] [zm 19 0,z 20 (.bin .eql (.t 19) (.c (.i .u8 10))),zm 18 20]) (.ite (.t 18) (.seq (.ax
 [] [z 2 (.aT (.c (.s [92,110])))]) (.ret)) (.seq (.ax [] [zm 22 0,z 23 (.bin .eql (.t 22) (.c (.i .u8 9))),zm 21 23]) (.ite (.t 21) (.seq (.ax [] [z 2 (.aT (.c (.s [92,
 116])))]) (.ret)) (.seq (.ax [28,29,30] [zm 25 0,z 26 (.bin .eql (.t 25) (.c (.i .u8 13))),zm 27 26,⟨some 28,[(27,false)],.aT (.t 0)⟩,⟨some 29,[(27,false)],.call 212
 [.t 28]⟩,⟨some 30,[(27,false)],.bin .eql (.t 29) (.c (.i .i64 1))⟩,z 31 (.pick (.t 27) (.c (.b true)) (.t 30)),zm 24 31]) (.ite (.t 24) (.seq (.dC [] [zm 32 0,z 33 (.bin
 .quo (.t 32) (.c (.i .u8 16))),z 34 (.ft (.c (.s [48,49,50,51,52,53,54,55,56,57,97,98,99,100,101,102])) (.t 33)),zm 35 0,z 36 (.bin .rem (.t 35) (.c (.i .u8
 16))),z 37 (.ft (.c (.s [48,49,50,51,52,53,54,55,56,57,97,98,99,100,101,102])) (.t 36))] [] [z 38 (.bL 1 [none] [.t 34,.t 37]),z 39 (.C2 (.t 38)),z 40
 (.bin .add (.c (.s [92,120])) (.t 39)),zm 2 40]) (.ret)) (.skip)))))))))) (.seq (.ax [] [zm 41 0,z 42 (.bL 1 [none] [.t 41]),z 43 (.C2 (.t 42)),zm 2 43]) (.ret)))⟩
theorem acn:cq prog f164=some WU:=by kernel_rfl
def xS:bH:=.seq (.seq (.ax [16,17] [zm 11 4,zm 12 0,z 13 (.len true (.t 12)),z 14 (.bin .lss (.t 11) (.t 13)),zm 15 14,⟨some 16,[(15,true)],.aT (.t 4)⟩,⟨some 17,[(15,true)],.bin
 .leq (.t 16) (.c (.i .i64 25))⟩,z 18 (.pick (.t 15) (.t 17) (.c (.b false)))]) (.ite (.t 18) (.skip) (.exit 1))) (.seq (.block 2 (.seq (.ax [26,27,28,29] [zm 21 0,zm 22 4,z
 23 (.ft (.t 21) (.t 22)),z 24 (.bin .eql (.t 23) (.c (.i .u8 125))),zm 25 24,⟨some 26,[(25,true)],.aT (.t 0)⟩,⟨some 27,[(25,true)],.aT (.t 4)⟩,⟨some 28,[(25,true)],
 .eK (.t 26) (some (.c (.i .i64 1))) (some (.t 27))⟩,⟨some 29,[(25,true)],.call 161 [.t 28]⟩,z 30 (.pick (.t 25) (.t 29) (.c (.b false)))]) (.ite (.t 30) (.seq (.ax [] [zm
 31 0,zm 32 4,z 33 (.eK (.t 31) (some (.c (.i .i64 1))) (some (.t 32))),z 34 (.build [.i .i64 0,.s [],.i .i64 0] [(0,1,.c (.i .i64 5)),(1,1,.t 33)]),zm 35 4,z 36
 (.bin .add (.t 35) (.c (.i .i64 1))),zs (.store 3 [none,none,none] (.t 2) (.t 34)),zm 3 36]) (.ret)) (.skip)))) (.ax [] [zm 19 4,z 20 (.bin .add (.t 19) (.c (.i .i64 1))),zm
 4 20]))
def Cf:bH:=.seq (.seq (.ax [] [zm 46 5,z 47 (.bin .lss (.t 46) (.c (.i .i64 256)))]) (.ite (.t 47) (.skip) (.exit 3))) (.seq (.block 4 (.seq (.ax [] [zm 50 5,z 51 (.EN .u8 (.t 50)),z 52
 (.call 164 [.t 51]),zm 6 52]) (.seq (.ax [59,60,61,62,63,64] [zm 53 0,z 54 (.len true (.t 53)),zm 55 6,z 56 (.len true (.t 55)),z 57 (.bin .geq (.t 54) (.t 56)),zm 58
 57,⟨some 59,[(58,true)],.aT (.t 0)⟩,⟨some 60,[(58,true)],.aT (.t 6)⟩,⟨some 61,[(58,true)],.len true (.t 60)⟩,⟨some 62,[(58,true)],.eK (.t 59) none (some (.t
 61))⟩,⟨some 63,[(58,true)],.aT (.t 6)⟩,⟨some 64,[(58,true)],.bin .eql (.t 62) (.t 63)⟩,z 65 (.pick (.t 58) (.t 64) (.c (.b false)))]) (.ite (.t 65) (.seq (.ax [] [zm 66
 5,z 67 (.EN .u8 (.t 66)),z 68 (.bL 1 [none] [.t 67]),z 69 (.C2 (.t 68)),z 70 (.build [.i .i64 0,.s [],.i .i64 0] [(0,1,.c (.i .i64 1)),(1,1,.t 69)]),zm 71 6,z 72
 (.len true (.t 71)),zs (.store 3 [none,none,none] (.t 2) (.t 70)),zm 3 72]) (.ret)) (.skip))))) (.ax [] [zm 48 5,z 49 (.bin .add (.t 48) (.c (.i .i64 1))),zm 5 49]))
def Xt:cu:=⟨74,[.c 2 (some 3),.t 3],.seq (.ax [] [z 2 (.alloc 61 [.i .i64 0,.s [],.i .i64 0]),z 3 (.aT (.c (.i .i64 0)))]) (.seq (.block 0 (.seq (.ax [] [zm 8 0,z 9 (.ft (.t 8) (.c
 (.i .i64 0))),z 10 (.bin .eql (.t 9) (.c (.i .u8 123))),zm 7 10]) (.ite (.t 7) (.seq (.seq (.ax [] [z 4 (.aT (.c (.i .i64 1)))]) (.block 1 (.loop xS))) (.seq (.ax [] [z 37
 (.build [.i .i64 0,.s [],.i .i64 0] []),zs (.store 3 [none,none,none] (.t 2) (.t 37)),z 3 (.aT (.c (.i .i64 0)))]) (.ret))) (.seq (.ax [] [zm 39 0,z 40 (.ft (.t 39) (.c
 (.i .i64 0))),z 41 (.bin .eql (.t 40) (.c (.i .u8 60))),zm 38 41]) (.ite (.t 38) (.seq (.ax [] [zm 42 0,z 43 (.call 163 [.t 42]),z 44 (.ext 0 (.t 43)),z 45 (.ext 1 (.t 43)),
 zs (.store 3 [none,none,none] (.t 2) (.t 44)),zm 3 45]) (.ret)) (.skip)))))) (.seq (.seq (.ax [] [z 5 (.aT (.c (.i .i64 0)))]) (.block 3 (.loop Cf))) (.seq (.ax [] [z 73
 (.build [.i .i64 0,.s [],.i .i64 0] []),zs (.store 3 [none,none,none] (.t 2) (.t 73)),z 3 (.aT (.c (.i .i64 0)))]) (.ret))))⟩
theorem acU:cq prog f104=some Xt:=by kernel_rfl
def B0:bH:=.seq (.seq (.ax [15,16,17,18] [zm 10 4,zm 11 0,z 12 (.len true (.t 11)),z 13 (.bin .lss (.t 10) (.t 12)),zm 14 13,⟨some 15,[(14,true)],.aT (.t 0)⟩,⟨some 16,[(14,
 true)],.aT (.t 4)⟩,⟨some 17,[(14,true)],.ft (.t 15) (.t 16)⟩,⟨some 18,[(14,true)],.bin .neq (.t 17) (.c (.i .u8 62))⟩,z 19 (.pick (.t 14) (.t 18) (.c (.b false)))])
 (.ite (.t 19) (.skip) (.exit 0))) (.block 1 (.ax [] [zm 20 4,z 21 (.bin .add (.t 20) (.c (.i .i64 1))),zm 4 21]))
def xN:bH:=.seq (.seq (.ax [61,62,65,66,67,68,71,72,73,74] [zm 56 8,zm 57 5,z 58 (.len true (.t 57)),z 59 (.bin .lss (.t 56) (.t 58)),zm 60 59,⟨some 61,[(60,true)],.aT (.t
 8)⟩,⟨some 62,[(60,true)],.bin .lss (.t 61) (.c (.i .i64 4))⟩,z 63 (.pick (.t 60) (.t 62) (.c (.b false))),zm 64 63,⟨some 65,[(64,true)],.aT (.t 5)⟩,⟨some 66,[(64,
 true)],.aT (.t 8)⟩,⟨some 67,[(64,true)],.ft (.t 65) (.t 66)⟩,⟨some 68,[(64,true)],.bin .geq (.t 67) (.c (.i .u8 48))⟩,z 69 (.pick (.t 64) (.t 68) (.c (.b false))),zm
 70 69,⟨some 71,[(70,true)],.aT (.t 5)⟩,⟨some 72,[(70,true)],.aT (.t 8)⟩,⟨some 73,[(70,true)],.ft (.t 71) (.t 72)⟩,⟨some 74,[(70,true)],.bin .leq (.t 73) (.c (.i
 .u8 57))⟩,z 75 (.pick (.t 70) (.t 74) (.c (.b false)))]) (.ite (.t 75) (.skip) (.exit 2))) (.block 3 (.seq (.ax [] [zm 76 7,z 77 (.bin .mul (.c (.i .i64 10)) (.t 76)),zm 78 5,
 zm 79 8,z 80 (.ft (.t 78) (.t 79)),z 81 (.bin .sub (.t 80) (.c (.i .u8 48))),z 82 (.EN .i64 (.t 81)),z 83 (.bin .add (.t 77) (.t 82)),zm 7 83]) (.ax [] [zm 84 8,z 85 (.bin
 .add (.t 84) (.c (.i .i64 1))),zm 8 85])))
def WV:cu:=⟨139,[.c 2 (some 3),.t 3],.seq (.ax [] [z 2 (.alloc 61 [.i .i64 0,.s [],.i .i64 0]),z 3 (.aT (.c (.i .i64 0)))]) (.seq (.ax [] [z 4 (.aT (.c (.i .i64 1)))]) (.seq (.block
 0 (.loop B0)) (.seq (.seq (.ax [] [zm 22 4,zm 23 0,z 24 (.len true (.t 23)),z 25 (.bin .geq (.t 22) (.t 24))]) (.ite (.t 25) (.seq (.ax [] [z 26 (.build [.i .i64 0,.s [],
 .i .i64 0] []),zs (.store 3 [none,none,none] (.t 2) (.t 26)),z 3 (.aT (.c (.i .i64 0)))]) (.ret)) (.skip))) (.seq (.ax [] [zm 27 0,zm 28 4,z 29 (.eK (.t 27) (some (.c
 (.i .i64 1))) (some (.t 28))),zm 5 29,z 6 (.aT (.c (.i .i64 2)))]) (.seq (.seq (.ax [34,35,36] [zm 30 5,z 31 (.len true (.t 30)),z 32 (.bin .gtr (.t 31) (.c (.i .i64 0))),
 zm 33 32,⟨some 34,[(33,true)],.aT (.t 5)⟩,⟨some 35,[(33,true)],.ft (.t 34) (.c (.i .i64 0))⟩,⟨some 36,[(33,true)],.bin .eql (.t 35) (.c (.i .u8 47))⟩,z 37 (.pick (.t
 33) (.t 36) (.c (.b false)))]) (.ite (.t 37) (.ax [] [zm 38 5,z 39 (.eK (.t 38) (some (.c (.i .i64 1))) none),zm 5 39,z 6 (.aT (.c (.i .i64 3)))]) (.seq (.ax [44,45,46,
 47,48,49] [zm 40 5,z 41 (.len true (.t 40)),z 42 (.bin .gtr (.t 41) (.c (.i .i64 0))),zm 43 42,⟨some 44,[(43,true)],.aT (.t 5)⟩,⟨some 45,[(43,true)],.aT (.t 5)⟩,
 ⟨some 46,[(43,true)],.len true (.t 45)⟩,⟨some 47,[(43,true)],.bin .sub (.t 46) (.c (.i .i64 1))⟩,⟨some 48,[(43,true)],.ft (.t 44) (.t 47)⟩,⟨some 49,[(43,true)],.bin
 .eql (.t 48) (.c (.i .u8 47))⟩,z 50 (.pick (.t 43) (.t 49) (.c (.b false)))]) (.ite (.t 50) (.ax [] [zm 51 5,zm 52 5,z 53 (.len true (.t 52)),z 54 (.bin .sub (.t 53) (.c (.i
 .i64 1))),z 55 (.eK (.t 51) none (some (.t 54))),zm 5 55,z 6 (.aT (.c (.i .i64 4)))]) (.skip))))) (.seq (.ax [] [z 7 (.aT (.c (.i .i64 0))),z 8 (.aT (.c (.i .i64 0)))])
 (.seq (.block 2 (.loop xN)) (.seq (.seq (.ax [89,90,91,92,95,96,97,100,101,104,105,106,107] [zm 86 8,z 87 (.bin .eql (.t 86) (.c (.i .i64 0))),zm 88 87,⟨some 89,
 [(88,false)],.aT (.t 8)⟩,⟨some 90,[(88,false)],.aT (.t 5)⟩,⟨some 91,[(88,false)],.len true (.t 90)⟩,⟨some 92,[(88,false)],.bin .geq (.t 89) (.t 91)⟩,z 93 (.pick (.t
 88) (.c (.b true)) (.t 92)),zm 94 93,⟨some 95,[(94,false)],.aT (.t 5)⟩,⟨some 96,[(94,false)],.ft (.t 95) (.c (.i .i64 0))⟩,⟨some 97,[(94,false)],.bin .eql (.t 96)
 (.c (.i .u8 48))⟩,z 98 (.pick (.t 94) (.c (.b true)) (.t 97)),zm 99 98,⟨some 100,[(99,false)],.aT (.t 7)⟩,⟨some 101,[(99,false)],.bin .gtr (.t 100) (.c (.i .i64 999))⟩,z
 102 (.pick (.t 99) (.c (.b true)) (.t 101)),zm 103 102,⟨some 104,[(103,false)],.aT (.t 5)⟩,⟨some 105,[(103,false)],.aT (.t 8)⟩,⟨some 106,[(103,false)],.ft (.t 104)
 (.t 105)⟩,⟨some 107,[(103,false)],.bin .neq (.t 106) (.c (.i .u8 58))⟩,z 108 (.pick (.t 103) (.c (.b true)) (.t 107))]) (.ite (.t 108) (.seq (.ax [] [z 109 (.build [.i .i64 0,
 .s [],.i .i64 0] []),zs (.store 3 [none,none,none] (.t 2) (.t 109)),z 3 (.aT (.c (.i .i64 0)))]) (.ret)) (.skip))) (.seq (.ax [] [zm 110 6,zm 111 5,zm 112 8,z 113 (.bin
 .add (.t 112) (.c (.i .i64 1))),z 114 (.eK (.t 111) (some (.t 113)) none),zm 115 7,z 116 (.build [.i .i64 0,.s [],.i .i64 0] [(0,1,.t 110),(1,1,.t 114),(2,1,.t
 115)]),z 9 (.alloc 61 [.i .i64 0,.s [],.i .i64 0]),zs (.store 3 [none,none,none] (.t 9) (.t 116))]) (.seq (.seq (.ax [120,121,122,123,126,127,128,129,130,131,132,
 133] [zm 117 6,z 118 (.bin .eql (.t 117) (.c (.i .i64 3))),zm 119 118,⟨some 120,[(119,true)],.fv 1 (.t 9)⟩,⟨some 121,[(119,true)],.load none (.t 120)⟩,⟨some 122,[(119,
 true)],.call 161 [.t 121]⟩,⟨some 123,[(119,true)],.un .not (.t 122)⟩,z 124 (.pick (.t 119) (.t 123) (.c (.b false))),zm 125 124,⟨some 126,[(125,false)],.aT (.t 6)⟩,
 ⟨some 127,[(125,false)],.bin .neq (.t 126) (.c (.i .i64 3))⟩,⟨some 128,[(125,false)],.aT (.t 127)⟩,⟨some 129,[(125,false),(128,true)],.fv 1 (.t 9)⟩,⟨some 130,[(125,
 false),(128,true)],.load none (.t 129)⟩,⟨some 131,[(125,false),(128,true)],.call 162 [.t 130]⟩,⟨some 132,[(125,false),(128,true)],.un .not (.t 131)⟩,⟨some 133,
 [(125,false)],.pick (.t 128) (.t 132) (.c (.b false))⟩,z 134 (.pick (.t 125) (.c (.b true)) (.t 133))]) (.ite (.t 134) (.seq (.ax [] [z 135 (.build [.i .i64 0,.s [],.i .i64 0]
 []),zs (.store 3 [none,none,none] (.t 2) (.t 135)),z 3 (.aT (.c (.i .i64 0)))]) (.ret)) (.skip))) (.seq (.ax [] [zL 136 3 9,zm 137 4,z 138 (.bin .add (.t 137) (.c (.i .i64
 1))),zs (.store 3 [none,none,none] (.t 2) (.t 136)),zm 3 138]) (.ret))))))))))))⟩
theorem aco:cq prog f163=some WV:=by kernel_rfl
def HQ:bH:=.seq (.seq (.ax [] [zm 12 6,zm 13 0,z 14 (.len true (.t 13)),z 15 (.bin .lss (.t 12) (.t 14))]) (.ite (.t 15) (.skip) (.exit 0))) (.block 1 (.seq (.ax [] [zm 17 0,zm 18 6,z
 19 (.eK (.t 17) (some (.t 18)) none),z 20 (.call 104 [.t 19]),zm 16 20,z 21 (.ext 0 (.t 16)),z 22 (.ext 1 (.t 16)),z 8 (.alloc 61 [.i .i64 0,.s [],.i .i64 0]),zs (.store
 3 [none,none,none] (.t 8) (.t 21)),zm 9 22]) (.seq (.seq (.ax [] [zm 23 9,z 24 (.bin .eql (.t 23) (.c (.i .i64 0)))]) (.ite (.t 24) (.seq (.ax [] [zm 25 6,z 2 (.aT (.c
 .nil)),zm 3 25,z 4 (.aT (.c (.i .i64 2)))]) (.ret)) (.skip))) (.seq (.seq (.ax [] [zf 26 0 8,zl 27 26,z 28 (.bin .neq (.t 27) (.c (.i .i64 1)))]) (.ite (.t 28) (.seq (.ax []
 [zm 29 5,zL 30 3 8,z 31 (.call 103 [.t 29,.t 30]),zm 10 31]) (.seq (.ax [] [zm 32 10,z 33 (.bin .neq (.t 32) (.c (.i .i64 0)))]) (.ite (.t 33) (.seq (.ax [] [zm 34 6,zm 35
 10,z 2 (.aT (.c .nil)),zm 3 34,zm 4 35]) (.ret)) (.skip)))) (.skip))) (.seq (.ax [] [zm 36 5,zL 37 3 8,z 38 (.bL 3 [none,none,none] [.t 37]),z 39 (.call 48 [.t 36,.t
 38]),zm 11 39]) (.seq (.ax [] [zm 40 7,z 41 (.bin .add (.t 40) (.c (.i .i64 1))),zm 7 41]) (.seq (.seq (.ax [46,47] [zm 42 11,z 43 (.len false (.t 42)),z 44 (.bin .gtr (.t
 43) (.c (.i .i64 512))),zm 45 44,⟨some 46,[(45,false)],.aT (.t 7)⟩,⟨some 47,[(45,false)],.bin .gtr (.t 46) (.c (.i .i64 1024))⟩,z 48 (.pick (.t 45) (.c (.b true)) (.t
 47))]) (.ite (.t 48) (.seq (.ax [] [zm 49 6,z 2 (.aT (.c .nil)),zm 3 49,z 4 (.aT (.c (.i .i64 3)))]) (.ret)) (.skip))) (.seq (.ax [] [zm 50 11,zm 5 50]) (.ax [] [zm 51 6,
 zm 52 9,z 53 (.bin .add (.t 51) (.t 52)),zm 6 53])))))))))
def p47:cu:=⟨55,[.t 2,.t 3,.t 4],.seq (.ax [] [z 2 (.aT (.c .nil)),z 3 (.aT (.c (.i .i64 0))),z 4 (.aT (.c (.i .i64 0)))]) (.seq (.ax [] [z 5 (.aT (.c .nil))]) (.seq (.ax [] [z 6
 (.aT (.c (.i .i64 0))),z 7 (.aT (.c (.i .i64 0)))]) (.seq (.block 0 (.loop HQ)) (.seq (.ax [] [zm 54 5,zm 2 54,z 3 (.aT (.c (.i .i64 0))),z 4 (.aT (.c (.i .i64 0)))])
 (.ret)))))⟩
theorem c47:cq prog f47=some p47:=by kernel_rfl
def p16:cu:=⟨68,[.t 2],.seq (.ax [] [z 1 (.box 24 (.t 0)),z 2 (.aT (.c (.i .i64 0)))]) (.seq (.seq (.ax [] [zf 10 0 1,zl 11 10,z 12 (.call 46 [.t 11]),zm 3 12]) (.seq (.ax [] [zm 13
 3,z 14 (.bin .neq (.t 13) (.c (.i .i64 0)))]) (.ite (.t 14) (.seq (.ax [] [zm 15 3,zm 2 15]) (.ret)) (.skip)))) (.seq (.seq (.ax [] [zf 16 0 1,zl 17 16,z 18 (.len false (.t
 17)),z 19 (.bin .eql (.t 18) (.c (.i .i64 0)))]) (.ite (.t 19) (.seq (.ax [] [z 2 (.aT (.c (.i .i64 1)))]) (.ret)) (.skip))) (.seq (.seq (.ax [] [zf 21 1 1,zl 22 21,z 23
 (.call 47 [.t 22]),zm 20 23,z 24 (.ext 0 (.t 20)),z 25 (.ext 1 (.t 20)),z 26 (.ext 2 (.t 20)),zm 4 24,zm 5 25,zm 6 26]) (.seq (.ax [] [zm 27 6,z 28 (.bin .neq (.t 27) (.c
 (.i .i64 0)))]) (.ite (.t 28) (.seq (.ax [] [zm 29 6,zm 2 29]) (.ret)) (.skip)))) (.seq (.seq (.ax [] [zf 31 2 1,zl 32 31,z 33 (.call 47 [.t 32]),zm 30 33,z 34 (.ext 0 (.t
 30)),z 35 (.ext 1 (.t 30)),z 36 (.ext 2 (.t 30)),zm 7 34,zm 8 35,zm 9 36]) (.seq (.ax [] [zm 37 9,z 38 (.bin .neq (.t 37) (.c (.i .i64 0)))]) (.ite (.t 38) (.seq (.ax [] [zm
 39 9,zm 2 39]) (.ret)) (.skip)))) (.seq (.seq (.ax [44,45,46,49,50,51,54,55,56,59,60,61,64,65,66] [zf 40 3 1,zl 41 40,z 42 (.bin .lss (.t 41) (.c (.i .i64 0))),zm
 43 42,⟨some 44,[(43,false)],.fv 3 (.t 1)⟩,⟨some 45,[(43,false)],.load none (.t 44)⟩,⟨some 46,[(43,false)],.bin .gtr (.t 45) (.c (.i .i64 1073741824))⟩,z 47 (.pick (.t
 43) (.c (.b true)) (.t 46)),zm 48 47,⟨some 49,[(48,false)],.fv 4 (.t 1)⟩,⟨some 50,[(48,false)],.load none (.t 49)⟩,⟨some 51,[(48,false)],.bin .lss (.t 50) (.c (.i .i64
 1))⟩,z 52 (.pick (.t 48) (.c (.b true)) (.t 51)),zm 53 52,⟨some 54,[(53,false)],.fv 4 (.t 1)⟩,⟨some 55,[(53,false)],.load none (.t 54)⟩,⟨some 56,[(53,false)],.bin
 .gtr (.t 55) (.c (.i .i64 102))⟩,z 57 (.pick (.t 53) (.c (.b true)) (.t 56)),zm 58 57,⟨some 59,[(58,false)],.fv 5 (.t 1)⟩,⟨some 60,[(58,false)],.load none (.t 59)⟩,⟨some
 61,[(58,false)],.bin .lss (.t 60) (.c (.i .i64 1))⟩,z 62 (.pick (.t 58) (.c (.b true)) (.t 61)),zm 63 62,⟨some 64,[(63,false)],.fv 5 (.t 1)⟩,⟨some 65,[(63,false)],
 .load none (.t 64)⟩,⟨some 66,[(63,false)],.bin .gtr (.t 65) (.c (.i .i64 100))⟩,z 67 (.pick (.t 63) (.c (.b true)) (.t 66))]) (.ite (.t 67) (.seq (.ax [] [z 2 (.aT (.c (.i
 .i64 1)))]) (.ret)) (.skip))) (.seq (.ax [] [z 2 (.aT (.c (.i .i64 0)))]) (.ret)))))))⟩
theorem c16:cq prog f16=some p16:=by kernel_rfl
def p13:cu:=⟨21,[.c 2 (some 6)],.seq (.ax [] [z 2 (.alloc 24 [.nil,.s [],.s [],.i .i64 0,.i .i64 0,.i .i64 0])]) (.seq (.ax [] [zm 4 0,z 5 (.call 41 [.t 4]),z 3 (.alloc 37 [.nil,
 .nil,.s [],.s [],.s [],.s [],.i .i64 0,.i .i64 0]),zs (.store 8 [some 3,some 3,none,none,none,none,none,none] (.t 3) (.t 5))]) (.seq (.dC [([zf 6 0 3,zl 7 6,zf 8 2
 3,zl 9 8,zf 10 3 3,zl 11 10,zm 12 0,zm 14 0,zm 17 0],z 13 (.call 43 [.t 12,.c (.i .i64 90)]),[zf 6 0 3,zl 7 6,zf 8 2 3,zl 9 8,zf 10 3 3,zl 11 10]),([],z 15 (.call 43
 [.t 14,.c (.i .i64 102)]),[zf 6 0 3,zl 7 6,zf 8 2 3,zl 9 8,zf 10 3 3,zl 11 10]),([z 16 (.bin .add (.c (.i .i64 1)) (.t 15))],z 18 (.call 43 [.t 17,.c (.i .i64 12)]),[zf 6
 0 3,zl 7 6,zf 8 2 3,zl 9 8,zf 10 3 3,zl 11 10])] [z 19 (.bin .add (.c (.i .i64 1)) (.t 18))] [] [z 20 (.build [.nil,.s [],.s [],.i .i64 0,.i .i64 0,.i .i64 0] [(0,1,.t
 7),(1,1,.t 9),(2,1,.t 11),(3,1,.t 13),(4,1,.t 16),(5,1,.t 19)]),zs (.store 6 [some 3,none,none,none,none,none] (.t 2) (.t 20))]) (.ret)))⟩
theorem c13:cq prog f13=some p13:=by kernel_rfl
def p12:cu:=⟨55,[.t 0],.seq (.ax [] [z 0 (.aT (.c (.b false)))]) (.seq (.ax [] [z 7 (.build [.i .i64 0,.s [],.i .i64 0] [(0,1,.c (.i .i64 1)),(1,1,.c (.s [83,97,118,101]))]),z 8
 (.bL 3 [none,none,none] [.t 7]),z 9 (.build [.i .i64 0,.s [],.i .i64 0] [(0,1,.c (.i .i64 1)),(1,1,.c (.s [83,105,99,104,101,114,110]))]),z 10 (.bL 3 [none,
 none,none] [.t 9]),z 11 (.build [.nil,.nil,.s [],.s [],.s [],.s [],.i .i64 0,.i .i64 0] [(0,1,.t 8),(1,1,.t 10),(2,1,.c (.s [97])),(3,1,.c (.s [98])),(7,1,.c
 (.i .i64 3))]),z 1 (.alloc 37 [.nil,.nil,.s [],.s [],.s [],.s [],.i .i64 0,.i .i64 0]),zs (.store 8 [some 3,some 3,none,none,none,none,none,none] (.t 1) (.t 11))])
 (.seq (.ax [] [zf 12 0 1,zl 13 12,z 14 (.build [.nil,.s [],.s [],.i .i64 0,.i .i64 0,.i .i64 0] [(0,1,.t 13),(1,1,.c (.s [97])),(2,1,.c (.s [98])),(4,1,.c (.i
 .i64 50)),(5,1,.c (.i .i64 5))]),z 2 (.alloc 24 [.nil,.s [],.s [],.i .i64 0,.i .i64 0,.i .i64 0]),zs (.store 6 [some 3,none,none,none,none,none] (.t 2) (.t 14))])
 (.seq (.ax [] [zL 15 8 1,z 16 (.build [.i .i64 0,.s [],.s [],.i .i64 0,.i .i64 0] [(0,1,.c (.i .i64 3)),(4,1,.c (.i .i64 10))]),z 17 (.bL 5 [none,none,none,none,
 none] [.t 16]),zL 18 6 2,z 19 (.call 20 [.t 15,.t 17,.t 18]),z 3 (.alloc 44 [.i .i64 0,.i .i64 0,.i .i64 0,.i .i64 0,.i .i64 0]),zs (.store 5 [none,none,none,none,
 none] (.t 3) (.t 19))]) (.seq (.ax [] [z 20 (.call 26 []),zm 4 20]) (.seq (.seq (.ax [] [zm 21 4,zL 22 8 1,z 23 (.call 27 [.t 21,.t 22]),z 24 (.bin .neq (.t 23) (.c (.i .i64
 0)))]) (.ite (.t 24) (.seq (.ax [] [z 0 (.aT (.c (.b false)))]) (.ret)) (.skip))) (.seq (.ax [] [zm 26 4,zL 27 6 2,z 28 (.call 23 [.t 26,.c .nil,.t 27]),zm 25 28,z 29 (.ext
 0 (.t 25)),z 30 (.ext 1 (.t 25)),zm 5 29,zm 6 30]) (.seq (.ax [35,36,37,40,41,44,45,46,49,50,51,52,53] [zf 31 4 3,zl 32 31,z 33 (.bin .eql (.t 32) (.c (.i .i64
 92))),zm 34 33,⟨some 35,[(34,true)],.fv 2 (.t 3)⟩,⟨some 36,[(34,true)],.load none (.t 35)⟩,⟨some 37,[(34,true)],.bin .eql (.t 36) (.c (.i .i64 2))⟩,z 38 (.pick (.t
 34) (.t 37) (.c (.b false))),zm 39 38,⟨some 40,[(39,true)],.aT (.t 6)⟩,⟨some 41,[(39,true)],.bin .eql (.t 40) (.c (.i .i64 0))⟩,z 42 (.pick (.t 39) (.t 41) (.c (.b
 false))),zm 43 42,⟨some 44,[(43,true)],.aT (.t 5)⟩,⟨some 45,[(43,true)],.len false (.t 44)⟩,⟨some 46,[(43,true)],.bin .eql (.t 45) (.c (.i .i64 1))⟩,z 47 (.pick (.t
 43) (.t 46) (.c (.b false))),zm 48 47,⟨some 49,[(48,true)],.aT (.t 5)⟩,⟨some 50,[(48,true)],.idx 5 (.t 49) (.c (.i .i64 0))⟩,⟨some 51,[(48,true)],.fv 4 (.t 50)⟩,
 ⟨some 52,[(48,true)],.load none (.t 51)⟩,⟨some 53,[(48,true)],.bin .eql (.t 52) (.c (.i .i64 102))⟩,z 54 (.pick (.t 48) (.t 53) (.c (.b false))),zm 0 54]) (.ret))))))))⟩
theorem c12:cq prog f12=some p12:=by kernel_rfl
def HZ:bH:=.seq (.ax [] [z 18 (.bin .lss (.t 17) (.t 16))]) (.seq (.ite (.t 18) (.skip) (.exit 2)) (.seq (.block 3 (.seq (.ax [] [z 19 (.idx 3 (.t 15) (.t 17)),zL 20 3 19,z 6 (.alloc 61
 [.i .i64 0,.s [],.i .i64 0]),zs (.store 3 [none,none,none] (.t 6) (.t 20))]) (.ax [] [zm 21 3,zf 22 1 6,zl 23 22,z 24 (.len true (.t 23)),z 25 (.bin .add (.c (.i .i64 1))
 (.t 24)),z 26 (.bin .add (.t 21) (.t 25)),zm 3 26]))) (.ax [] [z 27 (.bin .add (.t 17) (.c (.i .i64 1))),zm 17 27])))
def HY:bH:=.seq (.ax [] [z 10 (.bin .lss (.t 9) (.t 8))]) (.seq (.ite (.t 10) (.skip) (.exit 0)) (.seq (.block 1 (.seq (.ax [] [zm 11 9,zm 4 11]) (.seq (.ax [] [zm 12 0,zm 13 4,z 14
 (.idx 1 (.t 12) (.t 13)),zl 15 14,z 16 (.len false (.t 15)),z 17 (.aT (.c (.i .i64 0)))]) (.block 2 (.loop HZ))))) (.ax [] [z 28 (.bin .add (.t 9) (.c (.i .i64 1))),zm 9
 28])))
def p11:cu:=⟨31,[.t 2],.seq (.ax [] [z 2 (.aT (.c (.b false)))]) (.seq (.ax [] [z 3 (.aT (.c (.i .i64 0)))]) (.seq (.seq (.ax [] [zm 7 0,z 8 (.len false (.t 7)),z 9 (.aT (.c (.i .i64
 0)))]) (.block 0 (.loop HY))) (.seq (.ax [] [zm 29 3,z 30 (.bin .leq (.t 29) (.c (.i .i64 300))),zm 2 30]) (.ret))))⟩
theorem c11:cq prog f11=some p11:=by kernel_rfl
def p3:cu:=⟨73,[.t 8],.seq (.ax [] [z 4 (.box 24 (.t 0)),z 8 (.aT (.c (.b false)))]) (.seq (.seq (.ax [16,17,18,19,20,21,22,23,26,27,28] [zf 10 0 4,zl 11 10,z 12 (.bL 1
 [some 3] [.t 11]),z 13 (.call 11 [.t 12]),z 14 (.un .not (.t 13)),zm 15 14,⟨some 16,[(15,false)],.fv 1 (.t 4)⟩,⟨some 17,[(15,false)],.load none (.t 16)⟩,⟨some 18,[(15,
 false)],.len true (.t 17)⟩,⟨some 19,[(15,false)],.fv 2 (.t 4)⟩,⟨some 20,[(15,false)],.load none (.t 19)⟩,⟨some 21,[(15,false)],.len true (.t 20)⟩,⟨some 22,[(15,
 false)],.bin .add (.t 18) (.t 21)⟩,⟨some 23,[(15,false)],.bin .gtr (.t 22) (.c (.i .i64 200))⟩,z 24 (.pick (.t 15) (.c (.b true)) (.t 23)),zm 25 24,⟨some 26,[(25,false)],
 .aT (.t 1)⟩,⟨some 27,[(25,false)],.len false (.t 26)⟩,⟨some 28,[(25,false)],.bin .gtr (.t 27) (.c (.i .i64 80))⟩,z 29 (.pick (.t 25) (.c (.b true)) (.t 28))]) (.ite (.t
 29) (.seq (.ax [] [z 30 (.call 12 []),zm 8 30]) (.ret)) (.skip))) (.seq (.ax [] [zm 31 1,z 32 (.build [.nil,.i .i64 0] [(0,1,.t 31)]),z 33 (.box 31 (.t 32)),z 34 (.call 13
 [.t 33]),z 9 (.alloc 24 [.nil,.s [],.s [],.i .i64 0,.i .i64 0,.i .i64 0]),zs (.store 6 [some 3,none,none,none,none,none] (.t 9) (.t 34))]) (.seq (.seq (.ax [] [zm 35 2,
 z 36 (.call 14 [.t 35,.c (.i .i64 7)])]) (.block 0 (.seq (.ax [] [z 38 (.bin .eql (.t 36) (.c (.i .i64 1))),zm 37 38]) (.ite (.t 37) (.ax [] [zf 39 0 9,zs (.store 1 [some 3]
 (.t 39) (.c .nil))]) (.seq (.ax [] [z 41 (.bin .eql (.t 36) (.c (.i .i64 2))),zm 40 41]) (.ite (.t 40) (.ax [] [zf 42 1 9,zs (.store 1 [none] (.t 42) (.c (.s [60])))]) (.seq
 (.ax [] [z 44 (.bin .eql (.t 36) (.c (.i .i64 3))),zm 43 44]) (.ite (.t 43) (.ax [] [zf 45 2 9,zs (.store 1 [none] (.t 45) (.c (.s [97,10])))]) (.seq (.ax [] [z 47 (.bin .eql
 (.t 36) (.c (.i .i64 4))),zm 46 47]) (.ite (.t 46) (.ax [] [zm 48 3,zf 49 3 9,zs (.store 1 [none] (.t 49) (.t 48))]) (.seq (.ax [] [z 51 (.bin .eql (.t 36) (.c (.i .i64 5))),
 zm 50 51]) (.ite (.t 50) (.ax [] [zm 52 3,zf 53 4 9,zs (.store 1 [none] (.t 53) (.t 52))]) (.seq (.ax [] [z 55 (.bin .eql (.t 36) (.c (.i .i64 6))),zm 54 55]) (.ite (.t 54)
 (.ax [] [zm 56 3,zf 57 5 9,zs (.store 1 [none] (.t 57) (.t 56))]) (.skip))))))))))))))) (.seq (.dC [([zL 58 6 4,zL 60 6 4],z 59 (.call 15 [.t 58]),[zL 60 6 4]),([],z 61
 (.call 16 [.t 60]),[]),([z 62 (.bin .eql (.t 59) (.t 61)),zm 63 62,⟨some 64,[(63,true)],.load (some 6) (.t 9)⟩,⟨some 66,[(63,true)],.load (some 6) (.t 9)⟩],⟨some 65,
 [(63,true)],.call 15 [.t 64]⟩,[⟨some 66,[(63,true)],.load (some 6) (.t 9)⟩])] [] [64,65,66,67,68,71] [⟨some 67,[(63,true)],.call 16 [.t 66]⟩,⟨some 68,[(63,true)],
 .bin .eql (.t 65) (.t 67)⟩,z 69 (.pick (.t 63) (.t 68) (.c (.b false))),zm 70 69,⟨some 71,[(70,true)],.call 12 []⟩,z 72 (.pick (.t 70) (.t 71) (.c (.b false))),zm 8 72])
 (.ret)))))⟩
theorem c3:cq prog f3=some p3:=by kernel_rfl
end Go.Proofs.Tryz
