/- A part of a proof; the claim's last text says of what. -/
import Derived.Test.YtlakkaamfadipaaGreatDoorProg
import Derived.KernelRfl
import Derived.Test.YtlakkaamfadipaaGreatDoorS15
set_option linter.all false

namespace Go.Proofs.Tryz
open Go Go.Pm
def p14:b9:=⟨14,[.t 4],.seq (.au [] [z 4 (.aS (.c (.i .i64 0)))]) (.seq (.au [] [zm 5 0,zm 6 1,z 7 (.bin .rem (.t 5) (.t 6)),zm 0 7]) (.seq (.seq (.au [] [zm 8 0,z 9 (.bin .lss (.t 8)
 (.c (.i .i64 0)))]) (.ite (.t 9) (.au [] [zm 10 0,zm 11 1,z 12 (.bin .add (.t 10) (.t 11)),zm 0 12]) (.skip))) (.seq (.au [] [zm 13 0,zm 4 13]) (.ret))))⟩
theorem c14:ca prog f14=some p14:=by kernel_rfl
def p43:b9:=⟨36,[.t 4],.seq (.au [] [z 4 (.aS (.c (.i .i64 0)))]) (.seq (.au [] [z 5 (.aS (.c (.i .i64 0)))]) (.seq (.seq (.df [] [zm 6 0,z 7 (.dn (.t 6)),zf 8 1 7,zl 9 8,zm 10
 0,z 11 (.dn (.t 10)),zf 12 0 11,zl 13 12,z 14 (.len false (.t 13))] [] [z 15 (.bin .lss (.t 9) (.t 14))]) (.ite (.t 15) (.df [] [zm 16 0,z 17 (.dn (.t 16)),zf 18 0 17,
 zl 19 18,zm 20 0,z 21 (.dn (.t 20)),zf 22 1 21,zl 23 22] [] [z 24 (.idx 1 (.t 19) (.t 23)),zl 25 24,zm 5 25]) (.skip))) (.seq (.au [] [zm 26 0,z 27 (.dn (.t 26)),zf
 28 1 27,zl 29 28,z 30 (.bin .add (.t 29) (.c (.i .i64 1))),z 31 (.dn (.t 26)),zf 32 1 31,zs (.store 1 [none] (.t 32) (.t 30))]) (.seq (.au [] [zm 33 5,zm 34 1,z 35 (.call
 14 [.t 33,.t 34]),zm 4 35]) (.ret)))))⟩
theorem c43:ca prog f43=some p43:=by kernel_rfl
def XL:b9:=⟨8,[.t 2],.seq (.au [] [z 2 (.aS (.c (.s [])))]) (.seq (.au [] [z 3 (.bC 1 [none] [.c (.s [114,101,100]),.c (.s [99,97,114]),.c (.s [82,101,100]),.c (.s [97]),.c
 (.s [99,97,114,115]),.c (.s [49,44,53]),.c (.s [50,50]),.c (.s [100,111,110,39,116]),.c (.s [46]),.c (.s [33]),.c (.s [32]),.c (.s [32,32]),.c (.s [60]),.c (.s
 [38]),.c (.s [123]),.c (.s [34]),.c (.s [92]),.c (.s [120,45,121]),.c (.s [10]),.c (.s [61]),.c (.s [125]),.c (.s [62]),.c (.s [9]),.c (.s [98])]),zm 4 0,z 5 (.call 43
 [.t 4,.c (.i .i64 24)]),z 6 (.idx 1 (.t 3) (.t 5)),zl 7 6,zm 2 7]) (.ret))⟩
theorem adw:ca prog f141=some XL:=by kernel_rfl
def IE:bD:=.seq (.seq (.au [] [zm 12 6,z 13 (.bin .gtr (.t 12) (.c (.i .i64 0)))]) (.ite (.t 13) (.skip) (.exit 0))) (.seq (.block 1 (.seq (.au [] [zm 16 0,z 17 (.call 141 [.t 16]),zm 7
 17]) (.seq (.seq (.au [21,22,23] [zm 18 5,z 19 (.bin .neq (.t 18) (.c (.s []))),zm 20 19,⟨some 21,[(20,true)],.aS (.t 0)⟩,⟨some 22,[(20,true)],.call 43 [.t 21,.c (.i
 .i64 3)]⟩,⟨some 23,[(20,true)],.bin .gtr (.t 22) (.c (.i .i64 0))⟩,z 24 (.pick (.t 20) (.t 23) (.c (.b false)))]) (.ite (.t 24) (.au [] [zm 25 5,z 26 (.bin .add (.t 25) (.c
 (.s [32]))),zm 5 26]) (.skip))) (.au [] [zm 27 5,zm 28 7,z 29 (.bin .add (.t 27) (.t 28)),zm 5 29])))) (.au [] [zm 14 6,z 15 (.bin .sub (.t 14) (.c (.i .i64 1))),zm 6 15]))
def p79:b9:=⟨31,[.t 4],.seq (.au [] [z 4 (.aS (.c (.s [])))]) (.seq (.au [] [z 5 (.aS (.c (.s [])))]) (.seq (.seq (.au [] [zm 8 0,zm 9 1,z 10 (.bin .add (.t 9) (.c (.i .i64 1))),z 11
 (.call 43 [.t 8,.t 10]),zm 6 11]) (.block 0 (.loop IE))) (.seq (.au [] [zm 30 5,zm 4 30]) (.ret))))⟩
theorem c79:ca prog f79=some p79:=by kernel_rfl
def IQ:bD:=.seq (.seq (.au [] [zm 20 12,z 21 (.bin .gtr (.t 20) (.c (.i .i64 0)))]) (.ite (.t 21) (.skip) (.exit 0))) (.seq (.block 1 (.seq (.au [] [zm 24 0,z 25 (.call 79 [.t 24,.c (.i
 .i64 3)]),z 26 (.build [.i .i64 0,.s [],.i .i64 0] [(0,1,.c (.i .i64 1)),(1,1,.t 25)]),z 13 (.alloc 61 [.i .i64 0,.s [],.i .i64 0]),zs (.store 3 [none,none,none] (.t
 13) (.t 26))]) (.seq (.seq (.au [] [zm 27 0,z 28 (.call 43 [.t 27,.c (.i .i64 8)])]) (.block 2 (.seq (.seq (.au [] [z 30 (.bin .eql (.t 28) (.c (.i .i64 0))),zm 29 30]) (.ite
 (.t 29) (.skip) (.au [] [z 31 (.bin .eql (.t 28) (.c (.i .i64 1))),zm 29 31]))) (.ite (.t 29) (.au [] [z 32 (.bC 1 [none] [.c (.s [110]),.c (.s [110,97,109,101]),.c (.s
 [120,49])]),zm 33 0,z 34 (.call 43 [.t 33,.c (.i .i64 3)]),z 35 (.idx 1 (.t 32) (.t 34)),zl 36 35,z 37 (.build [.i .i64 0,.s [],.i .i64 0] [(0,1,.c (.i .i64 5)),(1,1,
 .t 36)]),zs (.store 3 [none,none,none] (.t 13) (.t 37))]) (.seq (.au [] [z 39 (.bin .eql (.t 28) (.c (.i .i64 2))),zm 38 39]) (.ite (.t 38) (.seq (.au [] [zm 40 2]) (.ite (.t
 40) (.seq (.au [] [zm 41 11,z 42 (.bin .add (.t 41) (.c (.i .i64 1))),zm 11 42]) (.au [] [z 43 (.bC 1 [none] [.c (.s [98,114]),.c (.s [105,109,103,32,97])]),zm 44 0,
 z 45 (.call 43 [.t 44,.c (.i .i64 2)]),z 46 (.idx 1 (.t 43) (.t 45)),zl 47 46,zm 48 11,z 49 (.build [.i .i64 0,.s [],.i .i64 0] [(0,1,.c (.i .i64 4)),(1,1,.t 47),(2,1,
 .t 48)]),zs (.store 3 [none,none,none] (.t 13) (.t 49))])) (.skip))) (.seq (.seq (.au [] [z 51 (.bin .eql (.t 28) (.c (.i .i64 3))),zm 50 51]) (.ite (.t 50) (.skip) (.au [] [z
 52 (.bin .eql (.t 28) (.c (.i .i64 4))),zm 50 52]))) (.ite (.t 50) (.seq (.au [] [zm 53 2]) (.ite (.t 53) (.seq (.au [] [zm 54 11,z 55 (.bin .add (.t 54) (.c (.i .i64 1))),zm
 11 55]) (.seq (.au [] [z 56 (.bC 1 [none] [.c (.s [98]),.c (.s [105]),.c (.s [97,32,104,61,49])]),zm 57 0,z 58 (.call 43 [.t 57,.c (.i .i64 3)]),z 59 (.idx 1 (.t 56)
 (.t 58)),zl 60 59,zm 61 11,z 62 (.build [.i .i64 0,.s [],.i .i64 0] [(0,1,.c (.i .i64 2)),(1,1,.t 60),(2,1,.t 61)]),zs (.store 3 [none,none,none] (.t 13) (.t 62))])
 (.au [] [zm 63 10,zL 64 3 13,z 65 (.bC 3 [none,none,none] [.t 64]),z 66 (.app 61 3 32 (.t 63) (.t 65)),zm 10 66]))) (.skip))) (.seq (.seq (.au [] [z 68 (.bin .eql (.t
 28) (.c (.i .i64 5))),zm 67 68]) (.ite (.t 67) (.skip) (.au [] [z 69 (.bin .eql (.t 28) (.c (.i .i64 6))),zm 67 69]))) (.ite (.t 67) (.seq (.au [] [zm 70 10,z 71 (.len false
 (.t 70)),z 72 (.bin .sub (.t 71) (.c (.i .i64 1))),zm 14 72]) (.seq (.au [] [zm 73 14,z 74 (.bin .geq (.t 73) (.c (.i .i64 0)))]) (.ite (.t 74) (.seq (.seq (.au [] [zm 75 3,z
 76 (.un .not (.t 75))]) (.ite (.t 76) (.au [] [zm 77 0,zm 78 14,z 79 (.bin .add (.t 78) (.c (.i .i64 1))),z 80 (.call 43 [.t 77,.t 79]),zm 14 80]) (.skip))) (.seq (.df [([zm
 81 10,zm 82 14,z 83 (.idx 3 (.t 81) (.t 82)),zf 84 1 83,zl 85 84,zm 87 10,zm 88 14,z 89 (.idx 3 (.t 87) (.t 88)),zf 90 2 89,zl 91 90],z 86 (.call 80 [.t 85]),[z 89 (.idx
 3 (.t 87) (.t 88)),zf 90 2 89,zl 91 90])] [] [] [z 92 (.build [.i .i64 0,.s [],.i .i64 0] [(0,1,.c (.i .i64 3)),(1,1,.t 86),(2,1,.t 91)]),zs (.store 3 [none,none,
 none] (.t 13) (.t 92))]) (.df [([zm 93 10,zm 94 14,z 95 (.slice 3 (.t 93) none (some (.t 94))),zm 97 10,zm 98 14,z 99 (.bin .add (.t 98) (.c (.i .i64 1))),z 100 (.slice 3
 (.t 97) (some (.t 99)) none)],z 96 (.app 61 3 32 (.c .nil) (.t 95)),[z 100 (.slice 3 (.t 97) (some (.t 99)) none)])] [] [] [z 101 (.app 61 3 32 (.t 96) (.t 100)),zm 10 101])))
 (.seq (.au [104,105] [zm 102 2,zm 103 102,⟨some 104,[(103,true)],.aS (.t 3)⟩,⟨some 105,[(103,true)],.un .not (.t 104)⟩,z 106 (.pick (.t 103) (.t 105) (.c (.b false)))])
 (.ite (.t 106) (.seq (.au [] [zm 107 11,z 108 (.bin .add (.t 107) (.c (.i .i64 1))),zm 11 108]) (.au [] [zm 109 11,z 110 (.build [.i .i64 0,.s [],.i .i64 0] [(0,1,.c (.i
 .i64 3)),(1,1,.c (.s [98])),(2,1,.t 109)]),zs (.store 3 [none,none,none] (.t 13) (.t 110))])) (.skip)))))) (.skip))))))))))) (.au [] [zm 111 9,zL 112 3 13,z 113 (.bC
 3 [none,none,none] [.t 112]),z 114 (.call 48 [.t 111,.t 113]),zm 9 114])))) (.au [] [zm 22 12,z 23 (.bin .sub (.t 22) (.c (.i .i64 1))),zm 12 23]))
def IP:bD:=.seq (.seq (.au [121] [zm 118 15,z 119 (.bin .geq (.t 118) (.c (.i .i64 0))),zm 120 119,⟨some 121,[(120,true)],.aS (.t 3)⟩,z 122 (.pick (.t 120) (.t 121) (.c (.b false)))])
 (.ite (.t 122) (.skip) (.exit 3))) (.seq (.block 4 (.df [([zm 125 9,zm 126 10,zm 127 15,z 128 (.idx 3 (.t 126) (.t 127)),zf 129 1 128,zl 130 129,zm 132 10,zm 133 15,z 134
 (.idx 3 (.t 132) (.t 133)),zf 135 2 134,zl 136 135],z 131 (.call 80 [.t 130]),[z 134 (.idx 3 (.t 132) (.t 133)),zf 135 2 134,zl 136 135])] [z 137 (.build [.i .i64 0,.s [],.i
 .i64 0] [(0,1,.c (.i .i64 3)),(1,1,.t 131),(2,1,.t 136)]),z 138 (.bC 3 [none,none,none] [.t 137])] [] [z 139 (.app 61 3 32 (.t 125) (.t 138)),zm 9 139])) (.au []
 [zm 123 15,z 124 (.bin .sub (.t 123) (.c (.i .i64 1))),zm 15 124]))
def p34:b9:=⟨141,[.t 8],.seq (.au [] [z 8 (.aS (.c .nil))]) (.seq (.au [] [z 9 (.aS (.c .nil)),z 10 (.aS (.c .nil))]) (.seq (.au [] [z 11 (.aS (.c (.i .i64 0)))]) (.seq (.seq (.au []
 [zm 16 0,zm 17 1,z 18 (.bin .add (.t 17) (.c (.i .i64 1))),z 19 (.call 43 [.t 16,.t 18]),zm 12 19]) (.block 0 (.loop IQ))) (.seq (.seq (.au [] [zm 115 10,z 116 (.len false
 (.t 115)),z 117 (.bin .sub (.t 116) (.c (.i .i64 1))),zm 15 117]) (.block 3 (.loop IP))) (.seq (.au [] [zm 140 9,zm 8 140]) (.ret))))))⟩
theorem c34:ca prog f34=some p34:=by kernel_rfl
def EI:bD:=.seq (.au [] [z 11 (.bin .lss (.t 10) (.t 9))]) (.seq (.ite (.t 11) (.skip) (.exit 0)) (.seq (.block 1 (.seq (.au [] [zm 12 10,zm 6 12]) (.seq (.au [] [zm 13 1,zm 14 6,z 15
 (.idx 3 (.t 13) (.t 14)),zL 16 3 15,z 7 (.alloc 61 [.i .i64 0,.s [],.i .i64 0]),zs (.store 3 [none,none,none] (.t 7) (.t 16))]) (.seq (.seq (.au [] [zf 17 0 7,zl 18 17,z
 19 (.bin .eql (.t 18) (.c (.i .i64 1)))]) (.ite (.t 19) (.df [([zf 20 1 7,zl 21 20,z 22 (.bin .add (.c (.s [101,105,110,32])) (.t 21)),zf 23 1 7,zl 24 23,z 25 (.bC 1
 [none] [.c (.s [114,111,116]),.c (.s [100,97,115,32,65,117,116,111]),.c (.s []),.t 22,.t 24]),zm 26 0],z 27 (.call 43 [.t 26,.c (.i .i64 5)]),[zf 20 1 7,zl 21 20,
 zf 23 1 7,zl 24 23,z 25 (.bC 1 [none] [.c (.s [114,111,116]),.c (.s [100,97,115,32,65,117,116,111]),.c (.s []),.t 22,.t 24])])] [] [] [z 28 (.idx 1 (.t 25) (.t
 27)),zl 29 28,zf 30 1 7,zs (.store 1 [none] (.t 30) (.t 29))]) (.seq (.au [] [zm 31 0,z 32 (.call 43 [.t 31,.c (.i .i64 3)]),z 33 (.bin .eql (.t 32) (.c (.i .i64 0)))]) (.ite
 (.t 33) (.au [] [zm 34 5,zm 35 0,z 36 (.call 79 [.t 35,.c (.i .i64 2)]),z 37 (.build [.i .i64 0,.s [],.i .i64 0] [(0,1,.c (.i .i64 1)),(1,1,.t 36)]),z 38 (.bC 3
 [none,none,none] [.t 37]),z 39 (.call 48 [.t 34,.t 38]),zm 5 39]) (.skip))))) (.au [] [zm 40 5,zL 41 3 7,z 42 (.bC 3 [none,none,none] [.t 41]),z 43 (.call 48 [.t 40,
 .t 42]),zm 5 43]))))) (.au [] [z 44 (.bin .add (.t 10) (.c (.i .i64 1))),zm 10 44])))
def p94:b9:=⟨46,[.t 4],.seq (.au [] [z 4 (.aS (.c .nil))]) (.seq (.au [] [z 5 (.aS (.c .nil))]) (.seq (.seq (.au [] [zm 8 1,z 9 (.len false (.t 8)),z 10 (.aS (.c (.i .i64 0)))])
 (.block 0 (.loop EI))) (.seq (.au [] [zm 45 5,zm 4 45]) (.ret))))⟩
theorem c94:ca prog f94=some p94:=by kernel_rfl
def p41:b9:=⟨56,[.c 2 (some 8)],.seq (.au [] [z 2 (.alloc 37 [.nil,.nil,.s [],.s [],.s [],.s [],.i .i64 0,.i .i64 0])]) (.seq (.au [] [zm 7 0,z 8 (.call 34 [.t 7,.c (.i .i64 4),.c
 (.b true),.c (.b true)]),zm 3 8]) (.seq (.seq (.au [] [zm 9 3,z 10 (.len false (.t 9)),z 11 (.bin .eql (.t 10) (.c (.i .i64 0)))]) (.ite (.t 11) (.au [] [z 12 (.bC 1
 [none] [.c (.s [83,97,118,101]),.c (.s [114,101,100,32,99,97,114]),.c (.s [82,101,100,32,99,97,114,115])]),zm 13 0,z 14 (.call 43 [.t 13,.c (.i .i64 3)]),z 15
 (.idx 1 (.t 12) (.t 14)),zl 16 15,z 17 (.build [.i .i64 0,.s [],.i .i64 0] [(0,1,.c (.i .i64 1)),(1,1,.t 16)]),z 18 (.bC 3 [none,none,none] [.t 17]),zm 3 18])
 (.skip))) (.seq (.au [] [zm 19 0,zm 20 3,z 21 (.call 94 [.t 19,.t 20]),zm 4 21]) (.seq (.au [] [zm 23 3,zm 24 4,z 25 (.call 49 [.t 23,.t 24]),zm 22 25,z 26 (.ext 0 (.t
 22)),z 27 (.ext 1 (.t 22)),zm 5 26,zm 6 27]) (.seq (.df [([zm 28 5,zm 29 6,z 30 (.bC 1 [none] [.c (.s []),.c (.s []),.c (.s [83,97,118,101]),.c (.s [114,101,100,
 32,99,97,114])]),zm 31 0,z 35 (.bC 1 [none] [.c (.s []),.c (.s []),.c (.s [120]),.c (.s [83,97,118,101])]),zm 36 0,z 40 (.bC 1 [none] [.c (.s []),.c (.s [97,
 110,110]),.c (.s [98,111,98])]),zm 41 0,z 45 (.bC 1 [none] [.c (.s []),.c (.s [112]),.c (.s [113])]),zm 46 0,zm 50 0,zm 52 0],z 32 (.call 43 [.t 31,.c (.i .i64
 4)]),[z 30 (.bC 1 [none] [.c (.s []),.c (.s []),.c (.s [83,97,118,101]),.c (.s [114,101,100,32,99,97,114])]),z 35 (.bC 1 [none] [.c (.s []),.c (.s []),.c (.s
 [120]),.c (.s [83,97,118,101])]),z 40 (.bC 1 [none] [.c (.s []),.c (.s [97,110,110]),.c (.s [98,111,98])]),z 45 (.bC 1 [none] [.c (.s []),.c (.s [112]),.c (.s
 [113])])]),([z 33 (.idx 1 (.t 30) (.t 32)),zl 34 33],z 37 (.call 43 [.t 36,.c (.i .i64 4)]),[z 30 (.bC 1 [none] [.c (.s []),.c (.s []),.c (.s [83,97,118,101]),.c (.s
 [114,101,100,32,99,97,114])]),z 33 (.idx 1 (.t 30) (.t 32)),zl 34 33,z 35 (.bC 1 [none] [.c (.s []),.c (.s []),.c (.s [120]),.c (.s [83,97,118,101])]),z 40
 (.bC 1 [none] [.c (.s []),.c (.s [97,110,110]),.c (.s [98,111,98])]),z 45 (.bC 1 [none] [.c (.s []),.c (.s [112]),.c (.s [113])])]),([z 38 (.idx 1 (.t 35) (.t
 37)),zl 39 38],z 42 (.call 43 [.t 41,.c (.i .i64 3)]),[z 30 (.bC 1 [none] [.c (.s []),.c (.s []),.c (.s [83,97,118,101]),.c (.s [114,101,100,32,99,97,114])]),z
 33 (.idx 1 (.t 30) (.t 32)),zl 34 33,z 35 (.bC 1 [none] [.c (.s []),.c (.s []),.c (.s [120]),.c (.s [83,97,118,101])]),z 38 (.idx 1 (.t 35) (.t 37)),zl 39 38,z 40
 (.bC 1 [none] [.c (.s []),.c (.s [97,110,110]),.c (.s [98,111,98])]),z 45 (.bC 1 [none] [.c (.s []),.c (.s [112]),.c (.s [113])])]),([z 43 (.idx 1 (.t 40) (.t
 42)),zl 44 43],z 47 (.call 43 [.t 46,.c (.i .i64 3)]),[z 30 (.bC 1 [none] [.c (.s []),.c (.s []),.c (.s [83,97,118,101]),.c (.s [114,101,100,32,99,97,114])]),z
 33 (.idx 1 (.t 30) (.t 32)),zl 34 33,z 35 (.bC 1 [none] [.c (.s []),.c (.s []),.c (.s [120]),.c (.s [83,97,118,101])]),z 38 (.idx 1 (.t 35) (.t 37)),zl 39 38,z 40
 (.bC 1 [none] [.c (.s []),.c (.s [97,110,110]),.c (.s [98,111,98])]),z 43 (.idx 1 (.t 40) (.t 42)),zl 44 43,z 45 (.bC 1 [none] [.c (.s []),.c (.s [112]),.c (.s
 [113])])]),([z 48 (.idx 1 (.t 45) (.t 47)),zl 49 48],z 51 (.call 43 [.t 50,.c (.i .i64 50)]),[z 30 (.bC 1 [none] [.c (.s []),.c (.s []),.c (.s [83,97,118,101]),.c (.s
 [114,101,100,32,99,97,114])]),z 33 (.idx 1 (.t 30) (.t 32)),zl 34 33,z 35 (.bC 1 [none] [.c (.s []),.c (.s []),.c (.s [120]),.c (.s [83,97,118,101])]),z 38 (.idx
 1 (.t 35) (.t 37)),zl 39 38,z 40 (.bC 1 [none] [.c (.s []),.c (.s [97,110,110]),.c (.s [98,111,98])]),z 43 (.idx 1 (.t 40) (.t 42)),zl 44 43,z 45 (.bC 1 [none]
 [.c (.s []),.c (.s [112]),.c (.s [113])]),z 48 (.idx 1 (.t 45) (.t 47)),zl 49 48]),([],z 53 (.call 43 [.t 52,.c (.i .i64 3)]),[z 30 (.bC 1 [none] [.c (.s []),.c (.s
 []),.c (.s [83,97,118,101]),.c (.s [114,101,100,32,99,97,114])]),z 33 (.idx 1 (.t 30) (.t 32)),zl 34 33,z 35 (.bC 1 [none] [.c (.s []),.c (.s []),.c (.s [120]),
 .c (.s [83,97,118,101])]),z 38 (.idx 1 (.t 35) (.t 37)),zl 39 38,z 40 (.bC 1 [none] [.c (.s []),.c (.s [97,110,110]),.c (.s [98,111,98])]),z 43 (.idx 1 (.t 40) (.t
 42)),zl 44 43,z 45 (.bC 1 [none] [.c (.s []),.c (.s [112]),.c (.s [113])]),z 48 (.idx 1 (.t 45) (.t 47)),zl 49 48])] [z 54 (.bin .add (.c (.i .i64 1)) (.t 53))] [] [z 55
 (.build [.nil,.nil,.s [],.s [],.s [],.s [],.i .i64 0,.i .i64 0] [(0,1,.t 28),(1,1,.t 29),(2,1,.t 34),(3,1,.t 39),(4,1,.t 44),(5,1,.t 49),(6,1,.t 51),(7,
 1,.t 54)]),zs (.store 8 [some 3,some 3,none,none,none,none,none,none] (.t 2) (.t 55))]) (.ret))))))⟩
theorem c41:ca prog f41=some p41:=by kernel_rfl
def W5:b9:=⟨51,[.t 2],.seq (.au [] [z 2 (.aS (.c (.i .i64 0)))]) (.seq (.block 0 (.seq (.au [7,8,11,12,15,16] [zm 4 0,z 5 (.bin .eql (.t 4) (.c (.i .u8 9))),zm 6 5,⟨some 7,[(6,
 false)],.aS (.t 0)⟩,⟨some 8,[(6,false)],.bin .eql (.t 7) (.c (.i .u8 10))⟩,z 9 (.pick (.t 6) (.c (.b true)) (.t 8)),zm 10 9,⟨some 11,[(10,false)],.aS (.t 0)⟩,⟨some 12,
 [(10,false)],.bin .eql (.t 11) (.c (.i .u8 13))⟩,z 13 (.pick (.t 10) (.c (.b true)) (.t 12)),zm 14 13,⟨some 15,[(14,false)],.aS (.t 0)⟩,⟨some 16,[(14,false)],.bin .eql
 (.t 15) (.c (.i .u8 32))⟩,z 17 (.pick (.t 14) (.c (.b true)) (.t 16)),zm 3 17]) (.ite (.t 3) (.seq (.au [] [z 2 (.aS (.c (.i .i64 2)))]) (.ret)) (.seq (.au [22,23] [zm 19 0,z
 20 (.bin .lss (.t 19) (.c (.i .u8 32))),zm 21 20,⟨some 22,[(21,false)],.aS (.t 0)⟩,⟨some 23,[(21,false)],.bin .eql (.t 22) (.c (.i .u8 127))⟩,z 24 (.pick (.t 21) (.c (.b
 true)) (.t 23)),zm 18 24]) (.ite (.t 18) (.seq (.au [] [z 2 (.aS (.c (.i .i64 1)))]) (.ret)) (.seq (.au [29,30] [zm 26 0,z 27 (.bin .geq (.t 26) (.c (.i .u8 48))),zm 28 27,
 ⟨some 29,[(28,true)],.aS (.t 0)⟩,⟨some 30,[(28,true)],.bin .leq (.t 29) (.c (.i .u8 57))⟩,z 31 (.pick (.t 28) (.t 30) (.c (.b false))),zm 25 31]) (.ite (.t 25) (.seq (.au
 [] [z 2 (.aS (.c (.i .i64 3)))]) (.ret)) (.seq (.au [36,37,40,41,42,43,44,45,48,49] [zm 33 0,z 34 (.bin .geq (.t 33) (.c (.i .u8 65))),zm 35 34,⟨some 36,[(35,true)],
 .aS (.t 0)⟩,⟨some 37,[(35,true)],.bin .leq (.t 36) (.c (.i .u8 90))⟩,z 38 (.pick (.t 35) (.t 37) (.c (.b false))),zm 39 38,⟨some 40,[(39,false)],.aS (.t 0)⟩,⟨some 41,
 [(39,false)],.bin .geq (.t 40) (.c (.i .u8 97))⟩,⟨some 42,[(39,false)],.aS (.t 41)⟩,⟨some 43,[(39,false),(42,true)],.aS (.t 0)⟩,⟨some 44,[(39,false),(42,true)],
 .bin .leq (.t 43) (.c (.i .u8 122))⟩,⟨some 45,[(39,false)],.pick (.t 42) (.t 44) (.c (.b false))⟩,z 46 (.pick (.t 39) (.c (.b true)) (.t 45)),zm 47 46,⟨some 48,[(47,
 false)],.aS (.t 0)⟩,⟨some 49,[(47,false)],.bin .geq (.t 48) (.c (.i .u8 128))⟩,z 50 (.pick (.t 47) (.c (.b true)) (.t 49)),zm 32 50]) (.ite (.t 32) (.seq (.au [] [z 2 (.aS
 (.c (.i .i64 4)))]) (.ret)) (.skip)))))))))) (.seq (.au [] [z 2 (.aS (.c (.i .i64 5)))]) (.ret)))⟩
theorem acP:ca prog f212=some W5:=by kernel_rfl
def p81:b9:=⟨16,[.t 2],.seq (.au [] [z 1 (.box 61 (.t 0)),z 2 (.aS (.c (.b false)))]) (.seq (.au [7,8,9,12,13,14] [zf 3 0 1,zl 4 3,z 5 (.bin .eql (.t 4) (.c (.i .i64 2))),zm 6 5,
 ⟨some 7,[(6,false)],.eR 0 (.t 1)⟩,⟨some 8,[(6,false)],.load none (.t 7)⟩,⟨some 9,[(6,false)],.bin .eql (.t 8) (.c (.i .i64 3))⟩,z 10 (.pick (.t 6) (.c (.b true)) (.t
 9)),zm 11 10,⟨some 12,[(11,false)],.eR 0 (.t 1)⟩,⟨some 13,[(11,false)],.load none (.t 12)⟩,⟨some 14,[(11,false)],.bin .eql (.t 13) (.c (.i .i64 4))⟩,z 15 (.pick (.t
 11) (.c (.b true)) (.t 14)),zm 2 15]) (.ret))⟩
theorem c81:ca prog f81=some p81:=by kernel_rfl
def ID:bD:=.seq (.seq (.au [] [zm 4 3,zm 5 0,z 6 (.len true (.t 5)),z 7 (.bin .lss (.t 4) (.t 6))]) (.ite (.t 7) (.skip) (.exit 0))) (.seq (.block 1 (.seq (.au [] [zm 10 0,zm 11 3,z 12
 (.fS (.t 10) (.t 11)),z 13 (.bin .eql (.t 12) (.c (.i .u8 32)))]) (.ite (.t 13) (.seq (.au [] [zm 14 0,zm 15 3,z 16 (.fJ (.t 14) none (some (.t 15))),zm 2 16]) (.ret))
 (.skip)))) (.au [] [zm 8 3,z 9 (.bin .add (.t 8) (.c (.i .i64 1))),zm 3 9]))
def p80:b9:=⟨18,[.t 2],.seq (.au [] [z 2 (.aS (.c (.s [])))]) (.seq (.seq (.au [] [z 3 (.aS (.c (.i .i64 0)))]) (.block 0 (.loop ID))) (.seq (.au [] [zm 17 0,zm 2 17]) (.ret)))⟩
theorem c80:ca prog f80=some p80:=by kernel_rfl
def EK:bD:=.seq (.au [] [z 10 (.bin .lss (.t 9) (.t 8))]) (.seq (.ite (.t 10) (.skip) (.exit 0)) (.seq (.block 1 (.seq (.au [] [zm 11 9,zm 4 11]) (.seq (.au [] [zm 12 0,zm 13 4,z 14
 (.idx 3 (.t 12) (.t 13)),zL 15 3 14,z 5 (.alloc 61 [.i .i64 0,.s [],.i .i64 0]),zs (.store 3 [none,none,none] (.t 5) (.t 15))]) (.seq (.seq (.au [] [zf 16 0 5,zl 17 16,z
 18 (.bin .neq (.t 17) (.c (.i .i64 1)))]) (.ite (.t 18) (.seq (.au [] [zm 19 3,zL 20 3 5,z 21 (.bC 3 [none,none,none] [.t 20]),z 22 (.app 61 3 32 (.t 19) (.t 21)),zm 3
 22]) (.exit 1)) (.skip))) (.seq (.seq (.au [] [zf 23 1 5,zl 24 23,z 25 (.bin .eql (.t 24) (.c (.s [])))]) (.ite (.t 25) (.exit 1) (.skip))) (.seq (.au [] [zm 26 3,z 27 (.len
 false (.t 26)),zm 6 27]) (.seq (.au [31,32,33,34,35,36,37] [zm 28 6,z 29 (.bin .gtr (.t 28) (.c (.i .i64 0))),zm 30 29,⟨some 31,[(30,true)],.aS (.t 3)⟩,⟨some 32,
 [(30,true)],.aS (.t 6)⟩,⟨some 33,[(30,true)],.bin .sub (.t 32) (.c (.i .i64 1))⟩,⟨some 34,[(30,true)],.idx 3 (.t 31) (.t 33)⟩,⟨some 35,[(30,true)],.eR 0 (.t 34)⟩,
 ⟨some 36,[(30,true)],.load none (.t 35)⟩,⟨some 37,[(30,true)],.bin .eql (.t 36) (.c (.i .i64 1))⟩,z 38 (.pick (.t 30) (.t 37) (.c (.b false)))]) (.ite (.t 38) (.df [] [zm
 39 3,zm 40 6,z 41 (.bin .sub (.t 40) (.c (.i .i64 1))),zm 42 3,zm 43 6,z 44 (.bin .sub (.t 43) (.c (.i .i64 1))),z 45 (.idx 3 (.t 42) (.t 44)),zf 46 1 45,zl 47 46,zf 48 1
 5,zl 49 48,z 50 (.bin .add (.t 47) (.t 49)),z 51 (.build [.i .i64 0,.s [],.i .i64 0] [(0,1,.c (.i .i64 1)),(1,1,.t 50)])] [] [z 52 (.idx 3 (.t 39) (.t 41)),zs (.store 3
 [none,none,none] (.t 52) (.t 51))]) (.au [] [zm 53 3,zf 54 1 5,zl 55 54,z 56 (.build [.i .i64 0,.s [],.i .i64 0] [(0,1,.c (.i .i64 1)),(1,1,.t 55)]),z 57 (.bC 3
 [none,none,none] [.t 56]),z 58 (.app 61 3 32 (.t 53) (.t 57)),zm 3 58]))))))))) (.au [] [z 59 (.bin .add (.t 9) (.c (.i .i64 1))),zm 9 59])))
def p82:b9:=⟨61,[.t 2],.seq (.au [] [z 2 (.aS (.c .nil))]) (.seq (.au [] [z 3 (.aS (.c .nil))]) (.seq (.seq (.au [] [zm 7 0,z 8 (.len false (.t 7)),z 9 (.aS (.c (.i .i64 0)))])
 (.block 0 (.loop EK))) (.seq (.au [] [zm 60 3,zm 2 60]) (.ret))))⟩
theorem c82:ca prog f82=some p82:=by kernel_rfl
def p48:b9:=⟨10,[.t 4],.seq (.au [] [z 4 (.aS (.c .nil))]) (.seq (.au [] [zm 5 0,z 6 (.app 61 3 32 (.c .nil) (.t 5)),zm 7 1,z 8 (.app 61 3 32 (.t 6) (.t 7)),z 9 (.call 82 [.t 8]),zm 4
 9]) (.ret))⟩
theorem c48:ca prog f48=some p48:=by kernel_rfl
def IC:bD:=.seq (.au [] [z 9 (.bin .lss (.t 8) (.t 7))]) (.seq (.ite (.t 9) (.skip) (.exit 0)) (.seq (.block 1 (.seq (.au [] [zm 10 8,zm 5 10]) (.seq (.au [] [zm 11 0,zm 12 5,z 13 (.idx
 1 (.t 11) (.t 12)),zl 14 13,zm 15 1,z 16 (.bin .eql (.t 14) (.t 15))]) (.ite (.t 16) (.seq (.au [] [z 4 (.aS (.c (.b true)))]) (.ret)) (.skip))))) (.au [] [z 17 (.bin .add (.t
 8) (.c (.i .i64 1))),zm 8 17])))
def p83:b9:=⟨18,[.t 4],.seq (.au [] [z 4 (.aS (.c (.b false)))]) (.seq (.seq (.au [] [zm 6 0,z 7 (.len false (.t 6)),z 8 (.aS (.c (.i .i64 0)))]) (.block 0 (.loop IC))) (.seq (.au
 [] [z 4 (.aS (.c (.b false)))]) (.ret)))⟩
theorem c83:ca prog f83=some p83:=by kernel_rfl
def IM:bD:=.seq (.au [] [z 8 (.bin .lss (.t 7) (.t 6))]) (.seq (.ite (.t 8) (.skip) (.exit 0)) (.seq (.block 1 (.seq (.au [] [zm 9 7,zm 4 9]) (.seq (.au [16,17,18,19,20,21,22,23]
 [zm 10 0,zm 11 4,z 12 (.idx 3 (.t 10) (.t 11)),zL 13 3 12,z 14 (.call 81 [.t 13]),zm 15 14,⟨some 16,[(15,true)],.aS (.t 3)⟩,⟨some 17,[(15,true)],.aS (.t 0)⟩,⟨some
 18,[(15,true)],.aS (.t 4)⟩,⟨some 19,[(15,true)],.idx 3 (.t 17) (.t 18)⟩,⟨some 20,[(15,true)],.eR 2 (.t 19)⟩,⟨some 21,[(15,true)],.load none (.t 20)⟩,⟨some 22,
 [(15,true)],.call 83 [.t 16,.t 21]⟩,⟨some 23,[(15,true)],.un .not (.t 22)⟩,z 24 (.pick (.t 15) (.t 23) (.c (.b false)))]) (.ite (.t 24) (.au [] [zm 25 3,zm 26 0,zm 27 4,
 z 28 (.idx 3 (.t 26) (.t 27)),zf 29 2 28,zl 30 29,z 31 (.bC 1 [none] [.t 30]),z 32 (.app 3 1 8 (.t 25) (.t 31)),zm 3 32]) (.skip))))) (.au [] [z 33 (.bin .add (.t 7) (.c
 (.i .i64 1))),zm 7 33])))
def p36:b9:=⟨35,[.t 2],.seq (.au [] [z 2 (.aS (.c .nil))]) (.seq (.au [] [z 3 (.aS (.c .nil))]) (.seq (.seq (.au [] [zm 5 0,z 6 (.len false (.t 5)),z 7 (.aS (.c (.i .i64 0)))])
 (.block 0 (.loop IM))) (.seq (.au [] [zm 34 3,zm 2 34]) (.ret))))⟩
theorem c36:ca prog f36=some p36:=by kernel_rfl
def IN:bD:=.seq (.seq (.au [32,33,34,35] [zm 27 10,zm 28 1,z 29 (.len false (.t 28)),z 30 (.bin .lss (.t 27) (.t 29)),zm 31 30,⟨some 32,[(31,true)],.aS (.t 10)⟩,⟨some 33,[(31,
 true)],.aS (.t 2)⟩,⟨some 34,[(31,true)],.len false (.t 33)⟩,⟨some 35,[(31,true)],.bin .lss (.t 32) (.t 34)⟩,z 36 (.pick (.t 31) (.t 35) (.c (.b false)))]) (.ite (.t 36)
 (.skip) (.exit 2))) (.seq (.block 3 (.seq (.df [] [zm 39 1,zm 40 10,z 41 (.idx 1 (.t 39) (.t 40)),zl 42 41,zf 43 2 9,zl 44 43] [] [z 45 (.bin .eql (.t 42) (.t 44))]) (.ite
 (.t 45) (.seq (.df [] [zm 46 7,zf 47 0 9,zl 48 47,zf 49 1 9,zl 50 49,zm 51 2,zm 52 10,z 53 (.idx 1 (.t 51) (.t 52)),zl 54 53,z 55 (.build [.i .i64 0,.s [],.i .i64 0]
 [(0,1,.t 48),(1,1,.t 50),(2,1,.t 54)]),z 56 (.bC 3 [none,none,none] [.t 55])] [] [z 57 (.app 61 3 32 (.t 46) (.t 56)),zm 7 57]) (.exit 2)) (.skip)))) (.au [] [zm 37
 10,z 38 (.bin .add (.t 37) (.c (.i .i64 1))),zm 10 38]))
def EO:bD:=.seq (.au [] [z 14 (.bin .lss (.t 13) (.t 12))]) (.seq (.ite (.t 14) (.skip) (.exit 0)) (.seq (.block 1 (.seq (.au [] [zm 15 13,zm 8 15]) (.seq (.au [] [zm 16 0,zm 17 8,z 18
 (.idx 3 (.t 16) (.t 17)),zL 19 3 18,z 9 (.alloc 61 [.i .i64 0,.s [],.i .i64 0]),zs (.store 3 [none,none,none] (.t 9) (.t 19))]) (.seq (.seq (.au [] [zL 20 3 9,z 21 (.call
 81 [.t 20]),z 22 (.un .not (.t 21))]) (.ite (.t 22) (.seq (.au [] [zm 23 7,zL 24 3 9,z 25 (.bC 3 [none,none,none] [.t 24]),z 26 (.app 61 3 32 (.t 23) (.t 25)),zm 7 26])
 (.exit 1)) (.skip))) (.seq (.au [] [z 10 (.aS (.c (.i .i64 0)))]) (.block 2 (.loop IN))))))) (.au [] [z 58 (.bin .add (.t 13) (.c (.i .i64 1))),zm 13 58])))
def p35:b9:=⟨61,[.t 6],.seq (.au [] [z 6 (.aS (.c .nil))]) (.seq (.au [] [z 7 (.aS (.c .nil))]) (.seq (.seq (.au [] [zm 11 0,z 12 (.len false (.t 11)),z 13 (.aS (.c (.i .i64 0)))])
 (.block 0 (.loop EO))) (.seq (.au [] [zm 59 7,z 60 (.call 82 [.t 59]),zm 6 60]) (.ret))))⟩
theorem c35:ca prog f35=some p35:=by kernel_rfl
def CY:bD:=.seq (.seq (.au [] [zm 5 4,zm 6 0,z 7 (.bin .leq (.t 5) (.t 6))]) (.ite (.t 7) (.skip) (.exit 0))) (.seq (.block 1 (.au [] [zm 10 3,zm 11 4,z 12 (.bC 1 [none] [.t 11]),z
 13 (.app 3 1 8 (.t 10) (.t 12)),zm 3 13])) (.au [] [zm 8 4,z 9 (.bin .add (.t 8) (.c (.i .i64 1))),zm 4 9]))
def Yc:b9:=⟨15,[.t 2],.seq (.au [] [z 2 (.aS (.c .nil))]) (.seq (.au [] [z 3 (.aS (.c .nil))]) (.seq (.seq (.au [] [z 4 (.aS (.c (.i .i64 1)))]) (.block 0 (.loop CY))) (.seq (.au
 [] [zm 14 3,zm 2 14]) (.ret))))⟩
theorem adQ:ca prog f105=some Yc:=by kernel_rfl
def p49:b9:=⟨24,[.t 4,.t 5],.seq (.au [] [z 4 (.aS (.c .nil)),z 5 (.aS (.c .nil))]) (.seq (.au [] [zm 8 0,z 9 (.app 61 3 32 (.c .nil) (.t 8)),zm 10 1,z 11 (.app 61 3 32 (.t 9) (.t
 10)),z 12 (.call 36 [.t 11]),zm 6 12]) (.seq (.au [] [zm 13 6,z 14 (.len false (.t 13)),z 15 (.call 105 [.t 14]),zm 7 15]) (.seq (.au [] [zm 16 0,zm 17 6,zm 18 7,z 19
 (.call 35 [.t 16,.t 17,.t 18]),zm 20 1,zm 21 6,zm 22 7,z 23 (.call 35 [.t 20,.t 21,.t 22]),zm 4 19,zm 5 23]) (.ret))))⟩
theorem c49:ca prog f49=some p49:=by kernel_rfl
def yA:bD:=.seq (.seq (.au [] [zm 14 3,zm 15 0,z 16 (.len true (.t 15)),z 17 (.bin .lss (.t 14) (.t 16))]) (.ite (.t 17) (.skip) (.exit 0))) (.block 1 (.seq (.au [] [zm 18 0,zm 19 3,z
 20 (.fS (.t 18) (.t 19)),z 21 (.call 212 [.t 20]),zm 4 21]) (.seq (.seq (.au [25,26] [zm 22 4,z 23 (.bin .eql (.t 22) (.c (.i .i64 4))),zm 24 23,⟨some 25,[(24,false)],
 .aS (.t 4)⟩,⟨some 26,[(24,false)],.bin .eql (.t 25) (.c (.i .i64 3))⟩,z 27 (.pick (.t 24) (.c (.b true)) (.t 26))]) (.ite (.t 27) (.seq (.au [] [zm 28 3,z 29 (.bin .add (.t
 28) (.c (.i .i64 1))),zm 3 29]) (.exit 1)) (.skip))) (.seq (.seq (.au [35,36,37,38,41,42,43,44,45] [zm 30 0,zm 31 3,z 32 (.fS (.t 30) (.t 31)),z 33 (.bin .eql (.t 32)
 (.c (.i .u8 39))),zm 34 33,⟨some 35,[(34,false)],.aS (.t 0)⟩,⟨some 36,[(34,false)],.aS (.t 3)⟩,⟨some 37,[(34,false)],.fS (.t 35) (.t 36)⟩,⟨some 38,[(34,false)],
 .bin .eql (.t 37) (.c (.i .u8 45))⟩,z 39 (.pick (.t 34) (.c (.b true)) (.t 38)),zm 40 39,⟨some 41,[(40,true)],.aS (.t 3)⟩,⟨some 42,[(40,true)],.bin .add (.t 41) (.c (.i
 .i64 1))⟩,⟨some 43,[(40,true)],.aS (.t 0)⟩,⟨some 44,[(40,true)],.len true (.t 43)⟩,⟨some 45,[(40,true)],.bin .lss (.t 42) (.t 44)⟩,z 46 (.pick (.t 40) (.t 45) (.c (.b
 false)))]) (.ite (.t 46) (.seq (.au [] [zm 47 0,zm 48 3,z 49 (.bin .add (.t 48) (.c (.i .i64 1))),z 50 (.fS (.t 47) (.t 49)),z 51 (.call 212 [.t 50]),zm 5 51]) (.seq (.au
 [55,56] [zm 52 5,z 53 (.bin .eql (.t 52) (.c (.i .i64 4))),zm 54 53,⟨some 55,[(54,false)],.aS (.t 5)⟩,⟨some 56,[(54,false)],.bin .eql (.t 55) (.c (.i .i64 3))⟩,z 57
 (.pick (.t 54) (.c (.b true)) (.t 56))]) (.ite (.t 57) (.seq (.au [] [zm 58 3,z 59 (.bin .add (.t 58) (.c (.i .i64 2))),zm 3 59]) (.exit 1)) (.skip)))) (.skip))) (.exit 0)))))
def Xp:b9:=⟨61,[.t 2],.seq (.au [] [z 2 (.aS (.c (.i .i64 0)))]) (.seq (.seq (.au [9,10,11,12] [zm 6 0,z 7 (.bin .eql (.t 6) (.c (.s []))),zm 8 7,⟨some 9,[(8,false)],.aS (.t
 0)⟩,⟨some 10,[(8,false)],.fS (.t 9) (.c (.i .i64 0))⟩,⟨some 11,[(8,false)],.call 212 [.t 10]⟩,⟨some 12,[(8,false)],.bin .neq (.t 11) (.c (.i .i64 4))⟩,z 13 (.pick (.t
 8) (.c (.b true)) (.t 12))]) (.ite (.t 13) (.seq (.au [] [z 2 (.aS (.c (.i .i64 0)))]) (.ret)) (.skip))) (.seq (.au [] [z 3 (.aS (.c (.i .i64 1)))]) (.seq (.block 0 (.loop
 yA)) (.seq (.au [] [zm 60 3,zm 2 60]) (.ret)))))⟩
theorem ac9:ca prog f175=some Xp:=by kernel_rfl
def yz:bD:=.seq (.seq (.au [] [zm 12 3,zm 13 0,z 14 (.len true (.t 13)),z 15 (.bin .lss (.t 12) (.t 14))]) (.ite (.t 15) (.skip) (.exit 0))) (.block 1 (.seq (.seq (.au [] [zm 16 0,zm 17
 3,z 18 (.fS (.t 16) (.t 17)),z 19 (.call 212 [.t 18]),z 20 (.bin .eql (.t 19) (.c (.i .i64 3)))]) (.ite (.t 20) (.seq (.au [] [zm 21 3,z 22 (.bin .add (.t 21) (.c (.i .i64
 1))),zm 3 22]) (.exit 1)) (.skip))) (.seq (.seq (.au [28,29,30,31,34,35,36,37,38,41,42,43,44,45,46] [zm 23 0,zm 24 3,z 25 (.fS (.t 23) (.t 24)),z 26 (.bin .eql
 (.t 25) (.c (.i .u8 46))),zm 27 26,⟨some 28,[(27,false)],.aS (.t 0)⟩,⟨some 29,[(27,false)],.aS (.t 3)⟩,⟨some 30,[(27,false)],.fS (.t 28) (.t 29)⟩,⟨some 31,[(27,
 false)],.bin .eql (.t 30) (.c (.i .u8 44))⟩,z 32 (.pick (.t 27) (.c (.b true)) (.t 31)),zm 33 32,⟨some 34,[(33,true)],.aS (.t 3)⟩,⟨some 35,[(33,true)],.bin .add (.t 34)
 (.c (.i .i64 1))⟩,⟨some 36,[(33,true)],.aS (.t 0)⟩,⟨some 37,[(33,true)],.len true (.t 36)⟩,⟨some 38,[(33,true)],.bin .lss (.t 35) (.t 37)⟩,z 39 (.pick (.t 33) (.t 38)
 (.c (.b false))),zm 40 39,⟨some 41,[(40,true)],.aS (.t 0)⟩,⟨some 42,[(40,true)],.aS (.t 3)⟩,⟨some 43,[(40,true)],.bin .add (.t 42) (.c (.i .i64 1))⟩,⟨some 44,[(40,
 true)],.fS (.t 41) (.t 43)⟩,⟨some 45,[(40,true)],.call 212 [.t 44]⟩,⟨some 46,[(40,true)],.bin .eql (.t 45) (.c (.i .i64 3))⟩,z 47 (.pick (.t 40) (.t 46) (.c (.b
 false)))]) (.ite (.t 47) (.seq (.au [] [zm 48 3,z 49 (.bin .add (.t 48) (.c (.i .i64 2))),zm 3 49]) (.exit 1)) (.skip))) (.exit 0))))
def Xo:b9:=⟨51,[.t 2],.seq (.au [] [z 2 (.aS (.c (.i .i64 0)))]) (.seq (.seq (.au [7,8,9,10] [zm 4 0,z 5 (.bin .eql (.t 4) (.c (.s []))),zm 6 5,⟨some 7,[(6,false)],.aS (.t 0)⟩,
 ⟨some 8,[(6,false)],.fS (.t 7) (.c (.i .i64 0))⟩,⟨some 9,[(6,false)],.call 212 [.t 8]⟩,⟨some 10,[(6,false)],.bin .neq (.t 9) (.c (.i .i64 3))⟩,z 11 (.pick (.t 6) (.c
 (.b true)) (.t 10))]) (.ite (.t 11) (.seq (.au [] [z 2 (.aS (.c (.i .i64 0)))]) (.ret)) (.skip))) (.seq (.au [] [z 3 (.aS (.c (.i .i64 1)))]) (.seq (.block 0 (.loop yz))
 (.seq (.au [] [zm 50 3,zm 2 50]) (.ret)))))⟩
theorem ac8:ca prog f176=some Xo:=by kernel_rfl
def CE:bD:=.seq (.seq (.au [9,10,11,12,13] [zm 4 3,zm 5 0,z 6 (.len true (.t 5)),z 7 (.bin .lss (.t 4) (.t 6)),zm 8 7,⟨some 9,[(8,true)],.aS (.t 0)⟩,⟨some 10,[(8,true)],.aS
 (.t 3)⟩,⟨some 11,[(8,true)],.fS (.t 9) (.t 10)⟩,⟨some 12,[(8,true)],.call 212 [.t 11]⟩,⟨some 13,[(8,true)],.bin .eql (.t 12) (.c (.i .i64 2))⟩,z 14 (.pick (.t 8) (.t
 13) (.c (.b false)))]) (.ite (.t 14) (.skip) (.exit 0))) (.block 1 (.au [] [zm 15 3,z 16 (.bin .add (.t 15) (.c (.i .i64 1))),zm 3 16]))
def Xn:b9:=⟨18,[.t 2],.seq (.au [] [z 2 (.aS (.c (.i .i64 0)))]) (.seq (.au [] [z 3 (.aS (.c (.i .i64 0)))]) (.seq (.block 0 (.loop CE)) (.seq (.au [] [zm 17 3,zm 2 17]) (.ret))))⟩
theorem ac7:ca prog f177=some Xn:=by kernel_rfl
def yF:bD:=.seq (.seq (.au [] [zm 9 0,z 10 (.len true (.t 9)),z 11 (.bin .gtr (.t 10) (.c (.i .i64 0)))]) (.ite (.t 11) (.skip) (.exit 0))) (.block 1 (.seq (.au [] [z 4 (.aS (.c (.i .i64
 9))),z 5 (.aS (.c (.i .i64 1)))]) (.seq (.seq (.au [] [zm 12 0,z 13 (.call 175 [.t 12]),zm 6 13]) (.seq (.au [] [zm 14 6,z 15 (.bin .gtr (.t 14) (.c (.i .i64 0)))]) (.ite (.t
 15) (.au [] [zm 16 6,z 4 (.aS (.c (.i .i64 6))),zm 5 16]) (.skip)))) (.seq (.seq (.au [] [zm 17 0,z 18 (.call 176 [.t 17]),zm 7 18]) (.seq (.au [] [zm 19 7,z 20 (.bin .gtr
 (.t 19) (.c (.i .i64 0)))]) (.ite (.t 20) (.au [] [zm 21 7,z 4 (.aS (.c (.i .i64 7))),zm 5 21]) (.skip)))) (.seq (.seq (.au [] [zm 22 0,z 23 (.call 177 [.t 22]),zm 8 23])
 (.seq (.au [] [zm 24 8,z 25 (.bin .gtr (.t 24) (.c (.i .i64 0)))]) (.ite (.t 25) (.au [] [zm 26 8,z 4 (.aS (.c (.i .i64 8))),zm 5 26]) (.skip)))) (.seq (.au [] [zm 27 3,zm
 28 4,zm 29 0,zm 30 5,z 31 (.fJ (.t 29) none (some (.t 30))),z 32 (.build [.i .i64 0,.s [],.i .i64 0] [(0,1,.t 28),(1,1,.t 31)]),z 33 (.bC 3 [none,none,none]
 [.t 32]),z 34 (.app 150 3 32 (.t 27) (.t 33)),zm 3 34]) (.au [] [zm 35 0,zm 36 5,z 37 (.fJ (.t 35) (some (.t 36)) none),zm 0 37])))))))
def X5:b9:=⟨39,[.t 2],.seq (.au [] [z 2 (.aS (.c .nil))]) (.seq (.au [] [z 3 (.aS (.c .nil))]) (.seq (.block 0 (.loop yF)) (.seq (.au [] [zm 38 3,zm 2 38]) (.ret))))⟩
theorem adK:ca prog f112=some X5:=by kernel_rfl
def yu:bD:=.seq (.au [] [z 9 (.bin .lss (.t 8) (.t 7))]) (.seq (.ite (.t 9) (.skip) (.exit 0)) (.seq (.block 1 (.seq (.au [] [z 10 (.idx 3 (.t 6) (.t 8)),zL 11 3 10,z 5 (.alloc 61 [.i .i64
 0,.s [],.i .i64 0]),zs (.store 3 [none,none,none] (.t 5) (.t 11))]) (.seq (.au [] [zf 12 0 5,zl 13 12]) (.block 2 (.seq (.au [] [z 15 (.bin .eql (.t 13) (.c (.i .i64 1))),
 zm 14 15]) (.ite (.t 14) (.au [] [zm 16 3,zf 17 1 5,zl 18 17,z 19 (.call 112 [.t 18]),z 20 (.app 150 3 32 (.t 16) (.t 19)),zm 3 20]) (.seq (.seq (.au [] [z 22 (.bin .eql (.t
 13) (.c (.i .i64 2))),zm 21 22]) (.ite (.t 21) (.skip) (.seq (.au [] [z 23 (.bin .eql (.t 13) (.c (.i .i64 3))),zm 21 23]) (.ite (.t 21) (.skip) (.seq (.au [] [z 24 (.bin .eql
 (.t 13) (.c (.i .i64 4))),zm 21 24]) (.ite (.t 21) (.skip) (.au [] [z 25 (.bin .eql (.t 13) (.c (.i .i64 5))),zm 21 25]))))))) (.ite (.t 21) (.au [] [zm 26 3,zf 27 0 5,zl 28
 27,zf 29 1 5,zl 30 29,zf 31 2 5,zl 32 31,z 33 (.build [.i .i64 0,.s [],.i .i64 0] [(0,1,.t 28),(1,1,.t 30),(2,1,.t 32)]),z 34 (.bC 3 [none,none,none] [.t 33]),
 z 35 (.app 150 3 32 (.t 26) (.t 34)),zm 3 35]) (.skip))))))))) (.au [] [z 36 (.bin .add (.t 8) (.c (.i .i64 1))),zm 8 36])))
def p53:b9:=⟨38,[.t 2],.seq (.au [] [z 2 (.aS (.c .nil))]) (.seq (.au [] [z 3 (.aS (.c .nil))]) (.seq (.seq (.au [] [zm 6 0,z 7 (.len false (.t 6)),z 8 (.aS (.c (.i .i64 0)))])
 (.block 0 (.loop yu))) (.seq (.au [] [zm 37 3,zm 2 37]) (.ret))))⟩
theorem c53:ca prog f53=some p53:=by kernel_rfl
def W0:b9:=⟨17,[.t 2],.seq (.au [] [z 1 (.box 150 (.t 0)),z 2 (.aS (.c (.i .i64 0)))]) (.seq (.seq (.au [] [zf 3 0 1,zl 4 3]) (.block 0 (.seq (.seq (.au [] [z 6 (.bin .eql (.t 4) (.c
 (.i .i64 6))),zm 5 6]) (.ite (.t 5) (.skip) (.au [] [z 7 (.bin .eql (.t 4) (.c (.i .i64 5))),zm 5 7]))) (.ite (.t 5) (.seq (.au [] [z 2 (.aS (.c (.i .i64 4)))]) (.ret)) (.seq
 (.seq (.au [] [z 9 (.bin .eql (.t 4) (.c (.i .i64 7))),zm 8 9]) (.ite (.t 8) (.skip) (.seq (.au [] [z 10 (.bin .eql (.t 4) (.c (.i .i64 2))),zm 8 10]) (.ite (.t 8) (.skip) (.seq
 (.au [] [z 11 (.bin .eql (.t 4) (.c (.i .i64 3))),zm 8 11]) (.ite (.t 8) (.skip) (.au [] [z 12 (.bin .eql (.t 4) (.c (.i .i64 4))),zm 8 12]))))))) (.ite (.t 8) (.seq (.au [] [z
 2 (.aS (.c (.i .i64 3)))]) (.ret)) (.seq (.au [] [z 14 (.bin .eql (.t 4) (.c (.i .i64 9))),zm 13 14]) (.ite (.t 13) (.seq (.au [] [z 2 (.aS (.c (.i .i64 2)))]) (.ret)) (.seq
 (.au [] [z 16 (.bin .eql (.t 4) (.c (.i .i64 8))),zm 15 16]) (.ite (.t 15) (.seq (.au [] [z 2 (.aS (.c (.i .i64 1)))]) (.ret)) (.skip))))))))))) (.seq (.au [] [z 2 (.aS (.c
 (.i .i64 0)))]) (.ret)))⟩
theorem acK:ca prog f217=some W0:=by kernel_rfl
def CI:bD:=.seq (.au [] [z 9 (.bin .lss (.t 8) (.t 7))]) (.seq (.ite (.t 9) (.skip) (.exit 0)) (.seq (.block 1 (.seq (.au [] [z 10 (.idx 3 (.t 6) (.t 8)),zL 11 3 10,z 5 (.alloc 150 [.i
 .i64 0,.s [],.i .i64 0]),zs (.store 3 [none,none,none] (.t 5) (.t 11))]) (.au [] [zm 12 3,zL 13 3 5,z 14 (.call 217 [.t 13]),z 15 (.bin .add (.t 12) (.t 14)),zm 3 15])))
 (.au [] [z 16 (.bin .add (.t 8) (.c (.i .i64 1))),zm 8 16])))
def Xt:b9:=⟨18,[.t 2],.seq (.au [] [z 2 (.aS (.c (.i .i64 0)))]) (.seq (.au [] [z 3 (.aS (.c (.i .i64 0)))]) (.seq (.seq (.au [] [zm 6 0,z 7 (.len false (.t 6)),z 8 (.aS (.c (.i .i64
 0)))]) (.block 0 (.loop CI))) (.seq (.au [] [zm 17 3,zm 2 17]) (.ret))))⟩
theorem ade:ca prog f172=some Xt:=by kernel_rfl
def WJ:b9:=⟨17,[.t 4],.seq (.au [] [z 2 (.box 150 (.t 0)),z 3 (.box 150 (.t 1)),z 4 (.aS (.c (.b false)))]) (.seq (.au [11,12,13,14,15] [zf 5 0 2,zl 6 5,zf 7 0 3,zl 8 7,z 9
 (.bin .eql (.t 6) (.t 8)),zm 10 9,⟨some 11,[(10,true)],.eR 1 (.t 2)⟩,⟨some 12,[(10,true)],.load none (.t 11)⟩,⟨some 13,[(10,true)],.eR 1 (.t 3)⟩,⟨some 14,[(10,
 true)],.load none (.t 13)⟩,⟨some 15,[(10,true)],.bin .eql (.t 12) (.t 14)⟩,z 16 (.pick (.t 10) (.t 15) (.c (.b false))),zm 4 16]) (.ret))⟩
theorem acu:ca prog f254=some WJ:=by kernel_rfl
def WI:b9:=⟨11,[.t 2],.seq (.au [] [z 1 (.box 150 (.t 0)),z 2 (.aS (.c (.s [])))]) (.seq (.seq (.au [] [zf 3 0 1,zl 4 3,z 5 (.bin .eql (.t 4) (.c (.i .i64 6)))]) (.ite (.t 5) (.seq
 (.au [] [zf 6 1 1,zl 7 6,z 8 (.call 273 [.t 7]),zm 2 8]) (.ret)) (.skip))) (.seq (.au [] [zf 9 1 1,zl 10 9,zm 2 10]) (.ret)))⟩
theorem acs:ca prog f255=some WI:=by kernel_rfl
def WX:b9:=⟨16,[.t 2],.seq (.au [] [z 1 (.box 150 (.t 0)),z 2 (.aS (.c (.b false)))]) (.seq (.au [7,8,9,12,13,14] [zf 3 0 1,zl 4 3,z 5 (.bin .eql (.t 4) (.c (.i .i64 2))),zm 6 5,
 ⟨some 7,[(6,false)],.eR 0 (.t 1)⟩,⟨some 8,[(6,false)],.load none (.t 7)⟩,⟨some 9,[(6,false)],.bin .eql (.t 8) (.c (.i .i64 3))⟩,z 10 (.pick (.t 6) (.c (.b true)) (.t
 9)),zm 11 10,⟨some 12,[(11,false)],.eR 0 (.t 1)⟩,⟨some 13,[(11,false)],.load none (.t 12)⟩,⟨some 14,[(11,false)],.bin .eql (.t 13) (.c (.i .i64 4))⟩,z 15 (.pick (.t
 11) (.c (.b true)) (.t 14)),zm 2 15]) (.ret))⟩
theorem acH:ca prog f220=some WX:=by kernel_rfl
def WZ:b9:=⟨39,[.t 4,.t 5],.seq (.au [] [z 2 (.box 150 (.t 0)),z 3 (.box 150 (.t 1)),z 4 (.aS (.c (.i .i64 0))),z 5 (.aS (.c (.b false)))]) (.seq (.block 0 (.seq (.au [] [zL 7 3 2,
 zL 8 3 3,z 9 (.call 254 [.t 7,.t 8]),zm 6 9]) (.ite (.t 6) (.seq (.au [] [z 4 (.aS (.c (.i .i64 0))),z 5 (.aS (.c (.b true)))]) (.ret)) (.seq (.au [17,18,19,22,23,24]
 [zf 11 0 2,zl 12 11,zf 13 0 3,zl 14 13,z 15 (.bin .neq (.t 12) (.t 14)),zm 16 15,⟨some 17,[(16,false)],.eR 0 (.t 2)⟩,⟨some 18,[(16,false)],.load none (.t 17)⟩,⟨some
 19,[(16,false)],.bin .lss (.t 18) (.c (.i .i64 5))⟩,z 20 (.pick (.t 16) (.c (.b true)) (.t 19)),zm 21 20,⟨some 22,[(21,false)],.eR 0 (.t 2)⟩,⟨some 23,[(21,false)],
 .load none (.t 22)⟩,⟨some 24,[(21,false)],.bin .gtr (.t 23) (.c (.i .i64 9))⟩,z 25 (.pick (.t 21) (.c (.b true)) (.t 24)),zm 10 25]) (.ite (.t 10) (.seq (.au [] [z 4 (.aS
 (.c (.i .i64 0))),z 5 (.aS (.c (.b false)))]) (.ret)) (.seq (.df [([zf 27 0 2,zl 28 27,z 29 (.bin .eql (.t 28) (.c (.i .i64 6))),zm 30 29,⟨some 31,[(30,true)],.load (some
 3) (.t 2)⟩,⟨some 33,[(30,true)],.load (some 3) (.t 3)⟩],⟨some 32,[(30,true)],.call 255 [.t 31]⟩,[⟨some 33,[(30,true)],.load (some 3) (.t 3)⟩])] [] [31,32,33,34,35]
 [⟨some 34,[(30,true)],.call 255 [.t 33]⟩,⟨some 35,[(30,true)],.bin .eql (.t 32) (.t 34)⟩,z 36 (.pick (.t 30) (.t 35) (.c (.b false))),zm 26 36]) (.ite (.t 26) (.seq (.au
 [] [z 4 (.aS (.c (.i .i64 1))),z 5 (.aS (.c (.b true)))]) (.ret)) (.skip)))))))) (.seq (.au [] [zL 37 3 2,z 38 (.call 217 [.t 37]),zm 4 38,z 5 (.aS (.c (.b true)))])
 (.ret)))⟩
theorem acJ:ca prog f218=some WZ:=by kernel_rfl
def Cs:bD:=.seq (.au [] [z 10 (.bin .lss (.t 9) (.t 8))]) (.seq (.ite (.t 10) (.skip) (.exit 0)) (.seq (.block 1 (.seq (.au [] [zm 11 9,zm 6 11]) (.seq (.df [] [zm 12 0,zm 13 6,z 14
 (.idx 3 (.t 12) (.t 13)),zL 15 3 14,zL 16 3 3] [] [z 17 (.call 254 [.t 15,.t 16])]) (.ite (.t 17) (.au [] [zm 18 5,z 19 (.bin .add (.t 18) (.c (.i .i64 1))),zm 5 19])
 (.skip))))) (.au [] [z 20 (.bin .add (.t 9) (.c (.i .i64 1))),zm 9 20])))
def WW:b9:=⟨22,[.t 4],.seq (.au [] [z 3 (.box 150 (.t 1)),z 4 (.aS (.c (.i .i64 0)))]) (.seq (.au [] [z 5 (.aS (.c (.i .i64 0)))]) (.seq (.seq (.au [] [zm 7 0,z 8 (.len false (.t 7)),
 z 9 (.aS (.c (.i .i64 0)))]) (.block 0 (.loop Cs))) (.seq (.au [] [zm 21 5,zm 4 21]) (.ret))))⟩
theorem acG:ca prog f221=some WW:=by kernel_rfl
def WY:b9:=⟨7,[.t 2],.seq (.au [] [z 1 (.box 150 (.t 0)),z 2 (.aS (.c (.i .i64 0)))]) (.seq (.seq (.au [] [zL 3 3 1,z 4 (.call 220 [.t 3])]) (.ite (.t 4) (.seq (.au [] [z 2 (.aS (.c
 (.i .i64 1)))]) (.ret)) (.skip))) (.seq (.au [] [zL 5 3 1,z 6 (.call 217 [.t 5]),zm 2 6]) (.ret)))⟩
theorem acI:ca prog f219=some WY:=by kernel_rfl
def sD:bD:=.seq (.seq (.au [] [zm 33 7,z 34 (.bin .geq (.t 33) (.c (.i .i64 0)))]) (.ite (.t 34) (.skip) (.exit 2))) (.seq (.block 3 (.seq (.au [] [z 8 (.aS (.c (.i .i64 0))),z 9 (.aS
 (.c (.b false)))]) (.seq (.seq (.au [42,43,44,45] [zm 37 6,zm 38 0,z 39 (.len false (.t 38)),z 40 (.bin .lss (.t 37) (.t 39)),zm 41 40,⟨some 42,[(41,true)],.aS (.t 7)⟩,
 ⟨some 43,[(41,true)],.aS (.t 1)⟩,⟨some 44,[(41,true)],.len false (.t 43)⟩,⟨some 45,[(41,true)],.bin .lss (.t 42) (.t 44)⟩,z 46 (.pick (.t 41) (.t 45) (.c (.b false)))])
 (.ite (.t 46) (.seq (.df [([zm 48 0,zm 49 6,z 50 (.idx 3 (.t 48) (.t 49)),zL 51 3 50,zm 52 1,zm 53 7,z 54 (.idx 3 (.t 52) (.t 53)),zL 55 3 54],z 56 (.call 218 [.t 51,.t
 55]),[])] [zm 47 56,z 57 (.ext 0 (.t 47)),z 58 (.ext 1 (.t 47)),zm 10 57] [] [zm 11 58]) (.seq (.au [] [zm 59 11]) (.ite (.t 59) (.au [] [zm 60 10,zm 61 5,zm 62 6,z 63
 (.bin .add (.t 62) (.c (.i .i64 1))),z 64 (.idx 1 (.t 61) (.t 63)),zl 65 64,zm 66 7,z 67 (.bin .add (.t 66) (.c (.i .i64 1))),z 68 (.idx 1 (.t 65) (.t 67)),zl 69 68,z 70
 (.bin .add (.t 60) (.t 69)),zm 8 70,z 9 (.aS (.c (.b true)))]) (.skip)))) (.skip))) (.seq (.seq (.au [] [zm 71 6,zm 72 0,z 73 (.len false (.t 72)),z 74 (.bin .lss (.t 71) (.t
 73))]) (.ite (.t 74) (.seq (.df [([zm 75 0,zm 76 6,z 77 (.idx 3 (.t 75) (.t 76)),zL 78 3 77,zm 80 5,zm 81 6,z 82 (.bin .add (.t 81) (.c (.i .i64 1))),z 83 (.idx 1 (.t 80)
 (.t 82)),zl 84 83,zm 85 7,z 86 (.idx 1 (.t 84) (.t 85)),zl 87 86],z 79 (.call 219 [.t 78]),[z 83 (.idx 1 (.t 80) (.t 82)),zl 84 83,z 86 (.idx 1 (.t 84) (.t 85)),zl 87 86])]
 [] [] [z 88 (.bin .add (.t 79) (.t 87)),zm 12 88]) (.seq (.au [92,93,94] [zm 89 9,z 90 (.un .not (.t 89)),zm 91 90,⟨some 92,[(91,false)],.aS (.t 12)⟩,⟨some 93,[(91,
 false)],.aS (.t 8)⟩,⟨some 94,[(91,false)],.bin .lss (.t 92) (.t 93)⟩,z 95 (.pick (.t 91) (.c (.b true)) (.t 94))]) (.ite (.t 95) (.au [] [zm 96 12,zm 8 96,z 9 (.aS (.c
 (.b true)))]) (.skip)))) (.skip))) (.seq (.seq (.au [] [zm 97 7,zm 98 1,z 99 (.len false (.t 98)),z 100 (.bin .lss (.t 97) (.t 99))]) (.ite (.t 100) (.seq (.df [([zm 101 1,zm
 102 7,z 103 (.idx 3 (.t 101) (.t 102)),zL 104 3 103,zm 106 5,zm 107 6,z 108 (.idx 1 (.t 106) (.t 107)),zl 109 108,zm 110 7,z 111 (.bin .add (.t 110) (.c (.i .i64 1))),z 112
 (.idx 1 (.t 109) (.t 111)),zl 113 112],z 105 (.call 219 [.t 104]),[z 108 (.idx 1 (.t 106) (.t 107)),zl 109 108,z 112 (.idx 1 (.t 109) (.t 111)),zl 113 112])] [] [] [z 114
 (.bin .add (.t 105) (.t 113)),zm 13 114]) (.seq (.au [118,119,120] [zm 115 9,z 116 (.un .not (.t 115)),zm 117 116,⟨some 118,[(117,false)],.aS (.t 13)⟩,⟨some 119,[(117,
 false)],.aS (.t 8)⟩,⟨some 120,[(117,false)],.bin .lss (.t 118) (.t 119)⟩,z 121 (.pick (.t 117) (.c (.b true)) (.t 120))]) (.ite (.t 121) (.au [] [zm 122 13,zm 8 122,z 9
 (.aS (.c (.b true)))]) (.skip)))) (.skip))) (.au [] [zm 123 5,zm 124 6,z 125 (.idx 1 (.t 123) (.t 124)),zl 126 125,zm 127 7,zm 128 8,z 129 (.idx 1 (.t 126) (.t 127)),zs
 (.store 1 [none] (.t 129) (.t 128))])))))) (.au [] [zm 35 7,z 36 (.bin .sub (.t 35) (.c (.i .i64 1))),zm 7 36]))
def CH:bD:=.seq (.seq (.au [] [zm 20 6,z 21 (.bin .geq (.t 20) (.c (.i .i64 0)))]) (.ite (.t 21) (.skip) (.exit 0))) (.seq (.block 1 (.seq (.au [] [zm 24 5,zm 25 6,zm 26 1,z 27 (.len
 false (.t 26)),z 28 (.bin .add (.t 27) (.c (.i .i64 1))),z 29 (.mk 3 1 8 [.i .i64 0] (.t 28) (.t 28)),z 30 (.idx 1 (.t 24) (.t 25)),zs (.store 1 [some 1] (.t 30) (.t 29))])
 (.seq (.au [] [zm 31 1,z 32 (.len false (.t 31)),zm 7 32]) (.block 2 (.loop sD))))) (.au [] [zm 22 6,z 23 (.bin .sub (.t 22) (.c (.i .i64 1))),zm 6 23]))
def Xr:b9:=⟨131,[.t 4],.seq (.au [] [z 4 (.aS (.c .nil))]) (.seq (.au [] [zm 14 0,z 15 (.len false (.t 14)),z 16 (.bin .add (.t 15) (.c (.i .i64 1))),z 17 (.SM 25 24 (.t 16) (.t 16)),
 zm 5 17]) (.seq (.seq (.au [] [zm 18 0,z 19 (.len false (.t 18)),zm 6 19]) (.block 0 (.loop CH))) (.seq (.au [] [zm 130 5,zm 4 130]) (.ret))))⟩
theorem adb:ca prog f173=some Xr:=by kernel_rfl
def CG:bD:=.seq (.au [] [z 14 (.bin .lss (.t 13) (.t 12))]) (.seq (.ite (.t 14) (.skip) (.exit 0)) (.seq (.block 1 (.seq (.au [] [zm 15 13,z 16 (.idx 3 (.t 11) (.t 13)),zL 17 3 16,z 7
 (.alloc 150 [.i .i64 0,.s [],.i .i64 0]),zm 6 15,zs (.store 3 [none,none,none] (.t 7) (.t 17))]) (.seq (.df [([zL 18 3 7],z 19 (.call 220 [.t 18]),[])] [zm 20 19,⟨some
 21,[(20,true)],.aS (.t 0)⟩,⟨some 22,[(20,true)],.aS (.t 6)⟩,⟨some 23,[(20,true)],.slice 3 (.t 21) none (some (.t 22))⟩,⟨some 24,[(20,true)],.load (some 3) (.t 7)⟩]
 [21,22,23,24,25,26] [⟨some 25,[(20,true)],.call 221 [.t 23,.t 24]⟩,⟨some 26,[(20,true)],.bin .eql (.t 25) (.c (.i .i64 0))⟩,z 27 (.pick (.t 20) (.t 26) (.c (.b
 false)))]) (.ite (.t 27) (.seq (.df [([zm 28 0,zL 29 3 7,zm 31 1,zL 32 3 7],z 30 (.call 221 [.t 28,.t 29]),[zL 32 3 7])] [] [] [z 33 (.call 221 [.t 31,.t 32]),z 34 (.bin
 .sub (.t 30) (.t 33)),zm 8 34]) (.au [] [zm 35 5,zm 36 8,zm 37 8,z 38 (.un .neg (.t 37)),z 39 (.max2 (.t 36) (.t 38)),z 40 (.bin .add (.t 35) (.t 39)),zm 5 40])) (.skip)))))
 (.au [] [z 41 (.bin .add (.t 13) (.c (.i .i64 1))),zm 13 41])))
def CF:bD:=.seq (.au [] [z 45 (.bin .lss (.t 44) (.t 43))]) (.seq (.ite (.t 45) (.skip) (.exit 2)) (.seq (.block 3 (.seq (.au [] [zm 46 44,z 47 (.idx 3 (.t 42) (.t 44)),zL 48 3 47,z 10
 (.alloc 150 [.i .i64 0,.s [],.i .i64 0]),zm 9 46,zs (.store 3 [none,none,none] (.t 10) (.t 48))]) (.seq (.df [([zL 49 3 10],z 50 (.call 220 [.t 49]),[]),([zm 51 50,⟨some
 52,[(51,true)],.aS (.t 1)⟩,⟨some 53,[(51,true)],.aS (.t 9)⟩,⟨some 54,[(51,true)],.slice 3 (.t 52) none (some (.t 53))⟩,⟨some 55,[(51,true)],.load (some 3) (.t
 10)⟩],⟨some 56,[(51,true)],.call 221 [.t 54,.t 55]⟩,[])] [⟨some 57,[(51,true)],.bin .eql (.t 56) (.c (.i .i64 0))⟩,z 58 (.pick (.t 51) (.t 57) (.c (.b false))),zm 59 58,
 ⟨some 60,[(59,true)],.aS (.t 0)⟩,⟨some 61,[(59,true)],.load (some 3) (.t 10)⟩] [52,53,54,55,56,57,60,61,62,63] [⟨some 62,[(59,true)],.call 221 [.t 60,.t 61]⟩,
 ⟨some 63,[(59,true)],.bin .eql (.t 62) (.c (.i .i64 0))⟩,z 64 (.pick (.t 59) (.t 63) (.c (.b false)))]) (.ite (.t 64) (.au [] [zm 65 5,zm 66 1,zL 67 3 10,z 68 (.call 221 [.t
 66,.t 67]),z 69 (.bin .add (.t 65) (.t 68)),zm 5 69]) (.skip))))) (.au [] [z 70 (.bin .add (.t 44) (.c (.i .i64 1))),zm 44 70])))
def Xq:b9:=⟨72,[.t 4],.seq (.au [] [z 4 (.aS (.c (.i .i64 0)))]) (.seq (.au [] [z 5 (.aS (.c (.i .i64 0)))]) (.seq (.seq (.au [] [zm 11 0,z 12 (.len false (.t 11)),z 13 (.aS (.c (.i
 .i64 0)))]) (.block 0 (.loop CG))) (.seq (.seq (.au [] [zm 42 1,z 43 (.len false (.t 42)),z 44 (.aS (.c (.i .i64 0)))]) (.block 2 (.loop CF))) (.seq (.au [] [zm 71 5,
 zm 4 71]) (.ret)))))⟩
theorem ada:ca prog f174=some Xq:=by kernel_rfl
def X6:b9:=⟨17,[.t 4],.seq (.au [] [z 4 (.aS (.c (.i .i64 0)))]) (.seq (.df [([zm 5 0,zm 6 1,zm 12 0,zm 13 1],z 7 (.call 173 [.t 5,.t 6]),[]),([z 8 (.idx 1 (.t 7) (.c (.i .i64
 0))),zl 9 8,z 10 (.idx 1 (.t 9) (.c (.i .i64 0))),zl 11 10],z 14 (.call 174 [.t 12,.t 13]),[z 8 (.idx 1 (.t 7) (.c (.i .i64 0))),zl 9 8,z 10 (.idx 1 (.t 9) (.c (.i .i64
 0))),zl 11 10])] [z 15 (.bin .mul (.c (.i .i64 2)) (.t 14))] [] [z 16 (.bin .add (.t 11) (.t 15)),zm 4 16]) (.ret))⟩
theorem adL:ca prog f111=some X6:=by kernel_rfl
def X7:b9:=⟨10,[.t 4],.seq (.au [] [z 4 (.aS (.c (.i .i64 0)))]) (.seq (.au [] [zm 5 0,z 6 (.call 172 [.t 5]),zm 7 1,z 8 (.call 172 [.t 7]),z 9 (.max2 (.t 6) (.t 8)),zm 4 9])
 (.ret))⟩
theorem AU:ca prog f110=some X7:=by kernel_rfl
def p52:b9:=⟨20,[.t 4],.seq (.au [] [z 4 (.aS (.c (.i .i64 0)))]) (.seq (.au [] [zm 6 0,zm 7 1,z 8 (.call 110 [.t 6,.t 7]),zm 5 8]) (.seq (.seq (.au [] [zm 9 5,z 10 (.bin .eql (.t 9)
 (.c (.i .i64 0)))]) (.ite (.t 10) (.seq (.au [] [z 4 (.aS (.c (.i .i64 100)))]) (.ret)) (.skip))) (.seq (.au [] [zm 11 5,zm 12 0,zm 13 1,z 14 (.call 111 [.t 12,.t 13]),z 15
 (.bin .sub (.t 11) (.t 14)),z 16 (.bin .mul (.c (.i .i64 100)) (.t 15)),zm 17 5,z 18 (.bin .quo (.t 16) (.t 17)),z 19 (.max2 (.c (.i .i64 0)) (.t 18)),zm 4 19]) (.ret))))⟩
theorem c52:ca prog f52=some p52:=by kernel_rfl
def p55:b9:=⟨31,[.t 4],.seq (.au [] [z 2 (.box 37 (.t 0)),z 3 (.box 24 (.t 1)),z 4 (.aS (.c (.i .i64 0)))]) (.seq (.au [] [z 5 (.aS (.c (.i .i64 0)))]) (.seq (.seq (.au [10,11,12,
 13,14] [zf 6 2 2,zl 7 6,z 8 (.bin .neq (.t 7) (.c (.s []))),zm 9 8,⟨some 10,[(9,true)],.eR 2 (.t 2)⟩,⟨some 11,[(9,true)],.load none (.t 10)⟩,⟨some 12,[(9,true)],
 .eR 1 (.t 3)⟩,⟨some 13,[(9,true)],.load none (.t 12)⟩,⟨some 14,[(9,true)],.bin .eql (.t 11) (.t 13)⟩,z 15 (.pick (.t 9) (.t 14) (.c (.b false)))]) (.ite (.t 15) (.au []
 [zm 16 5,z 17 (.bin .add (.t 16) (.c (.i .i64 1))),zm 5 17]) (.skip))) (.seq (.seq (.au [22,23,24,25,26] [zf 18 3 2,zl 19 18,z 20 (.bin .neq (.t 19) (.c (.s []))),zm 21
 20,⟨some 22,[(21,true)],.eR 3 (.t 2)⟩,⟨some 23,[(21,true)],.load none (.t 22)⟩,⟨some 24,[(21,true)],.eR 2 (.t 3)⟩,⟨some 25,[(21,true)],.load none (.t 24)⟩,⟨some
 26,[(21,true)],.bin .eql (.t 23) (.t 25)⟩,z 27 (.pick (.t 21) (.t 26) (.c (.b false)))]) (.ite (.t 27) (.au [] [zm 28 5,z 29 (.bin .add (.t 28) (.c (.i .i64 1))),zm 5 29])
 (.skip))) (.seq (.au [] [zm 30 5,zm 4 30]) (.ret)))))⟩
theorem c55:ca prog f55=some p55:=by kernel_rfl
def Xm:b9:=⟨22,[.t 6],.seq (.au [] [z 6 (.aS (.c (.b false)))]) (.seq (.au [10,11,12,13,14,15,16,17,18,19,20] [zm 7 2,z 8 (.bin .leq (.t 7) (.c (.i .i64 0))),zm 9 8,⟨some 10,
 [(9,false)],.aS (.t 0)⟩,⟨some 11,[(9,false)],.aS (.t 2)⟩,⟨some 12,[(9,false)],.bin .add (.c (.i .i64 (-9223372036854775808))) (.t 11)⟩,⟨some 13,[(9,false)],.bin .geq
 (.t 10) (.t 12)⟩,⟨some 14,[(9,false)],.aS (.t 13)⟩,⟨some 15,[(9,false),(14,true)],.aS (.t 1)⟩,⟨some 16,[(9,false),(14,true)],.aS (.t 0)⟩,⟨some 17,[(9,false),
 (14,true)],.aS (.t 2)⟩,⟨some 18,[(9,false),(14,true)],.bin .sub (.t 16) (.t 17)⟩,⟨some 19,[(9,false),(14,true)],.bin .leq (.t 15) (.t 18)⟩,⟨some 20,[(9,false)],
 .pick (.t 14) (.t 19) (.c (.b false))⟩,z 21 (.pick (.t 9) (.c (.b true)) (.t 20)),zm 6 21]) (.ret))⟩
theorem ac6:ca prog f178=some Xm:=by kernel_rfl
def X0:b9:=⟨49,[.t 6],.seq (.au [] [z 3 (.box 84 (.t 0)),z 4 (.box 37 (.t 1)),z 6 (.aS (.c (.b false)))]) (.seq (.au [11,12,13,14,15,18,19,20,21,22,23,24,25,26,27,30,31,
 32,33,34,35,36,37,38,39,42,43,44,45,46,47] [zf 7 0 3,zl 8 7,z 9 (.bin .eql (.t 8) (.c (.i .i64 0))),zm 10 9,⟨some 11,[(10,false)],.eR 0 (.t 3)⟩,⟨some 12,[(10,
 false)],.load none (.t 11)⟩,⟨some 13,[(10,false)],.eR 7 (.t 4)⟩,⟨some 14,[(10,false)],.load none (.t 13)⟩,⟨some 15,[(10,false)],.bin .eql (.t 12) (.t 14)⟩,z 16 (.pick
 (.t 10) (.c (.b true)) (.t 15)),zm 17 16,⟨some 18,[(17,true)],.eR 1 (.t 3)⟩,⟨some 19,[(17,true)],.load none (.t 18)⟩,⟨some 20,[(17,true)],.bin .eql (.t 19) (.c (.s
 []))⟩,⟨some 21,[(17,true)],.aS (.t 20)⟩,⟨some 22,[(17,true),(21,false)],.eR 1 (.t 3)⟩,⟨some 23,[(17,true),(21,false)],.load none (.t 22)⟩,⟨some 24,[(17,true),
 (21,false)],.eR 4 (.t 4)⟩,⟨some 25,[(17,true),(21,false)],.load none (.t 24)⟩,⟨some 26,[(17,true),(21,false)],.bin .eql (.t 23) (.t 25)⟩,⟨some 27,[(17,true)],
 .pick (.t 21) (.c (.b true)) (.t 26)⟩,z 28 (.pick (.t 17) (.t 27) (.c (.b false))),zm 29 28,⟨some 30,[(29,true)],.eR 2 (.t 3)⟩,⟨some 31,[(29,true)],.load none (.t 30)⟩,
 ⟨some 32,[(29,true)],.bin .eql (.t 31) (.c (.s []))⟩,⟨some 33,[(29,true)],.aS (.t 32)⟩,⟨some 34,[(29,true),(33,false)],.eR 2 (.t 3)⟩,⟨some 35,[(29,true),(33,
 false)],.load none (.t 34)⟩,⟨some 36,[(29,true),(33,false)],.eR 5 (.t 4)⟩,⟨some 37,[(29,true),(33,false)],.load none (.t 36)⟩,⟨some 38,[(29,true),(33,false)],
 .bin .eql (.t 35) (.t 37)⟩,⟨some 39,[(29,true)],.pick (.t 33) (.c (.b true)) (.t 38)⟩,z 40 (.pick (.t 29) (.t 39) (.c (.b false))),zm 41 40,⟨some 42,[(41,true)],.aS (.t
 2)⟩,⟨some 43,[(41,true)],.eR 6 (.t 4)⟩,⟨some 44,[(41,true)],.load none (.t 43)⟩,⟨some 45,[(41,true)],.eR 3 (.t 3)⟩,⟨some 46,[(41,true)],.load none (.t 45)⟩,⟨some
 47,[(41,true)],.call 178 [.t 42,.t 44,.t 46]⟩,z 48 (.pick (.t 41) (.t 47) (.c (.b false))),zm 6 48]) (.ret))⟩
theorem adJ:ca prog f113=some X0:=by kernel_rfl
def IJ:bD:=.seq (.au [] [z 13 (.bin .lss (.t 12) (.t 11))]) (.seq (.ite (.t 13) (.skip) (.exit 0)) (.seq (.block 1 (.seq (.au [] [z 14 (.idx 5 (.t 10) (.t 12)),zL 15 5 14,z 9 (.alloc 84
 [.i .i64 0,.s [],.s [],.i .i64 0,.i .i64 0]),zs (.store 5 [none,none,none,none,none] (.t 9) (.t 15))]) (.seq (.au [] [zL 16 5 9,zL 17 8 4,zm 18 2,z 19 (.call 113 [.t
 16,.t 17,.t 18])]) (.ite (.t 19) (.au [] [zm 20 7,zf 21 4 9,zl 22 21,z 23 (.max2 (.c (.i .i64 0)) (.t 22)),z 24 (.min2 (.c (.i .i64 100)) (.t 23)),z 25 (.bin .add (.t 20)
 (.t 24)),z 26 (.min2 (.c (.i .i64 100)) (.t 25)),zm 7 26]) (.skip))))) (.au [] [z 27 (.bin .add (.t 12) (.c (.i .i64 1))),zm 12 27])))
def p54:b9:=⟨29,[.t 6],.seq (.au [] [z 4 (.box 37 (.t 1)),z 6 (.aS (.c (.i .i64 0)))]) (.seq (.au [] [z 7 (.aS (.c (.i .i64 0)))]) (.seq (.seq (.au [] [zm 10 0,z 11 (.len false (.t
 10)),z 12 (.aS (.c (.i .i64 0)))]) (.block 0 (.loop IJ))) (.seq (.au [] [zm 28 7,zm 6 28]) (.ret))))⟩
theorem c54:ca prog f54=some p54:=by kernel_rfl
def p21:b9:=⟨39,[.c 6 (some 5)],.seq (.au [] [z 3 (.box 37 (.t 0)),z 5 (.box 24 (.t 2)),z 6 (.alloc 44 [.i .i64 0,.i .i64 0,.i .i64 0,.i .i64 0,.i .i64 0])]) (.seq (.Mp [(7,44,[.i
 .i64 0,.i .i64 0,.i .i64 0,.i .i64 0,.i .i64 0])] [([zf 8 0 3,zl 9 8,zf 11 0 5,zl 12 11,zm 15 1,zL 16 8 3,zf 17 3 5,zl 18 17],z 10 (.call 53 [.t 9]),[zf 11 0 5,zl 12
 11,zL 16 8 3,zf 17 3 5,zl 18 17]),([],z 13 (.call 53 [.t 12]),[zL 16 8 3,zf 17 3 5,zl 18 17]),([],z 14 (.call 52 [.t 10,.t 13]),[zL 16 8 3,zf 17 3 5,zl 18 17]),([],z
 19 (.call 54 [.t 15,.t 16,.t 18]),[])] [] [z 20 (.build [.i .i64 0,.i .i64 0,.i .i64 0,.i .i64 0,.i .i64 0] [(1,1,.t 14),(3,1,.t 19)])] [] [zs (.store 5 [none,none,
 none,none,none] (.t 7) (.t 20))]) (.seq (.seq (.au [] [zf 21 1 7,zl 22 21,z 23 (.bin .eql (.t 22) (.c (.i .i64 100)))]) (.ite (.t 23) (.au [] [zL 24 8 3,zL 25 6 5,z 26
 (.call 55 [.t 24,.t 25]),zf 27 2 7,zs (.store 1 [none] (.t 27) (.t 26))]) (.skip))) (.seq (.au [] [zf 28 1 7,zl 29 28,zf 30 2 7,zl 31 30,z 32 (.bin .add (.t 29) (.t 31)),zf
 33 3 7,zl 34 33,z 35 (.bin .sub (.t 32) (.t 34)),z 36 (.max2 (.c (.i .i64 0)) (.t 35)),zf 37 4 7,zs (.store 1 [none] (.t 37) (.t 36))]) (.seq (.au [] [zL 38 5 7,zs (.store 5
 [none,none,none,none,none] (.t 6) (.t 38))]) (.ret)))))⟩
theorem c21:ca prog f21=some p21:=by kernel_rfl
def p13:b9:=⟨21,[.c 2 (some 6)],.seq (.au [] [z 2 (.alloc 24 [.nil,.s [],.s [],.i .i64 0,.i .i64 0,.i .i64 0])]) (.seq (.au [] [zm 4 0,z 5 (.call 41 [.t 4]),z 3 (.alloc 37 [.nil,
 .nil,.s [],.s [],.s [],.s [],.i .i64 0,.i .i64 0]),zs (.store 8 [some 3,some 3,none,none,none,none,none,none] (.t 3) (.t 5))]) (.seq (.df [([zf 6 0 3,zl 7 6,zf 8 2
 3,zl 9 8,zf 10 3 3,zl 11 10,zm 12 0,zm 14 0,zm 17 0],z 13 (.call 43 [.t 12,.c (.i .i64 90)]),[zf 6 0 3,zl 7 6,zf 8 2 3,zl 9 8,zf 10 3 3,zl 11 10]),([],z 15 (.call 43
 [.t 14,.c (.i .i64 102)]),[zf 6 0 3,zl 7 6,zf 8 2 3,zl 9 8,zf 10 3 3,zl 11 10]),([z 16 (.bin .add (.c (.i .i64 1)) (.t 15))],z 18 (.call 43 [.t 17,.c (.i .i64 12)]),[zf 6
 0 3,zl 7 6,zf 8 2 3,zl 9 8,zf 10 3 3,zl 11 10])] [z 19 (.bin .add (.c (.i .i64 1)) (.t 18))] [] [z 20 (.build [.nil,.s [],.s [],.i .i64 0,.i .i64 0,.i .i64 0] [(0,1,.t
 7),(1,1,.t 9),(2,1,.t 11),(3,1,.t 13),(4,1,.t 16),(5,1,.t 19)]),zs (.store 6 [some 3,none,none,none,none,none] (.t 2) (.t 20))]) (.ret)))⟩
theorem c13:ca prog f13=some p13:=by kernel_rfl
def IS:bD:=.seq (.seq (.au [] [zm 11 6,z 12 (.bin .gtr (.t 11) (.c (.i .i64 0)))]) (.ite (.t 12) (.skip) (.exit 0))) (.seq (.block 1 (.df [([zm 15 5,zm 16 0,z 18 (.bC 1 [none] [.c
 (.s []),.c (.s []),.c (.s [97,110,110])]),zm 19 0,z 23 (.bC 1 [none] [.c (.s []),.c (.s []),.c (.s [113])]),zm 24 0,zm 28 0,zm 30 0,zm 33 0],z 17 (.call 43 [.t 16,
 .c (.i .i64 4)]),[z 18 (.bC 1 [none] [.c (.s []),.c (.s []),.c (.s [97,110,110])]),z 23 (.bC 1 [none] [.c (.s []),.c (.s []),.c (.s [113])])]),([],z 20 (.call 43
 [.t 19,.c (.i .i64 3)]),[z 18 (.bC 1 [none] [.c (.s []),.c (.s []),.c (.s [97,110,110])]),z 23 (.bC 1 [none] [.c (.s []),.c (.s []),.c (.s [113])])]),([z 21 (.idx
 1 (.t 18) (.t 20)),zl 22 21],z 25 (.call 43 [.t 24,.c (.i .i64 3)]),[z 18 (.bC 1 [none] [.c (.s []),.c (.s []),.c (.s [97,110,110])]),z 21 (.idx 1 (.t 18) (.t 20)),zl
 22 21,z 23 (.bC 1 [none] [.c (.s []),.c (.s []),.c (.s [113])])]),([z 26 (.idx 1 (.t 23) (.t 25)),zl 27 26],z 29 (.call 43 [.t 28,.c (.i .i64 3)]),[z 18 (.bC 1
 [none] [.c (.s []),.c (.s []),.c (.s [97,110,110])]),z 21 (.idx 1 (.t 18) (.t 20)),zl 22 21,z 23 (.bC 1 [none] [.c (.s []),.c (.s []),.c (.s [113])]),z 26 (.idx 1 (.t
 23) (.t 25)),zl 27 26]),([],z 31 (.call 43 [.t 30,.c (.i .i64 30)]),[z 18 (.bC 1 [none] [.c (.s []),.c (.s []),.c (.s [97,110,110])]),z 21 (.idx 1 (.t 18) (.t 20)),zl
 22 21,z 23 (.bC 1 [none] [.c (.s []),.c (.s []),.c (.s [113])]),z 26 (.idx 1 (.t 23) (.t 25)),zl 27 26]),([z 32 (.bin .mul (.t 29) (.t 31))],z 34 (.call 43 [.t 33,.c (.i
 .i64 12)]),[z 18 (.bC 1 [none] [.c (.s []),.c (.s []),.c (.s [97,110,110])]),z 21 (.idx 1 (.t 18) (.t 20)),zl 22 21,z 23 (.bC 1 [none] [.c (.s []),.c (.s []),.c
 (.s [113])]),z 26 (.idx 1 (.t 23) (.t 25)),zl 27 26])] [z 35 (.build [.i .i64 0,.s [],.s [],.i .i64 0,.i .i64 0] [(0,1,.t 17),(1,1,.t 22),(2,1,.t 27),(3,1,.t 32),
 (4,1,.t 34)]),z 36 (.bC 5 [none,none,none,none,none] [.t 35])] [] [z 37 (.app 84 5 56 (.t 15) (.t 36)),zm 5 37])) (.au [] [zm 13 6,z 14 (.bin .sub (.t 13) (.c (.i .i64
 1))),zm 6 14]))
def p18:b9:=⟨39,[.t 4],.seq (.au [] [z 4 (.aS (.c .nil))]) (.seq (.au [] [z 5 (.aS (.c .nil))]) (.seq (.seq (.au [] [zm 7 0,zm 8 1,z 9 (.bin .add (.t 8) (.c (.i .i64 1))),z 10 (.call
 43 [.t 7,.t 9]),zm 6 10]) (.block 0 (.loop IS))) (.seq (.au [] [zm 38 5,zm 4 38]) (.ret))))⟩
theorem c18:ca prog f18=some p18:=by kernel_rfl
def p12:b9:=⟨55,[.t 0],.seq (.au [] [z 0 (.aS (.c (.b false)))]) (.seq (.au [] [z 7 (.build [.i .i64 0,.s [],.i .i64 0] [(0,1,.c (.i .i64 1)),(1,1,.c (.s [83,97,118,101]))]),z 8
 (.bC 3 [none,none,none] [.t 7]),z 9 (.build [.i .i64 0,.s [],.i .i64 0] [(0,1,.c (.i .i64 1)),(1,1,.c (.s [83,105,99,104,101,114,110]))]),z 10 (.bC 3 [none,
 none,none] [.t 9]),z 11 (.build [.nil,.nil,.s [],.s [],.s [],.s [],.i .i64 0,.i .i64 0] [(0,1,.t 8),(1,1,.t 10),(2,1,.c (.s [97])),(3,1,.c (.s [98])),(7,1,.c
 (.i .i64 3))]),z 1 (.alloc 37 [.nil,.nil,.s [],.s [],.s [],.s [],.i .i64 0,.i .i64 0]),zs (.store 8 [some 3,some 3,none,none,none,none,none,none] (.t 1) (.t 11))])
 (.seq (.au [] [zf 12 0 1,zl 13 12,z 14 (.build [.nil,.s [],.s [],.i .i64 0,.i .i64 0,.i .i64 0] [(0,1,.t 13),(1,1,.c (.s [97])),(2,1,.c (.s [98])),(4,1,.c (.i
 .i64 50)),(5,1,.c (.i .i64 5))]),z 2 (.alloc 24 [.nil,.s [],.s [],.i .i64 0,.i .i64 0,.i .i64 0]),zs (.store 6 [some 3,none,none,none,none,none] (.t 2) (.t 14))])
 (.seq (.au [] [zL 15 8 1,z 16 (.build [.i .i64 0,.s [],.s [],.i .i64 0,.i .i64 0] [(0,1,.c (.i .i64 3)),(4,1,.c (.i .i64 10))]),z 17 (.bC 5 [none,none,none,none,
 none] [.t 16]),zL 18 6 2,z 19 (.call 20 [.t 15,.t 17,.t 18]),z 3 (.alloc 44 [.i .i64 0,.i .i64 0,.i .i64 0,.i .i64 0,.i .i64 0]),zs (.store 5 [none,none,none,none,
 none] (.t 3) (.t 19))]) (.seq (.au [] [z 20 (.call 26 []),zm 4 20]) (.seq (.seq (.au [] [zm 21 4,zL 22 8 1,z 23 (.call 27 [.t 21,.t 22]),z 24 (.bin .neq (.t 23) (.c (.i .i64
 0)))]) (.ite (.t 24) (.seq (.au [] [z 0 (.aS (.c (.b false)))]) (.ret)) (.skip))) (.seq (.au [] [zm 26 4,zL 27 6 2,z 28 (.call 23 [.t 26,.c .nil,.t 27]),zm 25 28,z 29 (.ext
 0 (.t 25)),z 30 (.ext 1 (.t 25)),zm 5 29,zm 6 30]) (.seq (.au [35,36,37,40,41,44,45,46,49,50,51,52,53] [zf 31 4 3,zl 32 31,z 33 (.bin .eql (.t 32) (.c (.i .i64
 92))),zm 34 33,⟨some 35,[(34,true)],.eR 2 (.t 3)⟩,⟨some 36,[(34,true)],.load none (.t 35)⟩,⟨some 37,[(34,true)],.bin .eql (.t 36) (.c (.i .i64 2))⟩,z 38 (.pick (.t
 34) (.t 37) (.c (.b false))),zm 39 38,⟨some 40,[(39,true)],.aS (.t 6)⟩,⟨some 41,[(39,true)],.bin .eql (.t 40) (.c (.i .i64 0))⟩,z 42 (.pick (.t 39) (.t 41) (.c (.b
 false))),zm 43 42,⟨some 44,[(43,true)],.aS (.t 5)⟩,⟨some 45,[(43,true)],.len false (.t 44)⟩,⟨some 46,[(43,true)],.bin .eql (.t 45) (.c (.i .i64 1))⟩,z 47 (.pick (.t
 43) (.t 46) (.c (.b false))),zm 48 47,⟨some 49,[(48,true)],.aS (.t 5)⟩,⟨some 50,[(48,true)],.idx 5 (.t 49) (.c (.i .i64 0))⟩,⟨some 51,[(48,true)],.eR 4 (.t 50)⟩,
 ⟨some 52,[(48,true)],.load none (.t 51)⟩,⟨some 53,[(48,true)],.bin .eql (.t 52) (.c (.i .i64 102))⟩,z 54 (.pick (.t 48) (.t 53) (.c (.b false))),zm 0 54]) (.ret))))))))⟩
theorem c12:ca prog f12=some p12:=by kernel_rfl
def IW:bD:=.seq (.au [] [z 18 (.bin .lss (.t 17) (.t 16))]) (.seq (.ite (.t 18) (.skip) (.exit 2)) (.seq (.block 3 (.seq (.au [] [z 19 (.idx 3 (.t 15) (.t 17)),zL 20 3 19,z 6 (.alloc 61
 [.i .i64 0,.s [],.i .i64 0]),zs (.store 3 [none,none,none] (.t 6) (.t 20))]) (.au [] [zm 21 3,zf 22 1 6,zl 23 22,z 24 (.len true (.t 23)),z 25 (.bin .add (.c (.i .i64 1))
 (.t 24)),z 26 (.bin .add (.t 21) (.t 25)),zm 3 26]))) (.au [] [z 27 (.bin .add (.t 17) (.c (.i .i64 1))),zm 17 27])))
def IV:bD:=.seq (.au [] [z 10 (.bin .lss (.t 9) (.t 8))]) (.seq (.ite (.t 10) (.skip) (.exit 0)) (.seq (.block 1 (.seq (.au [] [zm 11 9,zm 4 11]) (.seq (.au [] [zm 12 0,zm 13 4,z 14
 (.idx 1 (.t 12) (.t 13)),zl 15 14,z 16 (.len false (.t 15)),z 17 (.aS (.c (.i .i64 0)))]) (.block 2 (.loop IW))))) (.au [] [z 28 (.bin .add (.t 9) (.c (.i .i64 1))),zm 9
 28])))
def p11:b9:=⟨31,[.t 2],.seq (.au [] [z 2 (.aS (.c (.b false)))]) (.seq (.au [] [z 3 (.aS (.c (.i .i64 0)))]) (.seq (.seq (.au [] [zm 7 0,z 8 (.len false (.t 7)),z 9 (.aS (.c (.i .i64
 0)))]) (.block 0 (.loop IV))) (.seq (.au [] [zm 29 3,z 30 (.bin .leq (.t 29) (.c (.i .i64 300))),zm 2 30]) (.ret))))⟩
theorem c11:ca prog f11=some p11:=by kernel_rfl
def IU:bD:=.seq (.seq (.au [] [zm 14 6,z 15 (.bin .gtr (.t 14) (.c (.i .i64 0)))]) (.ite (.t 15) (.skip) (.exit 0))) (.seq (.block 1 (.seq (.au [] [zm 18 0,z 19 (.call 41 [.t 18]),z 7
 (.alloc 37 [.nil,.nil,.s [],.s [],.s [],.s [],.i .i64 0,.i .i64 0]),zs (.store 8 [some 3,some 3,none,none,none,none,none,none] (.t 7) (.t 19))]) (.seq (.seq (.au
 [24,25,26] [zm 20 5,z 21 (.len false (.t 20)),z 22 (.bin .gtr (.t 21) (.c (.i .i64 0))),zm 23 22,⟨some 24,[(23,true)],.aS (.t 0)⟩,⟨some 25,[(23,true)],.call 43 [.t 24,
 .c (.i .i64 2)]⟩,⟨some 26,[(23,true)],.bin .eql (.t 25) (.c (.i .i64 0))⟩,z 27 (.pick (.t 23) (.t 26) (.c (.b false)))]) (.ite (.t 27) (.seq (.au [] [zm 28 5,zm 29 0,zm 30
 5,z 31 (.len false (.t 30)),z 32 (.call 43 [.t 29,.t 31]),z 33 (.idx 8 (.t 28) (.t 32)),zL 34 8 33,z 8 (.alloc 37 [.nil,.nil,.s [],.s [],.s [],.s [],.i .i64 0,.i .i64
 0]),zs (.store 8 [some 3,some 3,none,none,none,none,none,none] (.t 8) (.t 34))]) (.seq (.df [([zf 35 0 8,zl 36 35,z 37 (.bC 1 [none] [.c (.s [32]),.c (.s [46]),.c
 (.s [32,99,97,114]),.c (.s [115])]),zm 38 0],z 39 (.call 43 [.t 38,.c (.i .i64 4)]),[zf 35 0 8,zl 36 35,z 37 (.bC 1 [none] [.c (.s [32]),.c (.s [46]),.c (.s [32,99,
 97,114]),.c (.s [115])])])] [z 40 (.idx 1 (.t 37) (.t 39)),zl 41 40,z 42 (.build [.i .i64 0,.s [],.i .i64 0] [(0,1,.c (.i .i64 1)),(1,1,.t 41)]),z 43 (.bC 3 [none,
 none,none] [.t 42])] [] [z 44 (.call 48 [.t 36,.t 43]),zm 9 44]) (.au [] [zm 46 9,zf 47 1 8,zl 48 47,z 49 (.call 49 [.t 46,.t 48]),zm 45 49,z 50 (.ext 0 (.t 45)),z 51
 (.ext 1 (.t 45)),zf 52 0 7,zs (.store 1 [some 3] (.t 52) (.t 50)),zf 53 1 7,zs (.store 1 [some 3] (.t 53) (.t 51))]))) (.skip))) (.au [] [zm 54 5,zL 55 8 7,z 56 (.bC 8
 [some 3,some 3,none,none,none,none,none,none] [.t 55]),z 57 (.app 37 8 128 (.t 54) (.t 56)),zm 5 57])))) (.au [] [zm 16 6,z 17 (.bin .sub (.t 16) (.c (.i .i64 1))),zm 6
 17]))
def p17:b9:=⟨59,[.t 4],.seq (.au [] [z 4 (.aS (.c .nil))]) (.seq (.au [] [z 5 (.aS (.c .nil))]) (.seq (.seq (.au [] [zm 10 0,zm 11 1,z 12 (.bin .add (.t 11) (.c (.i .i64 1))),z 13
 (.call 43 [.t 10,.t 12]),zm 6 13]) (.block 0 (.loop IU))) (.seq (.au [] [zm 58 5,zm 4 58]) (.ret))))⟩
theorem c17:ca prog f17=some p17:=by kernel_rfl
def p19:b9:=⟨43,[.c 4 (some 6)],.seq (.au [] [z 4 (.alloc 24 [.nil,.s [],.s [],.i .i64 0,.i .i64 0,.i .i64 0])]) (.seq (.au [] [zm 7 0,z 8 (.call 13 [.t 7]),z 5 (.alloc 24 [.nil,.s
 [],.s [],.i .i64 0,.i .i64 0,.i .i64 0]),zs (.store 6 [some 3,none,none,none,none,none] (.t 5) (.t 8))]) (.seq (.seq (.au [13,14,15] [zm 9 1,z 10 (.len false (.t 9)),
 z 11 (.bin .gtr (.t 10) (.c (.i .i64 0))),zm 12 11,⟨some 13,[(12,true)],.aS (.t 0)⟩,⟨some 14,[(12,true)],.call 43 [.t 13,.c (.i .i64 4)]⟩,⟨some 15,[(12,true)],.bin
 .gtr (.t 14) (.c (.i .i64 0))⟩,z 16 (.pick (.t 12) (.t 15) (.c (.b false)))]) (.ite (.t 16) (.seq (.au [] [zm 17 1,zm 18 0,zm 19 1,z 20 (.len false (.t 19)),z 21 (.call 43 [.t
 18,.t 20]),z 22 (.idx 8 (.t 17) (.t 21)),zL 23 8 22,z 6 (.alloc 37 [.nil,.nil,.s [],.s [],.s [],.s [],.i .i64 0,.i .i64 0]),zs (.store 8 [some 3,some 3,none,none,
 none,none,none,none] (.t 6) (.t 23))]) (.seq (.df [([zf 24 0 6,zl 25 24,zf 26 2 6,zl 27 26,zf 28 3 6,zl 29 28,zf 30 0 5],zs (.store 1 [some 3] (.t 30) (.t 25)),[zf 26 2
 6,zl 27 26,zf 28 3 6,zl 29 28]),([zf 31 1 5],zs (.store 1 [none] (.t 31) (.t 27)),[zf 28 3 6,zl 29 28])] [] [] [zf 32 2 5,zs (.store 1 [none] (.t 32) (.t 29))]) (.seq (.au
 [] [zm 33 0,z 34 (.call 43 [.t 33,.c (.i .i64 2)]),z 35 (.bin .eql (.t 34) (.c (.i .i64 0)))]) (.ite (.t 35) (.au [] [zf 36 0 5,zl 37 36,z 38 (.build [.i .i64 0,.s [],.i
 .i64 0] [(0,1,.c (.i .i64 1)),(1,1,.c (.s [32,114,101,100]))]),z 39 (.bC 3 [none,none,none] [.t 38]),z 40 (.call 48 [.t 37,.t 39]),zf 41 0 5,zs (.store 1 [some 3]
 (.t 41) (.t 40))]) (.skip))))) (.skip))) (.seq (.au [] [zL 42 6 5,zs (.store 6 [some 3,none,none,none,none,none] (.t 4) (.t 42))]) (.ret))))⟩
theorem c19:ca prog f19=some p19:=by kernel_rfl
def p3:b9:=⟨73,[.t 8],.seq (.au [] [z 4 (.box 24 (.t 0)),z 8 (.aS (.c (.b false)))]) (.seq (.seq (.au [16,17,18,19,20,21,22,23,26,27,28] [zf 10 0 4,zl 11 10,z 12 (.bC 1
 [some 3] [.t 11]),z 13 (.call 11 [.t 12]),z 14 (.un .not (.t 13)),zm 15 14,⟨some 16,[(15,false)],.eR 1 (.t 4)⟩,⟨some 17,[(15,false)],.load none (.t 16)⟩,⟨some 18,[(15,
 false)],.len true (.t 17)⟩,⟨some 19,[(15,false)],.eR 2 (.t 4)⟩,⟨some 20,[(15,false)],.load none (.t 19)⟩,⟨some 21,[(15,false)],.len true (.t 20)⟩,⟨some 22,[(15,
 false)],.bin .add (.t 18) (.t 21)⟩,⟨some 23,[(15,false)],.bin .gtr (.t 22) (.c (.i .i64 200))⟩,z 24 (.pick (.t 15) (.c (.b true)) (.t 23)),zm 25 24,⟨some 26,[(25,false)],
 .aS (.t 1)⟩,⟨some 27,[(25,false)],.len false (.t 26)⟩,⟨some 28,[(25,false)],.bin .gtr (.t 27) (.c (.i .i64 80))⟩,z 29 (.pick (.t 25) (.c (.b true)) (.t 28))]) (.ite (.t
 29) (.seq (.au [] [z 30 (.call 12 []),zm 8 30]) (.ret)) (.skip))) (.seq (.au [] [zm 31 1,z 32 (.build [.nil,.i .i64 0] [(0,1,.t 31)]),z 33 (.box 31 (.t 32)),z 34 (.call 13
 [.t 33]),z 9 (.alloc 24 [.nil,.s [],.s [],.i .i64 0,.i .i64 0,.i .i64 0]),zs (.store 6 [some 3,none,none,none,none,none] (.t 9) (.t 34))]) (.seq (.seq (.au [] [zm 35 2,
 z 36 (.call 14 [.t 35,.c (.i .i64 7)])]) (.block 0 (.seq (.au [] [z 38 (.bin .eql (.t 36) (.c (.i .i64 1))),zm 37 38]) (.ite (.t 37) (.au [] [zf 39 0 9,zs (.store 1 [some 3]
 (.t 39) (.c .nil))]) (.seq (.au [] [z 41 (.bin .eql (.t 36) (.c (.i .i64 2))),zm 40 41]) (.ite (.t 40) (.au [] [zf 42 1 9,zs (.store 1 [none] (.t 42) (.c (.s [60])))]) (.seq
 (.au [] [z 44 (.bin .eql (.t 36) (.c (.i .i64 3))),zm 43 44]) (.ite (.t 43) (.au [] [zf 45 2 9,zs (.store 1 [none] (.t 45) (.c (.s [97,10])))]) (.seq (.au [] [z 47 (.bin .eql
 (.t 36) (.c (.i .i64 4))),zm 46 47]) (.ite (.t 46) (.au [] [zm 48 3,zf 49 3 9,zs (.store 1 [none] (.t 49) (.t 48))]) (.seq (.au [] [z 51 (.bin .eql (.t 36) (.c (.i .i64 5))),
 zm 50 51]) (.ite (.t 50) (.au [] [zm 52 3,zf 53 4 9,zs (.store 1 [none] (.t 53) (.t 52))]) (.seq (.au [] [z 55 (.bin .eql (.t 36) (.c (.i .i64 6))),zm 54 55]) (.ite (.t 54)
 (.au [] [zm 56 3,zf 57 5 9,zs (.store 1 [none] (.t 57) (.t 56))]) (.skip))))))))))))))) (.seq (.df [([zL 58 6 4,zL 60 6 4],z 59 (.call 15 [.t 58]),[zL 60 6 4]),([],z 61
 (.call 16 [.t 60]),[]),([z 62 (.bin .eql (.t 59) (.t 61)),zm 63 62,⟨some 64,[(63,true)],.load (some 6) (.t 9)⟩,⟨some 66,[(63,true)],.load (some 6) (.t 9)⟩],⟨some 65,
 [(63,true)],.call 15 [.t 64]⟩,[⟨some 66,[(63,true)],.load (some 6) (.t 9)⟩])] [] [64,65,66,67,68,71] [⟨some 67,[(63,true)],.call 16 [.t 66]⟩,⟨some 68,[(63,true)],
 .bin .eql (.t 65) (.t 67)⟩,z 69 (.pick (.t 63) (.t 68) (.c (.b false))),zm 70 69,⟨some 71,[(70,true)],.call 12 []⟩,z 72 (.pick (.t 70) (.t 71) (.c (.b false))),zm 8 72])
 (.ret)))))⟩
def Qk:bD:=.seq (.au [] [z 64 (.bin .lss (.t 63) (.t 62))]) (.seq (.ite (.t 64) (.skip) (.exit 0)) (.seq (.block 1 (.seq (.au [] [zm 65 63,zm 11 65]) (.seq (.df [([zm 66 8,zm 67 11,z 68
 (.idx 8 (.t 66) (.t 67)),zL 69 8 68,zm 70 9,zL 71 6 10,zm 73 8,zm 74 11,z 75 (.idx 8 (.t 73) (.t 74)),zL 76 8 75,zm 77 9,zL 78 6 10],z 72 (.call 20 [.t 69,.t 70,.t 71]),
 [z 75 (.idx 8 (.t 73) (.t 74)),zL 76 8 75,zL 78 6 10])] [] [] [z 79 (.call 21 [.t 76,.t 77,.t 78]),z 80 (.beq true [0,0,0,0,0] (.t 72) (.t 79))]) (.ite (.t 80) (.seq (.au
 [] [z 6 (.aS (.c (.b false)))]) (.ret)) (.skip))))) (.au [] [z 81 (.bin .add (.t 63) (.c (.i .i64 1))),zm 63 81])))
def p4:b9:=⟨94,[.t 6],.seq (.au [] [z 3 (.box 37 (.t 0)),z 4 (.box 24 (.t 1)),z 6 (.aS (.c (.b false)))]) (.seq (.seq (.au [20,21,22,23,24,25,26,27,28,29,30,31,32,33,34,
 35,36,37,38,39,40,41,42,43,46,47,48] [zf 12 0 3,zl 13 12,zf 14 0 4,zl 15 14,z 16 (.bC 1 [some 3] [.t 13,.t 15]),z 17 (.call 11 [.t 16]),z 18 (.un .not (.t
 17)),zm 19 18,⟨some 20,[(19,false)],.eR 2 (.t 3)⟩,⟨some 21,[(19,false)],.load none (.t 20)⟩,⟨some 22,[(19,false)],.len true (.t 21)⟩,⟨some 23,[(19,false)],.eR 3
 (.t 3)⟩,⟨some 24,[(19,false)],.load none (.t 23)⟩,⟨some 25,[(19,false)],.len true (.t 24)⟩,⟨some 26,[(19,false)],.bin .add (.t 22) (.t 25)⟩,⟨some 27,[(19,false)],
 .eR 1 (.t 4)⟩,⟨some 28,[(19,false)],.load none (.t 27)⟩,⟨some 29,[(19,false)],.len true (.t 28)⟩,⟨some 30,[(19,false)],.bin .add (.t 26) (.t 29)⟩,⟨some 31,[(19,
 false)],.eR 2 (.t 4)⟩,⟨some 32,[(19,false)],.load none (.t 31)⟩,⟨some 33,[(19,false)],.len true (.t 32)⟩,⟨some 34,[(19,false)],.bin .add (.t 30) (.t 33)⟩,⟨some 35,
 [(19,false)],.eR 4 (.t 3)⟩,⟨some 36,[(19,false)],.load none (.t 35)⟩,⟨some 37,[(19,false)],.len true (.t 36)⟩,⟨some 38,[(19,false)],.bin .add (.t 34) (.t 37)⟩,⟨some
 39,[(19,false)],.eR 5 (.t 3)⟩,⟨some 40,[(19,false)],.load none (.t 39)⟩,⟨some 41,[(19,false)],.len true (.t 40)⟩,⟨some 42,[(19,false)],.bin .add (.t 38) (.t 41)⟩,
 ⟨some 43,[(19,false)],.bin .gtr (.t 42) (.c (.i .i64 300))⟩,z 44 (.pick (.t 19) (.c (.b true)) (.t 43)),zm 45 44,⟨some 46,[(45,false)],.aS (.t 2)⟩,⟨some 47,[(45,
 false)],.len false (.t 46)⟩,⟨some 48,[(45,false)],.bin .gtr (.t 47) (.c (.i .i64 200))⟩,z 49 (.pick (.t 45) (.c (.b true)) (.t 48))]) (.ite (.t 49) (.seq (.au [] [z 50 (.call
 12 []),zm 6 50]) (.ret)) (.skip))) (.seq (.au [] [zm 51 2,z 52 (.build [.nil,.i .i64 0] [(0,1,.t 51)]),z 53 (.box 31 (.t 52)),zm 7 53]) (.seq (.au [] [zm 54 7,z 55 (.call
 17 [.t 54,.c (.i .i64 3)]),zm 8 55]) (.seq (.au [] [zm 56 7,z 57 (.call 18 [.t 56,.c (.i .i64 3)]),zm 9 57]) (.seq (.au [] [zm 58 7,zm 59 8,z 60 (.call 19 [.t 58,.t 59]),
 z 10 (.alloc 24 [.nil,.s [],.s [],.i .i64 0,.i .i64 0,.i .i64 0]),zs (.store 6 [some 3,none,none,none,none,none] (.t 10) (.t 60))]) (.seq (.seq (.au [] [zm 61 8,z 62
 (.len false (.t 61)),z 63 (.aS (.c (.i .i64 0)))]) (.block 0 (.loop Qk))) (.seq (.df [([zL 82 8 3,zm 83 9,zL 84 6 4,zL 86 8 3,zm 87 9,zL 88 6 4],z 85 (.call 20 [.t 82,
 .t 83,.t 84]),[zL 86 8 3,zL 88 6 4])] [] [92] [z 89 (.call 21 [.t 86,.t 87,.t 88]),z 90 (.beq false [0,0,0,0,0] (.t 85) (.t 89)),zm 91 90,⟨some 92,[(91,true)],.call
 12 []⟩,z 93 (.pick (.t 91) (.t 92) (.c (.b false))),zm 6 93]) (.ret))))))))⟩
theorem c4:ca prog f4=some p4:=by kernel_rfl
end Go.Proofs.Tryz
