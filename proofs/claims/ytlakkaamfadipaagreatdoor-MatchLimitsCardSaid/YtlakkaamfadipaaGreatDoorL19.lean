/- A part of a proof; the claim's last text says of what. -/
import Derived.Test.YtlakkaamfadipaaGreatDoorL18
set_option linter.all false

namespace Go.Proofs.Tryz
open Go Go.Pm
def p12:cy:=⟨55,[.t 0],.seq (.ax [] [z 0 (.bg (.c (.b false)))]) (.seq (.ax [] [z 7 (.build [.i .i64 0,.s [],.i .i64 0] [(0,1,.c (.i .i64 1)),(1,1,.c (.s [83,97,118,101]))]),z 8
 (.c6 3 [none,none,none] [.t 7]),z 9 (.build [.i .i64 0,.s [],.i .i64 0] [(0,1,.c (.i .i64 1)),(1,1,.c (.s [83,105,99,104,101,114,110]))]),z 10 (.c6 3 [none,
 none,none] [.t 9]),z 11 (.build [.nil,.nil,.s [],.s [],.s [],.s [],.i .i64 0,.i .i64 0] [(0,1,.t 8),(1,1,.t 10),(2,1,.c (.s [97])),(3,1,.c (.s [98])),(7,1,.c
 (.i .i64 3))]),z 1 (.alloc 37 [.nil,.nil,.s [],.s [],.s [],.s [],.i .i64 0,.i .i64 0]),zs (.store 8 [some 3,some 3,none,none,none,none,none,none] (.t 1) (.t 11))])
 (.seq (.ax [] [zf 12 0 1,zl 13 12,z 14 (.build [.nil,.s [],.s [],.i .i64 0,.i .i64 0,.i .i64 0] [(0,1,.t 13),(1,1,.c (.s [97])),(2,1,.c (.s [98])),(4,1,.c (.i
 .i64 50)),(5,1,.c (.i .i64 5))]),z 2 (.alloc 24 [.nil,.s [],.s [],.i .i64 0,.i .i64 0,.i .i64 0]),zs (.store 6 [some 3,none,none,none,none,none] (.t 2) (.t 14))])
 (.seq (.ax [] [zL 15 8 1,z 16 (.build [.i .i64 0,.s [],.s [],.i .i64 0,.i .i64 0] [(0,1,.c (.i .i64 3)),(4,1,.c (.i .i64 10))]),z 17 (.c6 5 [none,none,none,none,
 none] [.t 16]),zL 18 6 2,z 19 (.call 20 [.t 15,.t 17,.t 18]),z 3 (.alloc 44 [.i .i64 0,.i .i64 0,.i .i64 0,.i .i64 0,.i .i64 0]),zs (.store 5 [none,none,none,none,
 none] (.t 3) (.t 19))]) (.seq (.ax [] [z 20 (.call 26 []),zm 4 20]) (.seq (.seq (.ax [] [zm 21 4,zL 22 8 1,z 23 (.call 27 [.t 21,.t 22]),z 24 (.bin .neq (.t 23) (.c (.i .i64
 0)))]) (.ite (.t 24) (.seq (.ax [] [z 0 (.bg (.c (.b false)))]) (.ret)) (.skip))) (.seq (.ax [] [zm 26 4,zL 27 6 2,z 28 (.call 23 [.t 26,.c .nil,.t 27]),zm 25 28,z 29 (.ext
 0 (.t 25)),z 30 (.ext 1 (.t 25)),zm 5 29,zm 6 30]) (.seq (.ax [35,36,37,40,41,44,45,46,49,50,51,52,53] [zf 31 4 3,zl 32 31,z 33 (.bin .eql (.t 32) (.c (.i .i64
 92))),zm 34 33,⟨some 35,[(34,true)],.gi 2 (.t 3)⟩,⟨some 36,[(34,true)],.load none (.t 35)⟩,⟨some 37,[(34,true)],.bin .eql (.t 36) (.c (.i .i64 2))⟩,z 38 (.pick (.t
 34) (.t 37) (.c (.b false))),zm 39 38,⟨some 40,[(39,true)],.bg (.t 6)⟩,⟨some 41,[(39,true)],.bin .eql (.t 40) (.c (.i .i64 0))⟩,z 42 (.pick (.t 39) (.t 41) (.c (.b
 false))),zm 43 42,⟨some 44,[(43,true)],.bg (.t 5)⟩,⟨some 45,[(43,true)],.len false (.t 44)⟩,⟨some 46,[(43,true)],.bin .eql (.t 45) (.c (.i .i64 1))⟩,z 47 (.pick (.t
 43) (.t 46) (.c (.b false))),zm 48 47,⟨some 49,[(48,true)],.bg (.t 5)⟩,⟨some 50,[(48,true)],.idx 5 (.t 49) (.c (.i .i64 0))⟩,⟨some 51,[(48,true)],.gi 4 (.t 50)⟩,
 ⟨some 52,[(48,true)],.load none (.t 51)⟩,⟨some 53,[(48,true)],.bin .eql (.t 52) (.c (.i .i64 102))⟩,z 54 (.pick (.t 48) (.t 53) (.c (.b false))),zm 0 54]) (.ret))))))))⟩
theorem c12:cA prog f12=some p12:=by kernel_rfl
def p3:cy:=⟨73,[.t 8],.seq (.ax [] [z 4 (.box 24 (.t 0)),z 8 (.bg (.c (.b false)))]) (.seq (.seq (.ax [16,17,18,19,20,21,22,23,26,27,28] [zf 10 0 4,zl 11 10,z 12 (.c6 1
 [some 3] [.t 11]),z 13 (.call 11 [.t 12]),z 14 (.un .not (.t 13)),zm 15 14,⟨some 16,[(15,false)],.gi 1 (.t 4)⟩,⟨some 17,[(15,false)],.load none (.t 16)⟩,⟨some 18,[(15,
 false)],.len true (.t 17)⟩,⟨some 19,[(15,false)],.gi 2 (.t 4)⟩,⟨some 20,[(15,false)],.load none (.t 19)⟩,⟨some 21,[(15,false)],.len true (.t 20)⟩,⟨some 22,[(15,
 false)],.bin .add (.t 18) (.t 21)⟩,⟨some 23,[(15,false)],.bin .gtr (.t 22) (.c (.i .i64 200))⟩,z 24 (.pick (.t 15) (.c (.b true)) (.t 23)),zm 25 24,⟨some 26,[(25,false)],
 .bg (.t 1)⟩,⟨some 27,[(25,false)],.len false (.t 26)⟩,⟨some 28,[(25,false)],.bin .gtr (.t 27) (.c (.i .i64 80))⟩,z 29 (.pick (.t 25) (.c (.b true)) (.t 28))]) (.ite (.t
 29) (.seq (.ax [] [z 30 (.call 12 []),zm 8 30]) (.ret)) (.skip))) (.seq (.ax [] [zm 31 1,z 32 (.build [.nil,.i .i64 0] [(0,1,.t 31)]),z 33 (.box 31 (.t 32)),z 34 (.call 13
 [.t 33]),z 9 (.alloc 24 [.nil,.s [],.s [],.i .i64 0,.i .i64 0,.i .i64 0]),zs (.store 6 [some 3,none,none,none,none,none] (.t 9) (.t 34))]) (.seq (.seq (.ax [] [zm 35 2,
 z 36 (.call 14 [.t 35,.c (.i .i64 7)])]) (.block 0 (.seq (.ax [] [z 38 (.bin .eql (.t 36) (.c (.i .i64 1))),zm 37 38]) (.ite (.t 37) (.ax [] [zf 39 0 9,zs (.store 1 [some 3]
 (.t 39) (.c .nil))]) (.seq (.ax [] [z 41 (.bin .eql (.t 36) (.c (.i .i64 2))),zm 40 41]) (.ite (.t 40) (.ax [] [zf 42 1 9,zs (.store 1 [none] (.t 42) (.c (.s [60])))]) (.seq
 (.ax [] [z 44 (.bin .eql (.t 36) (.c (.i .i64 3))),zm 43 44]) (.ite (.t 43) (.ax [] [zf 45 2 9,zs (.store 1 [none] (.t 45) (.c (.s [97,10])))]) (.seq (.ax [] [z 47 (.bin .eql
 (.t 36) (.c (.i .i64 4))),zm 46 47]) (.ite (.t 46) (.ax [] [zm 48 3,zf 49 3 9,zs (.store 1 [none] (.t 49) (.t 48))]) (.seq (.ax [] [z 51 (.bin .eql (.t 36) (.c (.i .i64 5))),
 zm 50 51]) (.ite (.t 50) (.ax [] [zm 52 3,zf 53 4 9,zs (.store 1 [none] (.t 53) (.t 52))]) (.seq (.ax [] [z 55 (.bin .eql (.t 36) (.c (.i .i64 6))),zm 54 55]) (.ite (.t 54)
 (.ax [] [zm 56 3,zf 57 5 9,zs (.store 1 [none] (.t 57) (.t 56))]) (.skip))))))))))))))) (.seq (.dG [([zL 58 6 4,zL 60 6 4],z 59 (.call 15 [.t 58]),[zL 60 6 4]),([],z 61
 (.call 16 [.t 60]),[]),([z 62 (.bin .eql (.t 59) (.t 61)),zm 63 62,⟨some 64,[(63,true)],.load (some 6) (.t 9)⟩,⟨some 66,[(63,true)],.load (some 6) (.t 9)⟩],⟨some 65,
 [(63,true)],.call 15 [.t 64]⟩,[⟨some 66,[(63,true)],.load (some 6) (.t 9)⟩])] [] [64,65,66,67,68,71] [⟨some 67,[(63,true)],.call 16 [.t 66]⟩,⟨some 68,[(63,true)],
 .bin .eql (.t 65) (.t 67)⟩,z 69 (.pick (.t 63) (.t 68) (.c (.b false))),zm 70 69,⟨some 71,[(70,true)],.call 12 []⟩,z 72 (.pick (.t 70) (.t 71) (.c (.b false))),zm 8 72])
 (.ret)))))⟩
def JV:bE:=.seq (.seq (.ax [] [zm 23 8,zm 24 0,z 25 (.bin .lss (.t 23) (.t 24))]) (.ite (.t 25) (.skip) (.exit 0))) (.seq (.block 1 (.seq (.ax [] [zm 28 8,z 29 (.bin .quo (.t 28) (.c (.i
 .i64 400))),z 30 (.bin .add (.c (.i .i64 97)) (.t 29)),z 31 (.De .u8 (.t 30)),zm 32 8,z 33 (.bin .quo (.t 32) (.c (.i .i64 20))),z 34 (.bin .rem (.t 33) (.c (.i .i64 20))),z
 35 (.bin .add (.c (.i .i64 97)) (.t 34)),z 36 (.De .u8 (.t 35)),zm 37 8,z 38 (.bin .rem (.t 37) (.c (.i .i64 20))),z 39 (.bin .add (.c (.i .i64 97)) (.t 38)),z 40 (.De .u8
 (.t 39)),z 41 (.c6 1 [none] [.t 31,.t 36,.t 40]),z 42 (.Fc (.t 41)),zm 9 42]) (.seq (.ax [] [z 10 (.bg (.c (.i .i64 0)))]) (.seq (.seq (.ax [] [zm 43 8,z 44 (.bin .geq
 (.t 43) (.c (.i .i64 1024)))]) (.ite (.t 44) (.ax [] [z 10 (.bg (.c (.i .i64 3)))]) (.skip))) (.seq (.ax [] [zm 45 7,zm 46 9,z 47 (.bin .add (.c (.s [120,32])) (.t 46)),z 48
 (.build [.i .i64 0,.s [],.i .i64 0] [(0,1,.c (.i .i64 1)),(1,1,.t 47)]),z 49 (.c6 3 [none,none,none] [.t 48]),z 50 (.build [.nil,.nil,.s [],.s [],.s [],.s [],.i
 .i64 0,.i .i64 0] [(0,1,.t 49),(7,1,.c (.i .i64 1))]),z 51 (.call 27 [.t 45,.t 50]),zm 52 10,z 53 (.bin .neq (.t 51) (.t 52))]) (.ite (.t 53) (.seq (.ax [] [z 6 (.bg (.c
 (.b false)))]) (.ret)) (.skip))))))) (.ax [] [zm 26 8,z 27 (.bin .add (.t 26) (.c (.i .i64 1))),zm 8 27]))
def MV:bE:=.seq (.ax [] [z 79 (.bin .lss (.t 78) (.t 77))]) (.seq (.ite (.t 79) (.skip) (.exit 2)) (.seq (.block 3 (.seq (.ax [] [zm 80 78,zm 13 80]) (.seq (.ax [88,89,90,91,92,93,
 94] [zm 81 11,zm 82 13,z 83 (.idx 5 (.t 81) (.t 82)),zf 84 1 83,zl 85 84,z 86 (.bin .neq (.t 85) (.c (.i .i64 55))),zm 87 86,⟨some 88,[(87,false)],.bg (.t 11)⟩,⟨some 89,
 [(87,false)],.bg (.t 13)⟩,⟨some 90,[(87,false)],.idx 5 (.t 88) (.t 89)⟩,⟨some 91,[(87,false)],.gi 0 (.t 90)⟩,⟨some 92,[(87,false)],.load none (.t 91)⟩,⟨some 93,
 [(87,false)],.bg (.t 13)⟩,⟨some 94,[(87,false)],.bin .neq (.t 92) (.t 93)⟩,z 95 (.pick (.t 87) (.c (.b true)) (.t 94))]) (.ite (.t 95) (.seq (.ax [] [z 6 (.bg (.c (.b
 false)))]) (.ret)) (.skip))))) (.ax [] [z 96 (.bin .add (.t 78) (.c (.i .i64 1))),zm 78 96])))
def p7:cy:=⟨106,[.t 6],.seq (.ax [] [z 6 (.bg (.c (.b false)))]) (.seq (.ax [] [z 14 (.call 26 []),zm 7 14]) (.seq (.ax [] [zm 15 0,z 16 (.call 14 [.t 15,.c (.i .i64 3)]),z 17 (.bin
 .add (.c (.i .i64 5)) (.t 16)),zm 0 17]) (.seq (.seq (.ax [] [zm 18 2,z 19 (.call 14 [.t 18,.c (.i .i64 40)]),z 20 (.bin .eql (.t 19) (.c (.i .i64 1)))]) (.ite (.t 20) (.ax []
 [zm 21 0,z 22 (.bin .add (.t 21) (.c (.i .i64 1018))),zm 0 22]) (.skip))) (.seq (.seq (.ax [] [z 8 (.bg (.c (.i .i64 0)))]) (.block 0 (.loop JV))) (.seq (.ax [] [zm 54 1,z
 55 (.call 14 [.t 54,.c (.i .i64 100)]),z 56 (.bin .add (.c (.i .i64 1)) (.t 55)),zm 1 56]) (.seq (.ax [] [zm 58 7,z 59 (.build [.i .i64 0,.s [],.i .i64 0] [(0,1,.c (.i .i64
 1)),(1,1,.c (.s [120,32,98]))]),z 60 (.c6 3 [none,none,none] [.t 59]),zm 61 1,z 62 (.build [.nil,.s [],.s [],.i .i64 0,.i .i64 0,.i .i64 0] [(0,1,.t 60),(4,1,
 .c (.i .i64 50)),(5,1,.t 61)]),z 63 (.call 23 [.t 58,.c .nil,.t 62]),zm 57 63,z 64 (.ext 0 (.t 57)),z 65 (.ext 1 (.t 57)),zm 11 64,zm 12 65]) (.seq (.seq (.ax [69,70,
 71,72,73,74] [zm 66 12,z 67 (.bin .neq (.t 66) (.c (.i .i64 0))),zm 68 67,⟨some 69,[(68,false)],.bg (.t 11)⟩,⟨some 70,[(68,false)],.len false (.t 69)⟩,⟨some 71,[(68,
 false)],.bg (.t 1)⟩,⟨some 72,[(68,false)],.bg (.t 0)⟩,⟨some 73,[(68,false)],.min2 (.t 71) (.t 72)⟩,⟨some 74,[(68,false)],.bin .neq (.t 70) (.t 73)⟩,z 75 (.pick (.t
 68) (.c (.b true)) (.t 74))]) (.ite (.t 75) (.seq (.ax [] [z 6 (.bg (.c (.b false)))]) (.ret)) (.skip))) (.seq (.seq (.ax [] [zm 76 11,z 77 (.len false (.t 76)),z 78 (.bg (.c
 (.i .i64 0)))]) (.block 2 (.loop MV))) (.seq (.ax [104] [zm 97 7,z 98 (.call 28 [.t 97]),z 99 (.len false (.t 98)),zm 100 0,z 101 (.min2 (.t 100) (.c (.i .i64 1024))),z 102
 (.bin .eql (.t 99) (.t 101)),zm 103 102,⟨some 104,[(103,true)],.call 12 []⟩,z 105 (.pick (.t 103) (.t 104) (.c (.b false))),zm 6 105]) (.ret))))))))))⟩
theorem c7:cA prog f7=some p7:=by kernel_rfl
end Go.Proofs.Tryz
