/- A part of a proof; the claim's last text says of what. -/
import Derived.Test.YtlakkaamfadipaaGreatDoorProg
import Derived.KernelRfl
import Derived.Test.YtlakkaamfadipaaGreatDoorL16
set_option linter.all false

namespace Go.Proofs.Tryz
open Go Go.Pm
def Cg:bE:=.seq (.seq (.ax [] [zm 30 6,z 31 (.bin .neq (.t 30) (.c (.s [])))]) (.ite (.t 31) (.skip) (.exit 3))) (.block 4 (.seq (.ax [] [zm 33 6,z 34 (.call 109 [.t 33]),zm 32 34,z 35
 (.ext 0 (.t 32)),z 36 (.ext 1 (.t 32)),zm 7 35,zm 8 36]) (.seq (.ax [] [zm 37 3,zm 38 7,zm 39 6,zm 40 8,z 41 (.fN (.t 39) none (some (.t 40))),z 42 (.build [.i .i64 0,
 .s [],.i .i64 0] [(0,1,.t 38),(1,1,.t 41)]),z 43 (.c6 3 [none,none,none] [.t 42]),z 44 (.app 150 3 32 (.t 37) (.t 43)),zm 3 44]) (.ax [] [zm 45 6,zm 46 8,z 47
 (.fN (.t 45) (some (.t 46)) none),zm 6 47]))))
def vX:bE:=.seq (.ax [] [z 12 (.bin .lss (.t 11) (.t 10))]) (.seq (.ite (.t 12) (.skip) (.exit 0)) (.seq (.block 1 (.seq (.ax [] [z 13 (.idx 3 (.t 9) (.t 11)),zL 14 3 13,z 5 (.alloc 61 [.i
 .i64 0,.s [],.i .i64 0]),zs (.store 3 [none,none,none] (.t 5) (.t 14))]) (.seq (.ax [] [zf 15 0 5,zl 16 15]) (.block 2 (.seq (.seq (.ax [] [z 18 (.bin .eql (.t 16) (.c (.i
 .i64 2))),zm 17 18]) (.ite (.t 17) (.skip) (.seq (.ax [] [z 19 (.bin .eql (.t 16) (.c (.i .i64 3))),zm 17 19]) (.ite (.t 17) (.skip) (.seq (.ax [] [z 20 (.bin .eql (.t 16) (.c
 (.i .i64 4))),zm 17 20]) (.ite (.t 17) (.skip) (.ax [] [z 21 (.bin .eql (.t 16) (.c (.i .i64 5))),zm 17 21]))))))) (.ite (.t 17) (.ax [] [zm 22 3,zL 23 3 5,z 24 (.c6 3
 [none,none,none] [.t 23]),z 25 (.app 150 3 32 (.t 22) (.t 24)),zm 3 25]) (.seq (.ax [] [z 27 (.bin .eql (.t 16) (.c (.i .i64 1))),zm 26 27]) (.ite (.t 26) (.seq (.ax [] [zf
 28 1 5,zl 29 28,zm 6 29]) (.block 3 (.loop Cg))) (.skip))))))))) (.ax [] [z 48 (.bin .add (.t 11) (.c (.i .i64 1))),zm 11 48])))
def p51:cy:=⟨50,[.t 2],.seq (.ax [] [z 2 (.bg (.c .nil))]) (.seq (.ax [] [z 3 (.bg (.c .nil))]) (.seq (.seq (.ax [] [zm 9 0,z 10 (.len false (.t 9)),z 11 (.bg (.c (.i .i64 0)))])
 (.block 0 (.loop vX))) (.seq (.ax [] [zm 49 3,zm 2 49]) (.ret))))⟩
theorem c51:cA prog f51=some p51:=by kernel_rfl
def Av:bE:=.seq (.seq (.ax [23,24,25,26,27] [zm 18 4,zm 19 0,z 20 (.len true (.t 19)),z 21 (.bin .lss (.t 18) (.t 20)),zm 22 21,⟨some 23,[(22,true)],.bg (.t 0)⟩,⟨some 24,[(22,
 true)],.bg (.t 4)⟩,⟨some 25,[(22,true)],.gY (.t 23) (.t 24)⟩,⟨some 26,[(22,true)],.call 168 [.t 25]⟩,⟨some 27,[(22,true)],.bin .eql (.t 26) (.c (.i .i64 2))⟩,z 28
 (.pick (.t 22) (.t 27) (.c (.b false)))]) (.ite (.t 28) (.skip) (.exit 1))) (.block 2 (.ax [] [zm 29 4,z 30 (.bin .add (.t 29) (.c (.i .i64 1))),zm 4 30]))
def Uq:cy:=⟨32,[.t 2,.t 3],.seq (.ax [] [z 2 (.bg (.c (.i .i64 0))),z 3 (.bg (.c (.i .i64 0)))]) (.seq (.seq (.ax [] [zm 5 0,z 6 (.gY (.t 5) (.c (.i .i64 0))),z 7 (.call 168 [.t
 6])]) (.block 0 (.seq (.ax [] [z 9 (.bin .eql (.t 7) (.c (.i .i64 4))),zm 8 9]) (.ite (.t 8) (.seq (.ax [] [zm 10 0,z 11 (.call 169 [.t 10,.c (.s [39,45]),.c (.fn 170 [])]),
 z 2 (.bg (.c (.i .i64 6))),zm 3 11]) (.ret)) (.seq (.ax [] [z 13 (.bin .eql (.t 7) (.c (.i .i64 3))),zm 12 13]) (.ite (.t 12) (.seq (.ax [] [zm 14 0,z 15 (.call 169 [.t 14,.c
 (.s [46,44]),.c (.fn 171 [])]),z 2 (.bg (.c (.i .i64 7))),zm 3 15]) (.ret)) (.seq (.ax [] [z 17 (.bin .eql (.t 7) (.c (.i .i64 2))),zm 16 17]) (.ite (.t 16) (.seq (.ax [] [z
 4 (.bg (.c (.i .i64 1)))]) (.seq (.block 1 (.loop Av)) (.seq (.ax [] [zm 31 4,z 2 (.bg (.c (.i .i64 8))),zm 3 31]) (.ret)))) (.skip))))))))) (.seq (.ax [] [z 2 (.bg (.c
 (.i .i64 9))),z 3 (.bg (.c (.i .i64 1)))]) (.ret)))⟩
theorem aac:cA prog f109=some Uq:=by kernel_rfl
def TR:cy:=⟨12,[.t 2],.seq (.ax [] [z 2 (.bg (.c (.b false)))]) (.seq (.ax [] [zm 4 0,z 5 (.call 168 [.t 4]),zm 3 5]) (.seq (.ax [9,10] [zm 6 3,z 7 (.bin .eql (.t 6) (.c (.i .i64
 4))),zm 8 7,⟨some 9,[(8,false)],.bg (.t 3)⟩,⟨some 10,[(8,false)],.bin .eql (.t 9) (.c (.i .i64 3))⟩,z 11 (.pick (.t 8) (.c (.b true)) (.t 10)),zm 2 11]) (.ret)))⟩
theorem ZI:cA prog f170=some TR:=by kernel_rfl
def TQ:cy:=⟨6,[.t 2],.seq (.ax [] [z 2 (.bg (.c (.b false)))]) (.seq (.ax [] [zm 3 0,z 4 (.call 168 [.t 3]),z 5 (.bin .eql (.t 4) (.c (.i .i64 3))),zm 2 5]) (.ret))⟩
theorem ZH:cA prog f171=some TQ:=by kernel_rfl
def v8:bE:=.seq (.seq (.ax [] [zm 8 7,zm 9 0,z 10 (.len true (.t 9)),z 11 (.bin .lss (.t 8) (.t 10))]) (.ite (.t 11) (.skip) (.exit 0))) (.block 1 (.block 2 (.seq (.ax [] [zm 14 2,zm 15
 0,zm 16 7,z 17 (.gY (.t 15) (.t 16)),z 18 (.jA (.t 14) [.t 17]),zm 13 18]) (.ite (.t 13) (.ax [] [zm 19 7,z 20 (.bin .add (.t 19) (.c (.i .i64 1))),zm 7 20]) (.seq
 (.dG [] [zm 22 0,zm 23 7,z 24 (.gY (.t 22) (.t 23)),zm 25 1,z 26 (.gY (.t 25) (.c (.i .i64 0))),z 27 (.bin .eql (.t 24) (.t 26)),zm 28 27,⟨some 29,[(28,false)],.bg
 (.t 0)⟩,⟨some 30,[(28,false)],.bg (.t 7)⟩,⟨some 31,[(28,false)],.gY (.t 29) (.t 30)⟩,⟨some 32,[(28,false)],.bg (.t 1)⟩,⟨some 33,[(28,false)],.gY (.t 32) (.c
 (.i .i64 1))⟩,⟨some 34,[(28,false)],.bin .eql (.t 31) (.t 33)⟩,z 35 (.pick (.t 28) (.c (.b true)) (.t 34)),zm 36 35,⟨some 37,[(36,true)],.bg (.t 7)⟩,⟨some 38,[(36,
 true)],.bin .add (.t 37) (.c (.i .i64 1))⟩,⟨some 39,[(36,true)],.bg (.t 0)⟩,⟨some 40,[(36,true)],.len true (.t 39)⟩,⟨some 41,[(36,true)],.bin .lss (.t 38) (.t 40)⟩,z
 42 (.pick (.t 36) (.t 41) (.c (.b false))),zm 43 42,⟨some 44,[(43,true)],.bg (.t 2)⟩,⟨some 45,[(43,true)],.bg (.t 0)⟩,⟨some 46,[(43,true)],.bg (.t 7)⟩,⟨some 47,
 [(43,true)],.bin .add (.t 46) (.c (.i .i64 1))⟩,⟨some 48,[(43,true)],.gY (.t 45) (.t 47)⟩] [29,30,31,32,33,34,37,38,39,40,41,44,45,46,47,48,49] [⟨some 49,
 [(43,true)],.jA (.t 44) [.t 48]⟩,z 50 (.pick (.t 43) (.t 49) (.c (.b false))),zm 21 50]) (.ite (.t 21) (.ax [] [zm 51 7,z 52 (.bin .add (.t 51) (.c (.i .i64 2))),zm 7 52])
 (.seq (.ax [] [zm 12 7,zm 6 12]) (.ret))))))))
def TS:cy:=⟨54,[.t 6],.seq (.ax [] [z 6 (.bg (.c (.i .i64 0)))]) (.seq (.ax [] [z 7 (.bg (.c (.i .i64 1)))]) (.seq (.block 0 (.loop v8)) (.seq (.ax [] [zm 53 7,zm 6 53]) (.ret))))⟩
theorem ZJ:cA prog f169=some TS:=by kernel_rfl
def TJ:cy:=⟨17,[.t 2],.seq (.ax [] [z 1 (.box 150 (.t 0)),z 2 (.bg (.c (.i .i64 0)))]) (.seq (.seq (.ax [] [zf 3 0 1,zl 4 3]) (.block 0 (.seq (.seq (.ax [] [z 6 (.bin .eql (.t 4) (.c
 (.i .i64 6))),zm 5 6]) (.ite (.t 5) (.skip) (.ax [] [z 7 (.bin .eql (.t 4) (.c (.i .i64 5))),zm 5 7]))) (.ite (.t 5) (.seq (.ax [] [z 2 (.bg (.c (.i .i64 4)))]) (.ret)) (.seq
 (.seq (.ax [] [z 9 (.bin .eql (.t 4) (.c (.i .i64 7))),zm 8 9]) (.ite (.t 8) (.skip) (.seq (.ax [] [z 10 (.bin .eql (.t 4) (.c (.i .i64 2))),zm 8 10]) (.ite (.t 8) (.skip) (.seq
 (.ax [] [z 11 (.bin .eql (.t 4) (.c (.i .i64 3))),zm 8 11]) (.ite (.t 8) (.skip) (.ax [] [z 12 (.bin .eql (.t 4) (.c (.i .i64 4))),zm 8 12]))))))) (.ite (.t 8) (.seq (.ax [] [z
 2 (.bg (.c (.i .i64 3)))]) (.ret)) (.seq (.ax [] [z 14 (.bin .eql (.t 4) (.c (.i .i64 9))),zm 13 14]) (.ite (.t 13) (.seq (.ax [] [z 2 (.bg (.c (.i .i64 2)))]) (.ret)) (.seq
 (.ax [] [z 16 (.bin .eql (.t 4) (.c (.i .i64 8))),zm 15 16]) (.ite (.t 15) (.seq (.ax [] [z 2 (.bg (.c (.i .i64 1)))]) (.ret)) (.skip))))))))))) (.seq (.ax [] [z 2 (.bg (.c
 (.i .i64 0)))]) (.ret)))⟩
theorem ZB:cA prog f184=some TJ:=by kernel_rfl
def Af:bE:=.seq (.ax [] [z 9 (.bin .lss (.t 8) (.t 7))]) (.seq (.ite (.t 9) (.skip) (.exit 0)) (.seq (.block 1 (.seq (.ax [] [z 10 (.idx 3 (.t 6) (.t 8)),zL 11 3 10,z 5 (.alloc 150 [.i
 .i64 0,.s [],.i .i64 0]),zs (.store 3 [none,none,none] (.t 5) (.t 11))]) (.ax [] [zm 12 3,zL 13 3 5,z 14 (.call 184 [.t 13]),z 15 (.bin .add (.t 12) (.t 14)),zm 3 15])))
 (.ax [] [z 16 (.bin .add (.t 8) (.c (.i .i64 1))),zm 8 16])))
def TN:cy:=⟨18,[.t 2],.seq (.ax [] [z 2 (.bg (.c (.i .i64 0)))]) (.seq (.ax [] [z 3 (.bg (.c (.i .i64 0)))]) (.seq (.seq (.ax [] [zm 6 0,z 7 (.len false (.t 6)),z 8 (.bg (.c (.i .i64
 0)))]) (.block 0 (.loop Af))) (.seq (.ax [] [zm 17 3,zm 2 17]) (.ret))))⟩
theorem ZE:cA prog f181=some TN:=by kernel_rfl
def Th:cy:=⟨17,[.t 4],.seq (.ax [] [z 2 (.box 150 (.t 0)),z 3 (.box 150 (.t 1)),z 4 (.bg (.c (.b false)))]) (.seq (.ax [11,12,13,14,15] [zf 5 0 2,zl 6 5,zf 7 0 3,zl 8 7,z 9
 (.bin .eql (.t 6) (.t 8)),zm 10 9,⟨some 11,[(10,true)],.gi 1 (.t 2)⟩,⟨some 12,[(10,true)],.load none (.t 11)⟩,⟨some 13,[(10,true)],.gi 1 (.t 3)⟩,⟨some 14,[(10,
 true)],.load none (.t 13)⟩,⟨some 15,[(10,true)],.bin .eql (.t 12) (.t 14)⟩,z 16 (.pick (.t 10) (.t 15) (.c (.b false))),zm 4 16]) (.ret))⟩
theorem Za:cA prog f251=some Th:=by kernel_rfl
def Tr:cy:=⟨11,[.t 2],.seq (.ax [] [z 1 (.box 150 (.t 0)),z 2 (.bg (.c (.s [])))]) (.seq (.seq (.ax [] [zf 3 0 1,zl 4 3,z 5 (.bin .eql (.t 4) (.c (.i .i64 6)))]) (.ite (.t 5) (.seq
 (.ax [] [zf 6 1 1,zl 7 6,z 8 (.call 257 [.t 7]),zm 2 8]) (.ret)) (.skip))) (.seq (.ax [] [zf 9 1 1,zl 10 9,zm 2 10]) (.ret)))⟩
theorem Zj:cA prog f224=some Tr:=by kernel_rfl
def Ag:bE:=.seq (.ax [] [z 9 (.bin .lss (.t 8) (.t 7))]) (.seq (.ite (.t 9) (.skip) (.exit 0)) (.seq (.block 1 (.seq (.ax [] [z 10 (.idx 3 (.t 6) (.t 8)),zL 11 3 10,z 5 (.alloc 150 [.i
 .i64 0,.s [],.i .i64 0]),zs (.store 3 [none,none,none] (.t 5) (.t 11))]) (.seq (.ax [] [zf 12 0 5,zl 13 12,z 14 (.bin .eql (.t 13) (.c (.i .i64 6)))]) (.ite (.t 14) (.ax []
 [zm 15 3,zL 16 3 5,z 17 (.call 224 [.t 16]),z 18 (.c6 1 [none] [.t 17]),z 19 (.app 9 1 16 (.t 15) (.t 18)),zm 3 19]) (.skip))))) (.ax [] [z 20 (.bin .add (.t 8) (.c (.i
 .i64 1))),zm 8 20])))
def TO:cy:=⟨22,[.t 2],.seq (.ax [] [z 2 (.bg (.c .nil))]) (.seq (.ax [] [z 3 (.bg (.c .nil))]) (.seq (.seq (.ax [] [zm 6 0,z 7 (.len false (.t 6)),z 8 (.bg (.c (.i .i64 0)))])
 (.block 0 (.loop Ag))) (.seq (.ax [] [zm 21 3,zm 2 21]) (.ret))))⟩
theorem ZF:cA prog f180=some TO:=by kernel_rfl
def Ah:bE:=.seq (.ax [] [z 14 (.bin .lss (.t 13) (.t 12))]) (.seq (.ite (.t 14) (.skip) (.exit 0)) (.seq (.block 1 (.seq (.ax [] [z 15 (.idx 1 (.t 11) (.t 13)),zl 16 15,zm 6 16]) (.seq
 (.dG [([zm 17 3,zm 18 4,zm 19 6,z 20 (.build [.s [],.s []] [(0,1,.t 18),(1,1,.t 19)]),z 21 (.look 4 (.i .i64 0) false (.t 17) (.t 20)),z 22 (.bin .add (.t 21) (.c (.i
 .i64 1)))],z 23 (.rE 4 (.i .i64 0) (.t 17) (.t 20)),[z 21 (.look 4 (.i .i64 0) false (.t 17) (.t 20))])] [z 24 (.ext 1 (.t 23))] [] [zs (.rD [none] (.t 17) (.t 24) (.t 22))])
 (.ax [] [zm 25 6,zm 4 25])))) (.ax [] [z 26 (.bin .add (.t 13) (.c (.i .i64 1))),zm 13 26])))
def v7:bE:=.seq (.ax [] [z 36 (.next (.t 35)),z 37 (.ext 0 (.t 36))]) (.seq (.ite (.t 37) (.skip) (.exit 2)) (.block 3 (.seq (.ax [] [z 38 (.Gy (.t 35)),z 39 (.ext 0 (.t 38)),z 40 (.ext
 1 (.t 38)),z 8 (.alloc 246 [.s [],.s []]),zs (.store 2 [none,none] (.t 8) (.t 39)),zm 9 40]) (.ax [] [zm 41 7,zf 42 0 8,zl 43 42,zf 44 1 8,zl 45 44,zm 46 9,z 47 (.build
 [.s [],.s [],.i .i64 0] [(0,1,.t 43),(1,1,.t 45),(2,1,.t 46)]),z 48 (.c6 3 [none,none,none] [.t 47]),z 49 (.app 182 3 40 (.t 41) (.t 48)),zm 7 49]))))
def TP:cy:=⟨53,[.t 2],.seq (.ax [] [z 2 (.bg (.c .nil))]) (.seq (.ax [] [z 10 (.kU 246 3),zm 3 10]) (.seq (.ax [] [z 4 (.bg (.c (.s [])))]) (.seq (.seq (.ax [] [zm 11 0,z 12 (.len
 false (.t 11)),z 13 (.bg (.c (.i .i64 0)))]) (.block 0 (.loop Ah))) (.seq (.dG [([zm 27 3,zm 28 4,z 29 (.build [.s [],.s []] [(0,1,.t 28),(1,1,.c (.s []))]),z 30
 (.look 4 (.i .i64 0) false (.t 27) (.t 29)),z 31 (.bin .add (.t 30) (.c (.i .i64 1)))],z 32 (.rE 4 (.i .i64 0) (.t 27) (.t 29)),[z 30 (.look 4 (.i .i64 0) false (.t 27) (.t
 29))])] [z 33 (.ext 1 (.t 32))] [] [zs (.rD [none] (.t 27) (.t 33) (.t 31))]) (.seq (.ax [] [z 7 (.bg (.c .nil))]) (.seq (.seq (.ax [] [zm 34 3,z 35 (.range (.t 34))]) (.block
 2 (.loop v7))) (.seq (.ax [] [zm 50 7,z 51 (.call 222 [.t 50,.c (.fn 223 [])])]) (.seq (.ax [] [zm 52 7,zm 2 52]) (.ret)))))))))⟩
theorem ZG:cA prog f179=some TP:=by kernel_rfl
def Ts:cy:=⟨17,[.t 4],.seq (.ax [] [z 2 (.box 182 (.t 0)),z 3 (.box 182 (.t 1)),z 4 (.bg (.c (.i .i64 0)))]) (.seq (.dG [([zf 5 0 2,zl 6 5,zf 7 0 3,zl 8 7,zf 10 1 2,zl 11 10,zf
 12 1 3,zl 13 12],z 9 (.call 133 [.t 6,.t 8]),[zf 10 1 2,zl 11 10,zf 12 1 3,zl 13 12])] [] [] [z 14 (.call 133 [.t 11,.t 13]),z 15 (.c6 1 [none] [.t 9,.t 14]),z 16
 (.call 62 [.t 15]),zm 4 16]) (.ret))⟩
theorem Zk:cA prog f223=some Ts:=by kernel_rfl
def Tq:cy:=⟨16,[.t 2],.seq (.ax [] [z 1 (.box 150 (.t 0)),z 2 (.bg (.c (.b false)))]) (.seq (.ax [7,8,9,12,13,14] [zf 3 0 1,zl 4 3,z 5 (.bin .eql (.t 4) (.c (.i .i64 2))),zm 6 5,
 ⟨some 7,[(6,false)],.gi 0 (.t 1)⟩,⟨some 8,[(6,false)],.load none (.t 7)⟩,⟨some 9,[(6,false)],.bin .eql (.t 8) (.c (.i .i64 3))⟩,z 10 (.pick (.t 6) (.c (.b true)) (.t
 9)),zm 11 10,⟨some 12,[(11,false)],.gi 0 (.t 1)⟩,⟨some 13,[(11,false)],.load none (.t 12)⟩,⟨some 14,[(11,false)],.bin .eql (.t 13) (.c (.i .i64 4))⟩,z 15 (.pick (.t
 11) (.c (.b true)) (.t 14)),zm 2 15]) (.ret))⟩
theorem Zi:cA prog f225=some Tq:=by kernel_rfl
def TM:cy:=⟨24,[.c 2 (some 3),.t 3],.seq (.ax [] [z 1 (.box 150 (.t 0)),z 2 (.alloc 150 [.i .i64 0,.s [],.i .i64 0]),z 3 (.bg (.c (.b false)))]) (.seq (.seq (.ax [] [zf 4 0 1,zl 5
 4]) (.block 0 (.seq (.seq (.ax [] [z 7 (.bin .eql (.t 5) (.c (.i .i64 6))),zm 6 7]) (.ite (.t 6) (.skip) (.seq (.ax [] [z 8 (.bin .eql (.t 5) (.c (.i .i64 7))),zm 6 8]) (.ite
 (.t 6) (.skip) (.seq (.ax [] [z 9 (.bin .eql (.t 5) (.c (.i .i64 8))),zm 6 9]) (.ite (.t 6) (.skip) (.seq (.ax [] [z 10 (.bin .eql (.t 5) (.c (.i .i64 9))),zm 6 10]) (.ite (.t
 6) (.skip) (.ax [] [z 11 (.bin .eql (.t 5) (.c (.i .i64 5))),zm 6 11]))))))))) (.ite (.t 6) (.seq (.dG [([zf 12 0 1,zl 13 12,zL 14 3 1],z 15 (.call 224 [.t 14]),[zf 12 0 1,
 zl 13 12])] [] [] [z 16 (.build [.i .i64 0,.s [],.i .i64 0] [(0,1,.t 13),(1,1,.t 15)]),zs (.store 3 [none,none,none] (.t 2) (.t 16)),z 3 (.bg (.c (.b true)))]) (.ret))
 (.skip))))) (.seq (.dG [([zf 17 0 1,zl 18 17,zf 19 1 1,zl 20 19,z 21 (.build [.i .i64 0,.s [],.i .i64 0] [(0,1,.t 18),(1,1,.t 20)]),zL 22 3 1],z 23 (.call 225 [.t
 22]),[zf 17 0 1,zl 18 17,zf 19 1 1,zl 20 19,z 21 (.build [.i .i64 0,.s [],.i .i64 0] [(0,1,.t 18),(1,1,.t 20)])])] [] [] [zs (.store 3 [none,none,none] (.t 2) (.t
 21)),zm 3 23]) (.ret)))⟩
theorem ZD:cA prog f182=some TM:=by kernel_rfl
def p65:cy:=⟨6,[.t 0],.seq (.ax [] [z 0 (.bg (.c .fp))]) (.seq (.ax [] [z 1 (.kU 3 162),z 2 (.kU 184 185),z 3 (.kU 150 185),z 4 (.build [.cV,.cV,.cV] [(0,1,
 .t 1),(1,1,.t 2),(2,1,.t 3)]),z 5 (.box 170 (.t 4)),zm 0 5]) (.ret))⟩
theorem c65:cA prog f65=some p65:=by kernel_rfl
def TL:cy:=⟨16,[.t 2],.seq (.ax [] [z 1 (.box 150 (.t 0)),z 2 (.bg (.c (.b false)))]) (.seq (.ax [7,8,9,12,13,14] [zf 3 0 1,zl 4 3,z 5 (.bin .eql (.t 4) (.c (.i .i64 2))),zm 6 5,
 ⟨some 7,[(6,false)],.gi 0 (.t 1)⟩,⟨some 8,[(6,false)],.load none (.t 7)⟩,⟨some 9,[(6,false)],.bin .eql (.t 8) (.c (.i .i64 3))⟩,z 10 (.pick (.t 6) (.c (.b true)) (.t
 9)),zm 11 10,⟨some 12,[(11,false)],.gi 0 (.t 1)⟩,⟨some 13,[(11,false)],.load none (.t 12)⟩,⟨some 14,[(11,false)],.bin .eql (.t 13) (.c (.i .i64 4))⟩,z 15 (.pick (.t
 11) (.c (.b true)) (.t 14)),zm 2 15]) (.ret))⟩
theorem ZC:cA prog f183=some TL:=by kernel_rfl
def As:bE:=.seq (.ax [] [z 21 (.bin .lss (.t 20) (.t 19))]) (.seq (.ite (.t 21) (.skip) (.exit 0)) (.seq (.block 1 (.seq (.ax [] [z 22 (.idx 3 (.t 18) (.t 20)),zL 23 3 22,z 5 (.alloc 182
 [.s [],.s [],.i .i64 0]),zs (.store 3 [none,none,none] (.t 5) (.t 23))]) (.ax [] [zf 24 2 3,zf 25 0 24,zl 26 25,zf 27 2 5,zl 28 27,z 29 (.bin .add (.t 26) (.t 28)),zf 30
 2 3,zf 31 0 30,zs (.store 1 [none] (.t 31) (.t 29))]))) (.ax [] [z 32 (.bin .add (.t 20) (.c (.i .i64 1))),zm 20 32])))
def Ar:bE:=.seq (.ax [] [z 36 (.bin .lss (.t 35) (.t 34))]) (.seq (.ite (.t 36) (.skip) (.exit 2)) (.seq (.block 3 (.seq (.ax [] [z 37 (.idx 3 (.t 33) (.t 35)),zL 38 3 37,z 7 (.alloc 150
 [.i .i64 0,.s [],.i .i64 0]),zs (.store 3 [none,none,none] (.t 7) (.t 38))]) (.seq (.ax [] [zL 40 3 7,z 41 (.call 182 [.t 40]),zm 39 41,z 42 (.ext 0 (.t 39)),z 43 (.ext 1
 (.t 39)),z 8 (.alloc 150 [.i .i64 0,.s [],.i .i64 0]),zs (.store 3 [none,none,none] (.t 8) (.t 42)),zm 9 43]) (.seq (.seq (.ax [] [zm 44 9,z 45 (.un .not (.t 44))]) (.ite
 (.t 45) (.exit 3) (.skip))) (.seq (.dG [([zf 46 1 3,zl 47 46,zL 48 3 8,z 49 (.look 5 (.i .i64 0) false (.t 47) (.t 48)),z 50 (.bin .add (.t 49) (.c (.i .i64 1)))],z 51 (.rE
 5 (.i .i64 0) (.t 47) (.t 48)),[z 49 (.look 5 (.i .i64 0) false (.t 47) (.t 48))])] [z 52 (.ext 1 (.t 51))] [] [zs (.rD [none] (.t 47) (.t 52) (.t 50))]) (.seq (.ax [] [zL 53 3
 8,z 54 (.call 183 [.t 53])]) (.ite (.t 54) (.ax [] [zf 55 2 3,zf 56 2 55,zl 57 56,z 58 (.bin .add (.t 57) (.c (.i .i64 1))),zf 59 2 3,zf 60 2 59,zs (.store 1 [none] (.t 60)
 (.t 58))]) (.dG [([zf 61 2 3,zf 62 1 61,zl 63 62,zL 64 3 8],z 65 (.call 184 [.t 64]),[zf 61 2 3,zf 62 1 61,zl 63 62])] [] [] [z 66 (.bin .add (.t 63) (.t 65)),zf 67 2 3,
 zf 68 1 67,zs (.store 1 [none] (.t 68) (.t 66))])))))))) (.ax [] [z 69 (.bin .add (.t 35) (.c (.i .i64 1))),zm 35 69])))
def Uo:cy:=⟨71,[.c 2 (some 6)],.seq (.ax [] [z 2 (.alloc 162 [.nil,.cV,.i .i64 0,.i .i64 0,.i .i64 0,.i .i64 0])]) (.seq (.ax [] [zm 10 0,z 11 (.call 180 [.t 10]),z 12 (.call
 179 [.t 11]),z 13 (.kU 150 3),zm 14 0,z 15 (.call 181 [.t 14]),z 16 (.build [.nil,.cV,.i .i64 0,.i .i64 0,.i .i64 0,.i .i64 0] [(0,1,.t 12),(1,1,.t 13),(5,1,
 .t 15)]),z 3 (.alloc 162 [.nil,.cV,.i .i64 0,.i .i64 0,.i .i64 0,.i .i64 0]),zs (.store 6 [some 3,none,none,none,none,none] (.t 3) (.t 16))]) (.seq (.seq (.ax []
 [zf 17 0 3,zl 18 17,z 19 (.len false (.t 18)),z 20 (.bg (.c (.i .i64 0)))]) (.block 0 (.loop As))) (.seq (.seq (.ax [] [zm 33 0,z 34 (.len false (.t 33)),z 35 (.bg (.c
 (.i .i64 0)))]) (.block 2 (.loop Ar))) (.seq (.ax [] [zL 70 6 3,zs (.store 6 [some 3,none,none,none,none,none] (.t 2) (.t 70))]) (.ret)))))⟩
theorem aaa:cA prog f118=some Uo:=by kernel_rfl
def FP:bE:=.seq (.ax [] [z 45 (.bin .lss (.t 44) (.t 43))]) (.seq (.ite (.t 45) (.skip) (.exit 0)) (.seq (.block 1 (.seq (.ax [] [z 46 (.idx 3 (.t 42) (.t 44)),zL 47 3 46,z 11 (.alloc 182
 [.s [],.s [],.i .i64 0]),zs (.store 3 [none,none,none] (.t 11) (.t 47))]) (.seq (.ax [] [zf 48 0 11,zl 49 48,zf 50 1 11,zl 51 50,z 52 (.build [.s [],.s []] [(0,1,.t
 49),(1,1,.t 51)]),z 12 (.alloc 184 [.s [],.s []]),zs (.store 2 [none,none] (.t 12) (.t 52))]) (.dG [([zm 53 0,z 54 (.cF (.t 53)),zf 55 1 54,zl 56 55,zL 57 2 12,zm
 59 1,zf 60 2 11,zl 61 60,z 62 (.build [.i .i64 0,.i .i64 0] [(0,1,.t 59),(1,1,.t 61)]),z 63 (.c6 2 [none,none] [.t 62])],z 64 (.rE 4 (.nil) (.t 56) (.t 57)),[]),
 ([z 58 (.ext 0 (.t 64)),z 66 (.ext 1 (.t 64))],z 65 (.app 190 2 16 (.t 58) (.t 63)),[])] [] [] [zs (.rD [some 2] (.t 56) (.t 66) (.t 65))])))) (.ax [] [z 67 (.bin .add (.t 44)
 (.c (.i .i64 1))),zm 44 67])))
def FO:bE:=.seq (.ax [] [z 71 (.next (.t 70)),z 72 (.ext 0 (.t 71))]) (.seq (.ite (.t 72) (.skip) (.exit 2)) (.block 3 (.seq (.ax [] [z 73 (.Gy (.t 70)),z 74 (.ext 0 (.t 73)),z 75 (.ext
 1 (.t 73)),z 13 (.alloc 150 [.i .i64 0,.s [],.i .i64 0]),zs (.store 3 [none,none,none] (.t 13) (.t 74)),zm 14 75]) (.dG [([zm 76 0,z 77 (.cF (.t 76)),zf 78 2 77,zl 79
 78,zL 80 3 13,zm 82 1,zm 83 14,z 84 (.build [.i .i64 0,.i .i64 0] [(0,1,.t 82),(1,1,.t 83)]),z 85 (.c6 2 [none,none] [.t 84])],z 86 (.rE 5 (.nil) (.t 79) (.t
 80)),[]),([z 81 (.ext 0 (.t 86)),z 88 (.ext 1 (.t 86))],z 87 (.app 190 2 16 (.t 81) (.t 85)),[])] [] [] [zs (.rD [some 2] (.t 79) (.t 88) (.t 87))]))))
def p72:cy:=⟨89,[.t 6],.seq (.ax [] [z 6 (.bg (.c (.b false)))]) (.seq (.seq (.ax [] [zm 16 0,z 17 (.cF (.t 16)),zf 18 0 17,zl 19 18,zm 20 1,z 21 (.look 0 (.agg [.sl 3 [],.cV,
 .i .i64 0,.i .i64 0,.i .i64 0,.i .i64 0]) true (.t 19) (.t 20)),zm 15 21,z 22 (.ext 0 (.t 15)),z 23 (.ext 1 (.t 15)),z 7 (.alloc 162 [.nil,.cV,.i .i64 0,.i .i64 0,.i
 .i64 0,.i .i64 0]),zs (.store 6 [some 3,none,none,none,none,none] (.t 7) (.t 22)),zm 8 23]) (.seq (.ax [26,27,28,29,30,31] [zm 24 8,zm 25 24,⟨some 26,[(25,false)],
 .bg (.t 0)⟩,⟨some 27,[(25,false)],.cF (.t 26)⟩,⟨some 28,[(25,false)],.gi 0 (.t 27)⟩,⟨some 29,[(25,false)],.load none (.t 28)⟩,⟨some 30,[(25,false)],.wq (.t
 29)⟩,⟨some 31,[(25,false)],.bin .geq (.t 30) (.c (.i .i64 1024))⟩,z 32 (.pick (.t 25) (.c (.b true)) (.t 31))]) (.ite (.t 32) (.seq (.ax [] [z 6 (.bg (.c (.b false)))])
 (.ret)) (.skip)))) (.seq (.ax [] [zm 33 2,z 34 (.call 118 [.t 33]),z 9 (.alloc 162 [.nil,.cV,.i .i64 0,.i .i64 0,.i .i64 0,.i .i64 0]),zs (.store 6 [some 3,none,none,
 none,none,none] (.t 9) (.t 34))]) (.seq (.dG [] [zm 35 0,z 36 (.cF (.t 35)),zf 37 0 36,zl 38 37,zm 39 1,zL 40 6 9] [] [zs (.qu 0 [some 3,none,none,none,none,none]
 (.t 38) (.t 39) (.t 40))]) (.seq (.seq (.ax [] [zf 41 0 9,zl 42 41,z 43 (.len false (.t 42)),z 44 (.bg (.c (.i .i64 0)))]) (.block 0 (.loop FP))) (.seq (.seq (.ax [] [zf 68
 1 9,zl 69 68,z 70 (.range (.t 69))]) (.block 2 (.loop FO))) (.seq (.ax [] [z 6 (.bg (.c (.b true)))]) (.ret)))))))⟩
theorem c72:cA prog f72=some p72:=by kernel_rfl
def Ub:cy:=⟨8,[.t 4],.seq (.ax [] [z 3 (.box 3 (.t 1)),z 4 (.bg (.c .nil))]) (.seq (.ax [] [zm 5 0,z 6 (.LI 202 [.t 3]),z 7 (.call 201 [.t 5,.t 6]),zm 4 7]) (.ret))⟩
theorem ZY:cA prog f135=some Ub:=by kernel_rfl
def TC:cy:=⟨8,[.t 3],.seq (.ax [] [z 2 (.box 190 (.t 0)),z 3 (.bg (.c (.b false)))]) (.seq (.ax [] [zf 4 0 2,zl 5 4,zl 6 1,z 7 (.bin .eql (.t 5) (.t 6)),zm 3 7]) (.ret))⟩
theorem Zu:cA prog f202=some TC:=by kernel_rfl
def FT:bE:=.seq (.ax [] [z 31 (.bin .lss (.t 30) (.t 29))]) (.seq (.ite (.t 31) (.skip) (.exit 0)) (.seq (.block 1 (.seq (.ax [] [z 32 (.idx 3 (.t 28) (.t 30)),zL 33 3 32,z 8 (.alloc 182
 [.s [],.s [],.i .i64 0]),zs (.store 3 [none,none,none] (.t 8) (.t 33))]) (.seq (.ax [] [zf 34 0 8,zl 35 34,zf 36 1 8,zl 37 36,z 38 (.build [.s [],.s []] [(0,1,.t 35),
 (1,1,.t 37)]),z 9 (.alloc 184 [.s [],.s []]),zs (.store 2 [none,none] (.t 9) (.t 38))]) (.seq (.dG [([zm 39 0,z 40 (.cF (.t 39)),zf 41 1 40,zl 42 41,zL 43 2 9,zm 44
 0,z 45 (.cF (.t 44)),zf 46 1 45,zl 47 46,zL 48 2 9,z 49 (.look 4 (.nil) false (.t 47) (.t 48)),zm 50 1],z 51 (.call 135 [.t 49,.t 50]),[z 40 (.cF (.t 39)),zf 41 1
 40,zl 42 41,zL 43 2 9])] [] [] [zs (.qu 4 [some 2] (.t 42) (.t 43) (.t 51))]) (.seq (.dG [] [zm 52 0,z 53 (.cF (.t 52)),zf 54 1 53,zl 55 54,zL 56 2 9] [] [z 57 (.look 4
 (.nil) false (.t 55) (.t 56)),z 58 (.len false (.t 57)),z 59 (.bin .eql (.t 58) (.c (.i .i64 0)))]) (.ite (.t 59) (.dG [] [zm 60 0,z 61 (.cF (.t 60)),zf 62 1 61,zl 63 62,
 zL 64 2 9] [] [zs (.yb 4 (.t 63) (.t 64))]) (.skip))))))) (.ax [] [z 65 (.bin .add (.t 30) (.c (.i .i64 1))),zm 30 65])))
def FQ:bE:=.seq (.ax [] [z 69 (.next (.t 68)),z 70 (.ext 0 (.t 69))]) (.seq (.ite (.t 70) (.skip) (.exit 2)) (.block 3 (.seq (.ax [] [z 71 (.Gy (.t 68)),z 72 (.ext 0 (.t 71)),z 10
 (.alloc 150 [.i .i64 0,.s [],.i .i64 0]),zs (.store 3 [none,none,none] (.t 10) (.t 72))]) (.seq (.dG [([zm 73 0,z 74 (.cF (.t 73)),zf 75 2 74,zl 76 75,zL 77 3 10,zm
 78 0,z 79 (.cF (.t 78)),zf 80 2 79,zl 81 80,zL 82 3 10,z 83 (.look 5 (.nil) false (.t 81) (.t 82)),zm 84 1],z 85 (.call 135 [.t 83,.t 84]),[z 74 (.cF (.t 73)),zf 75
 2 74,zl 76 75,zL 77 3 10])] [] [] [zs (.qu 5 [some 2] (.t 76) (.t 77) (.t 85))]) (.seq (.dG [] [zm 86 0,z 87 (.cF (.t 86)),zf 88 2 87,zl 89 88,zL 90 3 10] [] [z 91
 (.look 5 (.nil) false (.t 89) (.t 90)),z 92 (.len false (.t 91)),z 93 (.bin .eql (.t 92) (.c (.i .i64 0)))]) (.ite (.t 93) (.dG [] [zm 94 0,z 95 (.cF (.t 94)),zf 96 2 95,
 zl 97 96,zL 98 3 10] [] [zs (.yb 5 (.t 97) (.t 98))]) (.skip)))))))
def p70:cy:=⟨99,[.t 4],.seq (.ax [] [z 4 (.bg (.c (.b false)))]) (.seq (.ax [] [zm 12 0,z 13 (.cF (.t 12)),zf 14 0 13,zl 15 14,zm 16 1,z 17 (.look 0 (.agg [.sl 3 [],.cV,.i
 .i64 0,.i .i64 0,.i .i64 0,.i .i64 0]) true (.t 15) (.t 16)),zm 11 17,z 18 (.ext 0 (.t 11)),z 19 (.ext 1 (.t 11)),z 5 (.alloc 162 [.nil,.cV,.i .i64 0,.i .i64 0,.i
 .i64 0,.i .i64 0]),zs (.store 6 [some 3,none,none,none,none,none] (.t 5) (.t 18)),zm 6 19]) (.seq (.seq (.ax [] [zm 20 6,z 21 (.un .not (.t 20))]) (.ite (.t 21) (.seq
 (.ax [] [z 4 (.bg (.c (.b false)))]) (.ret)) (.skip))) (.seq (.ax [] [zm 22 0,z 23 (.cF (.t 22)),zf 24 0 23,zl 25 24,zm 26 1,zs (.yb 0 (.t 25) (.t 26))]) (.seq (.seq
 (.ax [] [zf 27 0 5,zl 28 27,z 29 (.len false (.t 28)),z 30 (.bg (.c (.i .i64 0)))]) (.block 0 (.loop FT))) (.seq (.seq (.ax [] [zf 66 1 5,zl 67 66,z 68 (.range (.t 67))])
 (.block 2 (.loop FQ))) (.seq (.ax [] [z 4 (.bg (.c (.b true)))]) (.ret)))))))⟩
theorem c70:cA prog f70=some p70:=by kernel_rfl
def sN:bE:=.seq (.ax [] [z 36 (.bin .lss (.t 35) (.t 34))]) (.seq (.ite (.t 36) (.skip) (.exit 2)) (.seq (.block 3 (.seq (.ax [] [z 37 (.idx 2 (.t 33) (.t 35)),zL 38 2 37,z 9 (.alloc 190
 [.i .i64 0,.i .i64 0]),zs (.store 2 [none,none] (.t 9) (.t 38))]) (.seq (.ax [] [zm 39 5,zf 40 0 9,zl 41 40,z 42 (.look 0 (.agg [.i .i64 0,.i .i64 0,.i .i64 0]) false (.t
 39) (.t 41)),z 10 (.alloc 160 [.i .i64 0,.i .i64 0,.i .i64 0]),zs (.store 3 [none,none,none] (.t 10) (.t 42))]) (.seq (.ax [] [zf 43 0 10,zl 44 43,zf 45 1 9,zl 46 45,zf
 47 2 7,zl 48 47,z 49 (.min2 (.t 46) (.t 48)),z 50 (.bin .add (.t 44) (.t 49)),zf 51 0 10,zs (.store 1 [none] (.t 51) (.t 50))]) (.ax [] [zm 52 5,zf 53 0 9,zl 54 53,zL 55 3
 10,zs (.qu 0 [none,none,none] (.t 52) (.t 54) (.t 55))]))))) (.ax [] [z 56 (.bin .add (.t 35) (.c (.i .i64 1))),zm 35 56])))
def wg:bE:=.seq (.ax [] [z 21 (.bin .lss (.t 20) (.t 19))]) (.seq (.ite (.t 21) (.skip) (.exit 0)) (.seq (.block 1 (.seq (.ax [] [z 22 (.idx 3 (.t 18) (.t 20)),zL 23 3 22,z 7 (.alloc 182
 [.s [],.s [],.i .i64 0]),zs (.store 3 [none,none,none] (.t 7) (.t 23))]) (.seq (.dG [] [zm 24 0,z 25 (.cF (.t 24)),zf 26 1 25,zl 27 26,zf 28 0 7,zl 29 28,zf 30 1 7,
 zl 31 30,z 32 (.build [.s [],.s []] [(0,1,.t 29),(1,1,.t 31)]),z 33 (.look 4 (.nil) false (.t 27) (.t 32)),z 34 (.len false (.t 33)),z 35 (.bg (.c (.i .i64 0)))] [] [])
 (.block 2 (.loop sN))))) (.ax [] [z 57 (.bin .add (.t 20) (.c (.i .i64 1))),zm 20 57])))
def sM:bE:=.seq (.ax [] [z 74 (.bin .lss (.t 73) (.t 72))]) (.seq (.ite (.t 74) (.skip) (.exit 6)) (.seq (.block 7 (.seq (.ax [] [z 75 (.idx 2 (.t 71) (.t 73)),zL 76 2 75,z 14 (.alloc 190
 [.i .i64 0,.i .i64 0]),zs (.store 2 [none,none] (.t 14) (.t 76))]) (.seq (.ax [] [zm 77 5,zf 78 0 14,zl 79 78,z 80 (.look 0 (.agg [.i .i64 0,.i .i64 0,.i .i64 0]) false (.t
 77) (.t 79)),z 15 (.alloc 160 [.i .i64 0,.i .i64 0,.i .i64 0]),zs (.store 3 [none,none,none] (.t 15) (.t 80))]) (.seq (.seq (.ax [] [zL 81 3 11,z 82 (.call 183 [.t 81])])
 (.ite (.t 82) (.ax [] [zf 83 2 15,zl 84 83,zf 85 1 14,zl 86 85,zm 87 12,z 88 (.min2 (.t 86) (.t 87)),z 89 (.bin .add (.t 84) (.t 88)),zf 90 2 15,zs (.store 1 [none] (.t 90)
 (.t 89))]) (.dG [([zf 91 1 15,zl 92 91,zf 93 1 14,zl 94 93,zm 95 12,z 96 (.min2 (.t 94) (.t 95)),zL 97 3 11],z 98 (.call 184 [.t 97]),[zf 91 1 15,zl 92 91,zf 93 1 14,zl
 94 93])] [z 99 (.bin .mul (.t 96) (.t 98))] [] [z 100 (.bin .add (.t 92) (.t 99)),zf 101 1 15,zs (.store 1 [none] (.t 101) (.t 100))]))) (.ax [] [zm 102 5,zf 103 0 14,zl 104
 103,zL 105 3 15,zs (.qu 0 [none,none,none] (.t 102) (.t 104) (.t 105))]))))) (.ax [] [z 106 (.bin .add (.t 73) (.c (.i .i64 1))),zm 73 106])))
def Aq:bE:=.seq (.ax [] [z 61 (.next (.t 60)),z 62 (.ext 0 (.t 61))]) (.seq (.ite (.t 62) (.skip) (.exit 4)) (.block 5 (.seq (.ax [] [z 63 (.Gy (.t 60)),z 64 (.ext 0 (.t 63)),z 65 (.ext
 1 (.t 63)),z 11 (.alloc 150 [.i .i64 0,.s [],.i .i64 0]),zs (.store 3 [none,none,none] (.t 11) (.t 64)),zm 12 65]) (.seq (.dG [] [zm 66 0,z 67 (.cF (.t 66)),zf 68 2
 67,zl 69 68,zL 70 3 11,z 71 (.look 5 (.nil) false (.t 69) (.t 70)),z 72 (.len false (.t 71)),z 73 (.bg (.c (.i .i64 0)))] [] []) (.block 6 (.loop sM))))))
def Un:cy:=⟨108,[.t 4],.seq (.ax [] [z 3 (.box 162 (.t 1)),z 4 (.bg (.c .cV))]) (.seq (.ax [] [z 16 (.kU 3 160),zm 5 16]) (.seq (.seq (.ax [] [zf 17 0 3,zl 18 17,z 19 (.len
 false (.t 18)),z 20 (.bg (.c (.i .i64 0)))]) (.block 0 (.loop wg))) (.seq (.seq (.ax [] [zf 58 1 3,zl 59 58,z 60 (.range (.t 59))]) (.block 4 (.loop Aq))) (.seq (.ax
 [] [zm 107 5,zm 4 107]) (.ret)))))⟩
theorem Z9:cA prog f119=some Un:=by kernel_rfl
def Um:cy:=⟨42,[.t 6],.seq (.ax [] [z 3 (.box 160 (.t 0)),z 4 (.box 160 (.t 1)),z 5 (.box 160 (.t 2)),z 6 (.bg (.c (.i .i64 0)))]) (.seq (.ax [] [zf 9 1 3,zl 10 9,zf 11 1 4,zl 12
 11,z 13 (.max2 (.t 10) (.t 12)),zf 14 1 5,zl 15 14,z 16 (.bin .sub (.t 13) (.t 15)),zf 17 2 3,zl 18 17,zf 19 2 4,zl 20 19,z 21 (.bin .add (.t 18) (.t 20)),zf 22 2 5,zl 23
 22,z 24 (.bin .mul (.c (.i .i64 2)) (.t 23)),z 25 (.bin .sub (.t 21) (.t 24)),z 26 (.bin .mul (.c (.i .i64 3)) (.t 25)),z 27 (.bin .add (.t 16) (.t 26)),zm 7 27]) (.seq (.ax
 [] [zf 28 0 3,zl 29 28,zf 30 0 4,zl 31 30,z 32 (.max2 (.t 29) (.t 31)),zf 33 0 5,zl 34 33,z 35 (.bin .sub (.t 32) (.t 34)),zm 8 35]) (.seq (.ax [] [zm 36 7,zm 37 8,z 38
 (.bin .add (.t 37) (.c (.i .i64 1))),z 39 (.bin .quo (.t 38) (.c (.i .i64 2))),z 40 (.bin .mul (.c (.i .i64 4)) (.t 39)),z 41 (.max2 (.t 36) (.t 40)),zm 6 41]) (.ret))))⟩
theorem Fb:cA prog f120=some Um:=by kernel_rfl
def Cf:bE:=.seq (.ax [] [z 22 (.next (.t 21)),z 23 (.ext 0 (.t 22))]) (.seq (.ite (.t 23) (.skip) (.exit 0)) (.block 1 (.seq (.ax [] [z 24 (.Gy (.t 21)),z 25 (.ext 0 (.t 24)),z 26 (.ext
 1 (.t 24)),z 11 (.alloc 162 [.nil,.cV,.i .i64 0,.i .i64 0,.i .i64 0,.i .i64 0]),zm 10 25,zs (.store 6 [some 3,none,none,none,none,none] (.t 11) (.t 26))]) (.seq
 (.dG [([zf 27 2 7,zL 28 3 27,zf 29 2 11,zL 30 3 29,zm 31 8,zm 32 10,z 33 (.look 0 (.agg [.i .i64 0,.i .i64 0,.i .i64 0]) false (.t 31) (.t 32)),zf 35 5 7,zl 36 35,zf 37
 5 11,zl 38 37,z 39 (.max2 (.t 36) (.t 38)),zm 40 2],z 34 (.call 120 [.t 28,.t 30,.t 33]),[zf 35 5 7,zl 36 35,zf 37 5 11,zl 38 37])] [] [] [z 41 (.call 121 [.t 39,.t 40]),
 z 42 (.bin .leq (.t 34) (.t 41))]) (.ite (.t 42) (.ax [] [zm 43 9,zm 44 10,z 45 (.c6 1 [none] [.t 44]),z 46 (.app 3 1 8 (.t 43) (.t 45)),zm 9 46]) (.skip))))))
def p58:cy:=⟨50,[.t 6],.seq (.ax [] [z 6 (.bg (.c .nil))]) (.seq (.ax [] [zm 12 1,z 13 (.call 118 [.t 12]),z 7 (.alloc 162 [.nil,.cV,.i .i64 0,.i .i64 0,.i .i64 0,.i .i64 0]),
 zs (.store 6 [some 3,none,none,none,none,none] (.t 7) (.t 13))]) (.seq (.ax [] [zm 14 0,zL 15 6 7,z 16 (.call 119 [.t 14,.t 15]),zm 8 16]) (.seq (.ax [] [z 9 (.bg (.c
 .nil))]) (.seq (.seq (.ax [] [zm 17 0,z 18 (.cF (.t 17)),zf 19 0 18,zl 20 19,z 21 (.range (.t 20))]) (.block 0 (.loop Cf))) (.seq (.ax [] [zm 47 9,z 48 (.call 122 [.t
 47])]) (.seq (.ax [] [zm 49 9,zm 6 49]) (.ret)))))))⟩
theorem c58:cA prog f58=some p58:=by kernel_rfl
def Tj:cy:=⟨16,[.t 2],.seq (.ax [] [z 1 (.box 150 (.t 0)),z 2 (.bg (.c (.b false)))]) (.seq (.ax [7,8,9,12,13,14] [zf 3 0 1,zl 4 3,z 5 (.bin .eql (.t 4) (.c (.i .i64 2))),zm 6 5,
 ⟨some 7,[(6,false)],.gi 0 (.t 1)⟩,⟨some 8,[(6,false)],.load none (.t 7)⟩,⟨some 9,[(6,false)],.bin .eql (.t 8) (.c (.i .i64 3))⟩,z 10 (.pick (.t 6) (.c (.b true)) (.t
 9)),zm 11 10,⟨some 12,[(11,false)],.gi 0 (.t 1)⟩,⟨some 13,[(11,false)],.load none (.t 12)⟩,⟨some 14,[(11,false)],.bin .eql (.t 13) (.c (.i .i64 4))⟩,z 15 (.pick (.t
 11) (.c (.b true)) (.t 14)),zm 2 15]) (.ret))⟩
theorem Zb:cA prog f250=some Tj:=by kernel_rfl
def Tv:cy:=⟨32,[.t 4,.t 5],.seq (.ax [] [z 2 (.box 150 (.t 0)),z 3 (.box 150 (.t 1)),z 4 (.bg (.c (.i .i64 0))),z 5 (.bg (.c (.b false)))]) (.seq (.seq (.ax [] [zL 6 3 2,zL 7 3 3,z
 8 (.call 251 [.t 6,.t 7])]) (.ite (.t 8) (.seq (.ax [] [z 4 (.bg (.c (.i .i64 0))),z 5 (.bg (.c (.b true)))]) (.ret)) (.skip))) (.seq (.seq (.ax [] [zf 9 0 2,zl 10 9,zf 11 0
 3,zl 12 11,z 13 (.bin .neq (.t 10) (.t 12))]) (.ite (.t 13) (.seq (.ax [] [z 4 (.bg (.c (.i .i64 0))),z 5 (.bg (.c (.b false)))]) (.ret)) (.skip))) (.seq (.seq (.ax [] [zf 14
 0 2,zl 15 14]) (.block 0 (.seq (.ax [] [z 17 (.bin .eql (.t 15) (.c (.i .i64 6))),zm 16 17]) (.ite (.t 16) (.seq (.seq (.dG [([zL 18 3 2,zL 20 3 3],z 19 (.call 224 [.t 18]),
 [zL 20 3 3])] [] [] [z 21 (.call 224 [.t 20]),z 22 (.bin .eql (.t 19) (.t 21))]) (.ite (.t 22) (.seq (.ax [] [z 4 (.bg (.c (.i .i64 1))),z 5 (.bg (.c (.b true)))]) (.ret))
 (.skip))) (.seq (.ax [] [zL 23 3 2,z 24 (.call 184 [.t 23]),zm 4 24,z 5 (.bg (.c (.b true)))]) (.ret))) (.seq (.seq (.ax [] [z 26 (.bin .eql (.t 15) (.c (.i .i64 7))),zm 25
 26]) (.ite (.t 25) (.skip) (.seq (.ax [] [z 27 (.bin .eql (.t 15) (.c (.i .i64 8))),zm 25 27]) (.ite (.t 25) (.skip) (.seq (.ax [] [z 28 (.bin .eql (.t 15) (.c (.i .i64 9))),zm
 25 28]) (.ite (.t 25) (.skip) (.ax [] [z 29 (.bin .eql (.t 15) (.c (.i .i64 5))),zm 25 29]))))))) (.ite (.t 25) (.seq (.ax [] [zL 30 3 2,z 31 (.call 184 [.t 30]),zm 4 31,z 5
 (.bg (.c (.b true)))]) (.ret)) (.skip))))))) (.seq (.ax [] [z 4 (.bg (.c (.i .i64 0))),z 5 (.bg (.c (.b false)))]) (.ret)))))⟩
theorem Zn:cA prog f214=some Tv:=by kernel_rfl
def Tw:cy:=⟨7,[.t 2],.seq (.ax [] [z 1 (.box 150 (.t 0)),z 2 (.bg (.c (.i .i64 0)))]) (.seq (.seq (.ax [] [zL 3 3 1,z 4 (.call 250 [.t 3])]) (.ite (.t 4) (.seq (.ax [] [z 2 (.bg (.c
 (.i .i64 1)))]) (.ret)) (.skip))) (.seq (.ax [] [zL 5 3 1,z 6 (.call 184 [.t 5]),zm 2 6]) (.ret)))⟩
theorem Zo:cA prog f213=some Tw:=by kernel_rfl
def Ab:bE:=.seq (.ax [] [z 17 (.bin .lss (.t 16) (.t 15))]) (.seq (.ite (.t 17) (.skip) (.exit 0)) (.seq (.block 1 (.seq (.ax [] [z 18 (.idx 3 (.t 14) (.t 16)),zL 19 3 18,z 7 (.alloc 150
 [.i .i64 0,.s [],.i .i64 0]),zs (.store 3 [none,none,none] (.t 7) (.t 19))]) (.seq (.ax [] [zL 20 3 7,z 21 (.call 250 [.t 20])]) (.ite (.t 21) (.dG [([zm 22 5,zf 23 0 7,
 zl 24 23,zf 25 1 7,zl 26 25,z 27 (.build [.i .i64 0,.s [],.i .i64 0] [(0,1,.t 24),(1,1,.t 26)]),z 28 (.look 5 (.i .i64 0) false (.t 22) (.t 27)),z 29 (.bin .add (.t 28)
 (.c (.i .i64 1)))],z 30 (.rE 5 (.i .i64 0) (.t 22) (.t 27)),[z 28 (.look 5 (.i .i64 0) false (.t 22) (.t 27))])] [z 31 (.ext 1 (.t 30))] [] [zs (.rD [none] (.t 22) (.t 31) (.t
 29))]) (.skip))))) (.ax [] [z 32 (.bin .add (.t 16) (.c (.i .i64 1))),zm 16 32])))
def Aa:bE:=.seq (.ax [] [z 36 (.bin .lss (.t 35) (.t 34))]) (.seq (.ite (.t 36) (.skip) (.exit 2)) (.seq (.block 3 (.seq (.ax [] [z 37 (.idx 3 (.t 33) (.t 35)),zL 38 3 37,z 9 (.alloc 150
 [.i .i64 0,.s [],.i .i64 0]),zs (.store 3 [none,none,none] (.t 9) (.t 38))]) (.seq (.ax [] [zL 39 3 9,z 40 (.call 250 [.t 39])]) (.ite (.t 40) (.dG [([zm 41 5,zf 42 0 9,
 zl 43 42,zf 44 1 9,zl 45 44,z 46 (.build [.i .i64 0,.s [],.i .i64 0] [(0,1,.t 43),(1,1,.t 45)]),z 47 (.look 5 (.i .i64 0) false (.t 41) (.t 46)),z 48 (.bin .sub (.t 47)
 (.c (.i .i64 1)))],z 49 (.rE 5 (.i .i64 0) (.t 41) (.t 46)),[z 47 (.look 5 (.i .i64 0) false (.t 41) (.t 46))])] [z 50 (.ext 1 (.t 49))] [] [zs (.rD [none] (.t 41) (.t 50) (.t
 48))]) (.skip))))) (.ax [] [z 51 (.bin .add (.t 35) (.c (.i .i64 1))),zm 35 51])))
def z8:bE:=.seq (.ax [] [z 54 (.next (.t 53)),z 55 (.ext 0 (.t 54))]) (.seq (.ite (.t 55) (.skip) (.exit 4)) (.block 5 (.seq (.ax [] [z 56 (.Gy (.t 53)),z 57 (.ext 1 (.t 56)),zm 12 57])
 (.ax [] [zm 58 10,zm 59 12,zm 60 12,z 61 (.un .neg (.t 60)),z 62 (.max2 (.t 59) (.t 61)),z 63 (.bin .mul (.c (.i .i64 2)) (.t 62)),z 64 (.bin .add (.t 58) (.t 63)),zm 10
 64]))))
def Tu:cy:=⟨66,[.t 4],.seq (.ax [] [z 4 (.bg (.c (.i .i64 0)))]) (.seq (.ax [] [z 13 (.kU 150 3),zm 5 13]) (.seq (.seq (.ax [] [zm 14 0,z 15 (.len false (.t 14)),z 16 (.bg (.c (.i
 .i64 0)))]) (.block 0 (.loop Ab))) (.seq (.seq (.ax [] [zm 33 1,z 34 (.len false (.t 33)),z 35 (.bg (.c (.i .i64 0)))]) (.block 2 (.loop Aa))) (.seq (.ax [] [z 10 (.bg
 (.c (.i .i64 0)))]) (.seq (.seq (.ax [] [zm 52 5,z 53 (.range (.t 52))]) (.block 4 (.loop z8))) (.seq (.ax [] [zm 65 10,zm 4 65]) (.ret)))))))⟩
theorem Zm:cA prog f215=some Tu:=by kernel_rfl
def Ak:bE:=.seq (.ax [] [z 23 (.bin .lss (.t 22) (.t 21))]) (.seq (.ite (.t 23) (.skip) (.exit 0)) (.seq (.block 1 (.seq (.ax [] [zm 24 22,z 25 (.idx 3 (.t 20) (.t 22)),zL 26 3 25,z 7
 (.alloc 150 [.i .i64 0,.s [],.i .i64 0]),zm 6 24,zs (.store 3 [none,none,none] (.t 7) (.t 26))]) (.dG [([zm 27 5,zm 28 6,z 29 (.bin .add (.t 28) (.c (.i .i64 1))),zm 30
 5,zm 31 6,z 32 (.idx 1 (.t 30) (.t 31)),zl 33 32,zL 34 3 7],z 35 (.call 213 [.t 34]),[z 32 (.idx 1 (.t 30) (.t 31)),zl 33 32])] [z 36 (.bin .add (.t 33) (.t 35))] [] [z 37
 (.idx 1 (.t 27) (.t 29)),zs (.store 1 [none] (.t 37) (.t 36))]))) (.ax [] [z 38 (.bin .add (.t 22) (.c (.i .i64 1))),zm 22 38])))
def Aj:bE:=.seq (.ax [] [z 58 (.bin .lss (.t 57) (.t 56))]) (.seq (.ite (.t 58) (.skip) (.exit 4)) (.seq (.block 5 (.seq (.ax [] [zm 59 57,z 60 (.idx 3 (.t 55) (.t 57)),zL 61 3 60,z 12
 (.alloc 150 [.i .i64 0,.s [],.i .i64 0]),zm 11 59,zs (.store 3 [none,none,none] (.t 12) (.t 61))]) (.seq (.dG [([zm 62 5,zm 63 11,z 64 (.bin .add (.t 63) (.c (.i .i64
 1))),z 65 (.idx 1 (.t 62) (.t 64)),zl 66 65,zL 67 3 9,zm 70 5,zm 71 11,z 72 (.idx 1 (.t 70) (.t 71)),zl 73 72,zL 74 3 12],z 68 (.call 213 [.t 67]),[z 65 (.idx 1 (.t 62)
 (.t 64)),zl 66 65,z 72 (.idx 1 (.t 70) (.t 71)),zl 73 72,zL 74 3 12]),([z 69 (.bin .add (.t 66) (.t 68))],z 75 (.call 213 [.t 74]),[z 65 (.idx 1 (.t 62) (.t 64)),zl 66 65,z
 72 (.idx 1 (.t 70) (.t 71)),zl 73 72])] [z 76 (.bin .add (.t 73) (.t 75))] [] [z 77 (.min2 (.t 69) (.t 76)),zm 13 77]) (.seq (.seq (.ax [] [zL 79 3 9,zL 80 3 12,z 81 (.call 214
 [.t 79,.t 80]),zm 78 81,z 82 (.ext 0 (.t 78)),z 83 (.ext 1 (.t 78)),zm 14 82,zm 15 83]) (.seq (.ax [] [zm 84 15]) (.ite (.t 84) (.ax [] [zm 85 13,zm 86 10,zm 87 14,z 88
 (.bin .add (.t 86) (.t 87)),z 89 (.min2 (.t 85) (.t 88)),zm 13 89]) (.skip)))) (.ax [] [zm 90 5,zm 91 11,z 92 (.bin .add (.t 91) (.c (.i .i64 1))),zm 93 5,zm 94 11,z 95
 (.bin .add (.t 94) (.c (.i .i64 1))),z 96 (.idx 1 (.t 93) (.t 95)),zl 97 96,zm 98 13,zm 10 97,z 99 (.idx 1 (.t 90) (.t 92)),zs (.store 1 [none] (.t 99) (.t 98))]))))) (.ax []
 [z 100 (.bin .add (.t 57) (.c (.i .i64 1))),zm 57 100])))
def Ai:bE:=.seq (.ax [] [z 42 (.bin .lss (.t 41) (.t 40))]) (.seq (.ite (.t 42) (.skip) (.exit 2)) (.seq (.block 3 (.seq (.ax [] [z 43 (.idx 3 (.t 39) (.t 41)),zL 44 3 43,z 9 (.alloc 150
 [.i .i64 0,.s [],.i .i64 0]),zs (.store 3 [none,none,none] (.t 9) (.t 44))]) (.seq (.ax [] [zm 45 5,z 46 (.idx 1 (.t 45) (.c (.i .i64 0))),zl 47 46,zm 10 47]) (.seq (.dG
 [([zm 48 5,z 49 (.idx 1 (.t 48) (.c (.i .i64 0))),zl 50 49,zL 51 3 9],z 52 (.call 213 [.t 51]),[z 49 (.idx 1 (.t 48) (.c (.i .i64 0))),zl 50 49])] [] [] [z 53 (.bin .add (.t
 50) (.t 52)),z 54 (.idx 1 (.t 48) (.c (.i .i64 0))),zs (.store 1 [none] (.t 54) (.t 53))]) (.seq (.ax [] [zm 55 1,z 56 (.len false (.t 55)),z 57 (.bg (.c (.i .i64 0)))])
 (.block 4 (.loop Aj))))))) (.ax [] [z 101 (.bin .add (.t 41) (.c (.i .i64 1))),zm 41 101])))
def TV:cy:=⟨111,[.t 4],.seq (.ax [] [z 4 (.bg (.c (.i .i64 0)))]) (.seq (.ax [] [zm 16 1,z 17 (.len false (.t 16)),z 18 (.bin .add (.t 17) (.c (.i .i64 1))),z 19 (.mk 3 1 8 [.i .i64 0]
 (.t 18) (.t 18)),zm 5 19]) (.seq (.seq (.ax [] [zm 20 1,z 21 (.len false (.t 20)),z 22 (.bg (.c (.i .i64 0)))]) (.block 0 (.loop Ak))) (.seq (.seq (.ax [] [zm 39 0,z 40
 (.len false (.t 39)),z 41 (.bg (.c (.i .i64 0)))]) (.block 2 (.loop Ai))) (.seq (.dG [([zm 102 5,zm 103 1,z 104 (.len false (.t 103)),z 105 (.idx 1 (.t 102) (.t 104)),zl
 106 105,zm 107 0,zm 108 1],z 109 (.call 215 [.t 107,.t 108]),[z 104 (.len false (.t 103)),z 105 (.idx 1 (.t 102) (.t 104)),zl 106 105])] [] [] [z 110 (.bin .add (.t 106) (.t
 109)),zm 4 110]) (.ret)))))⟩
theorem ZM:cA prog f166=some TV:=by kernel_rfl
def TW:cy:=⟨10,[.t 4],.seq (.ax [] [z 4 (.bg (.c (.i .i64 0)))]) (.seq (.ax [] [zm 5 0,z 6 (.call 181 [.t 5]),zm 7 1,z 8 (.call 181 [.t 7]),z 9 (.max2 (.t 6) (.t 8)),zm 4 9])
 (.ret))⟩
theorem ZN:cA prog f165=some TW:=by kernel_rfl
def Ut:cy:=⟨20,[.t 4],.seq (.ax [] [z 4 (.bg (.c (.i .i64 0)))]) (.seq (.ax [] [zm 6 0,zm 7 1,z 8 (.call 165 [.t 6,.t 7]),zm 5 8]) (.seq (.seq (.ax [] [zm 9 5,z 10 (.bin .eql (.t 9)
 (.c (.i .i64 0)))]) (.ite (.t 10) (.seq (.ax [] [z 4 (.bg (.c (.i .i64 100)))]) (.ret)) (.skip))) (.seq (.ax [] [zm 11 5,zm 12 0,zm 13 1,z 14 (.call 166 [.t 12,.t 13]),z 15
 (.bin .sub (.t 11) (.t 14)),z 16 (.max2 (.t 15) (.c (.i .i64 0))),z 17 (.bin .mul (.c (.i .i64 100)) (.t 16)),zm 18 5,z 19 (.bin .quo (.t 17) (.t 18)),zm 4 19]) (.ret))))⟩
theorem aaf:cA prog f106=some Ut:=by kernel_rfl
def Ul:cy:=⟨21,[.t 4],.seq (.ax [] [z 4 (.bg (.c (.i .i64 0)))]) (.seq (.block 0 (.seq (.ax [] [zm 6 1,z 7 (.bin .gtr (.t 6) (.c (.i .i64 100))),zm 5 7]) (.ite (.t 5) (.seq (.ax [] [z
 4 (.bg (.c (.i .i64 (-1))))]) (.ret)) (.seq (.ax [12,13] [zm 9 1,z 10 (.bin .lss (.t 9) (.c (.i .i64 1))),zm 11 10,⟨some 12,[(11,false)],.bg (.t 0)⟩,⟨some 13,[(11,
 false)],.bin .lss (.t 12) (.c (.i .i64 1))⟩,z 14 (.pick (.t 11) (.c (.b true)) (.t 13)),zm 8 14]) (.ite (.t 8) (.seq (.ax [] [z 4 (.bg (.c (.i .i64 1073741824)))]) (.ret))
 (.skip)))))) (.seq (.ax [] [zm 15 0,z 16 (.min2 (.t 15) (.c (.i .i64 1073741824))),zm 17 1,z 18 (.bin .sub (.c (.i .i64 100)) (.t 17)),z 19 (.bin .mul (.t 16) (.t 18)),z 20
 (.bin .quo (.t 19) (.c (.i .i64 100))),zm 4 20]) (.ret)))⟩
theorem Z8:cA prog f121=some Ul:=by kernel_rfl
def Ur:cy:=⟨31,[.t 4],.seq (.ax [] [z 2 (.box 37 (.t 0)),z 3 (.box 24 (.t 1)),z 4 (.bg (.c (.i .i64 0)))]) (.seq (.ax [] [z 5 (.bg (.c (.i .i64 0)))]) (.seq (.seq (.ax [10,11,12,
 13,14] [zf 6 2 2,zl 7 6,z 8 (.bin .neq (.t 7) (.c (.s []))),zm 9 8,⟨some 10,[(9,true)],.gi 2 (.t 2)⟩,⟨some 11,[(9,true)],.load none (.t 10)⟩,⟨some 12,[(9,true)],
 .gi 1 (.t 3)⟩,⟨some 13,[(9,true)],.load none (.t 12)⟩,⟨some 14,[(9,true)],.bin .eql (.t 11) (.t 13)⟩,z 15 (.pick (.t 9) (.t 14) (.c (.b false)))]) (.ite (.t 15) (.ax []
 [zm 16 5,z 17 (.bin .add (.t 16) (.c (.i .i64 1))),zm 5 17]) (.skip))) (.seq (.seq (.ax [22,23,24,25,26] [zf 18 3 2,zl 19 18,z 20 (.bin .neq (.t 19) (.c (.s []))),zm 21
 20,⟨some 22,[(21,true)],.gi 3 (.t 2)⟩,⟨some 23,[(21,true)],.load none (.t 22)⟩,⟨some 24,[(21,true)],.gi 2 (.t 3)⟩,⟨some 25,[(21,true)],.load none (.t 24)⟩,⟨some
 26,[(21,true)],.bin .eql (.t 23) (.t 25)⟩,z 27 (.pick (.t 21) (.t 26) (.c (.b false)))]) (.ite (.t 27) (.ax [] [zm 28 5,z 29 (.bin .add (.t 28) (.c (.i .i64 1))),zm 5 29])
 (.skip))) (.seq (.ax [] [zm 30 5,zm 4 30]) (.ret)))))⟩
theorem aad:cA prog f108=some Ur:=by kernel_rfl
def FV:bE:=.seq (.ax [] [z 11 (.bin .lss (.t 10) (.t 9))]) (.seq (.ite (.t 11) (.skip) (.exit 0)) (.seq (.block 1 (.seq (.ax [] [z 12 (.idx 5 (.t 8) (.t 10)),zL 13 5 12,z 4 (.alloc 84 [.i
 .i64 0,.s [],.s [],.i .i64 0,.i .i64 0]),zs (.store 5 [none,none,none,none,none] (.t 4) (.t 13))]) (.seq (.seq (.ax [18,19,20,23,24,25,28,29,30,33,34,35,38,
 39,40] [zf 14 0 4,zl 15 14,z 16 (.bin .lss (.t 15) (.c (.i .i64 0))),zm 17 16,⟨some 18,[(17,false)],.gi 0 (.t 4)⟩,⟨some 19,[(17,false)],.load none (.t 18)⟩,⟨some 20,
 [(17,false)],.bin .gtr (.t 19) (.c (.i .i64 3))⟩,z 21 (.pick (.t 17) (.c (.b true)) (.t 20)),zm 22 21,⟨some 23,[(22,false)],.gi 3 (.t 4)⟩,⟨some 24,[(22,false)],.load
 none (.t 23)⟩,⟨some 25,[(22,false)],.bin .lss (.t 24) (.c (.i .i64 0))⟩,z 26 (.pick (.t 22) (.c (.b true)) (.t 25)),zm 27 26,⟨some 28,[(27,false)],.gi 3 (.t 4)⟩,⟨some
 29,[(27,false)],.load none (.t 28)⟩,⟨some 30,[(27,false)],.bin .gtr (.t 29) (.c (.i .i64 1073741824))⟩,z 31 (.pick (.t 27) (.c (.b true)) (.t 30)),zm 32 31,⟨some 33,[(32,
 false)],.gi 4 (.t 4)⟩,⟨some 34,[(32,false)],.load none (.t 33)⟩,⟨some 35,[(32,false)],.bin .lss (.t 34) (.c (.i .i64 0))⟩,z 36 (.pick (.t 32) (.c (.b true)) (.t 35)),zm
 37 36,⟨some 38,[(37,false)],.gi 4 (.t 4)⟩,⟨some 39,[(37,false)],.load none (.t 38)⟩,⟨some 40,[(37,false)],.bin .gtr (.t 39) (.c (.i .i64 100))⟩,z 41 (.pick (.t 37) (.c
 (.b true)) (.t 40))]) (.ite (.t 41) (.seq (.ax [] [z 2 (.bg (.c (.i .i64 1)))]) (.ret)) (.skip))) (.seq (.ax [46,47,48,49,52,53,54,55,56,57,58,59,60] [zf 42 1 4,zl
 43 42,z 44 (.bin .neq (.t 43) (.c (.s []))),zm 45 44,⟨some 46,[(45,true)],.gi 1 (.t 4)⟩,⟨some 47,[(45,true)],.load none (.t 46)⟩,⟨some 48,[(45,true)],.call 117 [.t
 47]⟩,⟨some 49,[(45,true)],.un .not (.t 48)⟩,z 50 (.pick (.t 45) (.t 49) (.c (.b false))),zm 51 50,⟨some 52,[(51,false)],.gi 2 (.t 4)⟩,⟨some 53,[(51,false)],.load none
 (.t 52)⟩,⟨some 54,[(51,false)],.bin .neq (.t 53) (.c (.s []))⟩,⟨some 55,[(51,false)],.bg (.t 54)⟩,⟨some 56,[(51,false),(55,true)],.gi 2 (.t 4)⟩,⟨some 57,[(51,
 false),(55,true)],.load none (.t 56)⟩,⟨some 58,[(51,false),(55,true)],.call 117 [.t 57]⟩,⟨some 59,[(51,false),(55,true)],.un .not (.t 58)⟩,⟨some 60,[(51,false)],
 .pick (.t 55) (.t 59) (.c (.b false))⟩,z 61 (.pick (.t 51) (.c (.b true)) (.t 60))]) (.ite (.t 61) (.seq (.ax [] [z 2 (.bg (.c (.i .i64 4)))]) (.ret)) (.skip)))))) (.ax [] [z 62
 (.bin .add (.t 10) (.c (.i .i64 1))),zm 10 62])))
def p57:cy:=⟨63,[.t 2],.seq (.ax [] [z 2 (.bg (.c (.i .i64 0)))]) (.seq (.seq (.ax [] [zm 5 0,z 6 (.len false (.t 5)),z 7 (.bin .gtr (.t 6) (.c (.i .i64 16)))]) (.ite (.t 7) (.seq (.ax
 [] [z 2 (.bg (.c (.i .i64 3)))]) (.ret)) (.skip))) (.seq (.seq (.ax [] [zm 8 0,z 9 (.len false (.t 8)),z 10 (.bg (.c (.i .i64 0)))]) (.block 0 (.loop FV))) (.seq (.ax [] [z
 2 (.bg (.c (.i .i64 0)))]) (.ret))))⟩
theorem c57:cA prog f57=some p57:=by kernel_rfl
def Tg:cy:=⟨8,[.c 2 (some 2)],.seq (.ax [] [z 2 (.alloc 268 [.i .i64 0,.i .u64 0])]) (.seq (.ax [] [zm 3 0,z 4 (.bin .shr (.t 3) (.c (.i .u64 63))),zm 5 0,z 6 (.De .u64 (.t 5)),z 7
 (.build [.i .i64 0,.i .u64 0] [(0,1,.t 4),(1,1,.t 6)]),zs (.store 2 [none,none] (.t 2) (.t 7))]) (.ret))⟩
theorem Y9:cA prog f252=some Tg:=by kernel_rfl
def Tt:cy:=⟨51,[.t 6],.seq (.ax [] [z 6 (.bg (.c (.b false)))]) (.seq (.ax [] [zm 13 0,z 14 (.call 252 [.t 13]),zm 15 1,z 16 (.call 252 [.t 15]),zm 17 2,z 18 (.call 252 [.t 17]),z 7
 (.alloc 268 [.i .i64 0,.i .u64 0]),z 8 (.alloc 268 [.i .i64 0,.i .u64 0]),z 9 (.alloc 268 [.i .i64 0,.i .u64 0]),zs (.store 2 [none,none] (.t 7) (.t 14)),zs (.store 2 [none,
 none] (.t 8) (.t 16)),zs (.store 2 [none,none] (.t 9) (.t 18))]) (.seq (.ax [] [zf 20 1 7,zl 21 20,zf 22 1 8,zl 23 22,z 24 (.yH (.t 21) (.t 23)),zm 19 24,z 25 (.ext 0
 (.t 19)),z 26 (.ext 1 (.t 19)),zm 10 25,zm 11 26]) (.seq (.ax [] [zf 27 0 7,zl 28 27,zf 29 0 8,zl 30 29,z 31 (.bin .sub (.t 28) (.t 30)),zm 32 11,z 33 (.De .i64 (.t 32)),
 z 34 (.bin .sub (.t 31) (.t 33)),zm 12 34]) (.seq (.ax [40,41,42,43,44,45,46,47,48,49] [zm 35 12,zf 36 0 9,zl 37 36,z 38 (.bin .gtr (.t 35) (.t 37)),zm 39 38,⟨some
 40,[(39,false)],.bg (.t 12)⟩,⟨some 41,[(39,false)],.gi 0 (.t 9)⟩,⟨some 42,[(39,false)],.load none (.t 41)⟩,⟨some 43,[(39,false)],.bin .eql (.t 40) (.t 42)⟩,⟨some
 44,[(39,false)],.bg (.t 43)⟩,⟨some 45,[(39,false),(44,true)],.bg (.t 10)⟩,⟨some 46,[(39,false),(44,true)],.gi 1 (.t 9)⟩,⟨some 47,[(39,false),(44,true)],.load
 none (.t 46)⟩,⟨some 48,[(39,false),(44,true)],.bin .geq (.t 45) (.t 47)⟩,⟨some 49,[(39,false)],.pick (.t 44) (.t 48) (.c (.b false))⟩,z 50 (.pick (.t 39) (.c (.b true))
 (.t 49)),zm 6 50]) (.ret)))))⟩
theorem Zl:cA prog f216=some Tt:=by kernel_rfl
def TU:cy:=⟨52,[.t 6],.seq (.ax [] [z 3 (.box 84 (.t 0)),z 4 (.box 37 (.t 1)),z 6 (.bg (.c (.b false)))]) (.seq (.block 0 (.seq (.ax [12,13,14,15,16] [zf 8 0 3,zl 9 8,z 10 (.bin
 .neq (.t 9) (.c (.i .i64 0))),zm 11 10,⟨some 12,[(11,true)],.gi 0 (.t 3)⟩,⟨some 13,[(11,true)],.load none (.t 12)⟩,⟨some 14,[(11,true)],.gi 7 (.t 4)⟩,⟨some 15,[(11,
 true)],.load none (.t 14)⟩,⟨some 16,[(11,true)],.bin .neq (.t 13) (.t 15)⟩,z 17 (.pick (.t 11) (.t 16) (.c (.b false))),zm 7 17]) (.ite (.t 7) (.seq (.ax [] [z 6 (.bg (.c
 (.b false)))]) (.ret)) (.seq (.ax [23,24,25,26,27,30,31,32,33,34,35,36,37,38,39] [zf 19 1 3,zl 20 19,z 21 (.bin .neq (.t 20) (.c (.s []))),zm 22 21,⟨some 23,
 [(22,true)],.gi 1 (.t 3)⟩,⟨some 24,[(22,true)],.load none (.t 23)⟩,⟨some 25,[(22,true)],.gi 4 (.t 4)⟩,⟨some 26,[(22,true)],.load none (.t 25)⟩,⟨some 27,[(22,
 true)],.bin .neq (.t 24) (.t 26)⟩,z 28 (.pick (.t 22) (.t 27) (.c (.b false))),zm 29 28,⟨some 30,[(29,false)],.gi 2 (.t 3)⟩,⟨some 31,[(29,false)],.load none (.t 30)⟩,
 ⟨some 32,[(29,false)],.bin .neq (.t 31) (.c (.s []))⟩,⟨some 33,[(29,false)],.bg (.t 32)⟩,⟨some 34,[(29,false),(33,true)],.gi 2 (.t 3)⟩,⟨some 35,[(29,false),(33,
 true)],.load none (.t 34)⟩,⟨some 36,[(29,false),(33,true)],.gi 5 (.t 4)⟩,⟨some 37,[(29,false),(33,true)],.load none (.t 36)⟩,⟨some 38,[(29,false),(33,true)],.bin
 .neq (.t 35) (.t 37)⟩,⟨some 39,[(29,false)],.pick (.t 33) (.t 38) (.c (.b false))⟩,z 40 (.pick (.t 29) (.c (.b true)) (.t 39)),zm 18 40]) (.ite (.t 18) (.seq (.ax [] [z 6
 (.bg (.c (.b false)))]) (.ret)) (.skip)))))) (.seq (.ax [45,46,47,48,49,50] [zf 41 3 3,zl 42 41,z 43 (.bin .leq (.t 42) (.c (.i .i64 0))),zm 44 43,⟨some 45,[(44,
 false)],.bg (.t 2)⟩,⟨some 46,[(44,false)],.gi 6 (.t 4)⟩,⟨some 47,[(44,false)],.load none (.t 46)⟩,⟨some 48,[(44,false)],.gi 3 (.t 3)⟩,⟨some 49,[(44,false)],.load
 none (.t 48)⟩,⟨some 50,[(44,false)],.call 216 [.t 45,.t 47,.t 49]⟩,z 51 (.pick (.t 44) (.c (.b true)) (.t 50)),zm 6 51]) (.ret)))⟩
theorem ZL:cA prog f167=some TU:=by kernel_rfl
def Aw:bE:=.seq (.ax [] [z 13 (.bin .lss (.t 12) (.t 11))]) (.seq (.ite (.t 13) (.skip) (.exit 0)) (.seq (.block 1 (.seq (.ax [] [z 14 (.idx 5 (.t 10) (.t 12)),zL 15 5 14,z 9 (.alloc 84
 [.i .i64 0,.s [],.s [],.i .i64 0,.i .i64 0]),zs (.store 5 [none,none,none,none,none] (.t 9) (.t 15))]) (.seq (.ax [20,21,22,23] [zf 16 4 9,zl 17 16,z 18 (.bin .gtr
 (.t 17) (.c (.i .i64 0))),zm 19 18,⟨some 20,[(19,true)],.load (some 5) (.t 9)⟩,⟨some 21,[(19,true)],.load (some 8) (.t 4)⟩,⟨some 22,[(19,true)],.bg (.t 2)⟩,⟨some 23,
 [(19,true)],.call 167 [.t 20,.t 21,.t 22]⟩,z 24 (.pick (.t 19) (.t 23) (.c (.b false)))]) (.ite (.t 24) (.ax [] [zm 25 7,zf 26 4 9,zl 27 26,z 28 (.min2 (.t 27) (.c (.i .i64
 100))),z 29 (.bin .add (.t 25) (.t 28)),z 30 (.min2 (.t 29) (.c (.i .i64 100))),zm 7 30]) (.skip))))) (.ax [] [z 31 (.bin .add (.t 12) (.c (.i .i64 1))),zm 12 31])))
def Us:cy:=⟨33,[.t 6],.seq (.ax [] [z 4 (.box 37 (.t 1)),z 6 (.bg (.c (.i .i64 0)))]) (.seq (.ax [] [z 7 (.bg (.c (.i .i64 0)))]) (.seq (.seq (.ax [] [zm 10 0,z 11 (.len false (.t
 10)),z 12 (.bg (.c (.i .i64 0)))]) (.block 0 (.loop Aw))) (.seq (.ax [] [zm 32 7,zm 6 32]) (.ret))))⟩
theorem aae:cA prog f107=some Us:=by kernel_rfl
def p15:cy:=⟨68,[.t 2],.seq (.ax [] [z 1 (.box 24 (.t 0)),z 2 (.bg (.c (.i .i64 0)))]) (.seq (.seq (.ax [] [zf 10 0 1,zl 11 10,z 12 (.call 44 [.t 11]),zm 3 12]) (.seq (.ax [] [zm 13
 3,z 14 (.bin .neq (.t 13) (.c (.i .i64 0)))]) (.ite (.t 14) (.seq (.ax [] [zm 15 3,zm 2 15]) (.ret)) (.skip)))) (.seq (.seq (.ax [] [zf 16 0 1,zl 17 16,z 18 (.len false (.t
 17)),z 19 (.bin .eql (.t 18) (.c (.i .i64 0)))]) (.ite (.t 19) (.seq (.ax [] [z 2 (.bg (.c (.i .i64 1)))]) (.ret)) (.skip))) (.seq (.seq (.ax [] [zf 21 1 1,zl 22 21,z 23
 (.call 45 [.t 22]),zm 20 23,z 24 (.ext 0 (.t 20)),z 25 (.ext 1 (.t 20)),z 26 (.ext 2 (.t 20)),zm 4 24,zm 5 25,zm 6 26]) (.seq (.ax [] [zm 27 6,z 28 (.bin .neq (.t 27) (.c
 (.i .i64 0)))]) (.ite (.t 28) (.seq (.ax [] [zm 29 6,zm 2 29]) (.ret)) (.skip)))) (.seq (.seq (.ax [] [zf 31 2 1,zl 32 31,z 33 (.call 45 [.t 32]),zm 30 33,z 34 (.ext 0 (.t
 30)),z 35 (.ext 1 (.t 30)),z 36 (.ext 2 (.t 30)),zm 7 34,zm 8 35,zm 9 36]) (.seq (.ax [] [zm 37 9,z 38 (.bin .neq (.t 37) (.c (.i .i64 0)))]) (.ite (.t 38) (.seq (.ax [] [zm
 39 9,zm 2 39]) (.ret)) (.skip)))) (.seq (.seq (.ax [44,45,46,49,50,51,54,55,56,59,60,61,64,65,66] [zf 40 3 1,zl 41 40,z 42 (.bin .lss (.t 41) (.c (.i .i64 0))),zm
 43 42,⟨some 44,[(43,false)],.gi 3 (.t 1)⟩,⟨some 45,[(43,false)],.load none (.t 44)⟩,⟨some 46,[(43,false)],.bin .gtr (.t 45) (.c (.i .i64 1073741824))⟩,z 47 (.pick (.t
 43) (.c (.b true)) (.t 46)),zm 48 47,⟨some 49,[(48,false)],.gi 4 (.t 1)⟩,⟨some 50,[(48,false)],.load none (.t 49)⟩,⟨some 51,[(48,false)],.bin .lss (.t 50) (.c (.i .i64
 1))⟩,z 52 (.pick (.t 48) (.c (.b true)) (.t 51)),zm 53 52,⟨some 54,[(53,false)],.gi 4 (.t 1)⟩,⟨some 55,[(53,false)],.load none (.t 54)⟩,⟨some 56,[(53,false)],.bin
 .gtr (.t 55) (.c (.i .i64 102))⟩,z 57 (.pick (.t 53) (.c (.b true)) (.t 56)),zm 58 57,⟨some 59,[(58,false)],.gi 5 (.t 1)⟩,⟨some 60,[(58,false)],.load none (.t 59)⟩,⟨some
 61,[(58,false)],.bin .lss (.t 60) (.c (.i .i64 1))⟩,z 62 (.pick (.t 58) (.c (.b true)) (.t 61)),zm 63 62,⟨some 64,[(63,false)],.gi 5 (.t 1)⟩,⟨some 65,[(63,false)],
 .load none (.t 64)⟩,⟨some 66,[(63,false)],.bin .gtr (.t 65) (.c (.i .i64 100))⟩,z 67 (.pick (.t 63) (.c (.b true)) (.t 66))]) (.ite (.t 67) (.seq (.ax [] [z 2 (.bg (.c (.i
 .i64 1)))]) (.ret)) (.skip))) (.seq (.ax [] [z 2 (.bg (.c (.i .i64 0)))]) (.ret)))))))⟩
theorem c15:cA prog f15=some p15:=by kernel_rfl
def p50:cy:=⟨39,[.c 10 (some 5)],.seq (.ax [] [z 5 (.box 37 (.t 0)),z 9 (.box 24 (.t 4)),z 10 (.alloc 44 [.i .i64 0,.i .i64 0,.i .i64 0,.i .i64 0,.i .i64 0])]) (.seq (.LB [(11,44,
 [.i .i64 0,.i .i64 0,.i .i64 0,.i .i64 0,.i .i64 0])] [([zm 12 1,zm 13 2,zm 15 3,zL 16 8 5,zf 17 3 9,zl 18 17],z 14 (.call 106 [.t 12,.t 13]),[zL 16 8 5,zf 17 3 9,zl
 18 17]),([],z 19 (.call 107 [.t 15,.t 16,.t 18]),[])] [] [z 20 (.build [.i .i64 0,.i .i64 0,.i .i64 0,.i .i64 0,.i .i64 0] [(1,1,.t 14),(3,1,.t 19)])] [] [zs (.store 5
 [none,none,none,none,none] (.t 11) (.t 20))]) (.seq (.seq (.ax [] [zf 21 1 11,zl 22 21,z 23 (.bin .eql (.t 22) (.c (.i .i64 100)))]) (.ite (.t 23) (.ax [] [zL 24 8 5,zL 25
 6 9,z 26 (.call 108 [.t 24,.t 25]),zf 27 2 11,zs (.store 1 [none] (.t 27) (.t 26))]) (.skip))) (.seq (.ax [] [zf 28 1 11,zl 29 28,zf 30 2 11,zl 31 30,z 32 (.bin .add (.t
 29) (.t 31)),zf 33 3 11,zl 34 33,z 35 (.bin .sub (.t 32) (.t 34)),z 36 (.max2 (.t 35) (.c (.i .i64 0))),zf 37 4 11,zs (.store 1 [none] (.t 37) (.t 36))]) (.seq (.ax [] [zL 38
 5 11,zs (.store 5 [none,none,none,none,none] (.t 10) (.t 38))]) (.ret)))))⟩
theorem c50:cA prog f50=some p50:=by kernel_rfl
def p20:cy:=⟨17,[.c 6 (some 5)],.seq (.ax [] [z 3 (.box 37 (.t 0)),z 5 (.box 24 (.t 2)),z 6 (.alloc 44 [.i .i64 0,.i .i64 0,.i .i64 0,.i .i64 0,.i .i64 0])]) (.seq (.dG [([zL 7 8 3,
 zf 8 0 3,zl 9 8,zf 11 0 5,zl 12 11,zm 14 1,zL 15 6 5],z 10 (.call 51 [.t 9]),[zL 7 8 3,zf 11 0 5,zl 12 11,zL 15 6 5]),([],z 13 (.call 51 [.t 12]),[zL 7 8 3,zL 15 6
 5])] [] [] [z 16 (.call 50 [.t 7,.t 10,.t 13,.t 14,.t 15]),zs (.store 5 [none,none,none,none,none] (.t 6) (.t 16))]) (.ret))⟩
theorem c20:cA prog f20=some p20:=by kernel_rfl
def p26:cy:=⟨4,[.t 0],.seq (.ax [] [z 0 (.bg (.c .fp))]) (.seq (.ax [] [z 1 (.call 65 []),z 2 (.build [.fp,.nil,.i .i64 0] [(0,1,.t 1)]),z 3 (.box 105 (.t 2)),zm 0 3])
 (.ret))⟩
theorem c26:cA prog f26=some p26:=by kernel_rfl
def p69:cy:=⟨12,[.c 2 (some 8)],.seq (.ax [] [z 1 (.box 37 (.t 0)),z 2 (.alloc 37 [.nil,.nil,.s [],.s [],.s [],.s [],.i .i64 0,.i .i64 0])]) (.seq (.dG [([zf 3 0 1,zl 4 3,zf 6 1
 1,zl 7 6],z 5 (.call 134 [.t 4]),[zf 6 1 1,zl 7 6]),([zf 9 0 1],z 8 (.call 134 [.t 7]),[zf 9 0 1])] [] [] [zs (.store 1 [some 3] (.t 9) (.t 5)),zf 10 1 1,zs (.store 1 [some
 3] (.t 10) (.t 8))]) (.seq (.ax [] [zL 11 8 1,zs (.store 8 [some 3,some 3,none,none,none,none,none,none] (.t 2) (.t 11))]) (.ret)))⟩
theorem c69:cA prog f69=some p69:=by kernel_rfl
def p68:cy:=⟨14,[.t 4,.t 5],.seq (.ax [] [z 4 (.bg (.c (.i .i64 0))),z 5 (.bg (.c (.b false)))]) (.seq (.ax [] [zm 6 0,z 7 (.cF (.t 6)),zf 8 1 7,zl 9 8,zm 10 1,z 11 (.call 131
 [.t 9,.t 10,.c (.fn 132 [])]),z 12 (.ext 0 (.t 11)),z 13 (.ext 1 (.t 11)),zm 4 12,zm 5 13]) (.ret))⟩
theorem c68:cA prog f68=some p68:=by kernel_rfl
def Ud:cy:=⟨9,[.t 4],.seq (.ax [] [z 2 (.box 108 (.t 0)),z 4 (.bg (.c (.i .i64 0)))]) (.seq (.ax [] [zf 5 1 2,zl 6 5,zm 7 1,z 8 (.call 133 [.t 6,.t 7]),zm 4 8]) (.ret))⟩
theorem Z1:cA prog f132=some Ud:=by kernel_rfl
def Wd:cy:=⟨92,[.t 4],.seq (.ax [] [z 3 (.box 37 (.t 1)),z 4 (.bg (.c (.i .i64 0)))]) (.seq (.seq (.ax [] [zL 10 8 3,z 11 (.call 66 [.t 10]),zm 5 11]) (.seq (.ax [] [zm 12 5,z 13
 (.bin .neq (.t 12) (.c (.i .i64 0)))]) (.ite (.t 13) (.seq (.ax [] [zm 14 5,zm 4 14]) (.ret)) (.skip)))) (.seq (.ax [] [zL 15 8 3,z 16 (.call 67 [.t 15]),zm 6 16]) (.seq (.ax
 [] [zm 18 0,zm 19 6,z 20 (.call 68 [.t 18,.t 19]),zm 17 20,z 21 (.ext 0 (.t 17)),z 22 (.ext 1 (.t 17)),zm 7 21,zm 8 22]) (.seq (.seq (.ax [26,27,28,29,30,31] [zm 23 8,
 z 24 (.un .not (.t 23)),zm 25 24,⟨some 26,[(25,true)],.bg (.t 0)⟩,⟨some 27,[(25,true)],.cF (.t 26)⟩,⟨some 28,[(25,true)],.gi 1 (.t 27)⟩,⟨some 29,[(25,true)],
 .load none (.t 28)⟩,⟨some 30,[(25,true)],.len false (.t 29)⟩,⟨some 31,[(25,true)],.bin .geq (.t 30) (.c (.i .i64 1024))⟩,z 32 (.pick (.t 25) (.t 31) (.c (.b false)))])
 (.ite (.t 32) (.seq (.ax [] [z 4 (.bg (.c (.i .i64 3)))]) (.ret)) (.skip))) (.seq (.LB [(9,108,[.i .i64 0,.s [],.nil,.nil,.s [],.s [],.s [],.s [],.i .i64 0,.i .i64 0,
 .nil])] [([zm 33 0,z 34 (.cF (.t 33)),zf 35 2 34,zl 36 35,zm 37 6,zL 38 8 3,zf 40 0 3,zl 41 40],z 39 (.call 69 [.t 38]),[z 34 (.cF (.t 33)),zf 35 2 34,zl 36 35,zf
 40 0 3,zl 41 40]),([],z 42 (.call 51 [.t 41]),[z 34 (.cF (.t 33)),zf 35 2 34,zl 36 35])] [] [z 43 (.build [.i .i64 0,.s [],.nil,.nil,.s [],.s [],.s [],.s [],.i .i64
 0,.i .i64 0,.nil] [(0,1,.t 36),(1,1,.t 37),(2,8,.t 39),(10,1,.t 42)])] [] [zs (.store 11 [none,none,some 3,some 3,none,none,none,none,none,none,some 3] (.t 9)
 (.t 43))]) (.seq (.ax [] [zm 44 0,z 45 (.cF (.t 44)),zf 46 2 45,zl 47 46,z 48 (.bin .add (.t 47) (.c (.i .i64 1))),z 49 (.cF (.t 44)),zf 50 2 49,zs (.store 1 [none]
 (.t 50) (.t 48))]) (.seq (.seq (.ax [] [zm 51 8]) (.ite (.t 51) (.seq (.dG [] [zm 52 0,z 53 (.cF (.t 52)),zf 54 0 53,zl 55 54,zm 56 0,z 57 (.cF (.t 56)),zf 58 1 57,
 zl 59 58,zm 60 7,z 61 (.idx 11 (.t 59) (.t 60)),zf 62 0 61,zl 63 62] [] [z 64 (.call 70 [.t 55,.t 63])]) (.dG [] [zm 65 0,z 66 (.cF (.t 65)),zf 67 1 66,zl 68 67,zm 69
 7,zL 70 11 9] [] [z 71 (.idx 11 (.t 68) (.t 69)),zs (.store 11 [none,none,some 3,some 3,none,none,none,none,none,none,some 3] (.t 71) (.t 70))])) (.dG [([zm 72 0,zm
 73 0,z 74 (.cF (.t 73)),zf 75 1 74,zl 76 75,zm 77 7,zL 78 11 9],z 79 (.Dq 108 11 176 [none,none,some 3,some 3,none,none,none,none,none,none,some 3] [.t 78]),[z
 74 (.cF (.t 73)),zf 75 1 74,zl 76 75]),([],z 80 (.call 71 [.t 76,.t 77,.t 79]),[])] [] [] [z 81 (.cF (.t 72)),zf 82 1 81,zs (.store 1 [some 11] (.t 82) (.t 80))])))
 (.seq (.dG [] [zm 83 0,z 84 (.cF (.t 83)),zf 85 0 84,zl 86 85,zf 87 0 9,zl 88 87,zf 89 10 9,zl 90 89] [] [z 91 (.call 72 [.t 86,.t 88,.t 90])]) (.seq (.ax [] [z 4
 (.bg (.c (.i .i64 0)))]) (.ret))))))))))⟩
theorem Y8:cA prog f27=some Wd:=by kernel_rfl
def FY:bE:=.seq (.ax [] [z 12 (.bin .lss (.t 11) (.t 10))]) (.seq (.ite (.t 12) (.skip) (.exit 0)) (.seq (.block 1 (.seq (.ax [] [z 13 (.idx 11 (.t 9) (.t 11)),zL 14 11 13,z 5 (.alloc 108
 [.i .i64 0,.s [],.nil,.nil,.s [],.s [],.s [],.s [],.i .i64 0,.i .i64 0,.nil]),zs (.store 11 [none,none,some 3,some 3,none,none,none,none,none,none,some 3] (.t
 5) (.t 14))]) (.ax [] [zm 15 3,zf 16 2 5,zL 17 8 16,z 18 (.call 69 [.t 17]),z 19 (.c6 8 [some 3,some 3,none,none,none,none,none,none] [.t 18]),z 20 (.app 37 8 128
 (.t 15) (.t 19)),zm 3 20]))) (.ax [] [z 21 (.bin .add (.t 11) (.c (.i .i64 1))),zm 11 21])))
def p28:cy:=⟨23,[.t 2],.seq (.ax [] [z 2 (.bg (.c .nil))]) (.seq (.ax [] [z 3 (.bg (.c .nil))]) (.seq (.seq (.ax [] [zm 6 0,z 7 (.cF (.t 6)),zf 8 1 7,zl 9 8,z 10 (.len false (.t
 9)),z 11 (.bg (.c (.i .i64 0)))]) (.block 0 (.loop FY))) (.seq (.ax [] [zm 22 3,zm 2 22]) (.ret))))⟩
theorem c28:cA prog f28=some p28:=by kernel_rfl
def Ch:bE:=.seq (.ax [] [z 46 (.bin .lss (.t 45) (.t 44))]) (.seq (.ite (.t 46) (.skip) (.exit 0)) (.seq (.block 1 (.seq (.ax [] [zm 47 45,z 48 (.idx 11 (.t 43) (.t 45)),zL 49 11 48,z 14
 (.alloc 108 [.i .i64 0,.s [],.nil,.nil,.s [],.s [],.s [],.s [],.i .i64 0,.i .i64 0,.nil]),zm 13 47,zs (.store 11 [none,none,some 3,some 3,none,none,none,none,
 none,none,some 3] (.t 14) (.t 49))]) (.seq (.seq (.ax [] [zm 51 11,zf 52 0 14,zl 53 52,z 54 (.call 59 [.t 51,.t 53]),zm 50 54,z 55 (.ext 0 (.t 50)),z 56 (.ext 1 (.t 50)),
 zm 15 55,zm 16 56]) (.seq (.ax [] [zm 57 16,z 58 (.un .not (.t 57))]) (.ite (.t 58) (.exit 1) (.skip)))) (.seq (.ax [] [zf 59 2 14,zL 60 8 59,zf 61 10 14,zl 62 61,zm 63 10,
 zm 64 1,zL 65 6 5,z 66 (.call 50 [.t 60,.t 62,.t 63,.t 64,.t 65]),z 17 (.alloc 44 [.i .i64 0,.i .i64 0,.i .i64 0,.i .i64 0,.i .i64 0]),zs (.store 5 [none,none,none,
 none,none] (.t 17) (.t 66))]) (.seq (.ax [] [zm 67 13,zf 68 0 17,zs (.store 1 [none] (.t 68) (.t 67))]) (.seq (.ax [] [zf 69 4 17,zl 70 69,zf 71 4 5,zl 72 71,z 73 (.bin
 .geq (.t 70) (.t 72))]) (.ite (.t 73) (.ax [] [zm 74 12,zL 75 5 17,z 76 (.c6 5 [none,none,none,none,none] [.t 75]),z 77 (.app 44 5 40 (.t 74) (.t 76)),zm 12 77])
 (.skip)))))))) (.ax [] [z 78 (.bin .add (.t 45) (.c (.i .i64 1))),zm 45 78])))
def p23:cy:=⟨90,[.t 6,.t 7],.seq (.ax [] [z 3 (.box 47 (.t 0)),z 5 (.box 24 (.t 2)),z 6 (.bg (.c .nil)),z 7 (.bg (.c (.i .i64 0)))]) (.seq (.seq (.ax [] [zL 18 6 5,z 19 (.call 15 [.t
 18]),zm 8 19]) (.seq (.ax [] [zm 20 8,z 21 (.bin .neq (.t 20) (.c (.i .i64 0)))]) (.ite (.t 21) (.seq (.ax [] [zm 22 8,z 6 (.bg (.c .nil)),zm 7 22]) (.ret)) (.skip)))) (.seq
 (.seq (.ax [] [zm 23 1,z 24 (.call 57 [.t 23]),zm 9 24]) (.seq (.ax [] [zm 25 9,z 26 (.bin .neq (.t 25) (.c (.i .i64 0)))]) (.ite (.t 26) (.seq (.ax [] [zm 27 9,z 6 (.bg (.c
 .nil)),zm 7 27]) (.ret)) (.skip)))) (.seq (.ax [] [zf 28 0 5,zl 29 28,z 30 (.call 51 [.t 29]),zm 10 30]) (.seq (.dG [] [zl 31 3,z 32 (.cF (.t 31)),zf 33 0 32,zl 34 33,
 zm 35 10,zf 36 4 5,zl 37 36,z 38 (.min2 (.t 37) (.c (.i .i64 100)))] [] [z 39 (.call 58 [.t 34,.t 35,.t 38]),zm 11 39]) (.seq (.ax [] [z 12 (.bg (.c .nil))]) (.seq (.seq
 (.ax [] [zl 40 3,z 41 (.cF (.t 40)),zf 42 1 41,zl 43 42,z 44 (.len false (.t 43)),z 45 (.bg (.c (.i .i64 0)))]) (.block 0 (.loop Ch))) (.seq (.ax [] [zm 79 12,z 80
 (.LI 61 [.t 3]),z 81 (.call 60 [.t 79,.t 80])]) (.seq (.ax [] [zm 82 12,zm 83 12,z 84 (.len false (.t 83)),zf 85 5 5,zl 86 85,z 87 (.min2 (.t 84) (.t 86)),z 88 (.slice 5
 (.t 82) none (some (.t 87))),z 89 (.call 64 [.t 88]),zm 6 89,z 7 (.bg (.c (.i .i64 0)))]) (.ret)))))))))⟩
theorem c23:cA prog f23=some p23:=by kernel_rfl
def Uc:cy:=⟨20,[.t 4],.seq (.ax [] [z 4 (.bg (.c (.i .i64 0)))]) (.seq (.ax [] [zm 7 0,z 8 (.call 200 [.t 7]),zm 5 8]) (.seq (.ax [] [zm 9 1,z 10 (.call 200 [.t 9]),zm 6 10]) (.seq
 (.seq (.ax [] [zm 11 5]) (.ite (.t 11) (.seq (.seq (.ax [] [zm 12 6]) (.ite (.t 12) (.seq (.ax [] [z 4 (.bg (.c (.i .i64 0)))]) (.ret)) (.skip))) (.seq (.ax [] [z 4 (.bg (.c
 (.i .i64 (-1))))]) (.ret))) (.skip))) (.seq (.seq (.ax [] [zm 13 6]) (.ite (.t 13) (.seq (.ax [] [z 4 (.bg (.c (.i .i64 1)))]) (.ret)) (.skip))) (.seq (.seq (.ax [] [zm 14 0,zm
 15 1,z 16 (.bin .lss (.t 14) (.t 15))]) (.ite (.t 16) (.seq (.ax [] [z 4 (.bg (.c (.i .i64 (-1))))]) (.ret)) (.skip))) (.seq (.seq (.ax [] [zm 17 0,zm 18 1,z 19 (.bin .gtr (.t
 17) (.t 18))]) (.ite (.t 19) (.seq (.ax [] [z 4 (.bg (.c (.i .i64 1)))]) (.ret)) (.skip))) (.seq (.ax [] [z 4 (.bg (.c (.i .i64 0)))]) (.ret))))))))⟩
theorem Z0:cA prog f133=some Uc:=by kernel_rfl
def TE:cy:=⟨6,[.t 2],.seq (.ax [] [z 2 (.bg (.c (.b false)))]) (.seq (.ax [] [zm 3 0,zm 4 0,z 5 (.bin .neq (.t 3) (.t 4)),zm 2 5]) (.ret))⟩
theorem Zw:cA prog f200=some TE:=by kernel_rfl
def p64:cy:=⟨9,[.t 2],.seq (.ax [] [z 2 (.bg (.c .nil))]) (.seq (.ax [] [zm 3 0,zm 4 0,z 5 (.len false (.t 4)),zm 6 0,z 7 (.len false (.t 6)),z 8 (.clip 5 (.t 3) (.t 5) (.t 7)),zm 2
 8]) (.ret))⟩
theorem c64:cA prog f64=some p64:=by kernel_rfl
def sL:bE:=.seq (.seq (.ax [] [zm 16 6,zm 17 0,z 18 (.len false (.t 17)),z 19 (.bin .lss (.t 16) (.t 18))]) (.ite (.t 19) (.skip) (.exit 0))) (.seq (.block 1 (.seq (.ax [] [zm 22 0,zm 23
 6,z 24 (.idx 2 (.t 22) (.t 23)),zL 25 2 24,z 7 (.alloc 190 [.i .i64 0,.i .i64 0]),zs (.store 2 [none,none] (.t 7) (.t 25))]) (.seq (.ax [] [zm 26 1,zL 27 2 7,z 28 (.jA
 (.t 26) [.t 27]),z 29 (.un .not (.t 28))]) (.ite (.t 29) (.seq (.ax [] [zm 30 0,zm 31 5,zL 32 2 7,z 33 (.idx 2 (.t 30) (.t 31)),zs (.store 2 [none,none] (.t 33) (.t 32))])
 (.ax [] [zm 34 5,z 35 (.bin .add (.t 34) (.c (.i .i64 1))),zm 5 35])) (.skip))))) (.ax [] [zm 20 6,z 21 (.bin .add (.t 20) (.c (.i .i64 1))),zm 6 21]))
def TD:cy:=⟨42,[.t 4],.seq (.ax [] [z 4 (.bg (.c .nil))]) (.seq (.ax [] [zm 8 0,zm 9 1,z 10 (.call 242 [.t 8,.t 9]),zm 5 10]) (.seq (.seq (.ax [] [zm 11 5,z 12 (.bin .eql (.t 11)
 (.c (.i .i64 (-1))))]) (.ite (.t 12) (.seq (.ax [] [zm 13 0,zm 4 13]) (.ret)) (.skip))) (.seq (.seq (.ax [] [zm 14 5,z 15 (.bin .add (.t 14) (.c (.i .i64 1))),zm 6 15]) (.block
 0 (.loop sL))) (.seq (.ax [] [zm 36 0,zm 37 5,z 38 (.slice 2 (.t 36) (some (.t 37)) none),zs (.Bu 2 [.i .i64 0,.i .i64 0] (.t 38))]) (.seq (.ax [] [zm 39 0,zm 40 5,z 41
 (.slice 2 (.t 39) none (some (.t 40))),zm 4 41]) (.ret))))))⟩
theorem Zv:cA prog f201=some TD:=by kernel_rfl
def z6:bE:=.seq (.ax [] [z 9 (.bin .lss (.t 8) (.t 7))]) (.seq (.ite (.t 9) (.skip) (.exit 0)) (.seq (.block 1 (.seq (.ax [] [zm 10 8,zm 5 10]) (.seq (.ax [] [zm 11 1,zm 12 0,zm 13 5,z
 14 (.idx 2 (.t 12) (.t 13)),zL 15 2 14,z 16 (.jA (.t 11) [.t 15])]) (.ite (.t 16) (.seq (.ax [] [zm 17 5,zm 4 17]) (.ret)) (.skip))))) (.ax [] [z 18 (.bin .add (.t 8) (.c
 (.i .i64 1))),zm 8 18])))
def Tn:cy:=⟨19,[.t 4],.seq (.ax [] [z 4 (.bg (.c (.i .i64 0)))]) (.seq (.seq (.ax [] [zm 6 0,z 7 (.len false (.t 6)),z 8 (.bg (.c (.i .i64 0)))]) (.block 0 (.loop z6))) (.seq (.ax
 [] [z 4 (.bg (.c (.i .i64 (-1))))]) (.ret)))⟩
theorem Zf:cA prog f242=some Tn:=by kernel_rfl
def we:bE:=.seq (.seq (.ax [] [zm 15 9,zm 16 10,z 17 (.bin .lss (.t 15) (.t 16))]) (.ite (.t 17) (.skip) (.exit 0))) (.block 1 (.seq (.ax [] [zm 18 9,zm 19 10,z 20 (.bin .add (.t 18) (.t
 19)),z 21 (.De .u64 (.t 20)),z 22 (.bin .shr (.t 21) (.c (.i .u64 1))),z 23 (.De .i64 (.t 22)),zm 11 23]) (.seq (.ax [] [zm 24 2,zm 25 0,zm 26 11,z 27 (.idx 11 (.t 25) (.t
 26)),zL 28 11 27,zm 29 1,z 30 (.jA (.t 24) [.t 28,.t 29]),z 31 (.bin .lss (.t 30) (.c (.i .i64 0)))]) (.ite (.t 31) (.ax [] [zm 32 11,z 33 (.bin .add (.t 32) (.c (.i .i64
 1))),zm 9 33]) (.ax [] [zm 34 11,zm 10 34])))))
def Ue:cy:=⟨49,[.t 6,.t 7],.seq (.ax [] [z 6 (.bg (.c (.i .i64 0))),z 7 (.bg (.c (.b false)))]) (.seq (.ax [] [zm 12 0,z 13 (.len false (.t 12)),zm 8 13]) (.seq (.ax [] [zm 14 8,z
 9 (.bg (.c (.i .i64 0))),zm 10 14]) (.seq (.block 0 (.loop we)) (.seq (.ax [40,41,42,43,44,45,46,47] [zm 35 9,zm 36 9,zm 37 8,z 38 (.bin .lss (.t 36) (.t 37)),zm
 39 38,⟨some 40,[(39,true)],.bg (.t 2)⟩,⟨some 41,[(39,true)],.bg (.t 0)⟩,⟨some 42,[(39,true)],.bg (.t 9)⟩,⟨some 43,[(39,true)],.idx 11 (.t 41) (.t 42)⟩,⟨some 44,
 [(39,true)],.load (some 11) (.t 43)⟩,⟨some 45,[(39,true)],.bg (.t 1)⟩,⟨some 46,[(39,true)],.jA (.t 40) [.t 44,.t 45]⟩,⟨some 47,[(39,true)],.bin .eql (.t 46) (.c
 (.i .i64 0))⟩,z 48 (.pick (.t 39) (.t 47) (.c (.b false))),zm 6 35,zm 7 48]) (.ret)))))⟩
theorem Z2:cA prog f131=some Ue:=by kernel_rfl
def p71:cy:=⟨95,[.t 6],.seq (.ax [] [z 6 (.bg (.c .nil))]) (.seq (.ax [] [zm 10 0,zm 11 1,z 12 (.slice 11 (.t 10) (some (.t 11)) none)]) (.seq (.ax [] [zm 13 2,z 14 (.len false (.t
 13)),zm 7 14]) (.seq (.seq (.ax [] [zm 15 7,z 16 (.bin .eql (.t 15) (.c (.i .i64 0)))]) (.ite (.t 16) (.seq (.ax [] [zm 17 0,zm 6 17]) (.ret)) (.skip))) (.seq (.ax [] [zm 18
 0,z 19 (.len false (.t 18)),zm 8 19]) (.seq (.seq (.ax [] [zm 20 1,zm 21 8,z 22 (.bin .eql (.t 20) (.t 21))]) (.ite (.t 22) (.seq (.ax [] [zm 23 0,zm 24 2,z 25 (.app 108 11
 176 (.t 23) (.t 24)),zm 6 25]) (.ret)) (.skip))) (.seq (.seq (.ax [] [zm 26 8,zm 27 7,z 28 (.bin .add (.t 26) (.t 27)),zm 29 0,z 30 (.stop),z 31 (.bin .gtr (.t 28) (.t 30))])
 (.ite (.t 31) (.seq (.ax [] [zm 32 0,zm 33 1,z 34 (.slice 11 (.t 32) none (some (.t 33))),zm 35 8,zm 36 7,z 37 (.bin .add (.t 35) (.t 36)),zm 38 1,z 39 (.bin .sub (.t 37)
 (.t 38)),z 40 (.stop),zm 9 40]) (.seq (.ax [] [zm 41 9,zm 42 1,z 43 (.slice 11 (.t 41) (some (.t 42)) none),zm 44 2,z 45 (.stop)]) (.seq (.dG [] [zm 46 9,zm 47 1,zm 48 7,
 z 49 (.bin .add (.t 47) (.t 48)),z 50 (.slice 11 (.t 46) (some (.t 49)) none),zm 51 0,zm 52 1,z 53 (.slice 11 (.t 51) (some (.t 52)) none)] [] [z 54 (.stop)]) (.seq (.ax [] [zm
 55 9,zm 6 55]) (.ret))))) (.skip))) (.seq (.ax [] [zm 56 0,zm 57 8,zm 58 7,z 59 (.bin .add (.t 57) (.t 58)),z 60 (.slice 11 (.t 56) none (some (.t 59))),zm 0 60]) (.seq (.seq
 (.ax [] [zm 61 2,zm 62 0,zm 63 1,zm 64 7,z 65 (.bin .add (.t 63) (.t 64)),z 66 (.slice 11 (.t 62) (some (.t 65)) none),z 67 (.stop),z 68 (.un .not (.t 67))]) (.ite (.t 68)
 (.seq (.dG [] [zm 69 0,zm 70 1,zm 71 7,z 72 (.bin .add (.t 70) (.t 71)),z 73 (.slice 11 (.t 69) (some (.t 72)) none),zm 74 0,zm 75 1,z 76 (.slice 11 (.t 74) (some (.t 75))
 none)] [] [z 77 (.stop)]) (.seq (.ax [] [zm 78 0,zm 79 1,z 80 (.slice 11 (.t 78) (some (.t 79)) none),zm 81 2,z 82 (.stop)]) (.seq (.ax [] [zm 83 0,zm 6 83]) (.ret))))
 (.skip))) (.seq (.ax [] [zm 84 0,zm 85 8,z 86 (.slice 11 (.t 84) (some (.t 85)) none),zm 87 2,z 88 (.stop)]) (.seq (.ax [] [zm 89 0,zm 90 1,z 91 (.slice 11 (.t 89) (some (.t
 90)) none),zm 92 7,z 93 (.call 137 [.t 91,.t 92])]) (.seq (.ax [] [zm 94 0,zm 6 94]) (.ret))))))))))))⟩
theorem c71:cA prog f71=some p71:=by kernel_rfl
def Ce:bE:=.seq (.seq (.ax [] [zm 13 7,zm 14 8,z 15 (.bin .lss (.t 13) (.t 14))]) (.ite (.t 15) (.skip) (.exit 0))) (.block 1 (.seq (.ax [] [zm 16 7,zm 17 8,z 18 (.bin .add (.t 16) (.t
 17)),z 19 (.De .u64 (.t 18)),z 20 (.bin .shr (.t 19) (.c (.i .u64 1))),z 21 (.De .i64 (.t 20)),zm 9 21]) (.seq (.ax [] [zm 22 0,zm 23 9,z 24 (.idx 1 (.t 22) (.t 23)),zl 25
 24,zm 26 1,z 27 (.call 123 [.t 25,.t 26])]) (.ite (.t 27) (.ax [] [zm 28 9,z 29 (.bin .add (.t 28) (.c (.i .i64 1))),zm 7 29]) (.ax [] [zm 30 9,zm 8 30])))))
def p59:cy:=⟨54,[.t 4,.t 5],.seq (.ax [] [z 4 (.bg (.c (.i .i64 0))),z 5 (.bg (.c (.b false)))]) (.seq (.ax [] [zm 10 0,z 11 (.len false (.t 10)),zm 6 11]) (.seq (.ax [] [zm 12 6,z
 7 (.bg (.c (.i .i64 0))),zm 8 12]) (.seq (.block 0 (.loop Ce)) (.seq (.ax [36,37,38,39,40,41,42,43,44,45,46,47,48,49,50,51,52] [zm 31 7,zm 32 7,zm 33 6,z 34
 (.bin .lss (.t 32) (.t 33)),zm 35 34,⟨some 36,[(35,true)],.bg (.t 0)⟩,⟨some 37,[(35,true)],.bg (.t 7)⟩,⟨some 38,[(35,true)],.idx 1 (.t 36) (.t 37)⟩,⟨some 39,[(35,
 true)],.load none (.t 38)⟩,⟨some 40,[(35,true)],.bg (.t 1)⟩,⟨some 41,[(35,true)],.bin .eql (.t 39) (.t 40)⟩,⟨some 42,[(35,true)],.bg (.t 41)⟩,⟨some 43,[(35,true),
 (42,false)],.bg (.t 0)⟩,⟨some 44,[(35,true),(42,false)],.bg (.t 7)⟩,⟨some 45,[(35,true),(42,false)],.idx 1 (.t 43) (.t 44)⟩,⟨some 46,[(35,true),(42,false)],
 .load none (.t 45)⟩,⟨some 47,[(35,true),(42,false)],.call 124 [.t 46]⟩,⟨some 48,[(35,true),(42,false)],.bg (.t 47)⟩,⟨some 49,[(35,true),(42,false),(48,true)],
 .bg (.t 1)⟩,⟨some 50,[(35,true),(42,false),(48,true)],.call 124 [.t 49]⟩,⟨some 51,[(35,true),(42,false)],.pick (.t 48) (.t 50) (.c (.b false))⟩,⟨some 52,[(35,
 true)],.pick (.t 42) (.c (.b true)) (.t 51)⟩,z 53 (.pick (.t 35) (.t 52) (.c (.b false))),zm 4 31,zm 5 53]) (.ret)))))⟩
theorem c59:cA prog f59=some p59:=by kernel_rfl
def Uk:cy:=⟨17,[.t 4],.seq (.ax [] [z 4 (.bg (.c (.b false)))]) (.seq (.ax [8,9,10,13,14,15] [zm 5 0,z 6 (.call 127 [.t 5]),zm 7 6,⟨some 8,[(7,true)],.bg (.t 1)⟩,⟨some 9,
 [(7,true)],.call 127 [.t 8]⟩,⟨some 10,[(7,true)],.un .not (.t 9)⟩,z 11 (.pick (.t 7) (.t 10) (.c (.b false))),zm 12 11,⟨some 13,[(12,false)],.bg (.t 0)⟩,⟨some 14,
 [(12,false)],.bg (.t 1)⟩,⟨some 15,[(12,false)],.bin .lss (.t 13) (.t 14)⟩,z 16 (.pick (.t 12) (.c (.b true)) (.t 15)),zm 4 16]) (.ret))⟩
theorem ml:cA prog f123=some Uk:=by kernel_rfl
def Uj:cy:=⟨6,[.t 2],.seq (.ax [] [z 2 (.bg (.c (.b false)))]) (.seq (.ax [] [zm 3 0,zm 4 0,z 5 (.bin .neq (.t 3) (.t 4)),zm 2 5]) (.ret))⟩
theorem Z7:cA prog f124=some Uj:=by kernel_rfl
def p14:cy:=⟨14,[.t 4],.seq (.ax [] [z 4 (.bg (.c (.i .i64 0)))]) (.seq (.ax [] [zm 5 0,zm 6 1,z 7 (.bin .rem (.t 5) (.t 6)),zm 0 7]) (.seq (.seq (.ax [] [zm 8 0,z 9 (.bin .lss (.t 8)
 (.c (.i .i64 0)))]) (.ite (.t 9) (.ax [] [zm 10 0,zm 11 1,z 12 (.bin .add (.t 10) (.t 11)),zm 0 12]) (.skip))) (.seq (.ax [] [zm 13 0,zm 4 13]) (.ret))))⟩
theorem c14:cA prog f14=some p14:=by kernel_rfl
def wc:bE:=.seq (.ax [] [z 11 (.bin .lss (.t 10) (.t 9))]) (.seq (.ite (.t 11) (.skip) (.exit 0)) (.seq (.block 1 (.seq (.ax [] [z 12 (.idx 3 (.t 8) (.t 10)),zL 13 3 12,z 6 (.alloc 61 [.i
 .i64 0,.s [],.i .i64 0]),zs (.store 3 [none,none,none] (.t 6) (.t 13))]) (.seq (.ax [17,18,19,20,21] [zL 14 3 6,z 15 (.call 97 [.t 14]),zm 16 15,⟨some 17,[(16,true)],
 .bg (.t 4)⟩,⟨some 18,[(16,true)],.gi 2 (.t 6)⟩,⟨some 19,[(16,true)],.load none (.t 18)⟩,⟨some 20,[(16,true)],.look 0 (.b false) false (.t 17) (.t 19)⟩,⟨some 21,[(16,
 true)],.un .not (.t 20)⟩,z 22 (.pick (.t 16) (.t 21) (.c (.b false)))]) (.ite (.t 22) (.seq (.ax [] [zm 23 4,zf 24 2 6,zl 25 24,zs (.qu 0 [none] (.t 23) (.t 25) (.c (.b
 true)))]) (.ax [] [zm 26 3,zf 27 2 6,zl 28 27,z 29 (.c6 1 [none] [.t 28]),z 30 (.app 3 1 8 (.t 26) (.t 29)),zm 3 30])) (.skip))))) (.ax [] [z 31 (.bin .add (.t 10) (.c
 (.i .i64 1))),zm 10 31])))
def Ua:cy:=⟨33,[.t 2],.seq (.ax [] [z 2 (.bg (.c .nil))]) (.seq (.ax [] [z 3 (.bg (.c .nil))]) (.seq (.ax [] [z 7 (.kU 3 4),zm 4 7]) (.seq (.seq (.ax [] [zm 8 0,z 9 (.len false
 (.t 8)),z 10 (.bg (.c (.i .i64 0)))]) (.block 0 (.loop wc))) (.seq (.ax [] [zm 32 3,zm 2 32]) (.ret)))))⟩
theorem ZX:cA prog f142=some Ua:=by kernel_rfl
def Ae:bE:=.seq (.ax [] [z 10 (.bin .lss (.t 9) (.t 8))]) (.seq (.ite (.t 10) (.skip) (.exit 0)) (.seq (.block 1 (.seq (.ax [] [zm 11 9,zm 4 11]) (.ax [] [zm 12 3,zm 13 4,zm 14 4,z 15
 (.bin .add (.t 14) (.c (.i .i64 1))),z 16 (.idx 1 (.t 12) (.t 13)),zs (.store 1 [none] (.t 16) (.t 15))]))) (.ax [] [z 17 (.bin .add (.t 9) (.c (.i .i64 1))),zm 9 17])))
def TH:cy:=⟨19,[.t 2],.seq (.ax [] [z 2 (.bg (.c .nil))]) (.seq (.ax [] [zm 5 0,z 6 (.mk 3 1 8 [.i .i64 0] (.t 5) (.t 5)),zm 3 6]) (.seq (.seq (.ax [] [zm 7 3,z 8 (.len false (.t 7)),
 z 9 (.bg (.c (.i .i64 0)))]) (.block 0 (.loop Ae))) (.seq (.ax [] [zm 18 3,zm 2 18]) (.ret))))⟩
theorem Zz:cA prog f197=some TH:=by kernel_rfl
def Ao:bE:=.seq (.seq (.ax [30,31,32,33,34,35] [zm 25 4,zm 26 0,z 27 (.len false (.t 26)),z 28 (.bin .lss (.t 25) (.t 27)),zm 29 28,⟨some 30,[(29,true)],.bg (.t 0)⟩,⟨some 31,
 [(29,true)],.bg (.t 4)⟩,⟨some 32,[(29,true)],.idx 3 (.t 30) (.t 31)⟩,⟨some 33,[(29,true)],.gi 0 (.t 32)⟩,⟨some 34,[(29,true)],.load none (.t 33)⟩,⟨some 35,[(29,
 true)],.bin .eql (.t 34) (.c (.i .i64 1))⟩,z 36 (.pick (.t 29) (.t 35) (.c (.b false)))]) (.ite (.t 36) (.skip) (.exit 2))) (.block 3 (.seq (.ax [] [zm 37 5,zm 38 0,zm 39 4,z
 40 (.idx 3 (.t 38) (.t 39)),zf 41 1 40,zl 42 41,z 43 (.apps 5 (.t 37) (.t 42)),zm 5 43]) (.ax [] [zm 44 4,z 45 (.bin .add (.t 44) (.c (.i .i64 1))),zm 4 45])))
def An:bE:=.seq (.seq (.ax [] [zm 6 4,zm 7 0,z 8 (.len false (.t 7)),z 9 (.bin .lss (.t 6) (.t 8))]) (.ite (.t 9) (.skip) (.exit 0))) (.block 1 (.seq (.seq (.ax [] [zm 10 0,zm 11 4,z 12
 (.idx 3 (.t 10) (.t 11)),zf 13 0 12,zl 14 13,z 15 (.bin .neq (.t 14) (.c (.i .i64 1)))]) (.ite (.t 15) (.seq (.ax [] [zm 16 3,zm 17 0,zm 18 4,z 19 (.idx 3 (.t 17) (.t 18)),
 zL 20 3 19,z 21 (.c6 3 [none,none,none] [.t 20]),z 22 (.app 61 3 32 (.t 16) (.t 21)),zm 3 22]) (.seq (.ax [] [zm 23 4,z 24 (.bin .add (.t 23) (.c (.i .i64 1))),zm 4 24])
 (.exit 1))) (.skip))) (.seq (.ax [] [z 5 (.bg (.c .nil))]) (.seq (.block 2 (.loop Ao)) (.seq (.ax [] [zm 46 5,z 47 (.len false (.t 46)),z 48 (.bin .gtr (.t 47) (.c (.i .i64
 0)))]) (.ite (.t 48) (.ax [] [zm 49 3,zm 50 5,z 51 (.Fc (.t 50)),z 52 (.build [.i .i64 0,.s [],.i .i64 0] [(0,1,.c (.i .i64 1)),(1,1,.t 51)]),z 53 (.c6 3 [none,
 none,none] [.t 52]),z 54 (.app 61 3 32 (.t 49) (.t 53)),zm 3 54]) (.skip)))))))
def T9:cy:=⟨56,[.t 2],.seq (.ax [] [z 2 (.bg (.c .nil))]) (.seq (.ax [] [z 3 (.bg (.c .nil))]) (.seq (.seq (.ax [] [z 4 (.bg (.c (.i .i64 0)))]) (.block 0 (.loop An))) (.seq (.ax
 [] [zm 55 3,zm 2 55]) (.ret))))⟩
theorem ZW:cA prog f145=some T9:=by kernel_rfl
def FN:bE:=.seq (.seq (.ax [] [zm 21 8,z 22 (.bin .geq (.t 21) (.c (.i .i64 0)))]) (.ite (.t 22) (.skip) (.exit 0))) (.seq (.block 1 (.dG [] [zm 25 7,zm 26 1,zm 27 8,z 28 (.idx 1 (.t
 26) (.t 27)),zl 29 28,zm 30 2,zm 31 8,z 32 (.idx 1 (.t 30) (.t 31)),zl 33 32] [] [zs (.qu 0 [none] (.t 25) (.t 29) (.t 33))])) (.ax [] [zm 23 8,z 24 (.bin .sub (.t 23) (.c
 (.i .i64 1))),zm 8 24]))
def Cd:bE:=.seq (.ax [] [z 37 (.bin .lss (.t 36) (.t 35))]) (.seq (.ite (.t 37) (.skip) (.exit 2)) (.seq (.block 3 (.seq (.ax [] [z 38 (.idx 3 (.t 34) (.t 36)),zL 39 3 38,z 11 (.alloc 61
 [.i .i64 0,.s [],.i .i64 0]),zs (.store 3 [none,none,none] (.t 11) (.t 39))]) (.seq (.seq (.ax [] [zL 40 3 11,z 41 (.call 97 [.t 40])]) (.ite (.t 41) (.seq (.ax [] [zm 43 7,
 zf 44 2 11,zl 45 44,z 46 (.look 0 (.i .i64 0) true (.t 43) (.t 45)),zm 42 46,z 47 (.ext 0 (.t 42)),z 48 (.ext 1 (.t 42)),zm 12 47,zm 13 48]) (.seq (.seq (.ax [] [zm 49 13,z
 50 (.un .not (.t 49))]) (.ite (.t 50) (.exit 3) (.skip))) (.ax [] [zm 51 12,zf 52 2 11,zs (.store 1 [none] (.t 52) (.t 51))]))) (.skip))) (.ax [] [zm 53 9,zL 54 3 11,z 55
 (.c6 3 [none,none,none] [.t 54]),z 56 (.app 61 3 32 (.t 53) (.t 55)),zm 9 56])))) (.ax [] [z 57 (.bin .add (.t 36) (.c (.i .i64 1))),zm 36 57])))
def p85:cy:=⟨60,[.t 6],.seq (.ax [] [z 6 (.bg (.c .nil))]) (.seq (.ax [] [z 14 (.kU 3 3),zm 7 14]) (.seq (.seq (.ax [] [zm 15 1,z 16 (.len false (.t 15)),zm 17 2,z 18 (.len false
 (.t 17)),z 19 (.min2 (.t 16) (.t 18)),z 20 (.bin .sub (.t 19) (.c (.i .i64 1))),zm 8 20]) (.block 0 (.loop FN))) (.seq (.ax [] [z 9 (.bg (.c .nil))]) (.seq (.seq (.ax []
 [zm 34 0,z 35 (.len false (.t 34)),z 36 (.bg (.c (.i .i64 0)))]) (.block 2 (.loop Cd))) (.seq (.ax [] [zm 58 9,z 59 (.call 145 [.t 58]),zm 6 59]) (.ret))))))⟩
theorem c85:cA prog f85=some p85:=by kernel_rfl
def Ap:bE:=.seq (.ax [] [z 15 (.bin .lss (.t 14) (.t 13))]) (.seq (.ite (.t 15) (.skip) (.exit 0)) (.seq (.block 1 (.seq (.ax [] [z 16 (.idx 1 (.t 12) (.t 14)),zl 17 16,zm 8 17]) (.seq
 (.ax [] [zm 18 6,zm 19 8,z 20 (.call 196 [.t 18,.t 19]),z 21 (.un .not (.t 20))]) (.ite (.t 21) (.ax [] [zm 22 6,zm 23 8,z 24 (.c6 1 [none] [.t 23]),z 25 (.app 3 1 8
 (.t 22) (.t 24)),zm 6 25]) (.skip))))) (.ax [] [z 26 (.bin .add (.t 14) (.c (.i .i64 1))),zm 14 26])))
def Uh:cy:=⟨39,[.t 4,.t 5],.seq (.ax [] [z 4 (.bg (.c .nil)),z 5 (.bg (.c .nil))]) (.seq (.ax [] [zm 9 0,z 10 (.call 142 [.t 9]),zm 6 10]) (.seq (.seq (.ax [] [zm 11 1,z 12 (.call
 142 [.t 11]),z 13 (.len false (.t 12)),z 14 (.bg (.c (.i .i64 0)))]) (.block 0 (.loop Ap))) (.seq (.ax [] [zm 27 0,zm 28 6,zm 29 6,z 30 (.len false (.t 29)),z 31 (.call
 197 [.t 30]),z 32 (.call 85 [.t 27,.t 28,.t 31]),zm 33 1,zm 34 6,zm 35 6,z 36 (.len false (.t 35)),z 37 (.call 197 [.t 36]),z 38 (.call 85 [.t 33,.t 34,.t 37]),zm 4 32,
 zm 5 38]) (.ret))))⟩
theorem Z5:cA prog f128=some Uh:=by kernel_rfl
def Ug:cy:=⟨8,[.t 4],.seq (.ax [] [z 4 (.bg (.c (.b false)))]) (.seq (.ax [] [zm 5 0,zm 6 1,z 7 (.call 198 [.t 5,.t 6]),zm 4 7]) (.ret))⟩
theorem Z4:cA prog f129=some Ug:=by kernel_rfl
def TI:cy:=⟨9,[.t 4],.seq (.ax [] [z 4 (.bg (.c (.b false)))]) (.seq (.ax [] [zm 5 0,zm 6 1,z 7 (.call 239 [.t 5,.t 6]),z 8 (.bin .geq (.t 7) (.c (.i .i64 0))),zm 4 8]) (.ret))⟩
theorem ZA:cA prog f196=some TI:=by kernel_rfl
def z7:bE:=.seq (.ax [] [z 9 (.bin .lss (.t 8) (.t 7))]) (.seq (.ite (.t 9) (.skip) (.exit 0)) (.seq (.block 1 (.seq (.ax [] [zm 10 8,zm 5 10]) (.seq (.ax [] [zm 11 1,zm 12 0,zm 13 5,z
 14 (.idx 1 (.t 12) (.t 13)),zl 15 14,z 16 (.bin .eql (.t 11) (.t 15))]) (.ite (.t 16) (.seq (.ax [] [zm 17 5,zm 4 17]) (.ret)) (.skip))))) (.ax [] [z 18 (.bin .add (.t 8) (.c
 (.i .i64 1))),zm 8 18])))
def Tp:cy:=⟨19,[.t 4],.seq (.ax [] [z 4 (.bg (.c (.i .i64 0)))]) (.seq (.seq (.ax [] [zm 6 0,z 7 (.len false (.t 6)),z 8 (.bg (.c (.i .i64 0)))]) (.block 0 (.loop z7))) (.seq (.ax
 [] [z 4 (.bg (.c (.i .i64 (-1))))]) (.ret)))⟩
theorem Zh:cA prog f239=some Tp:=by kernel_rfl
def Ad:bE:=.seq (.ax [] [z 14 (.bin .lss (.t 13) (.t 12))]) (.seq (.ite (.t 14) (.skip) (.exit 0)) (.seq (.block 1 (.seq (.ax [] [zm 15 13,zm 5 15]) (.seq (.dG [] [zm 16 0,zm 17 5,z 18
 (.idx 3 (.t 16) (.t 17)),zL 19 3 18,zm 20 1,zm 21 5,z 22 (.idx 3 (.t 20) (.t 21)),zL 23 3 22] [] [z 24 (.beq true [0,1,0] (.t 19) (.t 23))]) (.ite (.t 24) (.seq (.ax [] [z 4
 (.bg (.c (.b false)))]) (.ret)) (.skip))))) (.ax [] [z 25 (.bin .add (.t 13) (.c (.i .i64 1))),zm 13 25])))
def TG:cy:=⟨26,[.t 4],.seq (.ax [] [z 4 (.bg (.c (.b false)))]) (.seq (.seq (.ax [] [zm 6 0,z 7 (.len false (.t 6)),zm 8 1,z 9 (.len false (.t 8)),z 10 (.bin .neq (.t 7) (.t 9))])
 (.ite (.t 10) (.seq (.ax [] [z 4 (.bg (.c (.b false)))]) (.ret)) (.skip))) (.seq (.seq (.ax [] [zm 11 0,z 12 (.len false (.t 11)),z 13 (.bg (.c (.i .i64 0)))]) (.block 0
 (.loop Ad))) (.seq (.ax [] [z 4 (.bg (.c (.b true)))]) (.ret))))⟩
theorem Zy:cA prog f198=some TG:=by kernel_rfl
def p66:cy:=⟨109,[.t 2],.seq (.ax [] [z 1 (.box 37 (.t 0)),z 2 (.bg (.c (.i .i64 0)))]) (.seq (.seq (.ax [] [zf 13 0 1,zl 14 13,z 15 (.call 44 [.t 14]),zm 3 15]) (.seq (.ax [] [zm 16
 3,z 17 (.bin .neq (.t 16) (.c (.i .i64 0)))]) (.ite (.t 17) (.seq (.ax [] [zm 18 3,zm 2 18]) (.ret)) (.skip)))) (.seq (.seq (.ax [] [zf 19 1 1,zl 20 19,z 21 (.call 44 [.t
 20]),zm 4 21]) (.seq (.ax [] [zm 22 4,z 23 (.bin .neq (.t 22) (.c (.i .i64 0)))]) (.ite (.t 23) (.seq (.ax [] [zm 24 4,zm 2 24]) (.ret)) (.skip)))) (.seq (.ax [] [zf 26 0 1,
 zl 27 26,zf 28 1 1,zl 29 28,z 30 (.call 128 [.t 27,.t 29]),zm 25 30,z 31 (.ext 0 (.t 25)),z 32 (.ext 1 (.t 25)),zm 5 31,zm 6 32]) (.seq (.seq (.ax [38,39,40,41,42,45,
 46,47,48,49] [zf 33 0 1,zl 34 33,z 35 (.len false (.t 34)),z 36 (.bin .eql (.t 35) (.c (.i .i64 0))),zm 37 36,⟨some 38,[(37,false)],.bg (.t 5)⟩,⟨some 39,[(37,false)],
 .gi 0 (.t 1)⟩,⟨some 40,[(37,false)],.load none (.t 39)⟩,⟨some 41,[(37,false)],.call 129 [.t 38,.t 40]⟩,⟨some 42,[(37,false)],.un .not (.t 41)⟩,z 43 (.pick (.t 37) (.c
 (.b true)) (.t 42)),zm 44 43,⟨some 45,[(44,false)],.bg (.t 6)⟩,⟨some 46,[(44,false)],.gi 1 (.t 1)⟩,⟨some 47,[(44,false)],.load none (.t 46)⟩,⟨some 48,[(44,false)],
 .call 129 [.t 45,.t 47]⟩,⟨some 49,[(44,false)],.un .not (.t 48)⟩,z 50 (.pick (.t 44) (.c (.b true)) (.t 49))]) (.ite (.t 50) (.seq (.ax [] [z 2 (.bg (.c (.i .i64 1)))])
 (.ret)) (.skip))) (.seq (.seq (.ax [] [zf 52 2 1,zl 53 52,z 54 (.call 45 [.t 53]),zm 51 54,z 55 (.ext 0 (.t 51)),z 56 (.ext 1 (.t 51)),z 57 (.ext 2 (.t 51)),zm 7 55,zm 8
 56,zm 9 57]) (.seq (.ax [] [zm 58 9,z 59 (.bin .neq (.t 58) (.c (.i .i64 0)))]) (.ite (.t 59) (.seq (.ax [] [zm 60 9,zm 2 60]) (.ret)) (.skip)))) (.seq (.seq (.ax [] [zf 62 3
 1,zl 63 62,z 64 (.call 45 [.t 63]),zm 61 64,z 65 (.ext 0 (.t 61)),z 66 (.ext 1 (.t 61)),z 67 (.ext 2 (.t 61)),zm 10 65,zm 11 66,zm 12 67]) (.seq (.ax [] [zm 68 12,z 69
 (.bin .neq (.t 68) (.c (.i .i64 0)))]) (.ite (.t 69) (.seq (.ax [] [zm 70 12,zm 2 70]) (.ret)) (.skip)))) (.seq (.seq (.ax [75,76,77,78,81,82,83,84,85,86,87,88,89]
 [zf 71 4 1,zl 72 71,z 73 (.bin .neq (.t 72) (.c (.s []))),zm 74 73,⟨some 75,[(74,true)],.gi 4 (.t 1)⟩,⟨some 76,[(74,true)],.load none (.t 75)⟩,⟨some 77,[(74,true)],
 .call 117 [.t 76]⟩,⟨some 78,[(74,true)],.un .not (.t 77)⟩,z 79 (.pick (.t 74) (.t 78) (.c (.b false))),zm 80 79,⟨some 81,[(80,false)],.gi 5 (.t 1)⟩,⟨some 82,[(80,
 false)],.load none (.t 81)⟩,⟨some 83,[(80,false)],.bin .neq (.t 82) (.c (.s []))⟩,⟨some 84,[(80,false)],.bg (.t 83)⟩,⟨some 85,[(80,false),(84,true)],.gi 5 (.t 1)⟩,
 ⟨some 86,[(80,false),(84,true)],.load none (.t 85)⟩,⟨some 87,[(80,false),(84,true)],.call 117 [.t 86]⟩,⟨some 88,[(80,false),(84,true)],.un .not (.t 87)⟩,⟨some 89,
 [(80,false)],.pick (.t 84) (.t 88) (.c (.b false))⟩,z 90 (.pick (.t 80) (.c (.b true)) (.t 89))]) (.ite (.t 90) (.seq (.ax [] [z 2 (.bg (.c (.i .i64 4)))]) (.ret)) (.skip)))
 (.seq (.seq (.ax [95,96,97,100,101,102,105,106,107] [zf 91 6 1,zl 92 91,z 93 (.bin .lss (.t 92) (.c (.i .i64 0))),zm 94 93,⟨some 95,[(94,false)],.gi 6 (.t 1)⟩,
 ⟨some 96,[(94,false)],.load none (.t 95)⟩,⟨some 97,[(94,false)],.bin .gtr (.t 96) (.c (.i .i64 1073741824))⟩,z 98 (.pick (.t 94) (.c (.b true)) (.t 97)),zm 99 98,⟨some
 100,[(99,false)],.gi 7 (.t 1)⟩,⟨some 101,[(99,false)],.load none (.t 100)⟩,⟨some 102,[(99,false)],.bin .lss (.t 101) (.c (.i .i64 1))⟩,z 103 (.pick (.t 99) (.c (.b
 true)) (.t 102)),zm 104 103,⟨some 105,[(104,false)],.gi 7 (.t 1)⟩,⟨some 106,[(104,false)],.load none (.t 105)⟩,⟨some 107,[(104,false)],.bin .gtr (.t 106) (.c (.i .i64
 3))⟩,z 108 (.pick (.t 104) (.c (.b true)) (.t 107))]) (.ite (.t 108) (.seq (.ax [] [z 2 (.bg (.c (.i .i64 1)))]) (.ret)) (.skip))) (.seq (.ax [] [z 2 (.bg (.c (.i .i64 0)))])
 (.ret))))))))))⟩
theorem c66:cA prog f66=some p66:=by kernel_rfl
def Uf:cy:=⟨20,[.t 2],.seq (.ax [] [z 1 (.box 37 (.t 0)),z 2 (.bg (.c (.s [])))]) (.seq (.ax [] [zf 6 0 1,zl 7 6,z 8 (.call 199 [.t 7]),zm 5 8,z 9 (.ext 0 (.t 5)),z 10 (.ext 1 (.t
 5)),zm 3 9,zm 4 10]) (.seq (.ax [] [zm 11 3,z 12 (.bin .add (.t 11) (.c (.s [10]))),zf 13 2 1,zl 14 13,z 15 (.bin .add (.t 12) (.t 14)),z 16 (.bin .add (.t 15) (.c (.s
 [10]))),zf 17 3 1,zl 18 17,z 19 (.bin .add (.t 16) (.t 18)),zm 2 19]) (.ret)))⟩
theorem Z3:cA prog f130=some Uf:=by kernel_rfl
def p67:cy:=⟨8,[.t 2],.seq (.ax [] [z 1 (.box 37 (.t 0)),z 2 (.bg (.c (.s [])))]) (.seq (.seq (.ax [] [zL 3 8 1,z 4 (.call 66 [.t 3]),z 5 (.bin .neq (.t 4) (.c (.i .i64 0)))]) (.ite (.t
 5) (.seq (.ax [] [z 2 (.bg (.c (.s [])))]) (.ret)) (.skip))) (.seq (.ax [] [zL 6 8 1,z 7 (.call 130 [.t 6]),zm 2 7]) (.ret)))⟩
theorem c67:cA prog f67=some p67:=by kernel_rfl
def FW:bE:=.seq (.seq (.ax [] [zm 12 3,zm 13 0,z 14 (.len true (.t 13)),z 15 (.bin .lss (.t 12) (.t 14))]) (.ite (.t 15) (.skip) (.exit 0))) (.block 1 (.seq (.ax [] [zm 17 0,zm 18 3,z
 19 (.fN (.t 17) (some (.t 18)) none),z 20 (.call 99 [.t 19]),zm 16 20,z 21 (.ext 0 (.t 16)),z 22 (.ext 1 (.t 16)),z 23 (.ext 2 (.t 16)),z 6 (.alloc 61 [.i .i64 0,.s [],
 .i .i64 0]),zs (.store 3 [none,none,none] (.t 6) (.t 21)),zm 7 22,zm 8 23]) (.seq (.seq (.ax [] [zm 24 8,z 25 (.un .not (.t 24))]) (.ite (.t 25) (.seq (.ax [] [zm 26 3,z 2
 (.bg (.c .nil)),zm 3 26,z 4 (.bg (.c (.i .i64 2)))]) (.ret)) (.skip))) (.seq (.seq (.ax [] [zL 27 3 6,z 28 (.call 100 [.t 5,.t 27]),zm 9 28]) (.seq (.ax [] [zm 29 9,z 30
 (.bin .neq (.t 29) (.c (.i .i64 0)))]) (.ite (.t 30) (.seq (.ax [] [zm 31 3,zm 32 9,z 2 (.bg (.c .nil)),zm 3 31,zm 4 32]) (.ret)) (.skip)))) (.ax [] [zm 33 3,zm 34 7,z 35
 (.bin .add (.t 33) (.t 34)),zm 3 35])))))
def p45:cy:=⟨39,[.t 2,.t 3,.t 4],.seq (.ax [] [z 2 (.bg (.c .nil)),z 3 (.bg (.c (.i .i64 0))),z 4 (.bg (.c (.i .i64 0)))]) (.seq (.ax [] [z 10 (.kU 3 61),z 11 (.build [.nil,
 .nil,.i .i64 0,.cV] [(3,1,.t 10)]),z 5 (.alloc 142 [.nil,.nil,.i .i64 0,.cV]),zs (.store 4 [some 3,some 1,none,none] (.t 5) (.t 11))]) (.seq (.block 0 (.loop
 FW)) (.seq (.ax [] [z 36 (.call 101 [.t 5])]) (.seq (.ax [] [zf 37 0 5,zl 38 37,zm 2 38,z 3 (.bg (.c (.i .i64 0))),z 4 (.bg (.c (.i .i64 0)))]) (.ret)))))⟩
theorem c45:cA prog f45=some p45:=by kernel_rfl
def Uv:cy:=⟨123,[.t 4],.seq (.ax [] [z 3 (.box 61 (.t 1)),z 4 (.bg (.c (.i .i64 0)))]) (.seq (.ax [13,14,15] [zf 9 0 3,zl 10 9,z 11 (.bin .neq (.t 10) (.c (.i .i64 1))),zm 12 11,
 ⟨some 13,[(12,true)],.gi 0 (.t 3)⟩,⟨some 14,[(12,true)],.load none (.t 13)⟩,⟨some 15,[(12,true)],.bin .neq (.t 14) (.c (.i .i64 5))⟩,z 16 (.pick (.t 12) (.t 15) (.c (.b
 false))),zm 5 16]) (.seq (.seq (.ax [] [zm 17 5]) (.ite (.t 17) (.seq (.dG [([zm 19 0,z 20 (.cF (.t 19)),zf 21 3 20,zl 22 21,zf 23 2 3,zl 24 23,z 25 (.look 0 (.agg [.i
 .i64 0,.s [],.i .i64 0]) true (.t 22) (.t 24)),zm 18 25,z 26 (.ext 0 (.t 18)),z 27 (.ext 1 (.t 18))],z 6 (.alloc 61 [.i .i64 0,.s [],.i .i64 0]),[z 20 (.cF (.t 19)),zf
 21 3 20,zl 22 21,zf 23 2 3,zl 24 23,z 25 (.look 0 (.agg [.i .i64 0,.s [],.i .i64 0]) true (.t 22) (.t 24))]),([],zs (.store 3 [none,none,none] (.t 6) (.t 26)),[])] [] []
 [zm 7 27]) (.seq (.dG [([zm 28 7,zm 29 28,⟨some 30,[(29,true)],.gi 0 (.t 3)⟩,⟨some 31,[(29,true)],.load none (.t 30)⟩,⟨some 32,[(29,true)],.bin .neq (.t 31) (.c (.i
 .i64 3))⟩,⟨some 33,[(29,true)],.bg (.t 32)⟩,⟨some 34,[(29,true),(33,false)],.gi 0 (.t 6)⟩,⟨some 35,[(29,true),(33,false)],.load none (.t 34)⟩,⟨some 36,[(29,
 true),(33,false)],.bin .neq (.t 35) (.c (.i .i64 2))⟩,⟨some 37,[(29,true)],.pick (.t 33) (.c (.b true)) (.t 36)⟩,⟨some 38,[(29,true)],.bg (.t 37)⟩,⟨some 39,[(29,
 true),(38,false)],.gi 1 (.t 6)⟩,⟨some 40,[(29,true),(38,false)],.load none (.t 39)⟩,⟨some 42,[(29,true),(38,false)],.gi 1 (.t 3)⟩,⟨some 43,[(29,true),(38,
 false)],.load none (.t 42)⟩],⟨some 41,[(29,true),(38,false)],.call 160 [.t 40]⟩,[⟨some 42,[(29,true),(38,false)],.gi 1 (.t 3)⟩,⟨some 43,[(29,true),(38,false)],
 .load none (.t 42)⟩])] [] [30,31,32,33,34,35,36,37,38,39,40,41,42,43,44,45] [⟨some 44,[(29,true),(38,false)],.bin .neq (.t 41) (.t 43)⟩,⟨some 45,[(29,true)],
 .pick (.t 38) (.c (.b true)) (.t 44)⟩,z 46 (.pick (.t 29) (.t 45) (.c (.b false)))]) (.ite (.t 46) (.seq (.ax [] [z 4 (.bg (.c (.i .i64 7)))]) (.ret)) (.skip)))) (.skip))) (.seq
 (.ax [] [zm 47 0,z 48 (.cF (.t 47)),zf 49 0 48,zl 50 49,z 51 (.len false (.t 50)),zm 8 51]) (.seq (.seq (.ax [] [zm 52 0,z 53 (.cF (.t 52)),zf 54 1 53,zl 55 54,z 56
 (.len false (.t 55)),z 57 (.bin .gtr (.t 56) (.c (.i .i64 0)))]) (.ite (.t 57) (.ax [] [zm 58 8,z 59 (.bin .add (.t 58) (.c (.i .i64 1))),zm 8 59]) (.skip))) (.seq (.seq (.ax
 [64,65,66,67,68,69] [zf 60 0 3,zl 61 60,z 62 (.bin .neq (.t 61) (.c (.i .i64 1))),zm 63 62,⟨some 64,[(63,false)],.bg (.t 0)⟩,⟨some 65,[(63,false)],.cF (.t 64)⟩,
 ⟨some 66,[(63,false)],.gi 1 (.t 65)⟩,⟨some 67,[(63,false)],.load none (.t 66)⟩,⟨some 68,[(63,false)],.len false (.t 67)⟩,⟨some 69,[(63,false)],.bin .eql (.t 68) (.c
 (.i .i64 0))⟩,z 70 (.pick (.t 63) (.c (.b true)) (.t 69))]) (.ite (.t 70) (.ax [] [zm 71 8,z 72 (.bin .add (.t 71) (.c (.i .i64 1))),zm 8 72]) (.skip))) (.seq (.seq (.ax [76,
 77,78,79,80,81] [zm 73 8,z 74 (.bin .gtr (.t 73) (.c (.i .i64 512))),zm 75 74,⟨some 76,[(75,false)],.bg (.t 0)⟩,⟨some 77,[(75,false)],.cF (.t 76)⟩,⟨some 78,[(75,
 false)],.gi 2 (.t 77)⟩,⟨some 79,[(75,false)],.load none (.t 78)⟩,⟨some 80,[(75,false)],.bin .add (.t 79) (.c (.i .i64 1))⟩,⟨some 81,[(75,false)],.bin .gtr (.t 80) (.c
 (.i .i64 1024))⟩,z 82 (.pick (.t 75) (.c (.b true)) (.t 81))]) (.ite (.t 82) (.seq (.ax [] [z 4 (.bg (.c (.i .i64 3)))]) (.ret)) (.skip))) (.seq (.ax [] [zm 83 0,z 84 (.cF
 (.t 83)),zf 85 2 84,zl 86 85,z 87 (.bin .add (.t 86) (.c (.i .i64 1))),z 88 (.cF (.t 83)),zf 89 2 88,zs (.store 1 [none] (.t 89) (.t 87))]) (.seq (.seq (.ax [] [zf 90 0 3,
 zl 91 90,z 92 (.bin .eql (.t 91) (.c (.i .i64 1)))]) (.ite (.t 92) (.seq (.dG [([zm 93 0,zm 94 0,z 95 (.cF (.t 94)),zf 96 1 95,zl 97 96,zf 98 1 3,zl 99 98],z 100 (.apps
 5 (.t 97) (.t 99)),[])] [] [] [z 101 (.cF (.t 93)),zf 102 1 101,zs (.store 1 [some 1] (.t 102) (.t 100))]) (.seq (.ax [] [z 4 (.bg (.c (.i .i64 0)))]) (.ret))) (.skip)))
 (.seq (.seq (.ax [] [zm 103 5]) (.ite (.t 103) (.dG [] [zm 104 0,z 105 (.cF (.t 104)),zf 106 3 105,zl 107 106,zf 108 2 3,zl 109 108,zL 110 3 3] [] [zs (.qu 0 [none,
 none,none] (.t 107) (.t 109) (.t 110))]) (.skip))) (.seq (.ax [] [zm 111 0,z 112 (.call 101 [.t 111])]) (.seq (.dG [([zm 113 0,zm 114 0,z 115 (.cF (.t 114)),zf 116 0 115,
 zl 117 116,zL 118 3 3,z 119 (.c6 3 [none,none,none] [.t 118])],z 120 (.app 61 3 32 (.t 117) (.t 119)),[])] [] [] [z 121 (.cF (.t 113)),zf 122 0 121,zs (.store 1 [some
 3] (.t 122) (.t 120))]) (.seq (.ax [] [z 4 (.bg (.c (.i .i64 0)))]) (.ret)))))))))))))⟩
theorem aah:cA prog f100=some Uv:=by kernel_rfl
def Uu:cy:=⟨26,[],.seq (.ax [] [zm 2 0,z 3 (.cF (.t 2)),zf 4 1 3,zl 5 4,z 6 (.len false (.t 5)),z 7 (.bin .gtr (.t 6) (.c (.i .i64 0)))]) (.ite (.t 7) (.seq (.dG [([zm 8 0,zm 9
 0,z 10 (.cF (.t 9)),zf 11 0 10,zl 12 11,zm 13 0,z 14 (.cF (.t 13)),zf 15 1 14,zl 16 15,z 17 (.Fc (.t 16)),z 18 (.build [.i .i64 0,.s [],.i .i64 0] [(0,1,.c (.i
 .i64 1)),(1,1,.t 17)]),z 19 (.c6 3 [none,none,none] [.t 18])],z 20 (.app 61 3 32 (.t 12) (.t 19)),[])] [] [] [z 21 (.cF (.t 8)),zf 22 0 21,zs (.store 1 [some 3] (.t
 22) (.t 20))]) (.ax [] [zm 23 0,z 24 (.cF (.t 23)),zf 25 1 24,zs (.store 1 [some 1] (.t 25) (.c .nil))])) (.skip))⟩
theorem aag:cA prog f101=some Uu:=by kernel_rfl
def vZ:bE:=.seq (.ax [] [z 17 (.bin .lss (.t 16) (.t 15))]) (.seq (.ite (.t 17) (.skip) (.exit 0)) (.seq (.block 1 (.seq (.ax [] [z 18 (.idx 3 (.t 14) (.t 16)),zL 19 3 18,z 7 (.alloc 61
 [.i .i64 0,.s [],.i .i64 0]),zs (.store 3 [none,none,none] (.t 7) (.t 19))]) (.seq (.ax [] [zf 20 2 7,zl 21 20,z 22 (.call 240 [.t 21]),zm 8 22]) (.seq (.ax [] [zf 23 0 7,
 zl 24 23]) (.block 2 (.seq (.ax [] [z 26 (.bin .eql (.t 24) (.c (.i .i64 1))),zm 25 26]) (.ite (.t 25) (.ax [] [zm 27 5,zf 28 1 7,zl 29 28,z 30 (.call 241 [.t 27,.t 29]),zm
 5 30]) (.seq (.ax [] [z 32 (.bin .eql (.t 24) (.c (.i .i64 2))),zm 31 32]) (.ite (.t 31) (.ax [] [zm 33 5,zm 34 8,z 35 (.bin .add (.c (.s [60])) (.t 34)),z 36 (.bin .add (.t
 35) (.c (.s [58]))),zf 37 1 7,zl 38 37,z 39 (.bin .add (.t 36) (.t 38)),z 40 (.bin .add (.t 39) (.c (.s [62]))),z 41 (.apps 5 (.t 33) (.t 40)),zm 5 41]) (.seq (.ax [] [z 43
 (.bin .eql (.t 24) (.c (.i .i64 3))),zm 42 43]) (.ite (.t 42) (.ax [] [zm 44 5,zm 45 8,z 46 (.bin .add (.c (.s [60,47])) (.t 45)),z 47 (.bin .add (.t 46) (.c (.s [58]))),zf
 48 1 7,zl 49 48,z 50 (.bin .add (.t 47) (.t 49)),z 51 (.bin .add (.t 50) (.c (.s [62]))),z 52 (.apps 5 (.t 44) (.t 51)),zm 5 52]) (.seq (.ax [] [z 54 (.bin .eql (.t 24) (.c
 (.i .i64 4))),zm 53 54]) (.ite (.t 53) (.ax [] [zm 55 5,zm 56 8,z 57 (.bin .add (.c (.s [60])) (.t 56)),z 58 (.bin .add (.t 57) (.c (.s [58]))),zf 59 1 7,zl 60 59,z 61 (.bin
 .add (.t 58) (.t 60)),z 62 (.bin .add (.t 61) (.c (.s [47,62]))),z 63 (.apps 5 (.t 55) (.t 62)),zm 5 63]) (.seq (.ax [] [z 65 (.bin .eql (.t 24) (.c (.i .i64 5))),zm 64 65])
 (.ite (.t 64) (.ax [] [zm 66 5,zf 67 1 7,zl 68 67,z 69 (.bin .add (.c (.s [123])) (.t 68)),z 70 (.bin .add (.t 69) (.c (.s [125]))),z 71 (.apps 5 (.t 66) (.t 70)),zm 5 71])
 (.skip)))))))))))))))) (.ax [] [z 72 (.bin .add (.t 16) (.c (.i .i64 1))),zm 16 72])))
def TF:cy:=⟨75,[.t 2,.t 3],.seq (.ax [] [z 2 (.bg (.c (.s []))),z 3 (.bg (.c (.i .i64 0)))]) (.seq (.seq (.ax [] [zm 9 0,z 10 (.call 44 [.t 9]),zm 4 10]) (.seq (.ax [] [zm 11 4,z
 12 (.bin .neq (.t 11) (.c (.i .i64 0)))]) (.ite (.t 12) (.seq (.ax [] [zm 13 4,z 2 (.bg (.c (.s []))),zm 3 13]) (.ret)) (.skip)))) (.seq (.ax [] [z 5 (.bg (.c .nil))]) (.seq
 (.seq (.ax [] [zm 14 0,z 15 (.len false (.t 14)),z 16 (.bg (.c (.i .i64 0)))]) (.block 0 (.loop vZ))) (.seq (.ax [] [zm 73 5,z 74 (.Fc (.t 73)),zm 2 74,z 3 (.bg (.c
 (.i .i64 0)))]) (.ret)))))⟩
theorem Zx:cA prog f199=some TF:=by kernel_rfl
end Go.Proofs.Tryz
