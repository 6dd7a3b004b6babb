/- A part of the proof that for every input the law NetworkLimits returns true and leaves its argument as it was. -/
import Derived.Test.YtgihcpilgfbggaaGreatDoorProg
import Derived.KernelRfl
import Derived.Test.YtgihcpilgfbggaaGreatDoorL4
import Derived.Test.YtgihcpilgfbggaaGreatDoorL14
import Derived.Test.YtgihcpilgfbggaaGreatDoorL15
import Derived.Test.YtgihcpilgfbggaaGreatDoorL16
set_option linter.all false

namespace Go.Proofs.Tryz
open Go Go.Pm
open Go.Pm.V(u)
def VC:bM:=⟨9,[.t 2],.seq (.aj [] [z 1 (.box 31 (.t 0)),z 2 (.aK (.c (.i .i64 0)))]) (.seq (.seq (.aj [] [zf 3 0 1,zl 4 3,z 5 (.bin .eql (.t 4) (.c (.i .i64 1)))]) (.ite (.t 5) (.seq
 (.aj [] [zf 6 1 1,zl 7 6,z 8 (.len true (.t 7)),zm 2 8]) (.ret)) (.skip))) (.seq (.aj [] [z 2 (.aK (.c (.i .i64 1)))]) (.ret)))⟩
theorem aas:bL prog f155=some VC:=by kernel_rfl
def B2:bj:=.seq (.aj [] [z 9 (.bin .lss (.t 8) (.t 7))]) (.seq (.ite (.t 9) (.skip) (.exit 0)) (.seq (.block 1 (.seq (.aj [] [z 10 (.idx 3 (.t 6) (.t 8)),zL 11 3 10,z 5 (.alloc 31 [.i .i64
 0,.s [],.i .i64 0]),zs (.store 3 [none,none,none] (.t 5) (.t 11))]) (.aj [] [zm 12 3,zL 13 3 5,z 14 (.call 155 [.t 13]),z 15 (.bin .add (.t 12) (.t 14)),zm 3 15]))) (.aj
 [] [z 16 (.bin .add (.t 8) (.c (.i .i64 1))),zm 8 16])))
def V1:bM:=⟨18,[.t 2],.seq (.aj [] [z 2 (.aK (.c (.i .i64 0)))]) (.seq (.aj [] [z 3 (.aK (.c (.i .i64 0)))]) (.seq (.seq (.aj [] [zm 6 0,z 7 (.len false (.t 6)),z 8 (.aK (.c (.i .i64
 0)))]) (.block 0 (.loop B2))) (.seq (.aj [] [zm 17 3,zm 2 17]) (.ret))))⟩
theorem aaM:bL prog f112=some V1:=by kernel_rfl
def VZ:bM:=⟨16,[.t 2],.seq (.aj [] [z 1 (.box 31 (.t 0)),z 2 (.aK (.c (.b false)))]) (.seq (.aj [7,8,9,12,13,14] [zf 3 0 1,zl 4 3,z 5 (.bin .eql (.t 4) (.c (.i .i64 2))),zm 6 5,
 ⟨some 7,[(6,false)],.eG 0 (.t 1)⟩,⟨some 8,[(6,false)],.load none (.t 7)⟩,⟨some 9,[(6,false)],.bin .eql (.t 8) (.c (.i .i64 3))⟩,z 10 (.pick (.t 6) (.c (.b true)) (.t
 9)),zm 11 10,⟨some 12,[(11,false)],.eG 0 (.t 1)⟩,⟨some 13,[(11,false)],.load none (.t 12)⟩,⟨some 14,[(11,false)],.bin .eql (.t 13) (.c (.i .i64 4))⟩,z 15 (.pick (.t
 11) (.c (.b true)) (.t 14)),zm 2 15]) (.ret))⟩
theorem aaK:bL prog f114=some VZ:=by kernel_rfl
def VA:bM:=⟨13,[.t 2],.seq (.aj [] [z 2 (.aK (.c (.s [])))]) (.seq (.aj [] [zm 7 0,z 8 (.call 187 [.t 7,.c (.s [32])]),zm 6 8,z 9 (.ext 0 (.t 6)),z 10 (.ext 1 (.t 6)),z 11 (.ext 2
 (.t 6)),zm 3 9,zm 4 10,zm 5 11]) (.seq (.aj [] [zm 12 3,zm 2 12]) (.ret)))⟩
theorem aaq:bL prog f157=some VA:=by kernel_rfl
def BQ:bj:=.seq (.seq (.aj [] [zm 23 3,zm 24 0,z 25 (.len true (.t 24)),z 26 (.bin .lss (.t 23) (.t 25))]) (.ite (.t 26) (.skip) (.exit 0))) (.seq (.block 1 (.seq (.aj [34,35,36,37,
 40,41,42,43,44] [zm 29 0,zm 30 3,z 31 (.gQ (.t 29) (.t 30)),z 32 (.bin .lss (.t 31) (.c (.i .u8 32))),zm 33 32,⟨some 34,[(33,false)],.aK (.t 0)⟩,⟨some 35,[(33,
 false)],.aK (.t 3)⟩,⟨some 36,[(33,false)],.gQ (.t 34) (.t 35)⟩,⟨some 37,[(33,false)],.bin .gtr (.t 36) (.c (.i .u8 126))⟩,z 38 (.pick (.t 33) (.c (.b true)) (.t 37)),
 zm 39 38,⟨some 40,[(39,false)],.aK (.t 0)⟩,⟨some 41,[(39,false)],.aK (.t 3)⟩,⟨some 42,[(39,false)],.gQ (.t 40) (.t 41)⟩,⟨some 43,[(39,false)],.call 161 [.c (.s
 [60,62,123,125]),.t 42]⟩,⟨some 44,[(39,false)],.bin .geq (.t 43) (.c (.i .i64 0))⟩,z 45 (.pick (.t 39) (.c (.b true)) (.t 44))]) (.ite (.t 45) (.seq (.aj [] [z 2 (.aK (.c
 (.b false)))]) (.ret)) (.skip)))) (.aj [] [zm 27 3,z 28 (.bin .add (.t 27) (.c (.i .i64 1))),zm 3 28]))
def VB:bM:=⟨63,[.t 2],.seq (.aj [] [z 2 (.aK (.c (.b false)))]) (.seq (.seq (.aj [11,12,13,16,17,18,19,20,21] [zm 7 0,z 8 (.len true (.t 7)),z 9 (.bin .gtr (.t 8) (.c (.i .i64
 64))),zm 10 9,⟨some 11,[(10,false)],.aK (.t 0)⟩,⟨some 12,[(10,false)],.len true (.t 11)⟩,⟨some 13,[(10,false)],.bin .eql (.t 12) (.c (.i .i64 0))⟩,z 14 (.pick (.t 10)
 (.c (.b true)) (.t 13)),zm 15 14,⟨some 16,[(15,false)],.aK (.t 0)⟩,⟨some 17,[(15,false)],.aK (.t 0)⟩,⟨some 18,[(15,false)],.len true (.t 17)⟩,⟨some 19,[(15,
 false)],.bin .sub (.t 18) (.c (.i .i64 1))⟩,⟨some 20,[(15,false)],.gQ (.t 16) (.t 19)⟩,⟨some 21,[(15,false)],.bin .eql (.t 20) (.c (.i .u8 47))⟩,z 22 (.pick (.t 15) (.c
 (.b true)) (.t 21))]) (.ite (.t 22) (.seq (.aj [] [z 2 (.aK (.c (.b false)))]) (.ret)) (.skip))) (.seq (.seq (.aj [] [z 3 (.aK (.c (.i .i64 0)))]) (.block 0 (.loop BQ)))
 (.seq (.aj [] [zm 47 0,z 48 (.call 187 [.t 47,.c (.s [32])]),zm 46 48,z 49 (.ext 0 (.t 46)),z 50 (.ext 1 (.t 46)),z 51 (.ext 2 (.t 46)),zm 4 49,zm 5 50,zm 6 51]) (.seq
 (.aj [55,56,57,58,59,60,61] [zm 52 4,z 53 (.call 86 [.t 52]),zm 54 53,⟨some 55,[(54,true)],.aK (.t 6)⟩,⟨some 56,[(54,true)],.un .not (.t 55)⟩,⟨some 57,[(54,
 true)],.aK (.t 56)⟩,⟨some 58,[(54,true),(57,false)],.aK (.t 5)⟩,⟨some 59,[(54,true),(57,false)],.len true (.t 58)⟩,⟨some 60,[(54,true),(57,false)],.bin .gtr (.t
 59) (.c (.i .i64 0))⟩,⟨some 61,[(54,true)],.pick (.t 57) (.c (.b true)) (.t 60)⟩,z 62 (.pick (.t 54) (.t 61) (.c (.b false))),zm 2 62]) (.ret)))))⟩
theorem aar:bL prog f156=some VB:=by kernel_rfl
def V0:bM:=⟨76,[.t 4],.seq (.aj [] [z 4 (.aK (.c (.b false)))]) (.seq (.aj [] [zm 6 0,zm 7 1,z 8 (.idx 3 (.t 6) (.t 7)),zL 9 3 8,z 5 (.alloc 31 [.i .i64 0,.s [],.i .i64 0]),zs
 (.store 3 [none,none,none] (.t 5) (.t 9))]) (.seq (.seq (.aj [] [zf 10 0 5,zl 11 10]) (.block 0 (.seq (.aj [] [z 13 (.bin .eql (.t 11) (.c (.i .i64 1))),zm 12 13]) (.ite (.t
 12) (.seq (.aj [18,19,20,23,24,25,26,27,28,29,30,31,32,33] [zf 14 1 5,zl 15 14,z 16 (.bin .neq (.t 15) (.c (.s []))),zm 17 16,⟨some 18,[(17,true)],.eG 2 (.t
 5)⟩,⟨some 19,[(17,true)],.load none (.t 18)⟩,⟨some 20,[(17,true)],.bin .eql (.t 19) (.c (.i .i64 0))⟩,z 21 (.pick (.t 17) (.t 20) (.c (.b false))),zm 22 21,⟨some 23,
 [(22,true)],.aK (.t 1)⟩,⟨some 24,[(22,true)],.bin .eql (.t 23) (.c (.i .i64 0))⟩,⟨some 25,[(22,true)],.aK (.t 24)⟩,⟨some 26,[(22,true),(25,false)],.aK (.t 0)⟩,
 ⟨some 27,[(22,true),(25,false)],.aK (.t 1)⟩,⟨some 28,[(22,true),(25,false)],.bin .sub (.t 27) (.c (.i .i64 1))⟩,⟨some 29,[(22,true),(25,false)],.idx 3 (.t 26) (.t
 28)⟩,⟨some 30,[(22,true),(25,false)],.eG 0 (.t 29)⟩,⟨some 31,[(22,true),(25,false)],.load none (.t 30)⟩,⟨some 32,[(22,true),(25,false)],.bin .neq (.t 31) (.c (.i
 .i64 1))⟩,⟨some 33,[(22,true)],.pick (.t 25) (.c (.b true)) (.t 32)⟩,z 34 (.pick (.t 22) (.t 33) (.c (.b false))),zm 4 34]) (.ret)) (.seq (.aj [] [z 36 (.bin .eql (.t 11) (.c
 (.i .i64 5))),zm 35 36]) (.ite (.t 35) (.seq (.aj [41,42,43] [zf 37 1 5,zl 38 37,z 39 (.call 86 [.t 38]),zm 40 39,⟨some 41,[(40,true)],.eG 2 (.t 5)⟩,⟨some 42,[(40,
 true)],.load none (.t 41)⟩,⟨some 43,[(40,true)],.bin .eql (.t 42) (.c (.i .i64 0))⟩,z 44 (.pick (.t 40) (.t 43) (.c (.b false))),zm 4 44]) (.ret)) (.seq (.seq (.aj [] [z 46
 (.bin .eql (.t 11) (.c (.i .i64 2))),zm 45 46]) (.ite (.t 45) (.skip) (.aj [] [z 47 (.bin .eql (.t 11) (.c (.i .i64 4))),zm 45 47]))) (.ite (.t 45) (.seq (.aj [52,53,54,57,
 58,59] [zf 48 1 5,zl 49 48,z 50 (.call 156 [.t 49]),zm 51 50,⟨some 52,[(51,true)],.eG 2 (.t 5)⟩,⟨some 53,[(51,true)],.load none (.t 52)⟩,⟨some 54,[(51,true)],.bin
 .geq (.t 53) (.c (.i .i64 1))⟩,z 55 (.pick (.t 51) (.t 54) (.c (.b false))),zm 56 55,⟨some 57,[(56,true)],.eG 2 (.t 5)⟩,⟨some 58,[(56,true)],.load none (.t 57)⟩,⟨some
 59,[(56,true)],.bin .leq (.t 58) (.c (.i .i64 999))⟩,z 60 (.pick (.t 56) (.t 59) (.c (.b false))),zm 4 60]) (.ret)) (.seq (.aj [] [z 62 (.bin .eql (.t 11) (.c (.i .i64 3))),
 zm 61 62]) (.ite (.t 61) (.seq (.aj [67,68,69,72,73,74] [zf 63 1 5,zl 64 63,z 65 (.call 86 [.t 64]),zm 66 65,⟨some 67,[(66,true)],.eG 2 (.t 5)⟩,⟨some 68,[(66,
 true)],.load none (.t 67)⟩,⟨some 69,[(66,true)],.bin .geq (.t 68) (.c (.i .i64 1))⟩,z 70 (.pick (.t 66) (.t 69) (.c (.b false))),zm 71 70,⟨some 72,[(71,true)],.eG 2 (.t
 5)⟩,⟨some 73,[(71,true)],.load none (.t 72)⟩,⟨some 74,[(71,true)],.bin .leq (.t 73) (.c (.i .i64 999))⟩,z 75 (.pick (.t 71) (.t 74) (.c (.b false))),zm 4 75]) (.ret))
 (.skip))))))))))) (.seq (.aj [] [z 4 (.aK (.c (.b false)))]) (.ret))))⟩
theorem aaL:bL prog f113=some V0:=by kernel_rfl
def B1:bj:=.seq (.aj [] [z 10 (.bin .lss (.t 9) (.t 8))]) (.seq (.ite (.t 10) (.skip) (.exit 0)) (.seq (.block 1 (.seq (.aj [] [z 11 (.idx 3 (.t 7) (.t 9)),zL 12 3 11,z 6 (.alloc 31 [.i
 .i64 0,.s [],.i .i64 0]),zs (.store 3 [none,none,none] (.t 6) (.t 12))]) (.seq (.seq (.aj [17,18,19,20,21] [zL 13 3 6,z 14 (.call 114 [.t 13]),z 15 (.un .not (.t 14)),
 zm 16 15,⟨some 17,[(16,false)],.eG 2 (.t 6)⟩,⟨some 18,[(16,false)],.load none (.t 17)⟩,⟨some 19,[(16,false)],.eG 2 (.t 3)⟩,⟨some 20,[(16,false)],.load none (.t
 19)⟩,⟨some 21,[(16,false)],.bin .neq (.t 18) (.t 20)⟩,z 22 (.pick (.t 16) (.c (.b true)) (.t 21))]) (.ite (.t 22) (.exit 1) (.skip))) (.seq (.df [([zf 23 0 3,zl 24 23,z 25
 (.bin .neq (.t 24) (.c (.i .i64 3))),zm 26 25,⟨some 27,[(26,false)],.eG 0 (.t 6)⟩,⟨some 28,[(26,false)],.load none (.t 27)⟩,⟨some 29,[(26,false)],.bin .neq (.t 28) (.c
 (.i .i64 2))⟩,z 30 (.pick (.t 26) (.c (.b true)) (.t 29)),zm 31 30,⟨some 32,[(31,false)],.eG 1 (.t 6)⟩,⟨some 33,[(31,false)],.load none (.t 32)⟩,⟨some 35,[(31,false)],
 .eG 1 (.t 3)⟩,⟨some 36,[(31,false)],.load none (.t 35)⟩],⟨some 34,[(31,false)],.call 157 [.t 33]⟩,[⟨some 35,[(31,false)],.eG 1 (.t 3)⟩,⟨some 36,[(31,false)],.load
 none (.t 35)⟩])] [] [27,28,29,32,33,34,35,36,37] [⟨some 37,[(31,false)],.bin .neq (.t 34) (.t 36)⟩,z 38 (.pick (.t 31) (.c (.b true)) (.t 37))]) (.ite (.t 38) (.seq
 (.aj [] [z 4 (.aK (.c (.b false)))]) (.ret)) (.skip)))))) (.aj [] [z 39 (.bin .add (.t 9) (.c (.i .i64 1))),zm 9 39])))
def VY:bM:=⟨40,[.t 4],.seq (.aj [] [z 3 (.box 31 (.t 1)),z 4 (.aK (.c (.b false)))]) (.seq (.seq (.aj [] [zm 7 0,z 8 (.len false (.t 7)),z 9 (.aK (.c (.i .i64 0)))]) (.block 0 (.loop
 B1))) (.seq (.aj [] [z 4 (.aK (.c (.b true)))]) (.ret)))⟩
theorem aaJ:bL prog f115=some VY:=by kernel_rfl
def Hn:bj:=.seq (.aj [] [z 16 (.bin .lss (.t 15) (.t 14))]) (.seq (.ite (.t 16) (.skip) (.exit 0)) (.seq (.block 1 (.seq (.aj [] [zm 17 15,z 18 (.idx 3 (.t 13) (.t 15)),zL 19 3 18,z 4
 (.alloc 31 [.i .i64 0,.s [],.i .i64 0]),zm 3 17,zs (.store 3 [none,none,none] (.t 4) (.t 19))]) (.seq (.seq (.aj [] [zm 20 0,zm 21 3,z 22 (.call 113 [.t 20,.t 21]),z 23
 (.un .not (.t 22))]) (.ite (.t 23) (.seq (.aj [] [z 2 (.aK (.c (.i .i64 1)))]) (.ret)) (.skip))) (.seq (.df [([zL 24 3 4],z 25 (.call 114 [.t 24]),[])] [zm 26 25,⟨some 27,
 [(26,true)],.aK (.t 0)⟩,⟨some 28,[(26,true)],.aK (.t 3)⟩,⟨some 29,[(26,true)],.slice 3 (.t 27) none (some (.t 28))⟩,⟨some 30,[(26,true)],.load (some 3) (.t 4)⟩] [27,
 28,29,30,31,32] [⟨some 31,[(26,true)],.call 115 [.t 29,.t 30]⟩,⟨some 32,[(26,true)],.un .not (.t 31)⟩,z 33 (.pick (.t 26) (.t 32) (.c (.b false)))]) (.ite (.t 33) (.seq
 (.aj [] [z 2 (.aK (.c (.i .i64 7)))]) (.ret)) (.skip)))))) (.aj [] [z 34 (.bin .add (.t 15) (.c (.i .i64 1))),zm 15 34])))
def p82:bM:=⟨35,[.t 2],.seq (.aj [] [z 2 (.aK (.c (.i .i64 0)))]) (.seq (.seq (.aj [9,10,11] [zm 5 0,z 6 (.len false (.t 5)),z 7 (.bin .gtr (.t 6) (.c (.i .i64 512))),zm 8 7,⟨some 9,
 [(8,false)],.aK (.t 0)⟩,⟨some 10,[(8,false)],.call 112 [.t 9]⟩,⟨some 11,[(8,false)],.bin .gtr (.t 10) (.c (.i .i64 1024))⟩,z 12 (.pick (.t 8) (.c (.b true)) (.t 11))])
 (.ite (.t 12) (.seq (.aj [] [z 2 (.aK (.c (.i .i64 3)))]) (.ret)) (.skip))) (.seq (.seq (.aj [] [zm 13 0,z 14 (.len false (.t 13)),z 15 (.aK (.c (.i .i64 0)))]) (.block 0
 (.loop Hn))) (.seq (.aj [] [z 2 (.aK (.c (.i .i64 0)))]) (.ret))))⟩
theorem c82:bL prog f82=some p82:=by kernel_rfl
def Hk:bj:=.seq (.seq (.aj [] [zm 23 3,zm 24 0,z 25 (.len true (.t 24)),z 26 (.bin .lss (.t 23) (.t 25))]) (.ite (.t 26) (.skip) (.exit 0))) (.seq (.block 1 (.seq (.aj [] [zm 29 0,zm 30
 3,z 31 (.gQ (.t 29) (.t 30)),zm 4 31]) (.seq (.aj [35,36,39,40,41,42,43,44,47,48] [zm 32 4,z 33 (.bin .geq (.t 32) (.c (.i .u8 97))),zm 34 33,⟨some 35,[(34,
 true)],.aK (.t 4)⟩,⟨some 36,[(34,true)],.bin .leq (.t 35) (.c (.i .u8 122))⟩,z 37 (.pick (.t 34) (.t 36) (.c (.b false))),zm 38 37,⟨some 39,[(38,false)],.aK (.t 4)⟩,
 ⟨some 40,[(38,false)],.bin .geq (.t 39) (.c (.i .u8 48))⟩,⟨some 41,[(38,false)],.aK (.t 40)⟩,⟨some 42,[(38,false),(41,true)],.aK (.t 4)⟩,⟨some 43,[(38,false),(41,
 true)],.bin .leq (.t 42) (.c (.i .u8 57))⟩,⟨some 44,[(38,false)],.pick (.t 41) (.t 43) (.c (.b false))⟩,z 45 (.pick (.t 38) (.c (.b true)) (.t 44)),zm 46 45,⟨some 47,[(46,
 false)],.aK (.t 4)⟩,⟨some 48,[(46,false)],.bin .eql (.t 47) (.c (.i .u8 45))⟩,z 49 (.pick (.t 46) (.c (.b true)) (.t 48)),z 50 (.un .not (.t 49))]) (.ite (.t 50) (.seq (.aj
 [] [z 2 (.aK (.c (.b false)))]) (.ret)) (.skip))))) (.aj [] [zm 27 3,z 28 (.bin .add (.t 27) (.c (.i .i64 1))),zm 3 28]))
def p86:bM:=⟨51,[.t 2],.seq (.aj [] [z 2 (.aK (.c (.b false)))]) (.seq (.seq (.aj [9,10,11,14,15,16,19,20,21] [zm 5 0,z 6 (.len true (.t 5)),z 7 (.bin .lss (.t 6) (.c (.i .i64
 1))),zm 8 7,⟨some 9,[(8,false)],.aK (.t 0)⟩,⟨some 10,[(8,false)],.len true (.t 9)⟩,⟨some 11,[(8,false)],.bin .gtr (.t 10) (.c (.i .i64 24))⟩,z 12 (.pick (.t 8) (.c
 (.b true)) (.t 11)),zm 13 12,⟨some 14,[(13,false)],.aK (.t 0)⟩,⟨some 15,[(13,false)],.gQ (.t 14) (.c (.i .i64 0))⟩,⟨some 16,[(13,false)],.bin .lss (.t 15) (.c (.i
 .u8 97))⟩,z 17 (.pick (.t 13) (.c (.b true)) (.t 16)),zm 18 17,⟨some 19,[(18,false)],.aK (.t 0)⟩,⟨some 20,[(18,false)],.gQ (.t 19) (.c (.i .i64 0))⟩,⟨some 21,[(18,
 false)],.bin .gtr (.t 20) (.c (.i .u8 122))⟩,z 22 (.pick (.t 18) (.c (.b true)) (.t 21))]) (.ite (.t 22) (.seq (.aj [] [z 2 (.aK (.c (.b false)))]) (.ret)) (.skip))) (.seq (.seq
 (.aj [] [z 3 (.aK (.c (.i .i64 1)))]) (.block 0 (.loop Hk))) (.seq (.aj [] [z 2 (.aK (.c (.b true)))]) (.ret))))⟩
theorem c86:bL prog f86=some p86:=by kernel_rfl
def Vf:bM:=⟨51,[.t 2],.seq (.aj [] [z 2 (.aK (.c (.i .i64 0)))]) (.seq (.block 0 (.seq (.aj [7,8,11,12,15,16] [zm 4 0,z 5 (.bin .eql (.t 4) (.c (.i .u8 9))),zm 6 5,⟨some 7,[(6,
 false)],.aK (.t 0)⟩,⟨some 8,[(6,false)],.bin .eql (.t 7) (.c (.i .u8 10))⟩,z 9 (.pick (.t 6) (.c (.b true)) (.t 8)),zm 10 9,⟨some 11,[(10,false)],.aK (.t 0)⟩,⟨some 12,
 [(10,false)],.bin .eql (.t 11) (.c (.i .u8 13))⟩,z 13 (.pick (.t 10) (.c (.b true)) (.t 12)),zm 14 13,⟨some 15,[(14,false)],.aK (.t 0)⟩,⟨some 16,[(14,false)],.bin .eql
 (.t 15) (.c (.i .u8 32))⟩,z 17 (.pick (.t 14) (.c (.b true)) (.t 16)),zm 3 17]) (.ite (.t 3) (.seq (.aj [] [z 2 (.aK (.c (.i .i64 2)))]) (.ret)) (.seq (.aj [22,23] [zm 19 0,z
 20 (.bin .lss (.t 19) (.c (.i .u8 32))),zm 21 20,⟨some 22,[(21,false)],.aK (.t 0)⟩,⟨some 23,[(21,false)],.bin .eql (.t 22) (.c (.i .u8 127))⟩,z 24 (.pick (.t 21) (.c (.b
 true)) (.t 23)),zm 18 24]) (.ite (.t 18) (.seq (.aj [] [z 2 (.aK (.c (.i .i64 1)))]) (.ret)) (.seq (.aj [29,30] [zm 26 0,z 27 (.bin .geq (.t 26) (.c (.i .u8 48))),zm 28 27,
 ⟨some 29,[(28,true)],.aK (.t 0)⟩,⟨some 30,[(28,true)],.bin .leq (.t 29) (.c (.i .u8 57))⟩,z 31 (.pick (.t 28) (.t 30) (.c (.b false))),zm 25 31]) (.ite (.t 25) (.seq (.aj
 [] [z 2 (.aK (.c (.i .i64 3)))]) (.ret)) (.seq (.aj [36,37,40,41,42,43,44,45,48,49] [zm 33 0,z 34 (.bin .geq (.t 33) (.c (.i .u8 97))),zm 35 34,⟨some 36,[(35,true)],
 .aK (.t 0)⟩,⟨some 37,[(35,true)],.bin .leq (.t 36) (.c (.i .u8 122))⟩,z 38 (.pick (.t 35) (.t 37) (.c (.b false))),zm 39 38,⟨some 40,[(39,false)],.aK (.t 0)⟩,⟨some 41,
 [(39,false)],.bin .geq (.t 40) (.c (.i .u8 65))⟩,⟨some 42,[(39,false)],.aK (.t 41)⟩,⟨some 43,[(39,false),(42,true)],.aK (.t 0)⟩,⟨some 44,[(39,false),(42,true)],
 .bin .leq (.t 43) (.c (.i .u8 90))⟩,⟨some 45,[(39,false)],.pick (.t 42) (.t 44) (.c (.b false))⟩,z 46 (.pick (.t 39) (.c (.b true)) (.t 45)),zm 47 46,⟨some 48,[(47,false)],
 .aK (.t 0)⟩,⟨some 49,[(47,false)],.bin .geq (.t 48) (.c (.i .u8 128))⟩,z 50 (.pick (.t 47) (.c (.b true)) (.t 49)),zm 32 50]) (.ite (.t 32) (.seq (.aj [] [z 2 (.aK (.c (.i
 .i64 4)))]) (.ret)) (.skip)))))))))) (.seq (.aj [] [z 2 (.aK (.c (.i .i64 5)))]) (.ret)))⟩
theorem Z5:bL prog f189=some Vf:=by kernel_rfl
def V8:bM:=⟨31,[.t 2],.seq (.aj [] [z 1 (.box 62 (.t 0)),z 2 (.aK (.c (.i .i64 0)))]) (.seq (.seq (.aj [7,8,9,12,13,14,17,18,19,22,23,24,27,28,29] [zf 3 0 1,zl 4 3,z 5
 (.bin .lss (.t 4) (.c (.i .i64 1))),zm 6 5,⟨some 7,[(6,false)],.eG 0 (.t 1)⟩,⟨some 8,[(6,false)],.load none (.t 7)⟩,⟨some 9,[(6,false)],.bin .gtr (.t 8) (.c (.i .i64
 1073741824))⟩,z 10 (.pick (.t 6) (.c (.b true)) (.t 9)),zm 11 10,⟨some 12,[(11,false)],.eG 1 (.t 1)⟩,⟨some 13,[(11,false)],.load none (.t 12)⟩,⟨some 14,[(11,false)],
 .bin .lss (.t 13) (.c (.i .i64 0))⟩,z 15 (.pick (.t 11) (.c (.b true)) (.t 14)),zm 16 15,⟨some 17,[(16,false)],.eG 1 (.t 1)⟩,⟨some 18,[(16,false)],.load none (.t 17)⟩,
 ⟨some 19,[(16,false)],.bin .geq (.t 18) (.c (.i .i64 8))⟩,z 20 (.pick (.t 16) (.c (.b true)) (.t 19)),zm 21 20,⟨some 22,[(21,false)],.eG 2 (.t 1)⟩,⟨some 23,[(21,
 false)],.load none (.t 22)⟩,⟨some 24,[(21,false)],.bin .lss (.t 23) (.c (.i .i64 1))⟩,z 25 (.pick (.t 21) (.c (.b true)) (.t 24)),zm 26 25,⟨some 27,[(26,false)],.eG 2
 (.t 1)⟩,⟨some 28,[(26,false)],.load none (.t 27)⟩,⟨some 29,[(26,false)],.bin .gtr (.t 28) (.c (.i .i64 128))⟩,z 30 (.pick (.t 26) (.c (.b true)) (.t 29))]) (.ite (.t 30)
 (.seq (.aj [] [z 2 (.aK (.c (.i .i64 1)))]) (.ret)) (.skip))) (.seq (.aj [] [z 2 (.aK (.c (.i .i64 0)))]) (.ret)))⟩
theorem aaS:bL prog f104=some V8:=by kernel_rfl
def p76:bM:=⟨22,[.t 4],.seq (.aj [] [z 4 (.aK (.c (.i .i64 0)))]) (.seq (.seq (.aj [8,9,10,11,14,15] [zm 5 1,z 6 (.bin .lss (.t 5) (.c (.i .i64 0))),zm 7 6,⟨some 8,[(7,false)],
 .aK (.t 1)⟩,⟨some 9,[(7,false)],.aK (.t 0)⟩,⟨some 10,[(7,false)],.len false (.t 9)⟩,⟨some 11,[(7,false)],.bin .geq (.t 8) (.t 10)⟩,z 12 (.pick (.t 7) (.c (.b true))
 (.t 11)),zm 13 12,⟨some 14,[(13,false)],.aK (.t 1)⟩,⟨some 15,[(13,false)],.bin .geq (.t 14) (.c (.i .i64 8))⟩,z 16 (.pick (.t 13) (.c (.b true)) (.t 15))]) (.ite (.t 16)
 (.seq (.aj [] [z 4 (.aK (.c (.i .i64 0)))]) (.ret)) (.skip))) (.seq (.aj [] [zm 17 0,zm 18 1,z 19 (.idx 1 (.t 17) (.t 18)),zl 20 19,z 21 (.max2 (.t 20) (.c (.i .i64 0))),zm
 4 21]) (.ret)))⟩
theorem c76:bL prog f76=some p76:=by kernel_rfl
def Vb:bM:=⟨22,[.t 4],.seq (.aj [] [z 2 (.box 62 (.t 0)),z 3 (.box 62 (.t 1)),z 4 (.aK (.c (.i .i64 0)))]) (.seq (.df [([zf 5 0 2,zl 6 5,zf 7 0 3,zl 8 7,zf 10 1 2,zl 11 10,zf 12
 1 3,zl 13 12,zf 15 2 2,zl 16 15,zf 17 2 3,zl 18 17],z 9 (.call 31 [.t 6,.t 8]),[zf 10 1 2,zl 11 10,zf 12 1 3,zl 13 12,zf 15 2 2,zl 16 15,zf 17 2 3,zl 18 17]),([],z
 14 (.call 31 [.t 11,.t 13]),[zf 15 2 2,zl 16 15,zf 17 2 3,zl 18 17])] [] [] [z 19 (.call 31 [.t 16,.t 18]),z 20 (.bQ 1 [none] [.t 9,.t 14,.t 19]),z 21 (.call 30 [.t
 20]),zm 4 21]) (.ret))⟩
theorem Z1:bL prog f196=some Vb:=by kernel_rfl
def p50:bM:=⟨17,[.t 4],.seq (.aj [] [z 3 (.box 62 (.t 1)),z 4 (.aK (.c (.b false)))]) (.seq (.df [([zf 5 2 3,zl 6 5,z 7 (.bin .geq (.t 6) (.c (.i .i64 1))),zm 8 7,⟨some 9,[(8,
 true)],.eG 2 (.t 3)⟩,⟨some 10,[(8,true)],.load none (.t 9)⟩,⟨some 11,[(8,true)],.aK (.t 0)⟩,⟨some 12,[(8,true)],.eG 1 (.t 3)⟩,⟨some 13,[(8,true)],.load none (.t
 12)⟩],⟨some 14,[(8,true)],.call 76 [.t 11,.t 13]⟩,[⟨some 9,[(8,true)],.eG 2 (.t 3)⟩,⟨some 10,[(8,true)],.load none (.t 9)⟩])] [] [9,10,11,12,13,14,15] [⟨some 15,
 [(8,true)],.bin .leq (.t 10) (.t 14)⟩,z 16 (.pick (.t 8) (.t 15) (.c (.b false))),zm 4 16]) (.ret))⟩
theorem c50:bL prog f50=some p50:=by kernel_rfl
def Hp:bj:=.seq (.aj [] [z 9 (.bin .lss (.t 8) (.c (.i .i64 8)))]) (.seq (.ite (.t 9) (.skip) (.exit 0)) (.seq (.block 1 (.seq (.aj [] [zm 10 8,zm 6 10]) (.seq (.aj [] [zm 11 0,zm 12 6,z
 13 (.call 76 [.t 11,.t 12]),zm 14 1,zm 15 6,z 16 (.call 76 [.t 14,.t 15]),z 17 (.max2 (.t 13) (.t 16)),zm 7 17]) (.seq (.aj [] [zm 18 4,zm 19 7,z 20 (.bQ 1 [none] [.t
 19]),z 21 (.app 3 1 8 (.t 18) (.t 20)),zm 4 21]) (.seq (.aj [] [zm 22 7,z 23 (.bin .neq (.t 22) (.c (.i .i64 0)))]) (.ite (.t 23) (.aj [] [zm 24 6,z 25 (.bin .add (.t 24) (.c
 (.i .i64 1))),zm 5 25]) (.skip))))))) (.aj [] [z 26 (.bin .add (.t 8) (.c (.i .i64 1))),zm 8 26])))
def p77:bM:=⟨30,[.t 4],.seq (.aj [] [z 4 (.aK (.c .nil))]) (.seq (.aj [] [z 5 (.aK (.c (.i .i64 0)))]) (.seq (.seq (.aj [] [z 8 (.aK (.c (.i .i64 0)))]) (.block 0 (.loop Hp))) (.seq
 (.aj [] [zm 27 4,zm 28 5,z 29 (.slice 1 (.t 27) none (some (.t 28))),zm 4 29]) (.ret))))⟩
theorem c77:bL prog f77=some p77:=by kernel_rfl
def p51:bM:=⟨5,[.t 2],.seq (.aj [] [z 2 (.aK (.c .nil))]) (.seq (.aj [] [zm 3 0,z 4 (.call 77 [.t 3,.c .nil]),zm 2 4]) (.ret))⟩
theorem c51:bL prog f51=some p51:=by kernel_rfl
def p31:bM:=⟨20,[.t 4],.seq (.aj [] [z 4 (.aK (.c (.i .i64 0)))]) (.seq (.aj [] [zm 7 0,z 8 (.call 52 [.t 7]),zm 5 8]) (.seq (.aj [] [zm 9 1,z 10 (.call 52 [.t 9]),zm 6 10]) (.seq
 (.seq (.aj [] [zm 11 5]) (.ite (.t 11) (.seq (.seq (.aj [] [zm 12 6]) (.ite (.t 12) (.seq (.aj [] [z 4 (.aK (.c (.i .i64 0)))]) (.ret)) (.skip))) (.seq (.aj [] [z 4 (.aK (.c
 (.i .i64 (-1))))]) (.ret))) (.skip))) (.seq (.seq (.aj [] [zm 13 6]) (.ite (.t 13) (.seq (.aj [] [z 4 (.aK (.c (.i .i64 1)))]) (.ret)) (.skip))) (.seq (.seq (.aj [] [zm 14 0,zm
 15 1,z 16 (.bin .lss (.t 14) (.t 15))]) (.ite (.t 16) (.seq (.aj [] [z 4 (.aK (.c (.i .i64 (-1))))]) (.ret)) (.skip))) (.seq (.seq (.aj [] [zm 17 0,zm 18 1,z 19 (.bin .gtr (.t
 17) (.t 18))]) (.ite (.t 19) (.seq (.aj [] [z 4 (.aK (.c (.i .i64 1)))]) (.ret)) (.skip))) (.seq (.aj [] [z 4 (.aK (.c (.i .i64 0)))]) (.ret))))))))⟩
theorem c31:bL prog f31=some p31:=by kernel_rfl
def p52:bM:=⟨6,[.t 2],.seq (.aj [] [z 2 (.aK (.c (.b false)))]) (.seq (.aj [] [zm 3 0,zm 4 0,z 5 (.bin .neq (.t 3) (.t 4)),zm 2 5]) (.ret))⟩
theorem c52:bL prog f52=some p52:=by kernel_rfl
def HA:bj:=.seq (.aj [] [z 9 (.bin .lss (.t 8) (.t 7))]) (.seq (.ite (.t 9) (.skip) (.exit 0)) (.seq (.block 1 (.seq (.aj [] [z 10 (.idx 1 (.t 6) (.t 8)),zl 11 10,zm 5 11]) (.seq (.aj []
 [zm 12 5,zm 13 3,z 14 (.bin .neq (.t 12) (.t 13))]) (.ite (.t 14) (.seq (.aj [] [zm 15 5,zm 2 15]) (.ret)) (.skip))))) (.aj [] [z 16 (.bin .add (.t 8) (.c (.i .i64 1))),zm 8
 16])))
def p30:bM:=⟨18,[.t 2],.seq (.aj [] [z 2 (.aK (.c (.i .i64 0)))]) (.seq (.aj [] [z 3 (.aK (.c (.i .i64 0)))]) (.seq (.seq (.aj [] [zm 6 0,z 7 (.len false (.t 6)),z 8 (.aK (.c (.i .i64
 0)))]) (.block 0 (.loop HA))) (.seq (.aj [] [zm 17 3,zm 2 17]) (.ret))))⟩
theorem c30:bL prog f30=some p30:=by kernel_rfl
def B3:bj:=.seq (.aj [] [z 14 (.bin .lss (.t 13) (.t 12))]) (.seq (.ite (.t 14) (.skip) (.exit 0)) (.seq (.block 1 (.seq (.aj [] [zm 15 13,zm 5 15]) (.seq (.df [] [zm 16 0,zm 17 5,z 18
 (.idx 1 (.t 16) (.t 17)),zl 19 18,zm 20 1,zm 21 5,z 22 (.idx 1 (.t 20) (.t 21)),zl 23 22] [] [z 24 (.bin .neq (.t 19) (.t 23))]) (.ite (.t 24) (.seq (.aj [] [z 4 (.aK (.c (.b
 false)))]) (.ret)) (.skip))))) (.aj [] [z 25 (.bin .add (.t 13) (.c (.i .i64 1))),zm 13 25])))
def V7:bM:=⟨26,[.t 4],.seq (.aj [] [z 4 (.aK (.c (.b false)))]) (.seq (.seq (.aj [] [zm 6 0,z 7 (.len false (.t 6)),zm 8 1,z 9 (.len false (.t 8)),z 10 (.bin .neq (.t 7) (.t 9))])
 (.ite (.t 10) (.seq (.aj [] [z 4 (.aK (.c (.b false)))]) (.ret)) (.skip))) (.seq (.seq (.aj [] [zm 11 0,z 12 (.len false (.t 11)),z 13 (.aK (.c (.i .i64 0)))]) (.block 0
 (.loop B3))) (.seq (.aj [] [z 4 (.aK (.c (.b true)))]) (.ret))))⟩
theorem aaR:bL prog f105=some V7:=by kernel_rfl
def Vh:bM:=⟨13,[.t 4,.t 5,.t 6],.seq (.aj [] [z 4 (.aK (.c (.s []))),z 5 (.aK (.c (.s []))),z 6 (.aK (.c (.b false)))]) (.seq (.aj [] [zm 7 0,zm 8 1,z 9 (.call 208 [.t 7,.t 8]),
 z 10 (.ext 0 (.t 9)),z 11 (.ext 1 (.t 9)),z 12 (.ext 2 (.t 9)),zm 4 10,zm 5 11,zm 6 12]) (.ret))⟩
theorem Z7:bL prog f187=some Vh:=by kernel_rfl
def Vw:bM:=⟨8,[.t 4],.seq (.aj [] [z 4 (.aK (.c (.i .i64 0)))]) (.seq (.aj [] [zm 5 0,zm 6 1,z 7 (.call 190 [.t 5,.t 6]),zm 4 7]) (.ret))⟩
theorem aam:bL prog f161=some Vw:=by kernel_rfl
def Ve:bM:=⟨8,[.t 4],.seq (.aj [] [z 4 (.aK (.c (.b false)))]) (.seq (.aj [] [zm 5 0,zm 6 1,z 7 (.call 210 [.t 5,.t 6]),zm 4 7]) (.ret))⟩
theorem Z4:bL prog f191=some Ve:=by kernel_rfl
def Vd:bM:=⟨8,[.t 4],.seq (.aj [] [z 4 (.aK (.c (.b false)))]) (.seq (.aj [] [zm 5 0,zm 6 1,z 7 (.call 211 [.t 5,.t 6]),zm 4 7]) (.ret))⟩
theorem Z3:bL prog f192=some Vd:=by kernel_rfl
def U2:bM:=⟨23,[.t 4,.t 5,.t 6],.seq (.aj [] [z 4 (.aK (.c (.s []))),z 5 (.aK (.c (.s []))),z 6 (.aK (.c (.b false)))]) (.seq (.seq (.aj [] [zm 8 0,zm 9 1,z 10 (.call 232 [.t 8,
 .t 9]),zm 7 10]) (.seq (.aj [] [zm 11 7,z 12 (.bin .geq (.t 11) (.c (.i .i64 0)))]) (.ite (.t 12) (.seq (.df [] [zm 13 0,zm 14 7,z 15 (.fv (.t 13) none (some (.t 14))),
 zm 16 0,zm 17 7,zm 18 1,z 19 (.len true (.t 18)),z 20 (.bin .add (.t 17) (.t 19)),z 21 (.fv (.t 16) (some (.t 20)) none),zm 4 15] [] [zm 5 21,z 6 (.aK (.c (.b true)))])
 (.ret)) (.skip)))) (.seq (.aj [] [zm 22 0,zm 4 22,z 5 (.aK (.c (.s []))),z 6 (.aK (.c (.b false)))]) (.ret)))⟩
theorem ZS:bL prog f208=some U2:=by kernel_rfl
def U1:bM:=⟨18,[.t 4],.seq (.aj [] [z 4 (.aK (.c (.b false)))]) (.seq (.aj [11,12,13,14,15,16] [zm 5 0,z 6 (.len true (.t 5)),zm 7 1,z 8 (.len true (.t 7)),z 9 (.bin .geq (.t 6)
 (.t 8)),zm 10 9,⟨some 11,[(10,true)],.aK (.t 0)⟩,⟨some 12,[(10,true)],.aK (.t 1)⟩,⟨some 13,[(10,true)],.len true (.t 12)⟩,⟨some 14,[(10,true)],.fv (.t 11)
 none (some (.t 13))⟩,⟨some 15,[(10,true)],.aK (.t 1)⟩,⟨some 16,[(10,true)],.bin .eql (.t 14) (.t 15)⟩,z 17 (.pick (.t 10) (.t 16) (.c (.b false))),zm 4 17]) (.ret))⟩
theorem ZR:bL prog f210=some U1:=by kernel_rfl
def U0:bM:=⟨21,[.t 4],.seq (.aj [] [z 4 (.aK (.c (.b false)))]) (.seq (.aj [11,12,13,14,15,16,17,18,19] [zm 5 0,z 6 (.len true (.t 5)),zm 7 1,z 8 (.len true (.t 7)),z 9 (.bin
 .geq (.t 6) (.t 8)),zm 10 9,⟨some 11,[(10,true)],.aK (.t 0)⟩,⟨some 12,[(10,true)],.aK (.t 0)⟩,⟨some 13,[(10,true)],.len true (.t 12)⟩,⟨some 14,[(10,true)],.aK
 (.t 1)⟩,⟨some 15,[(10,true)],.len true (.t 14)⟩,⟨some 16,[(10,true)],.bin .sub (.t 13) (.t 15)⟩,⟨some 17,[(10,true)],.fv (.t 11) (some (.t 16)) none⟩,⟨some 18,
 [(10,true)],.aK (.t 1)⟩,⟨some 19,[(10,true)],.bin .eql (.t 17) (.t 18)⟩,z 20 (.pick (.t 10) (.t 19) (.c (.b false))),zm 4 20]) (.ret))⟩
theorem ZQ:bL prog f211=some U0:=by kernel_rfl
def Vt:bM:=⟨13,[.t 2],.seq (.aj [] [z 2 (.aK (.c (.s [])))]) (.seq (.aj [] [zm 7 0,z 8 (.call 187 [.t 7,.c (.s [32])]),zm 6 8,z 9 (.ext 0 (.t 6)),z 10 (.ext 1 (.t 6)),z 11 (.ext 2
 (.t 6)),zm 3 9,zm 4 10,zm 5 11]) (.seq (.aj [] [zm 12 3,zm 2 12]) (.ret)))⟩
theorem aaj:bL prog f164=some Vt:=by kernel_rfl
def Vg:bM:=⟨23,[.t 2,.t 3],.seq (.aj [] [z 2 (.aK (.c (.i .u8 0))),z 3 (.aK (.c (.b false)))]) (.seq (.block 0 (.seq (.aj [8,9] [zm 5 0,z 6 (.bin .geq (.t 5) (.c (.i .u8 48))),zm 7
 6,⟨some 8,[(7,true)],.aK (.t 0)⟩,⟨some 9,[(7,true)],.bin .leq (.t 8) (.c (.i .u8 57))⟩,z 10 (.pick (.t 7) (.t 9) (.c (.b false))),zm 4 10]) (.ite (.t 4) (.seq (.aj []
 [zm 11 0,z 12 (.bin .sub (.t 11) (.c (.i .u8 48))),zm 2 12,z 3 (.aK (.c (.b true)))]) (.ret)) (.seq (.aj [17,18] [zm 14 0,z 15 (.bin .geq (.t 14) (.c (.i .u8 97))),zm 16 15,
 ⟨some 17,[(16,true)],.aK (.t 0)⟩,⟨some 18,[(16,true)],.bin .leq (.t 17) (.c (.i .u8 102))⟩,z 19 (.pick (.t 16) (.t 18) (.c (.b false))),zm 13 19]) (.ite (.t 13) (.seq
 (.aj [] [zm 20 0,z 21 (.bin .sub (.t 20) (.c (.i .u8 97))),z 22 (.bin .add (.t 21) (.c (.i .u8 10))),zm 2 22,z 3 (.aK (.c (.b true)))]) (.ret)) (.skip)))))) (.seq (.aj [] [z
 2 (.aK (.c (.i .u8 0))),z 3 (.aK (.c (.b false)))]) (.ret)))⟩
theorem Z6:bL prog f188=some Vg:=by kernel_rfl
def Vx:bM:=⟨60,[.t 2,.t 3,.t 4],.seq (.aj [] [z 2 (.aK (.c (.i .u8 0))),z 3 (.aK (.c (.i .i64 0))),z 4 (.aK (.c (.b false)))]) (.seq (.seq (.aj [] [zm 10 0,z 11 (.len true (.t
 10)),z 12 (.bin .lss (.t 11) (.c (.i .i64 2)))]) (.ite (.t 12) (.seq (.aj [] [z 2 (.aK (.c (.i .u8 0))),z 3 (.aK (.c (.i .i64 0))),z 4 (.aK (.c (.b false)))]) (.ret))
 (.skip))) (.seq (.seq (.aj [] [zm 13 0,z 14 (.gQ (.t 13) (.c (.i .i64 1)))]) (.block 0 (.seq (.seq (.aj [] [z 16 (.bin .eql (.t 14) (.c (.i .u8 92))),zm 15 16]) (.ite (.t 15)
 (.skip) (.seq (.aj [] [z 17 (.bin .eql (.t 14) (.c (.i .u8 60))),zm 15 17]) (.ite (.t 15) (.skip) (.aj [] [z 18 (.bin .eql (.t 14) (.c (.i .u8 123))),zm 15 18]))))) (.ite (.t
 15) (.seq (.aj [] [zm 19 0,z 20 (.gQ (.t 19) (.c (.i .i64 1))),zm 2 20,z 3 (.aK (.c (.i .i64 2))),z 4 (.aK (.c (.b true)))]) (.ret)) (.seq (.aj [] [z 22 (.bin .eql (.t 14)
 (.c (.i .u8 110))),zm 21 22]) (.ite (.t 21) (.seq (.aj [] [z 2 (.aK (.c (.i .u8 10))),z 3 (.aK (.c (.i .i64 2))),z 4 (.aK (.c (.b true)))]) (.ret)) (.seq (.aj [] [z 24 (.bin
 .eql (.t 14) (.c (.i .u8 116))),zm 23 24]) (.ite (.t 23) (.seq (.aj [] [z 2 (.aK (.c (.i .u8 9))),z 3 (.aK (.c (.i .i64 2))),z 4 (.aK (.c (.b true)))]) (.ret)) (.seq (.aj []
 [z 26 (.bin .eql (.t 14) (.c (.i .u8 120))),zm 25 26]) (.ite (.t 25) (.seq (.seq (.aj [] [zm 27 0,z 28 (.len true (.t 27)),z 29 (.bin .lss (.t 28) (.c (.i .i64 4)))]) (.ite (.t
 29) (.seq (.aj [] [z 2 (.aK (.c (.i .u8 0))),z 3 (.aK (.c (.i .i64 0))),z 4 (.aK (.c (.b false)))]) (.ret)) (.skip))) (.seq (.aj [] [zm 31 0,z 32 (.gQ (.t 31) (.c (.i .i64
 2))),z 33 (.call 188 [.t 32]),zm 30 33,z 34 (.ext 0 (.t 30)),z 35 (.ext 1 (.t 30)),zm 5 34,zm 6 35]) (.seq (.aj [] [zm 37 0,z 38 (.gQ (.t 37) (.c (.i .i64 3))),z 39
 (.call 188 [.t 38]),zm 36 39,z 40 (.ext 0 (.t 36)),z 41 (.ext 1 (.t 36)),zm 7 40,zm 8 41]) (.seq (.aj [] [zm 42 5,z 43 (.bin .shl (.t 42) (.c (.i .u64 4))),zm 44 7,z 45
 (.bin .or (.t 43) (.t 44)),zm 9 45]) (.seq (.aj [49,52,53,54,55,56,57,58] [zm 46 9,zm 47 6,zm 48 47,⟨some 49,[(48,true)],.aK (.t 8)⟩,z 50 (.pick (.t 48) (.t 49) (.c
 (.b false))),zm 51 50,⟨some 52,[(51,true)],.aK (.t 9)⟩,⟨some 53,[(51,true)],.bin .eql (.t 52) (.c (.i .u8 13))⟩,⟨some 54,[(51,true)],.aK (.t 53)⟩,⟨some 55,[(51,
 true),(54,false)],.aK (.t 9)⟩,⟨some 56,[(51,true),(54,false)],.call 189 [.t 55]⟩,⟨some 57,[(51,true),(54,false)],.bin .eql (.t 56) (.c (.i .i64 1))⟩,⟨some 58,[(51,
 true)],.pick (.t 54) (.c (.b true)) (.t 57)⟩,z 59 (.pick (.t 51) (.t 58) (.c (.b false))),zm 2 46,z 3 (.aK (.c (.i .i64 4))),zm 4 59]) (.ret)))))) (.skip))))))))))) (.seq
 (.aj [] [z 2 (.aK (.c (.i .u8 0))),z 3 (.aK (.c (.i .i64 0))),z 4 (.aK (.c (.b false)))]) (.ret))))⟩
theorem aan:bL prog f160=some Vx:=by kernel_rfl
def BH:bj:=.seq (.seq (.aj [] [zm 19 5,zm 20 0,z 21 (.len true (.t 20)),z 22 (.bin .lss (.t 19) (.t 21))]) (.ite (.t 22) (.skip) (.exit 0))) (.seq (.block 1 (.seq (.seq (.aj [30,31,32,
 33] [zm 25 0,zm 26 5,z 27 (.gQ (.t 25) (.t 26)),z 28 (.bin .lss (.t 27) (.c (.i .u8 48))),zm 29 28,⟨some 30,[(29,false)],.aK (.t 0)⟩,⟨some 31,[(29,false)],.aK (.t
 5)⟩,⟨some 32,[(29,false)],.gQ (.t 30) (.t 31)⟩,⟨some 33,[(29,false)],.bin .gtr (.t 32) (.c (.i .u8 57))⟩,z 34 (.pick (.t 29) (.c (.b true)) (.t 33))]) (.ite (.t 34) (.seq
 (.aj [] [z 2 (.aK (.c (.i .i64 0))),z 3 (.aK (.c (.b false)))]) (.ret)) (.skip))) (.aj [] [zm 35 4,z 36 (.bin .mul (.c (.i .i64 10)) (.t 35)),zm 37 0,zm 38 5,z 39 (.gQ
 (.t 37) (.t 38)),z 40 (.bin .sub (.t 39) (.c (.i .u8 48))),z 41 (.rn .i64 (.t 40)),z 42 (.bin .add (.t 36) (.t 41)),zm 4 42]))) (.aj [] [zm 23 5,z 24 (.bin .add (.t 23) (.c
 (.i .i64 1))),zm 5 24]))
def Vc:bM:=⟨46,[.t 2,.t 3],.seq (.aj [] [z 2 (.aK (.c (.i .i64 0))),z 3 (.aK (.c (.b false)))]) (.seq (.seq (.aj [10,11,12,15,16,17] [zm 6 0,z 7 (.len true (.t 6)),z 8 (.bin
 .lss (.t 7) (.c (.i .i64 1))),zm 9 8,⟨some 10,[(9,false)],.aK (.t 0)⟩,⟨some 11,[(9,false)],.len true (.t 10)⟩,⟨some 12,[(9,false)],.bin .gtr (.t 11) (.c (.i .i64 3))⟩,
 z 13 (.pick (.t 9) (.c (.b true)) (.t 12)),zm 14 13,⟨some 15,[(14,false)],.aK (.t 0)⟩,⟨some 16,[(14,false)],.gQ (.t 15) (.c (.i .i64 0))⟩,⟨some 17,[(14,false)],.bin
 .eql (.t 16) (.c (.i .u8 48))⟩,z 18 (.pick (.t 14) (.c (.b true)) (.t 17))]) (.ite (.t 18) (.seq (.aj [] [z 2 (.aK (.c (.i .i64 0))),z 3 (.aK (.c (.b false)))]) (.ret))
 (.skip))) (.seq (.aj [] [z 4 (.aK (.c (.i .i64 0)))]) (.seq (.seq (.aj [] [z 5 (.aK (.c (.i .i64 0)))]) (.block 0 (.loop BH))) (.seq (.aj [] [zm 43 4,zm 44 4,z 45 (.bin
 .leq (.t 44) (.c (.i .i64 999))),zm 2 43,zm 3 45]) (.ret)))))⟩
theorem Z2:bL prog f193=some Vc:=by kernel_rfl
def Vu:bM:=⟨30,[.t 2],.seq (.aj [] [z 2 (.aK (.c (.b false)))]) (.seq (.aj [6,7,10,11,14,15,18,19,22,23,26,27,28] [zm 3 0,z 4 (.bin .neq (.t 3) (.c (.i .u8 92))),zm 5 4,
 ⟨some 6,[(5,true)],.aK (.t 0)⟩,⟨some 7,[(5,true)],.bin .neq (.t 6) (.c (.i .u8 60))⟩,z 8 (.pick (.t 5) (.t 7) (.c (.b false))),zm 9 8,⟨some 10,[(9,true)],.aK (.t 0)⟩,
 ⟨some 11,[(9,true)],.bin .neq (.t 10) (.c (.i .u8 123))⟩,z 12 (.pick (.t 9) (.t 11) (.c (.b false))),zm 13 12,⟨some 14,[(13,true)],.aK (.t 0)⟩,⟨some 15,[(13,true)],
 .bin .neq (.t 14) (.c (.i .u8 9))⟩,z 16 (.pick (.t 13) (.t 15) (.c (.b false))),zm 17 16,⟨some 18,[(17,true)],.aK (.t 0)⟩,⟨some 19,[(17,true)],.bin .neq (.t 18) (.c (.i
 .u8 10))⟩,z 20 (.pick (.t 17) (.t 19) (.c (.b false))),zm 21 20,⟨some 22,[(21,true)],.aK (.t 0)⟩,⟨some 23,[(21,true)],.bin .neq (.t 22) (.c (.i .u8 13))⟩,z 24 (.pick (.t
 21) (.t 23) (.c (.b false))),zm 25 24,⟨some 26,[(25,true)],.aK (.t 0)⟩,⟨some 27,[(25,true)],.call 189 [.t 26]⟩,⟨some 28,[(25,true)],.bin .neq (.t 27) (.c (.i .i64
 1))⟩,z 29 (.pick (.t 25) (.t 28) (.c (.b false))),zm 2 29]) (.ret))⟩
theorem aak:bL prog f163=some Vu:=by kernel_rfl
def xi:bj:=.seq (.seq (.aj [] [zm 7 5,zm 8 1,z 9 (.len true (.t 8)),z 10 (.bin .lss (.t 7) (.t 9))]) (.ite (.t 10) (.skip) (.exit 0))) (.seq (.block 1 (.seq (.aj [] [zm 13 1,zm 14 5,z
 15 (.gQ (.t 13) (.t 14)),zm 6 15]) (.block 2 (.seq (.aj [] [zm 26 6,z 27 (.call 163 [.t 26]),zm 25 27]) (.ite (.t 25) (.aj [] [zm 28 0,zm 29 6,z 30 (.bQ 1 [none] [.t
 29]),z 31 (.app 5 1 1 (.t 28) (.t 30)),zm 0 31]) (.seq (.aj [] [zm 33 6,z 34 (.bin .eql (.t 33) (.c (.i .u8 10))),zm 32 34]) (.ite (.t 32) (.aj [] [zm 35 0,z 36 (.bQ 1
 [none] [.c (.i .u8 92),.c (.i .u8 110)]),z 37 (.app 5 1 1 (.t 35) (.t 36)),zm 0 37]) (.seq (.aj [] [zm 39 6,z 40 (.bin .eql (.t 39) (.c (.i .u8 9))),zm 38 40]) (.ite (.t 38)
 (.aj [] [zm 41 0,z 42 (.bQ 1 [none] [.c (.i .u8 92),.c (.i .u8 116)]),z 43 (.app 5 1 1 (.t 41) (.t 42)),zm 0 43]) (.seq (.aj [48,49,52,53] [zm 45 6,z 46 (.bin .eql (.t
 45) (.c (.i .u8 92))),zm 47 46,⟨some 48,[(47,false)],.aK (.t 6)⟩,⟨some 49,[(47,false)],.bin .eql (.t 48) (.c (.i .u8 60))⟩,z 50 (.pick (.t 47) (.c (.b true)) (.t 49)),zm
 51 50,⟨some 52,[(51,false)],.aK (.t 6)⟩,⟨some 53,[(51,false)],.bin .eql (.t 52) (.c (.i .u8 123))⟩,z 54 (.pick (.t 51) (.c (.b true)) (.t 53)),zm 44 54]) (.ite (.t 44)
 (.aj [] [zm 55 0,zm 56 6,z 57 (.bQ 1 [none] [.c (.i .u8 92),.t 56]),z 58 (.app 5 1 1 (.t 55) (.t 57)),zm 0 58]) (.df [] [zm 16 0,zm 17 6,z 18 (.bin .shr (.t 17) (.c
 (.i .u64 4))),z 19 (.gQ (.c (.s [48,49,50,51,52,53,54,55,56,57,97,98,99,100,101,102])) (.t 18)),zm 20 6,z 21 (.bin .and (.t 20) (.c (.i .u8 15))),z 22 (.gQ
 (.c (.s [48,49,50,51,52,53,54,55,56,57,97,98,99,100,101,102])) (.t 21)),z 23 (.bQ 1 [none] [.c (.i .u8 92),.c (.i .u8 120),.t 19,.t 22])] [] [z 24 (.app 5 1 1
 (.t 16) (.t 23)),zm 0 24])))))))))))) (.aj [] [zm 11 5,z 12 (.bin .add (.t 11) (.c (.i .i64 1))),zm 5 12]))
def Vs:bM:=⟨60,[.t 4],.seq (.aj [] [z 4 (.aK (.c .nil))]) (.seq (.seq (.aj [] [z 5 (.aK (.c (.i .i64 0)))]) (.block 0 (.loop xi))) (.seq (.aj [] [zm 59 0,zm 4 59]) (.ret)))⟩
theorem aai:bL prog f166=some Vs:=by kernel_rfl
def Vv:bM:=⟨60,[.c 2 (some 3),.t 3],.seq (.aj [] [z 2 (.alloc 31 [.i .i64 0,.s [],.i .i64 0]),z 3 (.aK (.c (.b false)))]) (.seq (.aj [] [z 10 (.build [.i .i64 0,.s [],.i .i64 0]
 [(0,1,.c (.i .i64 2))]),z 4 (.alloc 31 [.i .i64 0,.s [],.i .i64 0]),zs (.store 3 [none,none,none] (.t 4) (.t 10))]) (.seq (.seq (.aj [] [zm 11 0,z 12 (.call 191 [.t 11,.c
 (.s [47])])]) (.ite (.t 12) (.df [([zm 13 0,z 14 (.fv (.t 13) (some (.c (.i .i64 1))) none),zf 15 0 4],zs (.store 1 [none] (.t 15) (.c (.i .i64 3))),[])] [] [] [zm 0 14])
 (.skip))) (.seq (.aj [] [zm 17 0,z 18 (.call 187 [.t 17,.c (.s [58])]),zm 16 18,z 19 (.ext 0 (.t 16)),z 20 (.ext 1 (.t 16)),z 21 (.ext 2 (.t 16)),zm 5 19,zm 6 20,zm 7 21])
 (.seq (.seq (.aj [26,27] [zf 22 0 4,zl 23 22,z 24 (.bin .eql (.t 23) (.c (.i .i64 2))),zm 25 24,⟨some 26,[(25,true)],.aK (.t 6)⟩,⟨some 27,[(25,true)],.call 192 [.t 26,
 .c (.s [47])]⟩,z 28 (.pick (.t 25) (.t 27) (.c (.b false)))]) (.ite (.t 28) (.df [([zm 29 6,zm 30 6,z 31 (.len true (.t 30)),z 32 (.bin .sub (.t 31) (.c (.i .i64 1))),z 33
 (.fv (.t 29) none (some (.t 32))),zf 34 0 4],zs (.store 1 [none] (.t 34) (.c (.i .i64 4))),[z 31 (.len true (.t 30))])] [] [] [zm 6 33]) (.skip))) (.seq (.aj [] [zm 36 5,z
 37 (.call 193 [.t 36]),zm 35 37,z 38 (.ext 0 (.t 35)),z 39 (.ext 1 (.t 35)),zm 8 38,zm 9 39]) (.seq (.seq (.aj [43,44] [zm 40 7,z 41 (.un .not (.t 40)),zm 42 41,⟨some 43,
 [(42,false)],.aK (.t 9)⟩,⟨some 44,[(42,false)],.un .not (.t 43)⟩,z 45 (.pick (.t 42) (.c (.b true)) (.t 44))]) (.ite (.t 45) (.seq (.aj [] [z 46 (.build [.i .i64 0,.s [],
 .i .i64 0] []),zs (.store 3 [none,none,none] (.t 2) (.t 46)),z 3 (.aK (.c (.b false)))]) (.ret)) (.skip))) (.seq (.aj [] [zm 47 6,zm 48 8,zf 49 1 4,zs (.store 1 [none] (.t
 49) (.t 47)),zf 50 2 4,zs (.store 1 [none] (.t 50) (.t 48))]) (.seq (.seq (.aj [] [zf 51 0 4,zl 52 51,z 53 (.bin .eql (.t 52) (.c (.i .i64 3)))]) (.ite (.t 53) (.seq (.df
 [([zL 54 3 4,zm 55 6],z 56 (.call 86 [.t 55]),[zL 54 3 4])] [] [] [zs (.store 3 [none,none,none] (.t 2) (.t 54)),zm 3 56]) (.ret)) (.skip))) (.seq (.df [([zL 57 3 4,zm 58
 6],z 59 (.call 156 [.t 58]),[zL 57 3 4])] [] [] [zs (.store 3 [none,none,none] (.t 2) (.t 57)),zm 3 59]) (.ret))))))))))⟩
theorem aal:bL prog f162=some Vv:=by kernel_rfl
def VQ:bM:=⟨76,[.c 2 (some 3),.t 3,.t 4],.seq (.aj [] [z 2 (.alloc 31 [.i .i64 0,.s [],.i .i64 0]),z 3 (.aK (.c (.i .i64 0))),z 4 (.aK (.c (.b false)))]) (.seq (.block 0 (.seq (.aj
 [] [zm 13 0,z 14 (.gQ (.t 13) (.c (.i .i64 0))),z 15 (.bin .eql (.t 14) (.c (.i .u8 92))),zm 12 15]) (.ite (.t 12) (.seq (.aj [] [zm 17 0,z 18 (.call 160 [.t 17]),zm 16 18,
 z 19 (.ext 0 (.t 16)),z 20 (.ext 1 (.t 16)),z 21 (.ext 2 (.t 16)),zm 5 19,zm 6 20,zm 7 21]) (.seq (.aj [] [zm 22 5,z 23 (.bQ 1 [none] [.t 22]),z 24 (.yx (.t 23)),z 25
 (.build [.i .i64 0,.s [],.i .i64 0] [(0,1,.c (.i .i64 1)),(1,1,.t 24)]),zm 26 6,zm 27 7,zs (.store 3 [none,none,none] (.t 2) (.t 25)),zm 3 26,zm 4 27]) (.ret))) (.seq
 (.aj [] [zm 29 0,z 30 (.gQ (.t 29) (.c (.i .i64 0))),z 31 (.bin .eql (.t 30) (.c (.i .u8 60))),zm 28 31]) (.ite (.t 28) (.seq (.aj [] [zm 32 0,z 33 (.call 161 [.t 32,.c (.i
 .u8 62)]),zm 8 33]) (.seq (.seq (.aj [] [zm 34 8,z 35 (.bin .lss (.t 34) (.c (.i .i64 0)))]) (.ite (.t 35) (.seq (.aj [] [z 36 (.build [.i .i64 0,.s [],.i .i64 0] []),zs
 (.store 3 [none,none,none] (.t 2) (.t 36)),z 3 (.aK (.c (.i .i64 0))),z 4 (.aK (.c (.b false)))]) (.ret)) (.skip))) (.seq (.aj [] [zm 38 0,zm 39 8,z 40 (.fv (.t 38)
 (some (.c (.i .i64 1))) (some (.t 39))),z 41 (.call 162 [.t 40]),zm 37 41,z 42 (.ext 0 (.t 37)),z 43 (.ext 1 (.t 37)),z 9 (.alloc 31 [.i .i64 0,.s [],.i .i64 0]),zs (.store
 3 [none,none,none] (.t 9) (.t 42)),zm 10 43]) (.seq (.aj [] [zL 44 3 9,zm 45 8,z 46 (.bin .add (.t 45) (.c (.i .i64 1))),zm 47 10,zs (.store 3 [none,none,none] (.t 2) (.t
 44)),zm 3 46,zm 4 47]) (.ret))))) (.seq (.aj [] [zm 49 0,z 50 (.gQ (.t 49) (.c (.i .i64 0))),z 51 (.bin .eql (.t 50) (.c (.i .u8 123))),zm 48 51]) (.ite (.t 48) (.seq (.aj
 [] [zm 52 0,z 53 (.call 161 [.t 52,.c (.i .u8 125)]),zm 11 53]) (.seq (.seq (.aj [57,58,59,60,61] [zm 54 11,z 55 (.bin .lss (.t 54) (.c (.i .i64 0))),zm 56 55,⟨some 57,
 [(56,false)],.aK (.t 0)⟩,⟨some 58,[(56,false)],.aK (.t 11)⟩,⟨some 59,[(56,false)],.fv (.t 57) (some (.c (.i .i64 1))) (some (.t 58))⟩,⟨some 60,[(56,false)],.call
 86 [.t 59]⟩,⟨some 61,[(56,false)],.un .not (.t 60)⟩,z 62 (.pick (.t 56) (.c (.b true)) (.t 61))]) (.ite (.t 62) (.seq (.aj [] [z 63 (.build [.i .i64 0,.s [],.i .i64 0] []),
 zs (.store 3 [none,none,none] (.t 2) (.t 63)),z 3 (.aK (.c (.i .i64 0))),z 4 (.aK (.c (.b false)))]) (.ret)) (.skip))) (.seq (.aj [] [zm 64 0,zm 65 11,z 66 (.fv (.t 64)
 (some (.c (.i .i64 1))) (some (.t 65))),z 67 (.build [.i .i64 0,.s [],.i .i64 0] [(0,1,.c (.i .i64 5)),(1,1,.t 66)]),zm 68 11,z 69 (.bin .add (.t 68) (.c (.i .i64 1))),zs
 (.store 3 [none,none,none] (.t 2) (.t 67)),zm 3 69,z 4 (.aK (.c (.b true)))]) (.ret)))) (.skip)))))))) (.seq (.df [([zm 70 0,z 71 (.fv (.t 70) none (some (.c (.i .i64
 1)))),z 72 (.build [.i .i64 0,.s [],.i .i64 0] [(0,1,.c (.i .i64 1)),(1,1,.t 71)]),zm 73 0,z 74 (.gQ (.t 73) (.c (.i .i64 0)))],z 75 (.call 163 [.t 74]),[z 72 (.build
 [.i .i64 0,.s [],.i .i64 0] [(0,1,.c (.i .i64 1)),(1,1,.t 71)])])] [] [] [zs (.store 3 [none,none,none] (.t 2) (.t 72)),z 3 (.aK (.c (.i .i64 1))),zm 4 75]) (.ret)))⟩
theorem aaF:bL prog f121=some VQ:=by kernel_rfl
end Go.Proofs.Tryz
namespace Go.Proofs.Tryz
open Go Go.Pm Go.Bt
open Go.Pm.V(u)
theorem KD(x:It)(σ:ah):PC prog 155 [.agg x.cells] σ (fun r σ'=>r=.i .i64 (width x)∧σ'=σ):=by
 refine PC.intro func155 aas fun aU da=>al ?_;simp only[VC,It.cells,SS,seval];simp only[W,seval];refine⟨fun h=>?_,fun h=>?_⟩
 ·exact aD aU (.inr rfl) rfl (by simp only[LW]) (by simp at h;simp[one,width,h])
 ·exact aD aU (.inr rfl) rfl (by simp only[LW]) (by simp at h;simp[one,width,h])
theorem Pc{σ:ah}{K:Exit→St→Prop}(its:List It)(aU:bG σ)(hlen:its.length<2^63):∀ (rest pre:List It) (acc:Int),its=pre++rest →
  (K (.exit 0) ⟨[.sl 3 (its.map It.cells),u,.i .i64 0,.i .i64 (dS acc rest),u,u,.sl 3 (its.map It.cells),.i .i64 its.length,.i .i64 its.length,.b false,u,u,u,u,u,u,u,u],σ⟩) →
  fp σ.length prog B2 K (rest.length+1) ⟨[.sl 3 (its.map It.cells),u,.i .i64 0,.i .i64 acc,u,u,.sl 3 (its.map It.cells),.i .i64 its.length,.i .i64 pre.length,u,u,u,u,u,u,u,u,u],σ⟩:=by
 intro rest
 induction rest with
 | nil =>
  intro pre acc he hK;subst he;refine ay fun R hR=>?_;simp only[B2,W,seval];refine⟨fun h=>by simp at h,fun _=>?_⟩;simpa[dS]using hK
 | cons x rest ih =>
  intro pre acc he hK;subst he;refine ay fun R hR=>?_;simp only[B2,jj,It.cells,W,seval];refine⟨fun _=>⟨?_,?_⟩,fun h=>?_⟩
  ·simp;omega
  ·refine an (KD x _) rfl ?_;simp only[W,seval];refine hR _ ?_
   have hw:IntKind.i64.wrap ((pre.length:Int)+1)=(((pre++[x]).length:Nat):Int):=by
    rw[aX (by simp at hlen;omega)];simp
   rw[hw];refine sE (aw _) aU ?_ ?_ (ih (pre++[x]) (IntKind.i64.wrap (acc+width x)) (by simp) ?_)
   ·repeat first | exact .nil | refine .cons (.refl _) ?_ | refine .cons (.forget _) ?_
   ·simp only[LW]
   ·simpa[dS]using hK
  ·simp at h;omega
theorem Jz(its:List It)(σ:ah):PC prog 112 [.sl 3 (its.map It.cells)] σ (fun r σ'=>r=.i .i64 (dS 0 its)∧σ'=σ):=by
 refine PC.intro func112 aaM fun aU da=>al ?_
 have hlen:its.length<2^63:=by
  have:=kS (da 0 _ rfl).1;simpa using this
 simp only[V1,SS,seval];simp only[ae,W,seval];refine bX.ml (its.length+1) (Pc its aU hlen its [] 0 (by simp) ?_);simp only[W,seval];exact aP (.inr rfl) rfl ⟨rfl,rfl⟩
theorem tO(x:bY)(σ:ah):PC prog 104 [.agg x.cells] σ (fun r σ'=>r=.i .i64 (if gH x then 0 else 1)∧σ'=σ):=by
 refine PC.intro func104 aaS fun aU da=>al ?_;simp only[V8,bY.cells,SS,seval];simp only[W,seval];refine⟨fun h=>?_,fun h=>?_⟩
 ·exact aD aU (.inr rfl) rfl (by simp only[LW]) (by simp at h;simp[one,gH];omega)
 ·exact aD aU (.inr rfl) rfl (by simp only[LW]) (by simp at h;simp[one,gH,h])
theorem RY{σ:ah}{K:Exit→St→Prop}(s:List UInt8)(hlen:s.length<2^63):∀ (rest pre:List UInt8),s=pre++rest →
  (rest.all gv=true→∀ j0 j1 j2 j3 j4 j5 j6 j7 j8 j9 cC cH cG cF cB cE cD cI cQ db de dh dm dv du dt dN dR dU dX ej eD eL eQ eP fb fi fh fg fw fG fF fK fW gj gi gB gA gz gy gx,K (.exit 0) ⟨[j0,j1,j2,j3,j4,j5,j6,j7,j8,j9,cC,cH,cG,cF,cB,cE,cD,cI,cQ,db,de,dh,dm,dv,du,dt,dN,dR,dU,dX,ej,eD,eL,eQ,eP,fb,fi,fh,fg,fw,fG,fF,fK,fW,gj,gi,gB,gA,gz,gy,gx],σ⟩) →
  (rest.all gv=false→∀ j0 j1 j3 j4 j5 j6 j7 j8 j9 cC cH cG cF cB cE cD cI cQ db de dh dm dv du dt dN dR dU dX ej eD eL eQ eP fb fi fh fg fw fG fF fK fW gj gi gB gA gz gy gx,K .ret ⟨[j0,j1,.b false,j3,j4,j5,j6,j7,j8,j9,cC,cH,cG,cF,cB,cE,cD,cI,cQ,db,de,dh,dm,dv,du,dt,dN,dR,dU,dX,ej,eD,eL,eQ,eP,fb,fi,fh,fg,fw,fG,fF,fK,fW,gj,gi,gB,gA,gz,gy,gx],σ⟩) →
  fp σ.length prog Hk K (rest.length+1) ⟨[.s s,u,u,.i .i64 pre.length,u,u,u,u,u,u,u,u,u,u,u,u,u,u,u,u,u,u,u,u,u,u,u,u,u,u,u,u,u,u,u,u,u,u,u,u,u,u,u,u,u,u,u,u,u,u,u],σ⟩:=by
 intro rest
 induction rest with
 | nil =>
  intro pre he h1 h2;subst he;refine ay fun R hR=>?_;simp only[Hk,W,seval];exact⟨fun h=>by simp at h,fun _=>h1 rfl ..⟩
 | cons c rest ih =>
  intro pre he h1 h2;subst he;refine ay fun R hR=>?_;simp only[Hk,W,seval];refine⟨fun _=>⟨by simp;omega,fun h=>?_,fun h=>?_⟩,fun h=>by simp at h;omega⟩
  ·refine h2 ?_ ..;simp only[ey,Bool.and_eq_false_iff];left;simp at h;simp[gv];omega
  ·refine hR _ (bb (fr':=[.s (pre++c::rest),u,u,.i .i64 (pre++[c]).length,u,u,u,u,u,u,u,u,u,u,u,u,u,u,u,u,u,u,u,u,u,u,u,u,u,u,u,u,u,u,u,u,u,u,u,u,u,u,u,u,u,u,u,u,u,u,u]) ?_ (ih (pre++[c]) (by simp) (fun h2=>h1 ?_) (fun h3=>h2 ?_)))
   ·rw[aX (by simp at hlen;omega)];simp only[List.length_append,ag,ai]
    repeat first | exact .nil | refine .cons (.refl _) ?_ | refine .cons (.forget _) ?_
   ·simp[h2];simp at h;simp[gv];omega
   ·simp[h3]
theorem mz(v:List Int)(o:Int)(σ:ah):PC prog 76 [.sl 1 (v.map bW),.i .i64 o] σ (fun r σ'=>r=.i .i64 (lL v o)∧σ'=σ):=by
 refine PC.intro func76 c76 fun aU da=>al ?_;simp only[p76,SS,seval];simp only[W,seval];refine⟨fun h=>?_,fun h=>?_⟩
 ·refine aP (.inr rfl) rfl ?_;simp at h;simp only[one,ar,aC,V.i.injEq,true_and,and_true,lL];rw[if_pos (by omega)]
 ·simp at h;have hl:o.toNat<v.length:=by omega
  rw[oD hl];simp only[W,seval];refine⟨by simp;omega,aP (.inr rfl) rfl ?_⟩;simp only[one,lL,ar,aC,V.i.injEq,true_and,and_true];rw[if_neg (show ¬ (o<0∨(v.length:Int)≤o∨8≤o)by omega)]
theorem Et(n:Int)(σ:ah):PC prog 52 [.i .i64 n] σ (fun r σ'=>r=.b false∧σ'=σ):=by
 refine PC.intro func52 c52 fun aU da=>al ?_;simp only[p52,SS,seval];simp only[W,seval];exact aP (.inr rfl) rfl (by simp[one])
theorem mf(a b:Int)(σ:ah):PC prog 31 [.i .i64 a,.i .i64 b] σ (fun r σ'=>r=.i .i64 (eT a b)∧σ'=σ):=by
 refine PC.intro func31 c31 fun aU da=>al ?_;simp only[p31,SS,seval];simp only[W,seval];refine an (Et a _) rfl ?_;simp only[W,seval];refine an (Et b _) rfl ?_;simp only[W,seval];refine⟨fun h=>?_,fun h=>⟨fun h2=>?_,fun h2=>?_⟩⟩<;>refine aP (.inr rfl) rfl ?_<;>simp at h<;>(try simp at h2)<;>simp only[one,eT,ar,aC,V.i.injEq,true_and,and_true]<;>(repeat' split)<;>omega
theorem Sb{σ:ah}{K:Exit→St→Prop}(l:List Int)(hlen:l.length<2^63):∀ (rest pre:List Int),l=pre++rest →
  (qN rest=0→(∀ j0 j1 j2 j4 j5 j6 j7 j8 j9 cC cH cG cF cB cE cD cI,K (.exit 0) ⟨[j0,j1,j2,.i .i64 0,j4,j5,j6,j7,j8,j9,cC,cH,cG,cF,cB,cE,cD,cI],σ⟩))→(qN rest≠0→(∀ j0 j1 j3 j4 j5 j6 j7 j8 j9 cC cH cG cF cB cE cD cI,K .ret ⟨[j0,j1,.i .i64 (qN rest),j3,j4,j5,j6,j7,j8,j9,cC,cH,cG,cF,cB,cE,cD,cI],σ⟩)) →
  fp σ.length prog HA K (rest.length+1) ⟨[u,u,u,.i .i64 0,u,u,.sl 1 (l.map bW),.i .i64 l.length,.i .i64 pre.length,u,u,u,u,u,u,u,u,u],σ⟩:=by
 intro rest
 induction rest with
 | nil =>
  intro pre he h1 h2;subst he;refine ay fun R hR=>?_;simp only[HA,W,seval];exact⟨fun h=>by simp at h,fun _=>h1 rfl ..⟩
 | cons c rest ih =>
  intro pre he h1 h2;subst he;refine ay fun R hR=>?_;simp only[HA,W,seval];simp only[bW,W,seval];refine⟨fun _=>⟨by simp;omega,fun h=>?_,fun h=>?_⟩,fun h=>by simp at h;omega⟩
  ·simp at h;have e:qN (c::rest)=c:=by simp[qN,h]
   rw[e]at h2;exact h2 h ..
  ·simp at h;have e:qN (c::rest)=qN rest:=by simp[qN,h]
   rw[e]at h1 h2;refine hR _ (bb ?_ (ih (pre++[c]) (by simp) h1 h2));rw[aX (by simp at hlen;omega)];simp only[List.length_append,ag,ai]
   repeat' constructor
theorem F4(l:List Int)(σ:ah):PC prog 30 [.sl 1 (l.map bW)] σ (fun r σ'=>r=.i .i64 (qN l)∧σ'=σ):=by
 refine PC.intro func30 c30 fun aU da=>al ?_;have hlen:l.length<2^63:=by simpa using kS (da 0 _ rfl).1
 simp only[p30,SS,seval];simp only[ae,W,seval];refine bX.bb ?_ (l.length+1) (Sb l hlen l [] (by simp) ?_ ?_)
 ·repeat' constructor
 ·intro h;simp only[W,seval];intros;exact aP (.inr rfl) rfl (by simp[one,h])
 ·intro h;simp only[W,seval];intros;exact aP (.inr rfl) rfl ⟨rfl,rfl⟩
theorem vK(a b:bY)(σ:ah):PC prog 196 [.agg a.cells,.agg b.cells] σ (fun r σ'=>r=.i .i64 (jh a b)∧σ'=σ):=by
 refine PC.intro func196 Z1 fun aU da=>al ?_;simp only[Vb,bY.cells,SS,seval];simp only[W,seval];refine an (mf _ _ _) rfl ?_;simp only[W,seval];refine an (mf _ _ _) rfl ?_;simp only[W,seval];refine an (mf _ _ _) rfl ?_;simp only[W,seval];refine iv (zs:=[.sl 1 ([eT a.time b.time,eT a.bP b.bP,eT a.number b.number].map bW)]) (.cons (.lit _ _) .nil) (F4 _ _) ?_;simp only[W,seval];exact aD aU (.inr rfl) rfl (by simp only[LW]) ⟨rfl,rfl⟩
theorem J6(v:List Int)(s:bY)(σ:ah):PC prog 50 [.sl 1 (v.map bW),.agg s.cells] σ (fun r σ'=>r=.b (M9 v s)∧σ'=σ):=by
 refine PC.intro func50 c50 fun aU da=>al ?_;simp only[p50,bY.cells,SS,seval];simp only[W,seval];refine br rfl (fun _=>mz v s.bP _) rfl ?_;simp only[W,seval];exact aD aU (.inr rfl) rfl (by simp only[LW]) ⟨rfl,rfl⟩
theorem Gg{σ:ah}{K:Exit→St→Prop}(aU:bG σ)(a b:List Int):∀ (k n:Nat),n+k=8 →
  (∀ j0 j1 j2 j3 j6 j7 j8 j9 cC cH cG cF cB cE cD cI cQ db de dh dm dv du dt dN dR dU dX,K (.exit 0) ⟨[j0,j1,j2,j3,.own σ.length 8,.i .i64 (gw a b 8),j6,j7,j8,j9,cC,cH,cG,cF,cB,cE,cD,cI,cQ,db,de,dh,dm,dv,du,dt,dN,dR,dU,dX],σ++[.row 3 1 8 8 false ((im a b 8).map bW)]⟩) →
  fp σ.length prog Hp K (k+1) ⟨[.sl 1 (a.map bW),.sl 1 (b.map bW),u,u,.own σ.length n,.i .i64 (gw a b n),u,u,.i .i64 n,u,u,u,u,u,u,u,u,u,u,u,u,u,u,u,u,u,u,u,u,u],σ++[.row 3 1 8 n false ((im a b n).map bW)]⟩
 | 0,n,he,h1=>by
  have:n=8:=by omega
  subst this;refine ay fun R hR=>?_;simp only[Hp,W,seval];refine⟨fun h=>by simp at h,fun _=>h1 ..⟩
 | k+1,n,he,h1=>by
  refine ay fun R hR=>?_;simp only[Hp,W,seval];refine⟨fun _=>?_,fun h=>by simp at h;omega⟩;refine an (mz a n _) rfl ?_;simp only[W,seval];refine an (mz b n _) rfl ?_;simp only[W,seval];have hw:=aX (n:=n) (by omega);have ql:(im a b n).map bW++[[V.i .i64 (if lL a n<lL b n then lL b n else lL a n)]]=(im a b (n+1)).map bW:=by simp[rF,bW]
  simp only[ql,hw];refine⟨?_,fun h=>?_,fun h=>?_⟩
  ·simp only[ae,jX,maxLen];omega
  ·have e:gw a b (n+1)=n+1:=by simp at h;simp[gw,h]
   refine hR _ (bb ?_ (Gg aU a b k (n+1) (by omega) h1));rw[e]
   repeat' constructor
  ·have e:gw a b (n+1)=gw a b n:=by simp at h;simp[gw,h]
   refine hR _ (bb ?_ (Gg aU a b k (n+1) (by omega) h1));rw[e]
   repeat' constructor
theorem KJ:Ti prog 3 1 8:=kY (by kernel_rfl)
theorem KE(a b:List Int)(σ:ah):PC prog 77 [.sl 1 (a.map bW),.sl 1 (b.map bW)] σ (fun r σ'=>r=.sl 1 ((ph a b).map bW)∧σ'=σ):=by
 refine PC.intro func77 c77 fun aU da=>al ?_;simp only[p77,SS,seval];simp only[W,seval];refine bX.wk ((Wk.iZ (k:=4) KJ rfl).trans (Wk.ic ?_)) (bX.ml 9 (Gg aU a b 8 0 (by omega) ?_))
 ·simp only[W,seval]
  repeat' constructor
 ·intros;simp only[W,seval];refine⟨?_,?_⟩
  ·have:gw a b 8≤8:=qe a b 8;simp only[ae,jX];omega
  ·refine iy 0 aU (.inr rfl) rfl rfl ?_ ?_
   ·simp[fz,kF,gh,qc]
   ·simp[fz,kF,one,ph]
theorem Ds(a:List Int)(σ:ah):PC prog 51 [.sl 1 (a.map bW)] σ (fun r σ'=>r=.sl 1 ((ph a []).map bW)∧σ'=σ):=by
 refine PC.intro func51 c51 fun aU da=>al ?_;simp only[p51,SS,seval];simp only[W,seval];refine iv (zs:=[.sl 1 (a.map bW),.sl 1 (([]:List Int).map bW)]) (.cons (.refl _) (.cons (.nil _) .nil)) (KE a [] _) ?_;simp only[W,seval];exact aP (.inr rfl) rfl ⟨rfl,rfl⟩
theorem su(l:List UInt8)(c:UInt8)(σ:ah):PC prog 190 [.s l,.i .u8 c.toNat] σ (fun r σ'=>r=.i .i64 (Lib.indexByte l c)∧σ'=σ):=by
 refine PC.B7 fun w μ vs hv=>?_;obtain⟨x,hx,hl,_⟩:=(hv.2 0 _ rfl).lU;have hc:=(hv.2 1 _ rfl).gl;refine⟨.int .i64 (Lib.indexByte l c),?_,.i _ _⟩;rw[Yl hv.1,hx,hc];refine(Tryz.kW x c.toNat w).mono ?_;rintro e w' ⟨rfl,rfl⟩;refine⟨?_,rfl⟩;rw[hl];have:((c.toNat:Int).toNat).toUInt8=c:=by simp
 rw[this]
theorem oU(l:List UInt8)(c:UInt8)(σ:ah):PC prog 161 [.s l,.i .u8 c.toNat] σ (fun r σ'=>r=.i .i64 (Lib.indexByte l c)∧σ'=σ):=by
 refine PC.intro func161 aam fun aU da=>al ?_;simp only[Vw,SS,seval];simp only[W,seval];refine an (su l c _) rfl ?_;simp only[W,seval];exact aP (.inr rfl) rfl ⟨rfl,rfl⟩
theorem yW(l:List UInt8)(c:UInt8)(σ:ah):PC prog 232 [.s l,.s [c]] σ (fun r σ'=>r=.i .i64 (Lib.indexByte l c)∧σ'=σ):=by
 refine PC.B7 fun w μ vs hv=>?_;obtain⟨x,hx,hl,_⟩:=(hv.2 0 _ rfl).lU;obtain⟨y,hy,Y1,_⟩:=(hv.2 1 _ rfl).lU;refine⟨.int .i64 (Lib.indexByte l c),?_,.i _ _⟩
 have e:y=⟨#[c]⟩:=by
  have h:y.data=#[c]:=by apply Array.toList_inj.1;rw[Y1]
  cases y;simp_all
 rw[Yl hv.1,hx,hy,e];refine(Tryz.kU x c w).mono ?_;rintro e w' ⟨rfl,rfl⟩;exact⟨by rw[hl],rfl⟩
theorem DG(l:List UInt8)(c:UInt8)(σ:ah):PC prog 208 [.s l,.s [c]] σ (fun r σ'=>r=.gZ [.s (cutAt l c).1,.s (cutAt l c).2.1,.b (cutAt l c).2.2]∧σ'=σ):=by
 refine PC.intro func208 ZS fun aU da=>al ?_;simp only[U2,SS,seval];simp only[W,seval];refine an (yW l c _) rfl ?_;simp only[W,Nat.reduceAdd,Nat.reduceSub,Nat.reduceLeDiff,Nat.reduceEqDiff,Int.reduceToNat,reduceIte,reduceCtorEq];have h1:=jF l c;have h3:=yP (da 0 _ rfl).1;refine⟨fun h=>?_,fun h=>?_⟩
 ·simp only[decide_eq_true_eq]at h;have h2:IntKind.i64.wrap (Lib.indexByte l c+((1:Nat):Int))=Lib.indexByte l c+1:=IntWalk.i64_in _ (by omega);rw[h2];refine⟨by omega,by omega,aP (.inr rfl) rfl ⟨?_,rfl⟩⟩;have h4:(Lib.indexByte l c+1).toNat=(Lib.indexByte l c).toNat+1:=by omega
  have h5:(l.drop ((Lib.indexByte l c).toNat+1)).take (l.length - ((Lib.indexByte l c).toNat+1))=l.drop ((Lib.indexByte l c).toNat+1):=cJ (by simp);simp only[one,cutAt,h,if_true,h4,h5,yE,ar,aC]
 ·simp only[decide_eq_false_iff_not]at h;exact aP (.inr rfl) rfl ⟨by simp only[one,cutAt,h,if_false,ar,aC],rfl⟩
theorem yj(l:List UInt8)(c:UInt8)(σ:ah):PC prog 187 [.s l,.s [c]] σ (fun r σ'=>r=.gZ [.s (cutAt l c).1,.s (cutAt l c).2.1,.b (cutAt l c).2.2]∧σ'=σ):=by
 refine PC.intro func187 Z7 fun aU da=>al ?_;simp only[Vh,SS,seval];simp only[W,seval];refine an (DG l c _) rfl ?_;simp only[W,seval];exact aP (.inr rfl) rfl ⟨rfl,rfl⟩
theorem sA(l p:List UInt8)(σ:ah):PC prog 210 [.s l,.s p] σ (fun r σ'=>r=.b (hasPrefix l p)∧σ'=σ):=by
 refine PC.intro func210 ZR fun aU da=>al ?_;simp only[U1,SS,seval];simp only[W,seval];refine⟨fun h=>by simp at h;omega,aP (.inr rfl) rfl ⟨?_,rfl⟩⟩;simp[one,hasPrefix]
theorem CF(l p:List UInt8)(σ:ah):PC prog 191 [.s l,.s p] σ (fun r σ'=>r=.b (hasPrefix l p)∧σ'=σ):=by
 refine PC.intro func191 Z4 fun aU da=>al ?_;simp only[Ve,SS,seval];simp only[W,seval];refine an (sA l p _) rfl ?_;simp only[W,seval];exact aP (.inr rfl) rfl ⟨rfl,rfl⟩
theorem sv(l p:List UInt8)(σ:ah):PC prog 211 [.s l,.s p] σ (fun r σ'=>r=.b (hasSuffix l p)∧σ'=σ):=by
 refine PC.intro func211 ZQ fun aU da=>al ?_;simp only[U0,SS,seval];simp only[W,seval];have h3:=yP (da 0 _ rfl).1;have h4:=yP (da 1 _ rfl).1;have h2:IntKind.i64.wrap ((l.length:Int) - (p.length:Int))=l.length - p.length:=IntWalk.i64_in _ (by omega);rw[h2];refine⟨fun h=>by simp at h;omega,aP (.inr rfl) rfl ⟨?_,rfl⟩⟩;simp only[one,hasSuffix,ar,aC]
 by_cases hle:p.length≤l.length
 ·have e:((l.length:Int) - (p.length:Int)).toNat=l.length - p.length:=by omega
  have h5:(l.drop (l.length - p.length)).take (l.length - (l.length - p.length))=l.drop (l.length - p.length):=cJ (by simp);simp[e,h5,hle]
 ·simp[hle]
theorem CD(l p:List UInt8)(σ:ah):PC prog 192 [.s l,.s p] σ (fun r σ'=>r=.b (hasSuffix l p)∧σ'=σ):=by
 refine PC.intro func192 Z3 fun aU da=>al ?_;simp only[Vd,SS,seval];simp only[W,seval];refine an (sv l p _) rfl ?_;simp only[W,seval];exact aP (.inr rfl) rfl ⟨rfl,rfl⟩
theorem Er(l:List UInt8)(σ:ah):PC prog 157 [.s l] σ (fun r σ'=>r=.s (dz l)∧σ'=σ):=by
 refine PC.intro func157 aaq fun aU da=>al ?_;simp only[VA,SS,seval];simp only[W,seval];refine an (yj l 32 _) rfl ?_;simp only[W,seval];exact aP (.inr rfl) rfl ⟨rfl,rfl⟩
theorem vR(l:List UInt8)(σ:ah):PC prog 164 [.s l] σ (fun r σ'=>r=.s (dz l)∧σ'=σ):=by
 refine PC.intro func164 aaj fun aU da=>al ?_;simp only[Vt,SS,seval];simp only[W,seval];refine an (yj l 32 _) rfl ?_;simp only[W,seval];exact aP (.inr rfl) rfl ⟨rfl,rfl⟩
set_option maxRecDepth 8000 in
theorem yq(b:UInt8)(σ:ah):PC prog 189 [.i .u8 b.toNat] σ (fun r σ'=>r=.i .i64 (jG b)∧σ'=σ):=by
 refine PC.intro func189 Z5 fun aU da=>al ?_;simp only[Vf,SS,seval];simp only[W,seval];clear da aU;refine⟨fun h1=>?_,fun h1=>⟨fun h2=>?_,fun h2=>⟨fun h3=>?_,fun h3=>⟨fun h4=>?_,fun h4=>?_⟩⟩⟩⟩<;>refine aP (.inr rfl) rfl ⟨?_,rfl⟩<;>simp at*<;> simp only[one,jG,ar,aC,V.i.injEq,true_and]<;>(repeat' split)<;>omega
theorem k9(s:List UInt8)(σ:ah):PC prog 86 [.s s] σ (fun r σ'=>r=.b (isName s)∧σ'=σ):=by
 refine PC.intro func86 c86 fun aU da=>al ?_;have hlen:=yP (da 0 _ rfl).1;simp only[p86,SS,seval];simp only[W,seval];refine⟨?_,?_,fun h=>?_,fun h=>?_⟩
 ·intro h;simp at h;omega
 ·intro h;simp at h;omega
 ·refine aP (.inr rfl) rfl ⟨?_,rfl⟩;simp only[one,ar,aC,V.b.injEq];cases s with
  | nil=>rfl
  | cons c r =>
   simp only[isName];simp at h;simp;omega
 ·cases s with
  | nil=>simp at h
  | cons c r =>
   have e:isName (c::r)=r.all gv:=by
    simp only[isName];simp at h;simp;omega
   refine bX.bb ?_ (r.length+1) (RY (c::r) hlen r [c] rfl (fun h1=>?_) (fun h1=>?_))
   ·simp only[W,seval]
    repeat' constructor
   ·simp only[W,seval];intros;exact aP (.inr rfl) rfl ⟨by simp only[one,e,h1,ar,aC],rfl⟩
   ·simp only[W,seval];intros;exact aP (.inr rfl) rfl ⟨by simp only[one,e,h1,ar,aC],rfl⟩
theorem qj(x:It)(σ:ah):PC prog 114 [.agg x.cells] σ (fun r σ'=>r=.b (cX x)∧σ'=σ):=by
 refine PC.intro func114 aaK fun aU da=>al ?_;simp only[VZ,It.cells,SS,seval];simp only[W,seval];exact aD aU (.inr rfl) rfl (by simp only[LW]) ⟨rfl,rfl⟩
theorem Ke{pre rest:List Int}{x:Int}:ft (List.map bW (pre++x::rest)) pre.length 0=some (.i .i64 x):=by
 simp[ft,bW]
theorem HW{σ:ah}{K:Exit→St→Prop}(a b:List Int)(hlen:a.length<2^63)(rH:a.length=b.length):∀ (ra rb pa pb:List Int),a=pa++ra→b=pb++rb→pa.length=pb.length →
  (ra=rb→(∀ j0 j1 j2 j3 j4 j5 j6 j7 j8 j9 cC cH cG cF cB cE cD cI cQ db de dh dm dv du dt,K (.exit 0) ⟨[j0,j1,j2,j3,j4,j5,j6,j7,j8,j9,cC,cH,cG,cF,cB,cE,cD,cI,cQ,db,de,dh,dm,dv,du,dt],σ⟩))→(ra≠rb→(∀ j0 j1 j2 j3 j5 j6 j7 j8 j9 cC cH cG cF cB cE cD cI cQ db de dh dm dv du dt,K .ret ⟨[j0,j1,j2,j3,.b false,j5,j6,j7,j8,j9,cC,cH,cG,cF,cB,cE,cD,cI,cQ,db,de,dh,dm,dv,du,dt],σ⟩)) →
  fp σ.length prog B3 K (ra.length+1) ⟨[.sl 1 (a.map bW),.sl 1 (b.map bW),u,u,u,u,u,u,u,u,u,u,.i .i64 a.length,.i .i64 pa.length,u,u,u,u,u,u,u,u,u,u,u,u],σ⟩
 | [],rb,pa,pb,ha,hb,hp,h1,h2=>by
  have:rb=[]:=by
   subst ha;subst hb;simp at rH;have:rb.length=0:=by omega
   exact jM.1 this
  subst this;subst ha;refine ay fun R hR=>?_;simp only[B3,W,seval];exact⟨fun h=>by simp at h,fun _=>h1 rfl ..⟩
 | x::ra,[],pa,pb,ha,hb,hp,h1,h2=>by
  subst ha;subst hb;simp at rH;omega
 | x::ra,y::rb,pa,pb,ha,hb,hp,h1,h2=>by
  subst ha;subst hb;refine ay fun R hR=>?_;have er:ft (List.map bW (pb++y::rb)) pa.length 0=some (.i .i64 y):=by rw[hp];exact Ke
  simp only[B3,er,bW,W,seval];refine⟨fun _=>⟨by simp;omega,by simp;omega,fun h=>?_,fun h=>?_⟩,fun h=>by simp at h;omega⟩
  ·simp at h;exact h2 (by simp[h]) ..
  ·simp at h;subst h;refine hR _ (bb ?_ (HW _ _ hlen rH ra rb (pa++[x]) (pb++[x]) (by simp) (by simp) (by simp[hp]) (fun e=>h1 (by rw[e])) (fun e=>h2 (by simp[e]))));rw[aX (by simp at hlen;omega)];simp only[List.length_append,ag,ai]
   repeat' constructor
theorem CL(a b:List Int)(σ:ah):PC prog 105 [.sl 1 (a.map bW),.sl 1 (b.map bW)] σ (fun r σ'=>r=.b (a==b)∧σ'=σ):=by
 refine PC.intro func105 aaR fun aU da=>al ?_;have hlen:=kS (da 0 _ rfl).1;rw[ae]at hlen;simp only[V7,SS,seval];simp only[ae,W,seval];refine⟨fun h=>?_,fun h=>?_⟩
 ·refine aP (.inr rfl) rfl ⟨?_,rfl⟩;simp at h;simp only[one,ar,aC,V.b.injEq];exact(beq_eq_false_iff_ne.2 fun e=>h (by rw[e])).symm
 ·simp at h;refine bX.bb ?_ (a.length+1) (HW a b hlen (by omega) a b [] [] rfl rfl rfl (fun h1=>?_) (fun h1=>?_))
  ·simp only[W,seval]
   repeat' constructor
  ·simp only[W,seval];intros;exact aP (.inr rfl) rfl ⟨by simp[one,h1],rfl⟩
  ·simp only[W,seval];intros;exact aP (.inr rfl) rfl ⟨by simp[one,h1],rfl⟩
theorem O0{σ:ah}{K:Exit→St→Prop}(s:List UInt8)(hlen:s.length<2^63):∀ (rest pre:List UInt8),s=pre++rest →
  (rest.all (fun b=>!fy b)=true→(∀ j1 j2 j3 j4 j5 j6 j7 j8 j9 cC cH cG cF cB cE cD cI cQ db de dh dm dv du dt dN dR dU dX ej eD eL eQ eP fb fi fh fg fw fG fF fK fW gj gi gB gA gz gy gx gY gW gU iq iD iN iM iL iK jf jD jP,K (.exit 0) ⟨[.s s,j1,j2,j3,j4,j5,j6,j7,j8,j9,cC,cH,cG,cF,cB,cE,cD,cI,cQ,db,de,dh,dm,dv,du,dt,dN,dR,dU,dX,ej,eD,eL,eQ,eP,fb,fi,fh,fg,fw,fG,fF,fK,fW,gj,gi,gB,gA,gz,gy,gx,gY,gW,gU,iq,iD,iN,iM,iL,iK,jf,jD,jP],σ⟩))→(rest.all (fun b=>!fy b)=false→(∀ j0 j1 j3 j4 j5 j6 j7 j8 j9 cC cH cG cF cB cE cD cI cQ db de dh dm dv du dt dN dR dU dX ej eD eL eQ eP fb fi fh fg fw fG fF fK fW gj gi gB gA gz gy gx gY gW gU iq iD iN iM iL iK jf jD jP,K .ret ⟨[j0,j1,.b false,j3,j4,j5,j6,j7,j8,j9,cC,cH,cG,cF,cB,cE,cD,cI,cQ,db,de,dh,dm,dv,du,dt,dN,dR,dU,dX,ej,eD,eL,eQ,eP,fb,fi,fh,fg,fw,fG,fF,fK,fW,gj,gi,gB,gA,gz,gy,gx,gY,gW,gU,iq,iD,iN,iM,iL,iK,jf,jD,jP],σ⟩)) →
  fp σ.length prog BQ K (rest.length+1) ⟨[.s s,u,u,.i .i64 pre.length,u,u,u,u,u,u,u,u,u,u,u,u,u,u,u,u,u,u,u,u,u,u,u,u,u,u,u,u,u,u,u,u,u,u,u,u,u,u,u,u,u,u,u,u,u,u,u,u,u,u,u,u,u,u,u,u,u,u,u],σ⟩:=by
 intro rest
 induction rest with
 | nil =>
  intro pre he h1 h2;have he:s=pre:=by simpa using he
  subst he;refine ay fun R hR=>?_;simp only[BQ,W,seval];exact⟨fun h=>by simp at h,fun _=>h1 rfl ..⟩
 | cons c rest ih =>
  intro pre he h1 h2;subst he;refine ay fun R hR=>?_;simp only[BQ,W,seval];refine⟨fun _=>⟨by simp;omega,fun _=>by simp;omega,fun _=>by simp;omega,?_⟩,fun h=>by simp at h;omega⟩;refine br rfl (fun _=>oU [60,62,123,125] c _) rfl ?_;simp only[W,seval]
  have e:(decide ((c.toNat:Int)<32)||decide (126<(c.toNat:Int))||decide (0≤Lib.indexByte [60,62,123,125] c))=fy c:=by
   simp only[fy];congr 2<;>exact decide_eq_decide.2 (by omega)
  rw[e];refine⟨fun h=>?_,fun h=>?_⟩
  ·exact h2 (by simp[h]) ..
  ·refine hR _ (bb ?_ (ih (pre++[c]) (by simp) (fun e=>h1 (by simp[h,e])) (fun e=>h2 (by simp only[ey,e,bZ]))));rw[aX (by simp at hlen;omega)];simp only[List.length_append,ag,ai]
   repeat' constructor
theorem ma(s:List UInt8)(σ:ah):PC prog 156 [.s s] σ (fun r σ'=>r=.b (cA s)∧σ'=σ):=by
 refine PC.intro func156 aar fun aU da=>al ?_;have hlen:=yP (da 0 _ rfl).1;simp only[VB,SS,seval];simp only[W,seval];have hm:∀ n:Nat,n<2^63→0<n→IntKind.i64.wrap ((n:Int) - 1)=((n - 1:Nat):Int):=fun n h1 h2=>by rw[IntWalk.i64_in _ (by omega)];omega
 have js:∀ h:s.length≠0,IntKind.i64.wrap ((s.length:Int) - 1)=((s.length - 1:Nat):Int):=fun h=>hm _ hlen (by omega)
 by_cases h0:s.length=0
 ·refine⟨fun h=>by simp[h0]at h,fun _=>?_,fun h=>by simp[h0]at h⟩;exact aP (.inr rfl) rfl ⟨by simp[one,cA,gO,h0],rfl⟩
 ·rw[js h0];refine⟨fun _=>by omega,fun h=>?_,fun h=>?_⟩
  ·refine aP (.inr rfl) rfl ⟨?_,rfl⟩
   have e:gO s=false:=by
    simp only[gO];simp[h0]at h ⊢;omega
   simp only[one,cA,e,bA,ar,aC]
  ·have e:gO s=true:=by
    simp only[gO];simp[h0]at h ⊢;omega
   refine bX.bb ?_ (s.length+1) (O0 s hlen s [] rfl (fun h1=>?_) (fun h1=>?_))
   ·simp only[W,seval]
    repeat' constructor
   ·intros;simp only[W,seval];refine an (yj s 32 _) rfl ?_;simp only[W,seval];refine an (k9 _ _) rfl ?_;simp only[W,seval];refine aP (.inr rfl) rfl ⟨?_,rfl⟩;simp only[one,cA,e,h1,iX,bu,ar,aC];congr 3;exact decide_eq_decide.2 (by omega)
   ·intros;simp only[W,seval];exact aP (.inr rfl) rfl ⟨by simp only[one,cA,e,h1,bu,bA,ar,aC],rfl⟩
theorem Pb{σ:ah}{K:Exit→St→Prop}(x:It)(its:List It)(aU:bG σ)(hlen:its.length<2^63):∀ (rest pre:List It),its=pre++rest →
  (fits rest x=true→(∀ j0 j1 j2 j3 j4 j5 j6 j7 j8 j9 cC cH cG cF cB cE cD cI cQ db de dh dm dv du dt dN dR dU dX ej eD eL eQ eP fb fi fh fg fw,K (.exit 0) ⟨[j0,j1,j2,j3,j4,j5,j6,j7,j8,j9,cC,cH,cG,cF,cB,cE,cD,cI,cQ,db,de,dh,dm,dv,du,dt,dN,dR,dU,dX,ej,eD,eL,eQ,eP,fb,fi,fh,fg,fw],σ++[.box 31 x.cells]⟩))→(fits rest x=false→∀ loc,(∀ j0 j1 j2 j3 j5 j6 j7 j8 j9 cC cH cG cF cB cE cD cI cQ db de dh dm dv du dt dN dR dU dX ej eD eL eQ eP fb fi fh fg fw,K .ret ⟨[j0,j1,j2,j3,.b false,j5,j6,j7,j8,j9,cC,cH,cG,cF,cB,cE,cD,cI,cQ,db,de,dh,dm,dv,du,dt,dN,dR,dU,dX,ej,eD,eL,eQ,eP,fb,fi,fh,fg,fw],σ++loc⟩)) →
  fp σ.length prog B1 K (rest.length+1) ⟨[u,u,u,.ptr σ.length 0,u,u,u,.sl 3 (its.map It.cells),.i .i64 its.length,.i .i64 pre.length,u,u,u,u,u,u,u,u,u,u,u,u,u,u,u,u,u,u,u,u,u,u,u,u,u,u,u,u,u,u],σ++[.box 31 x.cells]⟩:=by
 intro rest
 induction rest with
 | nil =>
  intro pre he h1 h2;have he:its=pre:=by simpa using he
  subst he;refine ay fun R hR=>?_;simp only[B1,W,seval];exact⟨fun h=>by simp at h,fun _=>h1 rfl ..⟩
 | cons y rest ih =>
  intro pre he h1 h2;subst he;refine ay fun R hR=>?_;simp only[B1,It.cells,W,seval];refine⟨fun _=>⟨by simp;omega,?_⟩,fun h=>by simp at h;omega⟩;refine an (qj y _) rfl ?_;simp only[W,seval];have pA:bG (σ++[.box 31 x.cells]):=b9 aU (by simp[It.cells,gh,OB,Wl])
  have back:fits (y::rest) x=fits rest x→∀ fr',nP fr' ([u,u,u,.ptr σ.length 0,u,u,u,.sl 3 ((pre++y::rest).map It.cells),.i .i64 (pre++y::rest).length,.i .i64 (pre++[y]).length,u,u,u,u,u,u,u,u,u,u,u,u,u,u,u,u,u,u,u,u,u,u,u,u,u,u,u,u,u,u])→∀ o,R ⟨fr',σ++[.box 31 x.cells,o]⟩:=by
   intro e fr' hc o;rw[e]at h1 h2;refine hR _ (cy [.box 31 x.cells] [o] pA hc ?_ (ih (pre++[y]) (by simp) h1 h2));simp only[LW,ag,ai,aI];omega
  refine⟨fun h=>?_,fun h=>?_⟩
  ·refine back ?_ _ ?_ _
   ·have:ek x y=false:=by simp only[ek,h,fH,bA]
    simp[fits,this]
   ·rw[aX (by simp at hlen;omega)];simp only[List.length_append,ag,ai]
    repeat' constructor
  ·refine br rfl (fun _=>Er y.text _) rfl ?_;simp only[W,seval];refine⟨fun h3=>?_,fun h3=>?_⟩
   ·refine h2 ?_ _ ..;have:ek x y=true:=by simp only[ek,h,jd,bu];exact h3
    simp[fits,this]
   ·refine back ?_ _ ?_ _
    ·have:ek x y=false:=by simp only[ek,h,jd,bu];exact h3
     simp[fits,this]
    ·rw[aX (by simp at hlen;omega)];simp only[List.length_append,ag,ai]
     repeat' constructor
theorem Qb(x:It)(its:List It)(σ:ah):PC prog 115 [.sl 3 (its.map It.cells),.agg x.cells] σ (fun r σ'=>r=.b (fits its x)∧σ'=σ):=by
 refine PC.intro func115 aaJ fun aU da=>al ?_;have hlen:=kS (da 0 _ rfl).1;rw[ae]at hlen;simp only[VY,SS,seval];simp only[ae,W,seval];refine⟨by simp[It.cells,fJ,gg],?_⟩;refine bX.bb ?_ (its.length+1) (Pb x its aU hlen its [] rfl (fun h1=>?_) (fun h1=>?_))
 ·simp only[W,seval]
  repeat' constructor
 ·intros;simp only[W,seval];exact aD aU (.inr rfl) rfl (by simp only[LW]) ⟨by simp[one,h1],rfl⟩
 ·intros;simp only[W,seval];exact aD aU (.inr rfl) rfl (by simp only[LW]) ⟨by simp[one,h1],rfl⟩
set_option maxRecDepth 8000 in
theorem yQ(pre rest:List It)(x:It)(σ:ah):PC prog 113 [.sl 3 ((pre++x::rest).map It.cells),.i .i64 pre.length] σ (fun r σ'=>r=.b (bh pre.getLast? x)∧σ'=σ):=by
 refine PC.intro func113 aaL fun aU da=>al ?_;have hlen:=kS (da 0 _ rfl).1;rw[ae]at hlen;simp only[V0,SS,seval];simp only[It.cells,W,seval];refine⟨by simp;omega,fun hk=>?_,fun hk=>⟨fun qR=>?_,fun qR=>?_⟩⟩
 ·simp only[beq_iff_eq]at hk
  have hp:∀ y ys,pre=ys++[y]→IntKind.i64.wrap ((pre.length:Int) - 1)=ys.length:=fun y ys e=>by
   subst e;have:(ys++[y]).length<2^63:=by simp at hlen ⊢;omega
   rw[IntWalk.i64_in _ (by omega)];simp
  rcases kO pre with Gt | ⟨ys,y,wo⟩
  ·subst Gt;refine⟨fun h=>by simp at h,.i .i64 0,fun h=>by simp at h,?_⟩;simp only[W,seval];refine aD aU (.inr rfl) rfl (by simp only[LW]) ⟨?_,rfl⟩;simp[one,bh,hk]
  ·rw[kP]at wo;rw[hp y ys wo];subst wo
   have er:ft (List.map It.cells (ys++[y]++x::rest)) ys.length 0=some (.i .i64 y.kind):=by
    rw[List.append_assoc,List.singleton_append,o6];rfl
   simp only[aH,er];refine⟨fun _=>by simp;omega,.i .i64 y.kind,fun _=>⟨True,rfl,trivial⟩,?_⟩;simp only[W,seval];refine aD aU (.inr rfl) rfl (by simp only[LW]) ⟨?_,rfl⟩;have js:(((ys++[y]).length:Int)==0)=false:=by simp;omega
   simp only[one,bh,hk,js,if_true,ar,aC,lp,jN,se,jA]
 ·refine an (k9 _ _) rfl ?_;simp only[W,seval];simp only[beq_iff_eq,beq_eq_false_iff_ne]at hk qR;refine aD aU (.inr rfl) rfl (by simp only[LW]) ⟨?_,rfl⟩;simp only[one,bh,hk,qR,if_true,if_false,ar,aC];simp
 ·simp only[beq_iff_eq,beq_eq_false_iff_ne,ne_eq]at hk qR
  have tagged:(x.kind=2∨x.kind=4)→bh pre.getLast? x=(cA x.text&&decide (1≤x.id)&&decide (x.id≤999)):=fun h=>by
   simp only[bh,hk,qR,h,if_true,if_false]
  refine⟨fun h2=>⟨fun _=>?_,fun h=>?_⟩,fun h2=>⟨fun h4=>?_,fun h4=>⟨fun h3=>?_,fun h3=>?_⟩⟩⟩
  ·refine an (ma _ _) rfl ?_;simp only[W,seval];refine aD aU (.inr rfl) rfl (by simp only[LW]) ⟨?_,rfl⟩;simp at h2;simp only[one,tagged (.inl h2),ar,aC]
  ·rw[h2]at h;simp at h
  ·refine an (ma _ _) rfl ?_;simp only[W,seval];refine aD aU (.inr rfl) rfl (by simp only[LW]) ⟨?_,rfl⟩;simp at h4;simp only[one,tagged (.inr h4),ar,aC]
  ·refine an (k9 _ _) rfl ?_;simp only[W,seval];refine aD aU (.inr rfl) rfl (by simp only[LW]) ⟨?_,rfl⟩;simp at h3;simp[one,bh,h3]
  ·refine aD aU (.inr rfl) rfl (by simp only[LW]) ⟨?_,rfl⟩;simp at h2 h3 h4;simp[one,bh,hk,qR,h2,h3,h4]
theorem R0{σ:ah}{K:Exit→St→Prop}(its:List It)(aU:bG σ)(hlen:its.length<2^63):∀ (rest pre:List It),its=pre++rest →
  (bD pre rest=0→(∀ j0 j1 j2 j3 j4 j5 j6 j7 j8 j9 cC cH cG cF cB cE cD cI cQ db de dh dm dv du dt dN dR dU dX ej eD eL eQ eP,K (.exit 0) ⟨[j0,j1,j2,j3,j4,j5,j6,j7,j8,j9,cC,cH,cG,cF,cB,cE,cD,cI,cQ,db,de,dh,dm,dv,du,dt,dN,dR,dU,dX,ej,eD,eL,eQ,eP],σ⟩))→(bD pre rest≠0→∀ loc,(∀ j0 j1 j3 j4 j5 j6 j7 j8 j9 cC cH cG cF cB cE cD cI cQ db de dh dm dv du dt dN dR dU dX ej eD eL eQ eP,K .ret ⟨[j0,j1,.i .i64 (bD pre rest),j3,j4,j5,j6,j7,j8,j9,cC,cH,cG,cF,cB,cE,cD,cI,cQ,db,de,dh,dm,dv,du,dt,dN,dR,dU,dX,ej,eD,eL,eQ,eP],σ++loc⟩)) →
  fp σ.length prog Hn K (rest.length+1) ⟨[.sl 3 (its.map It.cells),u,u,u,u,u,u,u,u,u,u,u,u,.sl 3 (its.map It.cells),.i .i64 its.length,.i .i64 pre.length,u,u,u,u,u,u,u,u,u,u,u,u,u,u,u,u,u,u,u],σ⟩:=by
 intro rest
 induction rest with
 | nil =>
  intro pre he h1 h2;have he:its=pre:=by simpa using he
  subst he;refine ay fun R hR=>?_;simp only[Hn,W,seval];exact⟨fun h=>by simp at h,fun _=>h1 rfl ..⟩
 | cons y rest ih =>
  intro pre he h1 h2;subst he;refine ay fun R hR=>?_;simp only[Hn,It.cells,W,seval];refine⟨fun _=>⟨by simp;omega,?_⟩,fun h=>by simp at h;omega⟩;refine an (yQ pre rest y _) rfl ?_;simp only[W,seval];refine⟨fun h=>?_,fun h=>?_⟩
  ·have e:bD pre (y::rest)=1:=by simp at h;simp[bD,h]
   rw[e]at h2;exact h2 (by decide) _ ..
  ·refine an (qj y _) rfl ?_;simp only[W,seval];have ht:List.take (pre.length - 0) (List.map It.cells (pre++y::rest))=pre.map It.cells:=by simp
   simp only[ht];refine⟨fun _=>by simp;omega,br rfl (fun _=>Qb y pre _) rfl ?_⟩;simp only[W,seval];have h':bh pre.getLast? y=true:=by simpa using h
   refine⟨fun h3=>?_,fun h3=>?_⟩
   ·have e:bD pre (y::rest)=7:=by
     simp only[bD,h',h3,if_true,if_false,G6]
    rw[e]at h2;exact h2 (by decide) _ ..
   ·have e:bD pre (y::rest)=bD (pre++[y]) rest:=by
     simp only[bD,h',h3,if_false,G6,aF]
    rw[e]at h1 h2;refine hR _ (sE (aw _) aU ?_ ?_ (ih (pre++[y]) (by simp) h1 h2))
    ·rw[aX (by simp at hlen;omega)];simp only[List.length_append,ag,ai]
     repeat' constructor
    ·simp only[LW]
theorem lN(its:List It)(σ:ah):PC prog 82 [.sl 3 (its.map It.cells)] σ (fun r σ'=>r=.i .i64 (bC its)∧σ'=σ):=by
 refine PC.intro func82 c82 fun aU da=>al ?_;have hlen:=kS (da 0 _ rfl).1;rw[ae]at hlen;simp only[p82,SS,seval];simp only[ae,W,seval];refine br rfl (fun _=>Jz its _) rfl ?_;simp only[ae,W,seval];refine⟨fun h=>?_,fun h=>?_⟩
 ·refine aP (.inr rfl) rfl ⟨?_,rfl⟩;simp at h;have:512<its.length∨1024<dS 0 its:=by omega
  simp only[one,bC,this,if_true,ar,aC]
 ·simp at h;have hn:¬ (512<its.length∨1024<dS 0 its):=by omega
  refine bX.bb ?_ (its.length+1) (R0 its aU hlen its [] rfl (fun h1=>?_) (fun h1=>?_))
  ·simp only[W,seval]
   repeat' constructor
  ·intros;simp only[W,seval];exact aP (.inr rfl) rfl ⟨by simp only[one,bC,hn,h1,if_false,ar,aC],rfl⟩
  ·intros;simp only[W,seval];exact aD aU (.inr rfl) rfl (by simp only[LW]) ⟨by simp only[one,bC,hn,if_false,ar,aC],rfl⟩
theorem O9{σ:ah}{K:Exit→St→Prop}(its:List It)(aU:bG σ)(hlen:its.length<2^40):∀ (rest pre:List It) (acc:List Int),its=pre++rest→acc.length≤pre.length →
  (∀ es,(∀ j0 j1 j2 j4 j5 j6 j7 j8 j9 cC cH cG cF cB cE cD cI cQ db de dh dm dv du dt dN dR dU dX ej eD eL,K (.exit 0) ⟨[j0,j1,j2,.own (σ.length+1) (ca acc rest).length,j4,j5,j6,j7,j8,j9,cC,cH,cG,cF,cB,cE,cD,cI,cQ,db,de,dh,dm,dv,du,dt,dN,dR,dU,dX,ej,eD,eL],σ++[es,.row 3 1 8 (ca acc rest).length false ((ca acc rest).map bW)]⟩)) →
  fp σ.length prog xn K (rest.length+1) ⟨[u,u,u,.own (σ.length+1) acc.length,.mp σ.length,u,u,u,.sl 3 (its.map It.cells),.i .i64 its.length,.i .i64 pre.length,u,u,u,u,u,u,u,u,u,u,u,u,u,u,u,u,u,u,u,u,u,u],σ++[.map 3 4 (ju acc),.row 3 1 8 acc.length false (acc.map bW)]⟩:=by
 intro rest
 induction rest with
 | nil =>
  intro pre acc he hac h1;have he:its=pre:=by simpa using he
  subst he;refine ay fun R hR=>?_;simp only[xn,W,seval];exact⟨fun h=>by simp at h,fun _=>h1 _ ..⟩
 | cons y rest ih =>
  intro pre acc he hac h1;subst he;refine ay fun R hR=>?_
  by_cases hm:y.id∈acc
  ·have hf:fU (σ++[.map 3 4 (ju acc),.row 3 1 8 acc.length false (acc.map bW),.box 31 y.cells]) 0 (.mp σ.length) (.i .i64 y.id)=some (some (0+acc.idxOf y.id,.b true)):=by
    simp only[fU,fQ,ax,qT,hm,if_true]
   simp only[It.cells]at hf;simp only[xn,It.cells,W,seval];refine⟨fun _=>⟨by simp;omega,?_⟩,fun h=>by simp at h;omega⟩;refine an (qj y _) rfl ?_;simp only[hf,W,seval]
   have e:ca acc (y::rest)=ca acc rest:=by
    simp[ca,hm]
   rw[e]at h1;have pA:bG (σ++[.map 3 4 (ju acc),.row 3 1 8 acc.length false (acc.map bW)]):=b9 aU (by simp);refine⟨fun _=>by simp[V.mG],fun h=>by simp at h,fun _=>?_⟩;refine hR _ (cy [_,_] [_] pA ?_ ?_ (ih (pre++[y]) acc (by simp) (by simp;omega) h1))
   ·rw[aX (by simp at hlen;omega)];simp only[List.length_append,ag,ai]
    repeat' constructor
   ·simp only[LW,ag,ai,aI];omega
  ·have hf:fU (σ++[.map 3 4 (ju acc),.row 3 1 8 acc.length false (acc.map bW),.box 31 y.cells]) 0 (.mp σ.length) (.i .i64 y.id)=some none:=by
    simp only[fU,fQ,ax,qT,hm,if_false]
   have PB:fx 0 (.i .i64 y.id) (ju acc) 0=some none:=by simp only[qT,hm,if_false]
   simp only[It.cells]at hf;simp only[xn,It.cells,W,seval];refine⟨fun _=>⟨by simp;omega,?_⟩,fun h=>by simp at h;omega⟩;refine an (qj y _) rfl ?_;simp only[hf,PB,W,seval];have hc:acc.contains y.id=false:=by simpa using hm
   refine⟨fun _=>by simp[V.mG],fun h=>?_,fun h=>?_⟩
   ·have e:ca acc (y::rest)=ca (acc++[y.id]) rest:=by simp[ca,hm,h]
    rw[e]at h1;have hr:acc.map bW++[[V.i .i64 y.id]]=(acc++[y.id]).map bW:=by simp[bW]
    have hs:ju acc++[(V.i .i64 y.id,kz [none] (V.b true))]=ju (acc++[y.id]):=by simp[ju,kz]
    have hl:acc.length+1=(acc++[y.id]).length:=by simp
    rw[hr,hs,hl];have pA:bG (σ++[.map 3 4 (ju (acc++[y.id])),.row 3 1 8 (acc++[y.id]).length false ((acc++[y.id]).map bW)]):=b9 aU (by simp);refine⟨by simp[V.mG,kz,V.vS,V.pure],?_,?_⟩
    ·simp at hlen;simp[maxLen];omega
    ·refine hR _ (cy [_,_] [_] pA ?_ ?_ (ih (pre++[y]) (acc++[y.id]) (by simp) (by simp;omega) h1))
     ·rw[aX (by simp at hlen;omega)];simp only[List.length_append,ag,ai]
      repeat' constructor
     ·simp only[LW,ag,ai,aI];omega
   ·have e:ca acc (y::rest)=ca acc rest:=by simp[ca,h]
    rw[e]at h1;have pA:bG (σ++[.map 3 4 (ju acc),.row 3 1 8 acc.length false (acc.map bW)]):=b9 aU (by simp);refine hR _ (cy [_,_] [_] pA ?_ ?_ (ih (pre++[y]) acc (by simp) (by simp;omega) h1))
    ·rw[aX (by simp at hlen;omega)];simp only[List.length_append,ag,ai]
     repeat' constructor
    ·simp only[LW,ag,ai,aI];omega
theorem vo(its:List It)(hlen:its.length<2^40)(σ:ah):PC prog 116 [.sl 3 (its.map It.cells)] σ (fun r σ'=>r=.own σ.length 0∧σ'=σ++[.row 3 1 8 0 false ((numbers its).map bW)]):=by
 refine PC.intro func116 E0 fun aU da=>al ?_;simp only[VX,SS,seval];simp only[ae,W,seval];refine bX.wk ((Wk.mE (σ:=σ) [_] (k:=3) KJ rfl).trans (Wk.ic ?_)) (bX.ml (its.length+1) (O9 its aU hlen its [] [] rfl (aw _) ?_))
 ·simp only[W,seval]
  repeat' constructor
 ·intros;simp only[W,seval];exact Bi 1 aU (.inr rfl) rfl rfl rfl (by simp[Ec,Ob.gen]) (by simp[one,numbers,RN,Ob.fresh])
theorem F7(its:List It)(hlen:its.length<2^40)(σ:ah):PC prog 116 [.sl 3 (its.map It.cells)] σ (fun r σ'=>r=.sl 1 ((numbers its).map bW)∧σ'=σ) :=
 PC.closed fun aU=>PC.fz aU (vo its hlen σ)
theorem HV{σ:ah}{K:Exit→St→Prop}(aU:bG σ)(N:Nat)(hN:N<2^40):∀ (k i:Nat),i+k=N →
  (∀ j0 j1 j2 j4 j5 j6 j7 j8 j9 cC cH cG cF cB cE cD cI cQ,K (.exit 0) ⟨[j0,j1,j2,.own σ.length 0,j4,j5,j6,j7,j8,j9,cC,cH,cG,cF,cB,cE,cD,cI,cQ],σ++[.row 3 1 8 0 false (gn N N)]⟩) →
  fp σ.length prog BY K (k+1) ⟨[u,u,u,.own σ.length 0,u,u,u,u,.i .i64 N,.i .i64 i,u,u,u,u,u,u,u,u,u],σ++[.row 3 1 8 0 false (gn N i)]⟩
 | 0,i,he,h1=>by
  have he:i=N:=by omega
  subst he;refine ay fun R hR=>?_;simp only[BY,W,seval];exact⟨fun h=>by simp at h,fun _=>h1 ..⟩
 | k+1,i,he,h1=>by
  have hi:i<N:=by omega
  refine ay fun R hR=>?_;simp only[BY,rM (Nat.le_of_lt hi),zD hi,W,seval];refine⟨fun _=>?_,fun h=>by simp at h;omega⟩;have hw:=aX (n:=i) (by omega);rw[hw];have nc:(gn N i).set i [V.i .i64 (((i+1:Nat)):Int)]=gn N (i+1):=by rw[← zC hi];rfl
  rw[nc];refine⟨by omega,hi,hR _ (bb ?_ (HV aU N hN k (i+1) (by omega) h1))⟩
  repeat' constructor
theorem vD(n:Nat)(hn:n<2^40)(σ:ah):PC prog 119 [.i .i64 n] σ (fun r σ'=>r=.sl 1 ((dH n).map bW)∧σ'=σ):=by
 refine PC.intro func119 aaG fun aU da=>al ?_;simp only[VT,SS,seval];simp only[W,seval];refine⟨⟨by omega,.inl trivial,by omega,by omega,by simp[maxLen];omega⟩,?_⟩;have e:List.replicate n [V.i .i64 0]=gn n 0:=by simp[gn,dH]
 rw[e];refine bX.bb (fr':=[u,u,u,.own σ.length 0,u,u,u,u,.i .i64 n,.i .i64 (0:Nat),u,u,u,u,u,u,u,u,u]) ?_ (n+1) (HV aU n hn n 0 (by omega) ?_)
 ·rw[rM (gF _)]
  repeat' constructor
 ·intros;simp only[W,seval];refine iy 0 aU (.inr rfl) rfl rfl ?_ ?_
  ·simp[fz,kF,gh,qc]
  ·simp[fz,kF,one,gn]
def Gr(l:List Int)(x:Int):Int:=if x∈l then l.idxOf x else -1
theorem OZ{σ:ah}{K:Exit→St→Prop}(x:Int)(l:List Int)(hlen:l.length<2^63):∀ (rest pre:List Int),l=pre++rest→x ∉ pre →
  (x ∉ l→(∀ j0 j1 j2 j3 j4 j5 j6 j7 j8 j9 cC cH cG cF cB cE cD cI cQ,K (.exit 0) ⟨[j0,j1,j2,j3,j4,j5,j6,j7,j8,j9,cC,cH,cG,cF,cB,cE,cD,cI,cQ],σ⟩))→(x∈l→(∀ j0 j1 j2 j3 j5 j6 j7 j8 j9 cC cH cG cF cB cE cD cI cQ,K .ret ⟨[j0,j1,j2,j3,.i .i64 (Gr l x),j5,j6,j7,j8,j9,cC,cH,cG,cF,cB,cE,cD,cI,cQ],σ⟩)) →
  fp σ.length prog BP K (rest.length+1) ⟨[.sl 1 (l.map bW),.i .i64 x,u,u,u,u,u,.i .i64 l.length,.i .i64 pre.length,u,u,u,u,u,u,u,u,u,u],σ⟩:=by
 intro rest
 induction rest with
 | nil =>
  intro pre he hn h1 h2;have he:l=pre:=by simpa using he
  subst he;refine ay fun R hR=>?_;simp only[BP,W,seval];exact⟨fun h=>by simp at h,fun _=>h1 hn ..⟩
 | cons c rest ih =>
  intro pre he hn h1 h2;subst he;refine ay fun R hR=>?_;simp only[BP,bW,W,seval];refine⟨fun _=>⟨by simp;omega,fun h=>?_,fun h=>?_⟩,fun h=>by simp at h;omega⟩
  ·simp at h;subst h
   have e:Gr (pre++x::rest) x=pre.length:=by
    simp[Gr,List.idxOf_append,hn]
   rw[e]at h2;exact h2 (by simp) ..
  ·simp at h;refine hR _ (bb ?_ (ih (pre++[c]) (by simp) (by simp[hn,h]) h1 h2));rw[aX (by simp at hlen;omega)];simp only[List.length_append,ag,ai]
   repeat' constructor
theorem EB(l:List Int)(x:Int)(σ:ah):PC prog 158 [.sl 1 (l.map bW),.i .i64 x] σ (fun r σ'=>r=.i .i64 (Gr l x)∧σ'=σ):=by
 refine PC.intro func158 aap fun aU da=>al ?_;have hlen:=kS (da 0 _ rfl).1;rw[ae]at hlen;simp only[Vz,SS,seval];simp only[ae,W,seval];refine bX.bb ?_ (l.length+1) (OZ x l hlen l [] rfl (by simp) (fun h=>?_) (fun h=>?_))
 ·repeat' constructor
 ·intros;simp only[W,seval];exact aP (.inr rfl) rfl ⟨by simp[one,Gr,h],rfl⟩
 ·intros;simp only[W,seval];exact aP (.inr rfl) rfl ⟨rfl,rfl⟩
theorem yl(l:List Int)(x:Int)(σ:ah):PC prog 117 [.sl 1 (l.map bW),.i .i64 x] σ (fun r σ'=>r=.b (l.contains x)∧σ'=σ):=by
 refine PC.intro func117 aaI fun aU da=>al ?_;simp only[VW,SS,seval];simp only[W,seval];refine an (EB l x _) rfl ?_;simp only[W,seval];refine aP (.inr rfl) rfl ⟨?_,rfl⟩
 by_cases h:x∈l
 ·simp[one,Gr,h]
 ·simp[one,Gr,h]
theorem HU{σ:ah}{K:Exit→St→Prop}(a b:List It)(hlen:a.length<2^63)(rH:a.length=b.length):∀ (ra rb pa pb:List It),a=pa++ra→b=pb++rb→pa.length=pb.length →
  (eM ra rb=true→(∀ j0 j1 j2 j3 j4 j5 j6 j7 j8 j9 cC cH cG cF cB cE cD cI cQ db de dh dm dv du dt,K (.exit 0) ⟨[j0,j1,j2,j3,j4,j5,j6,j7,j8,j9,cC,cH,cG,cF,cB,cE,cD,cI,cQ,db,de,dh,dm,dv,du,dt],σ⟩))→(eM ra rb=false→(∀ j0 j1 j2 j3 j5 j6 j7 j8 j9 cC cH cG cF cB cE cD cI cQ db de dh dm dv du dt,K .ret ⟨[j0,j1,j2,j3,.b false,j5,j6,j7,j8,j9,cC,cH,cG,cF,cB,cE,cD,cI,cQ,db,de,dh,dm,dv,du,dt],σ⟩)) →
  fp σ.length prog BX K (ra.length+1) ⟨[.sl 3 (a.map It.cells),.sl 3 (b.map It.cells),u,u,u,u,u,u,u,u,u,u,.i .i64 a.length,.i .i64 pa.length,u,u,u,u,u,u,u,u,u,u,u,u],σ⟩
 | [],rb,pa,pb,ha,hb,hp,h1,h2=>by
  have:rb=[]:=by
   subst ha;subst hb;simp at rH;have:rb.length=0:=by omega
   exact jM.1 this
  subst this;subst ha;refine ay fun R hR=>?_;simp only[BX,W,seval];exact⟨fun h=>by simp at h,fun _=>h1 rfl ..⟩
 | x::ra,[],pa,pb,ha,hb,hp,h1,h2=>by
  subst ha;subst hb;simp at rH;omega
 | x::ra,y::rb,pa,pb,ha,hb,hp,h1,h2=>by
  subst ha;subst hb;refine ay fun R hR=>?_;have er:(List.map It.cells (pb++y::rb)).getD pa.length []=y.cells:=by rw[hp];exact jj
  simp only[BX,er,It.cells,fm,cu,W,seval];refine⟨fun _=>⟨by simp;omega,by simp;omega,fun h=>?_,fun h=>?_⟩,fun h=>by simp at h;omega⟩
  ·refine h2 ?_ ..;have:zi x y=false:=by simpa only[zi,bU]using h
   simp[eM,this]
  ·have he:zi x y=true:=by simpa only[zi,cL]using h
   have e:eM (x::ra) (y::rb)=eM ra rb:=by simp[eM,he]
   rw[e]at h1 h2;refine hR _ (bb ?_ (HU _ _ hlen rH ra rb (pa++[x]) (pb++[y]) (by simp) (by simp) (by simp[hp]) h1 h2));rw[aX (by simp at hlen;omega)];simp only[List.length_append,ag,ai]
   repeat' constructor
theorem zA(a b:List It)(σ:ah):PC prog 120 [.sl 3 (a.map It.cells),.sl 3 (b.map It.cells)] σ (fun r σ'=>r=.b (eM a b)∧σ'=σ):=by
 refine PC.intro func120 GY fun aU da=>al ?_;have hlen:=kS (da 0 _ rfl).1;rw[ae]at hlen;simp only[VS,SS,seval];simp only[ae,W,seval];refine⟨fun h=>?_,fun h=>?_⟩
 ·refine aP (.inr rfl) rfl ⟨?_,rfl⟩;simp at h;simp only[one,ar,aC,V.b.injEq];cases e:eM a b
  ·rfl
  ·exact absurd (Ar e) (by omega)
 ·simp at h;refine bX.bb ?_ (a.length+1) (HU a b hlen (by omega) a b [] [] rfl rfl rfl (fun h1=>?_) (fun h1=>?_))
  ·simp only[W,seval]
   repeat' constructor
  ·simp only[W,seval];intros;exact aP (.inr rfl) rfl ⟨by simp[one,h1],rfl⟩
  ·simp only[W,seval];intros;exact aP (.inr rfl) rfl ⟨by simp[one,h1],rfl⟩
theorem nv(a b:List It)(σ:ah):PC prog 84 [.sl 3 (a.map It.cells),.sl 3 (b.map It.cells)] σ (fun r σ'=>r=.b (eM a b)∧σ'=σ):=by
 refine PC.intro func84 c84 fun aU da=>al ?_;simp only[p84,SS,seval];simp only[W,seval];refine an (zA a b _) rfl ?_;simp only[W,seval];exact aP (.inr rfl) rfl ⟨rfl,rfl⟩
theorem LH{σ:ah}{K:Exit→St→Prop}(its:List It)(go:Nat)(rows:List (List V))(aU:bG σ)(hlen:its.length<2^40):
  ∀ (rest pre:List It) (b:List UInt8) (g:Nat),its=pre++rest→b.length+(runText rest).1.length<2^40 →
  (∀ g',(∀ j1 j2 j6 j7 j8 j9 cC cH cG cF cB cE cD cI cQ db de dh dm dv du dt dN dR dU dX ej eD eL eQ eP fb fi fh fg fw fG fF fK fW gj gi gB gA gz gy gx gY gW gU iq iD,K (.exit 2) ⟨[.sl 3 (its.map It.cells),j1,j2,.own σ.length go,.i .i64 (its.length - (runText rest).2.length:Nat),.own (σ.length+1) g',j6,j7,j8,j9,cC,cH,cG,cF,cB,cE,cD,cI,cQ,db,de,dh,dm,dv,du,dt,dN,dR,dU,dX,ej,eD,eL,eQ,eP,fb,fi,fh,fg,fw,fG,fF,fK,fW,gj,gi,gB,gA,gz,gy,gx,gY,gW,gU,iq,iD],σ++[.row 31 3 32 go false rows,.row 5 1 1 g' false (aQ (b++(runText rest).1))]⟩)) →
  fp σ.length prog BO K (rest.length+1) ⟨[.sl 3 (its.map It.cells),u,u,.own σ.length go,.i .i64 pre.length,.own (σ.length+1) g,u,u,u,u,u,u,u,u,u,u,u,u,u,u,u,u,u,u,u,u,u,u,u,u,u,u,u,u,u,u,u,u,u,u,u,u,u,u,u,u,u,u,u,u,u,u,u,u,u,u],σ++[.row 31 3 32 go false rows,.row 5 1 1 g false (aQ b)]⟩:=by
 intro rest
 induction rest with
 | nil =>
  intro pre b g he hb h1;have he:its=pre:=by simpa using he
  subst he;refine ay fun R hR=>?_;simp only[BO,W,seval];refine⟨fun h=>by simp at h,.i .i64 0,fun h=>by simp at h,?_⟩;simp only[W,seval];refine⟨fun h=>by simp at h,fun _=>?_⟩;have e:b++(runText []).1=b:=by simp[runText]
  rw[e]at h1;exact h1 _ ..
 | cons x rest ih =>
  intro pre b g he hb h1;subst he;refine ay fun R hR=>?_;simp only[BO,It.cells,W,seval];refine⟨fun _=>by simp;omega,.i .i64 x.kind,fun _=>rfl,?_⟩;simp only[W,seval];have eC:decide ((pre.length:Int)<((List.map It.cells (pre++x::rest)).length:Int))=true:=by simp;omega
  simp only[eC,It.cells,W,seval];refine⟨fun h=>?_,fun h=>?_⟩
  ·simp at h;have e1:(runText (x::rest)).1=x.text++(runText rest).1:=by simp[runText,h]
   have e2:(runText (x::rest)).2=(runText rest).2:=by simp[runText,h]
   rw[e1]at h1 hb;rw[e2]at h1;simp only[← List.append_assoc b]at h1;rw[List.length_append]at hb;refine⟨by simp;omega,⟨?_,?_⟩,?_⟩
   ·simp only[bO];omega
   ·simp only[bO,maxLen];omega
   ·rw[cT];refine hR _ (bb ?_ (ih (pre++[x]) (b++x.text) (g+1) (by simp) (by rw[List.length_append];omega) h1));rw[aX (by simp at hlen;omega)];simp only[List.length_append,ag,ai]
    repeat' constructor
  ·simp at h;have e1:(runText (x::rest))=([],x::rest):=by simp[runText,h]
   rw[e1]at h1;have e2:(pre++x::rest).length - (x::rest).length=pre.length:=by simp
   have h2:=h1 g;simp only[e2,bt]at h2;exact h2 ..
end Go.Proofs.Tryz
