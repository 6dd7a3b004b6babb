/- A part of a proof; the claim's last text says of what. -/
import Derived.Test.YtlakkaamfadipaaGreatDoorM4
import Derived.Test.YtlakkaamfadipaaGreatDoorM16
import Derived.Test.YtlakkaamfadipaaGreatDoorM17
set_option linter.all false
open Option renaming some->N,none->Y
open Bool renaming true->A,false->Z
open Go.Proofs.Tryz renaming prog->θ
open List renaming length->F

namespace Go.Proofs.Tryz
open Go Go.Pm Go.Bt
open Go.Pm.V(u)
variable(l:aJ)(a:List It)(m:bG)(c:UInt8)(p:aJ)(x:Int)(U:It)(n:Nat)(J:ag)(T:bG)(S:cD){X:ag}{K:bj}
def acS:cm:=⟨9,[.t 2],.seq (.ar [] [z 1 (.box 61 (.t 0)),z 2 (.aV (.c (.I 0)))]) (.seq (.seq (.ar [] [zf 3 0 1,zl 4 3,z 5 (.bin .eql (.t 4) (.c (.I 1)))]) (.ite (.t 5) (.seq (.ar [] [zf 6 1 1,zl 7 6,z 8 (.len A (.t 7)),zm 2 8]) (.ret)) (.skip))) (.seq (.ar [] [z 2 (.aV (.c (.I 1)))]) (.ret)))⟩
def aji:cu θ f153=N acS:=by kernel_rfl
def Mu:bH:=.seq (.ar [] [z 9 (.bin .lss (.t 8) (.t 7))]) (.seq (.ite (.t 9) (.skip) (.exit 0)) (.seq (.block 1 (.seq (.ar [] [z 10 (.idx 3 (.t 6) (.t 8)),zL 11 3 10,z 5 (.alloc 61 [.i .i64 0,.s [],.I 0]),zs (.store 3 [Y,Y,Y] (.t 5) (.t 11))]) (.ar [] [zm 12 3,zL 13 3 5,z 14 (.call 153 [.t 13]),z 15 (.bin .add (.t 12) (.t 14)),zm 3 15]))) (.ar [] [z 16 (.bin .add (.t 8) (.c (.I 1))),zm 8 16])))
def p95:cm:=⟨18,[.t 2],.seq (.ar [] [z 2 (.aV (.c (.I 0)))]) (.seq (.ar [] [z 3 (.aV (.c (.I 0)))]) (.seq (.seq (.ar [] [zm 6 0,z 7 (.len Z (.t 6)),z 8 (.aV (.c (.i .i64 0)))]) (.block 0 (.loop Mu))) (.seq (.ar [] [zm 17 3,zm 2 17]) (.ret))))⟩
def c95:cu θ f95=N p95:=by kernel_rfl
def p97:cm:=⟨16,[.t 2],.seq (.ar [] [z 1 (.box 61 (.t 0)),z 2 (.aV (.c (.b Z)))]) (.seq (.ar [7,8,9,12,13,14] [zf 3 0 1,zl 4 3,z 5 (.bin .eql (.t 4) (.c (.I 2))),zm 6 5,⟨N 7,[(6,Z)],.fV 0 (.t 1)⟩,⟨N 8,[(6,Z)],.load Y (.t 7)⟩,⟨N 9,[(6,Z)],.bin .eql (.t 8) (.c (.I 3))⟩,z 10 (.pick (.t 6) (.c (.b A)) (.t 9)),zm 11 10,⟨N 12,[(11,Z)],.fV 0 (.t 1)⟩,⟨N 13,[(11,Z)],.load Y (.t 12)⟩,⟨N 14,[(11,Z)],.bin .eql (.t 13) (.c (.I 4))⟩,z 15 (.pick (.t 11) (.c (.b A)) (.t 14)),zm 2 15]) (.ret))⟩
def c97:cu θ f97=N p97:=by kernel_rfl
def acQ:cm:=⟨13,[.t 2],.seq (.ar [] [z 2 (.aV (.c (.s [])))]) (.seq (.ar [] [zm 7 0,z 8 (.call 206 [.t 7,.c (.s [32])]),zm 6 8,z 9 (.ext 0 (.t 6)),z 10 (.ext 1 (.t 6)),z 11 (.ext 2 (.t 6)),zm 3 9,zm 4 10,zm 5 11]) (.seq (.ar [] [zm 12 3,zm 2 12]) (.ret)))⟩
def ajg:cu θ f155=N acQ:=by kernel_rfl
def F5:bH:=.seq (.seq (.ar [] [zm 23 3,zm 24 0,z 25 (.len A (.t 24)),z 26 (.bin .lss (.t 23) (.t 25))]) (.ite (.t 26) (.skip) (.exit 0))) (.seq (.block 1 (.seq (.ar [34,35,36,37,40,41,42,43,44] [zm 29 0,zm 30 3,z 31 (.fN (.t 29) (.t 30)),z 32 (.bin .lss (.t 31) (.c (.i .u8 32))),zm 33 32,⟨some 34,[(33,Z)],.aV (.t 0)⟩,⟨some 35,[(33,Z)],.aV (.t 3)⟩,⟨some 36,[(33,Z)],.fN (.t 34) (.t 35)⟩,⟨some 37,[(33,Z)],.bin .gtr (.t 36) (.c (.i .u8 126))⟩,z 38 (.pick (.t 33) (.c (.b A)) (.t 37)),zm 39 38,⟨some 40,[(39,Z)],.aV (.t 0)⟩,⟨some 41,[(39,Z)],.aV (.t 3)⟩,⟨some 42,[(39,Z)],.fN (.t 40) (.t 41)⟩,⟨some 43,[(39,Z)],.call 157 [.c (.s [60,62,123,125]),.t 42]⟩,⟨some 44,[(39,Z)],.bin .geq (.t 43) (.c (.I 0))⟩,z 45 (.pick (.t 39) (.c (.b A)) (.t 44))]) (.ite (.t 45) (.seq (.ar [] [z 2 (.aV (.c (.b Z)))]) (.ret)) (.skip)))) (.ar [] [zm 27 3,z 28 (.bin .add (.t 27) (.c (.I 1))),zm 3 28]))
def acR:cm:=⟨63,[.t 2],.seq (.ar [] [z 2 (.aV (.c (.b Z)))]) (.seq (.seq (.ar [11,12,13,16,17,18,19,20,21] [zm 7 0,z 8 (.len A (.t 7)),z 9 (.bin .gtr (.t 8) (.c (.i .i64 64))),zm 10 9,⟨some 11,[(10,Z)],.aV (.t 0)⟩,⟨some 12,[(10,Z)],.len A (.t 11)⟩,⟨some 13,[(10,Z)],.bin .eql (.t 12) (.c (.I 0))⟩,z 14 (.pick (.t 10) (.c (.b A)) (.t 13)),zm 15 14,⟨some 16,[(15,Z)],.aV (.t 0)⟩,⟨some 17,[(15,Z)],.aV (.t 0)⟩,⟨some 18,[(15,Z)],.len A (.t 17)⟩,⟨some 19,[(15,Z)],.bin .sub (.t 18) (.c (.I 1))⟩,⟨some 20,[(15,Z)],.fN (.t 16) (.t 19)⟩,⟨some 21,[(15,Z)],.bin .eql (.t 20) (.c (.i .u8 47))⟩,z 22 (.pick (.t 15) (.c (.b A)) (.t 21))]) (.ite (.t 22) (.seq (.ar [] [z 2 (.aV (.c (.b Z)))]) (.ret)) (.skip))) (.seq (.seq (.ar [] [z 3 (.aV (.c (.I 0)))]) (.block 0 (.loop F5))) (.seq (.ar [] [zm 47 0,z 48 (.call 206 [.t 47,.c (.s [32])]),zm 46 48,z 49 (.ext 0 (.t 46)),z 50 (.ext 1 (.t 46)),z 51 (.ext 2 (.t 46)),zm 4 49,zm 5 50,zm 6 51]) (.seq (.ar [55,56,57,58,59,60,61] [zm 52 4,z 53 (.call 117 [.t 52]),zm 54 53,⟨some 55,[(54,A)],.aV (.t 6)⟩,⟨some 56,[(54,A)],.un .not (.t 55)⟩,⟨some 57,[(54,A)],.aV (.t 56)⟩,⟨some 58,[(54,A),(57,Z)],.aV (.t 5)⟩,⟨some 59,[(54,A),(57,Z)],.len A (.t 58)⟩,⟨some 60,[(54,A),(57,Z)],.bin .gtr (.t 59) (.c (.I 0))⟩,⟨some 61,[(54,A)],.pick (.t 57) (.c (.b A)) (.t 60)⟩,z 62 (.pick (.t 54) (.t 61) (.c (.b Z))),zm 2 62]) (.ret)))))⟩
def ajh:cu θ f154=N acR:=by kernel_rfl
def p96:cm:=⟨76,[.t 4],.seq (.ar [] [z 4 (.aV (.c (.b Z)))]) (.seq (.ar [] [zm 6 0,zm 7 1,z 8 (.idx 3 (.t 6) (.t 7)),zL 9 3 8,z 5 (.alloc 61 [.I 0,.s [],.I 0]),zs (.store 3 [Y,Y,Y] (.t 5) (.t 9))]) (.seq (.seq (.ar [] [zf 10 0 5,zl 11 10]) (.block 0 (.seq (.ar [] [z 13 (.bin .eql (.t 11) (.c (.I 1))),zm 12 13]) (.ite (.t 12) (.seq (.ar [18,19,20,23,24,25,26,27,28,29,30,31,32,33] [zf 14 1 5,zl 15 14,z 16 (.bin .neq (.t 15) (.c (.s []))),zm 17 16,⟨N 18,[(17,A)],.fV 2 (.t 5)⟩,⟨N 19,[(17,A)],.load Y (.t 18)⟩,⟨N 20,[(17,A)],.bin .eql (.t 19) (.c (.I 0))⟩,z 21 (.pick (.t 17) (.t 20) (.c (.b Z))),zm 22 21,⟨N 23,[(22,A)],.aV (.t 1)⟩,⟨N 24,[(22,A)],.bin .eql (.t 23) (.c (.I 0))⟩,⟨N 25,[(22,A)],.aV (.t 24)⟩,⟨N 26,[(22,A),(25,Z)],.aV (.t 0)⟩,⟨N 27,[(22,A),(25,Z)],.aV (.t 1)⟩,⟨N 28,[(22,A),(25,Z)],.bin .sub (.t 27) (.c (.I 1))⟩,⟨N 29,[(22,A),(25,Z)],.idx 3 (.t 26) (.t 28)⟩,⟨N 30,[(22,A),(25,Z)],.fV 0 (.t 29)⟩,⟨N 31,[(22,A),(25,Z)],.load Y (.t 30)⟩,⟨N 32,[(22,A),(25,Z)],.bin .neq (.t 31) (.c (.i .i64 1))⟩,⟨N 33,[(22,A)],.pick (.t 25) (.c (.b A)) (.t 32)⟩,z 34 (.pick (.t 22) (.t 33) (.c (.b Z))),zm 4 34]) (.ret)) (.seq (.ar [] [z 36 (.bin .eql (.t 11) (.c (.I 5))),zm 35 36]) (.ite (.t 35) (.seq (.ar [41,42,43] [zf 37 1 5,zl 38 37,z 39 (.call 117 [.t 38]),zm 40 39,⟨N 41,[(40,A)],.fV 2 (.t 5)⟩,⟨N 42,[(40,A)],.load Y (.t 41)⟩,⟨N 43,[(40,A)],.bin .eql (.t 42) (.c (.I 0))⟩,z 44 (.pick (.t 40) (.t 43) (.c (.b Z))),zm 4 44]) (.ret)) (.seq (.seq (.ar [] [z 46 (.bin .eql (.t 11) (.c (.I 2))),zm 45 46]) (.ite (.t 45) (.skip) (.ar [] [z 47 (.bin .eql (.t 11) (.c (.I 4))),zm 45 47]))) (.ite (.t 45) (.seq (.ar [52,53,54,57,58,59] [zf 48 1 5,zl 49 48,z 50 (.call 154 [.t 49]),zm 51 50,⟨N 52,[(51,A)],.fV 2 (.t 5)⟩,⟨N 53,[(51,A)],.load Y (.t 52)⟩,⟨N 54,[(51,A)],.bin .geq (.t 53) (.c (.I 1))⟩,z 55 (.pick (.t 51) (.t 54) (.c (.b Z))),zm 56 55,⟨N 57,[(56,A)],.fV 2 (.t 5)⟩,⟨N 58,[(56,A)],.load Y (.t 57)⟩,⟨N 59,[(56,A)],.bin .leq (.t 58) (.c (.I 999))⟩,z 60 (.pick (.t 56) (.t 59) (.c (.b Z))),zm 4 60]) (.ret)) (.seq (.ar [] [z 62 (.bin .eql (.t 11) (.c (.I 3))),zm 61 62]) (.ite (.t 61) (.seq (.ar [67,68,69,72,73,74] [zf 63 1 5,zl 64 63,z 65 (.call 117 [.t 64]),zm 66 65,⟨N 67,[(66,A)],.fV 2 (.t 5)⟩,⟨N 68,[(66,A)],.load Y (.t 67)⟩,⟨N 69,[(66,A)],.bin .geq (.t 68) (.c (.I 1))⟩,z 70 (.pick (.t 66) (.t 69) (.c (.b Z))),zm 71 70,⟨N 72,[(71,A)],.fV 2 (.t 5)⟩,⟨N 73,[(71,A)],.load Y (.t 72)⟩,⟨N 74,[(71,A)],.bin .leq (.t 73) (.c (.I 999))⟩,z 75 (.pick (.t 71) (.t 74) (.c (.b Z))),zm 4 75]) (.ret)) (.skip))))))))))) (.seq (.ar [] [z 4 (.aV (.c (.b Z)))]) (.ret))))⟩
def c96:cu θ f96=N p96:=by kernel_rfl
def Ms:bH:=.seq (.ar [] [z 10 (.bin .lss (.t 9) (.t 8))]) (.seq (.ite (.t 10) (.skip) (.exit 0)) (.seq (.block 1 (.seq (.ar [] [z 11 (.idx 3 (.t 7) (.t 9)),zL 12 3 11,z 6 (.alloc 61 [.i .i64 0,.s [],.I 0]),zs (.store 3 [Y,Y,Y] (.t 6) (.t 12))]) (.seq (.seq (.ar [17,18,19,20,21] [zL 13 3 6,z 14 (.call 97 [.t 13]),z 15 (.un .not (.t 14)),zm 16 15,⟨N 17,[(16,Z)],.fV 2 (.t 6)⟩,⟨N 18,[(16,Z)],.load Y (.t 17)⟩,⟨N 19,[(16,Z)],.fV 2 (.t 3)⟩,⟨N 20,[(16,Z)],.load Y (.t 19)⟩,⟨N 21,[(16,Z)],.bin .neq (.t 18) (.t 20)⟩,z 22 (.pick (.t 16) (.c (.b A)) (.t 21))]) (.ite (.t 22) (.exit 1) (.skip))) (.seq (.dH [([zf 23 0 3,zl 24 23,z 25 (.bin .neq (.t 24) (.c (.I 3))),zm 26 25,⟨N 27,[(26,Z)],.fV 0 (.t 6)⟩,⟨N 28,[(26,Z)],.load Y (.t 27)⟩,⟨N 29,[(26,Z)],.bin .neq (.t 28) (.c (.i .i64 2))⟩,z 30 (.pick (.t 26) (.c (.b A)) (.t 29)),zm 31 30,⟨N 32,[(31,Z)],.fV 1 (.t 6)⟩,⟨N 33,[(31,Z)],.load Y (.t 32)⟩,⟨N 35,[(31,Z)],.fV 1 (.t 3)⟩,⟨N 36,[(31,Z)],.load Y (.t 35)⟩],⟨N 34,[(31,Z)],.call 155 [.t 33]⟩,[⟨N 35,[(31,Z)],.fV 1 (.t 3)⟩,⟨N 36,[(31,Z)],.load Y (.t 35)⟩])] [] [27,28,29,32,33,34,35,36,37] [⟨N 37,[(31,Z)],.bin .neq (.t 34) (.t 36)⟩,z 38 (.pick (.t 31) (.c (.b A)) (.t 37))]) (.ite (.t 38) (.seq (.ar [] [z 4 (.aV (.c (.b Z)))]) (.ret)) (.skip)))))) (.ar [] [z 39 (.bin .add (.t 9) (.c (.I 1))),zm 9 39])))
def p98:cm:=⟨40,[.t 4],.seq (.ar [] [z 3 (.box 61 (.t 1)),z 4 (.aV (.c (.b Z)))]) (.seq (.seq (.ar [] [zm 7 0,z 8 (.len Z (.t 7)),z 9 (.aV (.c (.I 0)))]) (.block 0 (.loop Ms))) (.seq (.ar [] [z 4 (.aV (.c (.b A)))]) (.ret)))⟩
def c98:cu θ f98=N p98:=by kernel_rfl
def MM:bH:=.seq (.ar [] [z 16 (.bin .lss (.t 15) (.t 14))]) (.seq (.ite (.t 16) (.skip) (.exit 0)) (.seq (.block 1 (.seq (.ar [] [zm 17 15,z 18 (.idx 3 (.t 13) (.t 15)),zL 19 3 18,z 4 (.alloc 61 [.I 0,.s [],.I 0]),zm 3 17,zs (.store 3 [Y,Y,Y] (.t 4) (.t 19))]) (.seq (.seq (.ar [] [zm 20 0,zm 21 3,z 22 (.call 96 [.t 20,.t 21]),z 23 (.un .not (.t 22))]) (.ite (.t 23) (.seq (.ar [] [z 2 (.aV (.c (.I 1)))]) (.ret)) (.skip))) (.seq (.dH [([zL 24 3 4],z 25 (.call 97 [.t 24]),[])] [zm 26 25,⟨N 27,[(26,A)],.aV (.t 0)⟩,⟨N 28,[(26,A)],.aV (.t 3)⟩,⟨N 29,[(26,A)],.slice 3 (.t 27) Y (N (.t 28))⟩,⟨N 30,[(26,A)],.load (N 3) (.t 4)⟩] [27,28,29,30,31,32] [⟨N 31,[(26,A)],.call 98 [.t 29,.t 30]⟩,⟨N 32,[(26,A)],.un .not (.t 31)⟩,z 33 (.pick (.t 26) (.t 32) (.c (.b Z)))]) (.ite (.t 33) (.seq (.ar [] [z 2 (.aV (.c (.I 7)))]) (.ret)) (.skip)))))) (.ar [] [z 34 (.bin .add (.t 15) (.c (.I 1))),zm 15 34])))
def p44:cm:=⟨35,[.t 2],.seq (.ar [] [z 2 (.aV (.c (.I 0)))]) (.seq (.seq (.ar [9,10,11] [zm 5 0,z 6 (.len Z (.t 5)),z 7 (.bin .gtr (.t 6) (.c (.I 512))),zm 8 7,⟨N 9,[(8,Z)],.aV (.t 0)⟩,⟨N 10,[(8,Z)],.call 95 [.t 9]⟩,⟨N 11,[(8,Z)],.bin .gtr (.t 10) (.c (.I 1024))⟩,z 12 (.pick (.t 8) (.c (.b A)) (.t 11))]) (.ite (.t 12) (.seq (.ar [] [z 2 (.aV (.c (.I 3)))]) (.ret)) (.skip))) (.seq (.seq (.ar [] [zm 13 0,z 14 (.len Z (.t 13)),z 15 (.aV (.c (.I 0)))]) (.block 0 (.loop MM))) (.seq (.ar [] [z 2 (.aV (.c (.I 0)))]) (.ret))))⟩
def c44:cu θ f44=N p44:=by kernel_rfl
def Ge:bH:=.seq (.seq (.ar [] [zm 23 3,zm 24 0,z 25 (.len A (.t 24)),z 26 (.bin .lss (.t 23) (.t 25))]) (.ite (.t 26) (.skip) (.exit 0))) (.seq (.block 1 (.seq (.ar [] [zm 29 0,zm 30 3,z 31 (.fN (.t 29) (.t 30)),zm 4 31]) (.seq (.ar [35,36,39,40,41,42,43,44,47,48] [zm 32 4,z 33 (.bin .geq (.t 32) (.c (.i .u8 97))),zm 34 33,⟨some 35,[(34,A)],.aV (.t 4)⟩,⟨some 36,[(34,A)],.bin .leq (.t 35) (.c (.i .u8 122))⟩,z 37 (.pick (.t 34) (.t 36) (.c (.b Z))),zm 38 37,⟨some 39,[(38,Z)],.aV (.t 4)⟩,⟨some 40,[(38,Z)],.bin .geq (.t 39) (.c (.i .u8 48))⟩,⟨some 41,[(38,Z)],.aV (.t 40)⟩,⟨some 42,[(38,Z),(41,A)],.aV (.t 4)⟩,⟨some 43,[(38,Z),(41,A)],.bin .leq (.t 42) (.c (.i .u8 57))⟩,⟨some 44,[(38,Z)],.pick (.t 41) (.t 43) (.c (.b Z))⟩,z 45 (.pick (.t 38) (.c (.b A)) (.t 44)),zm 46 45,⟨some 47,[(46,Z)],.aV (.t 4)⟩,⟨some 48,[(46,Z)],.bin .eql (.t 47) (.c (.i .u8 45))⟩,z 49 (.pick (.t 46) (.c (.b A)) (.t 48)),z 50 (.un .not (.t 49))]) (.ite (.t 50) (.seq (.ar [] [z 2 (.aV (.c (.b Z)))]) (.ret)) (.skip))))) (.ar [] [zm 27 3,z 28 (.bin .add (.t 27) (.c (.I 1))),zm 3 28]))
def ade:cm:=⟨51,[.t 2],.seq (.ar [] [z 2 (.aV (.c (.b Z)))]) (.seq (.seq (.ar [9,10,11,14,15,16,19,20,21] [zm 5 0,z 6 (.len A (.t 5)),z 7 (.bin .lss (.t 6) (.c (.i .i64 1))),zm 8 7,⟨some 9,[(8,Z)],.aV (.t 0)⟩,⟨some 10,[(8,Z)],.len A (.t 9)⟩,⟨some 11,[(8,Z)],.bin .gtr (.t 10) (.c (.I 24))⟩,z 12 (.pick (.t 8) (.c (.b A)) (.t 11)),zm 13 12,⟨some 14,[(13,Z)],.aV (.t 0)⟩,⟨some 15,[(13,Z)],.fN (.t 14) (.c (.I 0))⟩,⟨some 16,[(13,Z)],.bin .lss (.t 15) (.c (.i .u8 97))⟩,z 17 (.pick (.t 13) (.c (.b A)) (.t 16)),zm 18 17,⟨some 19,[(18,Z)],.aV (.t 0)⟩,⟨some 20,[(18,Z)],.fN (.t 19) (.c (.I 0))⟩,⟨some 21,[(18,Z)],.bin .gtr (.t 20) (.c (.i .u8 122))⟩,z 22 (.pick (.t 18) (.c (.b A)) (.t 21))]) (.ite (.t 22) (.seq (.ar [] [z 2 (.aV (.c (.b Z)))]) (.ret)) (.skip))) (.seq (.seq (.ar [] [z 3 (.aV (.c (.I 1)))]) (.block 0 (.loop Ge))) (.seq (.ar [] [z 2 (.aV (.c (.b A)))]) (.ret))))⟩
def ajA:cu θ f117=N ade:=by kernel_rfl
def acD:cm:=⟨51,[.t 2],.seq (.ar [] [z 2 (.aV (.c (.I 0)))]) (.seq (.block 0 (.seq (.ar [7,8,11,12,15,16] [zm 4 0,z 5 (.bin .eql (.t 4) (.c (.i .u8 9))),zm 6 5,⟨N 7,[(6,Z)],.aV (.t 0)⟩,⟨N 8,[(6,Z)],.bin .eql (.t 7) (.c (.i .u8 10))⟩,z 9 (.pick (.t 6) (.c (.b A)) (.t 8)),zm 10 9,⟨N 11,[(10,Z)],.aV (.t 0)⟩,⟨N 12,[(10,Z)],.bin .eql (.t 11) (.c (.i .u8 13))⟩,z 13 (.pick (.t 10) (.c (.b A)) (.t 12)),zm 14 13,⟨N 15,[(14,Z)],.aV (.t 0)⟩,⟨N 16,[(14,Z)],.bin .eql (.t 15) (.c (.i .u8 32))⟩,z 17 (.pick (.t 14) (.c (.b A)) (.t 16)),zm 3 17]) (.ite (.t 3) (.seq (.ar [] [z 2 (.aV (.c (.I 2)))]) (.ret)) (.seq (.ar [22,23] [zm 19 0,z 20 (.bin .lss (.t 19) (.c (.i .u8 32))),zm 21 20,⟨N 22,[(21,Z)],.aV (.t 0)⟩,⟨N 23,[(21,Z)],.bin .eql (.t 22) (.c (.i .u8 127))⟩,z 24 (.pick (.t 21) (.c (.b A)) (.t 23)),zm 18 24]) (.ite (.t 18) (.seq (.ar [] [z 2 (.aV (.c (.I 1)))]) (.ret)) (.seq (.ar [29,30] [zm 26 0,z 27 (.bin .geq (.t 26) (.c (.i .u8 48))),zm 28 27,⟨N 29,[(28,A)],.aV (.t 0)⟩,⟨N 30,[(28,A)],.bin .leq (.t 29) (.c (.i .u8 57))⟩,z 31 (.pick (.t 28) (.t 30) (.c (.b Z))),zm 25 31]) (.ite (.t 25) (.seq (.ar [] [z 2 (.aV (.c (.I 3)))]) (.ret)) (.seq (.ar [36,37,40,41,42,43,44,45,48,49] [zm 33 0,z 34 (.bin .geq (.t 33) (.c (.i .u8 97))),zm 35 34,⟨N 36,[(35,A)],.aV (.t 0)⟩,⟨N 37,[(35,A)],.bin .leq (.t 36) (.c (.i .u8 122))⟩,z 38 (.pick (.t 35) (.t 37) (.c (.b Z))),zm 39 38,⟨N 40,[(39,Z)],.aV (.t 0)⟩,⟨N 41,[(39,Z)],.bin .geq (.t 40) (.c (.i .u8 65))⟩,⟨N 42,[(39,Z)],.aV (.t 41)⟩,⟨N 43,[(39,Z),(42,A)],.aV (.t 0)⟩,⟨N 44,[(39,Z),(42,A)],.bin .leq (.t 43) (.c (.i .u8 90))⟩,⟨N 45,[(39,Z)],.pick (.t 42) (.t 44) (.c (.b Z))⟩,z 46 (.pick (.t 39) (.c (.b A)) (.t 45)),zm 47 46,⟨N 48,[(47,Z)],.aV (.t 0)⟩,⟨N 49,[(47,Z)],.bin .geq (.t 48) (.c (.i .u8 128))⟩,z 50 (.pick (.t 47) (.c (.b A)) (.t 49)),zm 32 50]) (.ite (.t 32) (.seq (.ar [] [z 2 (.aV (.c (.i .i64 4)))]) (.ret)) (.skip)))))))))) (.seq (.ar [] [z 2 (.aV (.c (.I 5)))]) (.ret)))⟩
def ai3:cu θ f168=N acD:=by kernel_rfl
def ac5:cm:=⟨6,[.t 2],.seq (.ar [] [z 2 (.aV (.c (.b Z)))]) (.seq (.ar [] [zm 3 0,zm 4 0,z 5 (.bin .neq (.t 3) (.t 4)),zm 2 5]) (.ret))⟩
def ajv:cu θ f127=N ac5:=by kernel_rfl
def MG:bH:=.seq (.ar [] [z 9 (.bin .lss (.t 8) (.t 7))]) (.seq (.ite (.t 9) (.skip) (.exit 0)) (.seq (.block 1 (.seq (.ar [] [z 10 (.idx 1 (.t 6) (.t 8)),zl 11 10,zm 5 11]) (.seq (.ar [] [zm 12 5,zm 13 3,z 14 (.bin .neq (.t 12) (.t 13))]) (.ite (.t 14) (.seq (.ar [] [zm 15 5,zm 2 15]) (.ret)) (.skip))))) (.ar [] [z 16 (.bin .add (.t 8) (.c (.I 1))),zm 8 16])))
def p62:cm:=⟨18,[.t 2],.seq (.ar [] [z 2 (.aV (.c (.I 0)))]) (.seq (.ar [] [z 3 (.aV (.c (.I 0)))]) (.seq (.seq (.ar [] [zm 6 0,z 7 (.len Z (.t 6)),z 8 (.aV (.c (.i .i64 0)))]) (.block 0 (.loop MG))) (.seq (.ar [] [zm 17 3,zm 2 17]) (.ret))))⟩
def c62:cu θ f62=N p62:=by kernel_rfl
def acb:cm:=⟨13,[.t 4,.t 5,.t 6],.seq (.ar [] [z 4 (.aV (.c (.s []))),z 5 (.aV (.c (.s []))),z 6 (.aV (.c (.b Z)))]) (.seq (.ar [] [zm 7 0,zm 8 1,z 9 (.call 246 [.t 7,.t 8]),z 10 (.ext 0 (.t 9)),z 11 (.ext 1 (.t 9)),z 12 (.ext 2 (.t 9)),zm 4 10,zm 5 11,zm 6 12]) (.ret))⟩
def aiE:cu θ f206=N acb:=by kernel_rfl
def acO:cm:=⟨8,[.t 4],.seq (.ar [] [z 4 (.aV (.c (.I 0)))]) (.seq (.ar [] [zm 5 0,zm 6 1,z 7 (.call 208 [.t 5,.t 6]),zm 4 7]) (.ret))⟩
def aje:cu θ f157=N acO:=by kernel_rfl
def ab9:cm:=⟨8,[.t 4],.seq (.ar [] [z 4 (.aV (.c (.b Z)))]) (.seq (.ar [] [zm 5 0,zm 6 1,z 7 (.call 248 [.t 5,.t 6]),zm 4 7]) (.ret))⟩
def aiC:cu θ f209=N ab9:=by kernel_rfl
def ab8:cm:=⟨8,[.t 4],.seq (.ar [] [z 4 (.aV (.c (.b Z)))]) (.seq (.ar [] [zm 5 0,zm 6 1,z 7 (.call 249 [.t 5,.t 6]),zm 4 7]) (.ret))⟩
def aiB:cu θ f210=N ab8:=by kernel_rfl
def abP:cm:=⟨23,[.t 4,.t 5,.t 6],.seq (.ar [] [z 4 (.aV (.c (.s []))),z 5 (.aV (.c (.s []))),z 6 (.aV (.c (.b Z)))]) (.seq (.seq (.ar [] [zm 8 0,zm 9 1,z 10 (.call 272 [.t 8,.t 9]),zm 7 10]) (.seq (.ar [] [zm 11 7,z 12 (.bin .geq (.t 11) (.c (.I 0)))]) (.ite (.t 12) (.seq (.dH [] [zm 13 0,zm 14 7,z 15 (.fM (.t 13) Y (N (.t 14))),zm 16 0,zm 17 7,zm 18 1,z 19 (.len A (.t 18)),z 20 (.bin .add (.t 17) (.t 19)),z 21 (.fM (.t 16) (N (.t 20)) Y),zm 4 15] [] [zm 5 21,z 6 (.aV (.c (.b A)))]) (.ret)) (.skip)))) (.seq (.ar [] [zm 22 0,zm 4 22,z 5 (.aV (.c (.s []))),z 6 (.aV (.c (.b Z)))]) (.ret)))⟩
def aii:cu θ f246=N abP:=by kernel_rfl
def abO:cm:=⟨18,[.t 4],.seq (.ar [] [z 4 (.aV (.c (.b Z)))]) (.seq (.ar [11,12,13,14,15,16] [zm 5 0,z 6 (.len A (.t 5)),zm 7 1,z 8 (.len A (.t 7)),z 9 (.bin .geq (.t 6) (.t 8)),zm 10 9,⟨N 11,[(10,A)],.aV (.t 0)⟩,⟨N 12,[(10,A)],.aV (.t 1)⟩,⟨N 13,[(10,A)],.len A (.t 12)⟩,⟨N 14,[(10,A)],.fM (.t 11) Y (N (.t 13))⟩,⟨N 15,[(10,A)],.aV (.t 1)⟩,⟨N 16,[(10,A)],.bin .eql (.t 14) (.t 15)⟩,z 17 (.pick (.t 10) (.t 16) (.c (.b Z))),zm 4 17]) (.ret))⟩
def aih:cu θ f248=N abO:=by kernel_rfl
def abN:cm:=⟨21,[.t 4],.seq (.ar [] [z 4 (.aV (.c (.b Z)))]) (.seq (.ar [11,12,13,14,15,16,17,18,19] [zm 5 0,z 6 (.len A (.t 5)),zm 7 1,z 8 (.len A (.t 7)),z 9 (.bin .geq (.t 6) (.t 8)),zm 10 9,⟨N 11,[(10,A)],.aV (.t 0)⟩,⟨N 12,[(10,A)],.aV (.t 0)⟩,⟨N 13,[(10,A)],.len A (.t 12)⟩,⟨N 14,[(10,A)],.aV (.t 1)⟩,⟨N 15,[(10,A)],.len A (.t 14)⟩,⟨N 16,[(10,A)],.bin .sub (.t 13) (.t 15)⟩,⟨N 17,[(10,A)],.fM (.t 11) (N (.t 16)) Y⟩,⟨N 18,[(10,A)],.aV (.t 1)⟩,⟨N 19,[(10,A)],.bin .eql (.t 17) (.t 18)⟩,z 20 (.pick (.t 10) (.t 19) (.c (.b Z))),zm 4 20]) (.ret))⟩
def aif:cu θ f249=N abN:=by kernel_rfl
def acL:cm:=⟨13,[.t 2],.seq (.ar [] [z 2 (.aV (.c (.s [])))]) (.seq (.ar [] [zm 7 0,z 8 (.call 206 [.t 7,.c (.s [32])]),zm 6 8,z 9 (.ext 0 (.t 6)),z 10 (.ext 1 (.t 6)),z 11 (.ext 2 (.t 6)),zm 3 9,zm 4 10,zm 5 11]) (.seq (.ar [] [zm 12 3,zm 2 12]) (.ret)))⟩
def ajb:cu θ f160=N acL:=by kernel_rfl
def aca:cm:=⟨23,[.t 2,.t 3],.seq (.ar [] [z 2 (.aV (.c (.i .u8 0))),z 3 (.aV (.c (.b Z)))]) (.seq (.block 0 (.seq (.ar [8,9] [zm 5 0,z 6 (.bin .geq (.t 5) (.c (.i .u8 48))),zm 7 6,⟨N 8,[(7,A)],.aV (.t 0)⟩,⟨N 9,[(7,A)],.bin .leq (.t 8) (.c (.i .u8 57))⟩,z 10 (.pick (.t 7) (.t 9) (.c (.b Z))),zm 4 10]) (.ite (.t 4) (.seq (.ar [] [zm 11 0,z 12 (.bin .sub (.t 11) (.c (.i .u8 48))),zm 2 12,z 3 (.aV (.c (.b A)))]) (.ret)) (.seq (.ar [17,18] [zm 14 0,z 15 (.bin .geq (.t 14) (.c (.i .u8 97))),zm 16 15,⟨N 17,[(16,A)],.aV (.t 0)⟩,⟨N 18,[(16,A)],.bin .leq (.t 17) (.c (.i .u8 102))⟩,z 19 (.pick (.t 16) (.t 18) (.c (.b Z))),zm 13 19]) (.ite (.t 13) (.seq (.ar [] [zm 20 0,z 21 (.bin .sub (.t 20) (.c (.i .u8 97))),z 22 (.bin .add (.t 21) (.c (.i .u8 10))),zm 2 22,z 3 (.aV (.c (.b A)))]) (.ret)) (.skip)))))) (.seq (.ar [] [z 2 (.aV (.c (.i .u8 0))),z 3 (.aV (.c (.b Z)))]) (.ret)))⟩
def aiD:cu θ f207=N aca:=by kernel_rfl
def acP:cm:=⟨60,[.t 2,.t 3,.t 4],.seq (.ar [] [z 2 (.aV (.c (.i .u8 0))),z 3 (.aV (.c (.I 0))),z 4 (.aV (.c (.b Z)))]) (.seq (.seq (.ar [] [zm 10 0,z 11 (.len A (.t 10)),z 12 (.bin .lss (.t 11) (.c (.I 2)))]) (.ite (.t 12) (.seq (.ar [] [z 2 (.aV (.c (.i .u8 0))),z 3 (.aV (.c (.I 0))),z 4 (.aV (.c (.b Z)))]) (.ret)) (.skip))) (.seq (.seq (.ar [] [zm 13 0,z 14 (.fN (.t 13) (.c (.I 1)))]) (.block 0 (.seq (.seq (.ar [] [z 16 (.bin .eql (.t 14) (.c (.i .u8 92))),zm 15 16]) (.ite (.t 15) (.skip) (.seq (.ar [] [z 17 (.bin .eql (.t 14) (.c (.i .u8 60))),zm 15 17]) (.ite (.t 15) (.skip) (.ar [] [z 18 (.bin .eql (.t 14) (.c (.i .u8 123))),zm 15 18]))))) (.ite (.t 15) (.seq (.ar [] [zm 19 0,z 20 (.fN (.t 19) (.c (.I 1))),zm 2 20,z 3 (.aV (.c (.I 2))),z 4 (.aV (.c (.b A)))]) (.ret)) (.seq (.ar [] [z 22 (.bin .eql (.t 14) (.c (.i .u8 110))),zm 21 22]) (.ite (.t 21) (.seq (.ar [] [z 2 (.aV (.c (.i .u8 10))),z 3 (.aV (.c (.I 2))),z 4 (.aV (.c (.b A)))]) (.ret)) (.seq (.ar [] [z 24 (.bin .eql (.t 14) (.c (.i .u8 116))),zm 23 24]) (.ite (.t 23) (.seq (.ar [] [z 2 (.aV (.c (.i .u8 9))),z 3 (.aV (.c (.I 2))),z 4 (.aV (.c (.b A)))]) (.ret)) (.seq (.ar [] [z 26 (.bin .eql (.t 14) (.c (.i .u8 120))),zm 25 26]) (.ite (.t 25) (.seq (.seq (.ar [] [zm 27 0,z 28 (.len A (.t 27)),z 29 (.bin .lss (.t 28) (.c (.I 4)))]) (.ite (.t 29) (.seq (.ar [] [z 2 (.aV (.c (.i .u8 0))),z 3 (.aV (.c (.I 0))),z 4 (.aV (.c (.b Z)))]) (.ret)) (.skip))) (.seq (.ar [] [zm 31 0,z 32 (.fN (.t 31) (.c (.i .i64 2))),z 33 (.call 207 [.t 32]),zm 30 33,z 34 (.ext 0 (.t 30)),z 35 (.ext 1 (.t 30)),zm 5 34,zm 6 35]) (.seq (.ar [] [zm 37 0,z 38 (.fN (.t 37) (.c (.I 3))),z 39 (.call 207 [.t 38]),zm 36 39,z 40 (.ext 0 (.t 36)),z 41 (.ext 1 (.t 36)),zm 7 40,zm 8 41]) (.seq (.ar [] [zm 42 5,z 43 (.bin .shl (.t 42) (.c (.i .u64 4))),zm 44 7,z 45 (.bin .or (.t 43) (.t 44)),zm 9 45]) (.seq (.ar [49,52,53,54,55,56,57,58] [zm 46 9,zm 47 6,zm 48 47,⟨some 49,[(48,A)],.aV (.t 8)⟩,z 50 (.pick (.t 48) (.t 49) (.c (.b Z))),zm 51 50,⟨some 52,[(51,A)],.aV (.t 9)⟩,⟨some 53,[(51,A)],.bin .eql (.t 52) (.c (.i .u8 13))⟩,⟨some 54,[(51,A)],.aV (.t 53)⟩,⟨some 55,[(51,A),(54,Z)],.aV (.t 9)⟩,⟨some 56,[(51,A),(54,Z)],.call 168 [.t 55]⟩,⟨some 57,[(51,A),(54,Z)],.bin .eql (.t 56) (.c (.I 1))⟩,⟨some 58,[(51,A)],.pick (.t 54) (.c (.b A)) (.t 57)⟩,z 59 (.pick (.t 51) (.t 58) (.c (.b Z))),zm 2 46,z 3 (.aV (.c (.I 4))),zm 4 59]) (.ret)))))) (.skip))))))))))) (.seq (.ar [] [z 2 (.aV (.c (.i .u8 0))),z 3 (.aV (.c (.I 0))),z 4 (.aV (.c (.b Z)))]) (.ret))))⟩
def ajf:cu θ f156=N acP:=by kernel_rfl
def FM:bH:=.seq (.seq (.ar [] [zm 19 5,zm 20 0,z 21 (.len A (.t 20)),z 22 (.bin .lss (.t 19) (.t 21))]) (.ite (.t 22) (.skip) (.exit 0))) (.seq (.block 1 (.seq (.seq (.ar [30,31,32,33] [zm 25 0,zm 26 5,z 27 (.fN (.t 25) (.t 26)),z 28 (.bin .lss (.t 27) (.c (.i .u8 48))),zm 29 28,⟨some 30,[(29,Z)],.aV (.t 0)⟩,⟨some 31,[(29,Z)],.aV (.t 5)⟩,⟨some 32,[(29,Z)],.fN (.t 30) (.t 31)⟩,⟨some 33,[(29,Z)],.bin .gtr (.t 32) (.c (.i .u8 57))⟩,z 34 (.pick (.t 29) (.c (.b A)) (.t 33))]) (.ite (.t 34) (.seq (.ar [] [z 2 (.aV (.c (.I 0))),z 3 (.aV (.c (.b Z)))]) (.ret)) (.skip))) (.ar [] [zm 35 4,z 36 (.bin .mul (.c (.I 10)) (.t 35)),zm 37 0,zm 38 5,z 39 (.fN (.t 37) (.t 38)),z 40 (.bin .sub (.t 39) (.c (.i .u8 48))),z 41 (.Hm .i64 (.t 40)),z 42 (.bin .add (.t 36) (.t 41)),zm 4 42]))) (.ar [] [zm 23 5,z 24 (.bin .add (.t 23) (.c (.I 1))),zm 5 24]))
def ab7:cm:=⟨46,[.t 2,.t 3],.seq (.ar [] [z 2 (.aV (.c (.I 0))),z 3 (.aV (.c (.b Z)))]) (.seq (.seq (.ar [10,11,12,15,16,17] [zm 6 0,z 7 (.len A (.t 6)),z 8 (.bin .lss (.t 7) (.c (.I 1))),zm 9 8,⟨some 10,[(9,Z)],.aV (.t 0)⟩,⟨some 11,[(9,Z)],.len A (.t 10)⟩,⟨some 12,[(9,Z)],.bin .gtr (.t 11) (.c (.I 3))⟩,z 13 (.pick (.t 9) (.c (.b A)) (.t 12)),zm 14 13,⟨some 15,[(14,Z)],.aV (.t 0)⟩,⟨some 16,[(14,Z)],.fN (.t 15) (.c (.I 0))⟩,⟨some 17,[(14,Z)],.bin .eql (.t 16) (.c (.i .u8 48))⟩,z 18 (.pick (.t 14) (.c (.b A)) (.t 17))]) (.ite (.t 18) (.seq (.ar [] [z 2 (.aV (.c (.I 0))),z 3 (.aV (.c (.b Z)))]) (.ret)) (.skip))) (.seq (.ar [] [z 4 (.aV (.c (.I 0)))]) (.seq (.seq (.ar [] [z 5 (.aV (.c (.I 0)))]) (.block 0 (.loop FM))) (.seq (.ar [] [zm 43 4,zm 44 4,z 45 (.bin .leq (.t 44) (.c (.I 999))),zm 2 43,zm 3 45]) (.ret)))))⟩
def aiA:cu θ f211=N ab7:=by kernel_rfl
def acM:cm:=⟨30,[.t 2],.seq (.ar [] [z 2 (.aV (.c (.b Z)))]) (.seq (.ar [6,7,10,11,14,15,18,19,22,23,26,27,28] [zm 3 0,z 4 (.bin .neq (.t 3) (.c (.i .u8 92))),zm 5 4,⟨N 6,[(5,A)],.aV (.t 0)⟩,⟨N 7,[(5,A)],.bin .neq (.t 6) (.c (.i .u8 60))⟩,z 8 (.pick (.t 5) (.t 7) (.c (.b Z))),zm 9 8,⟨N 10,[(9,A)],.aV (.t 0)⟩,⟨N 11,[(9,A)],.bin .neq (.t 10) (.c (.i .u8 123))⟩,z 12 (.pick (.t 9) (.t 11) (.c (.b Z))),zm 13 12,⟨N 14,[(13,A)],.aV (.t 0)⟩,⟨N 15,[(13,A)],.bin .neq (.t 14) (.c (.i .u8 9))⟩,z 16 (.pick (.t 13) (.t 15) (.c (.b Z))),zm 17 16,⟨N 18,[(17,A)],.aV (.t 0)⟩,⟨N 19,[(17,A)],.bin .neq (.t 18) (.c (.i .u8 10))⟩,z 20 (.pick (.t 17) (.t 19) (.c (.b Z))),zm 21 20,⟨N 22,[(21,A)],.aV (.t 0)⟩,⟨N 23,[(21,A)],.bin .neq (.t 22) (.c (.i .u8 13))⟩,z 24 (.pick (.t 21) (.t 23) (.c (.b Z))),zm 25 24,⟨N 26,[(25,A)],.aV (.t 0)⟩,⟨N 27,[(25,A)],.call 168 [.t 26]⟩,⟨N 28,[(25,A)],.bin .neq (.t 27) (.c (.i .i64 1))⟩,z 29 (.pick (.t 25) (.t 28) (.c (.b Z))),zm 2 29]) (.ret))⟩
def ajc:cu θ f159=N acM:=by kernel_rfl
def Bp:bH:=.seq (.seq (.ar [] [zm 7 5,zm 8 1,z 9 (.len A (.t 8)),z 10 (.bin .lss (.t 7) (.t 9))]) (.ite (.t 10) (.skip) (.exit 0))) (.seq (.block 1 (.seq (.ar [] [zm 13 1,zm 14 5,z 15 (.fN (.t 13) (.t 14)),zm 6 15]) (.block 2 (.seq (.ar [] [zm 26 6,z 27 (.call 159 [.t 26]),zm 25 27]) (.ite (.t 25) (.ar [] [zm 28 0,zm 29 6,z 30 (.bN 1 [Y] [.t 29]),z 31 (.app 5 1 1 (.t 28) (.t 30)),zm 0 31]) (.seq (.ar [] [zm 33 6,z 34 (.bin .eql (.t 33) (.c (.i .u8 10))),zm 32 34]) (.ite (.t 32) (.ar [] [zm 35 0,z 36 (.bN 1 [Y] [.c (.i .u8 92),.c (.i .u8 110)]),z 37 (.app 5 1 1 (.t 35) (.t 36)),zm 0 37]) (.seq (.ar [] [zm 39 6,z 40 (.bin .eql (.t 39) (.c (.i .u8 9))),zm 38 40]) (.ite (.t 38) (.ar [] [zm 41 0,z 42 (.bN 1 [Y] [.c (.i .u8 92),.c (.i .u8 116)]),z 43 (.app 5 1 1 (.t 41) (.t 42)),zm 0 43]) (.seq (.ar [48,49,52,53] [zm 45 6,z 46 (.bin .eql (.t 45) (.c (.i .u8 92))),zm 47 46,⟨some 48,[(47,Z)],.aV (.t 6)⟩,⟨some 49,[(47,Z)],.bin .eql (.t 48) (.c (.i .u8 60))⟩,z 50 (.pick (.t 47) (.c (.b A)) (.t 49)),zm 51 50,⟨some 52,[(51,Z)],.aV (.t 6)⟩,⟨some 53,[(51,Z)],.bin .eql (.t 52) (.c (.i .u8 123))⟩,z 54 (.pick (.t 51) (.c (.b A)) (.t 53)),zm 44 54]) (.ite (.t 44) (.ar [] [zm 55 0,zm 56 6,z 57 (.bN 1 [Y] [.c (.i .u8 92),.t 56]),z 58 (.app 5 1 1 (.t 55) (.t 57)),zm 0 58]) (.dH [] [zm 16 0,zm 17 6,z 18 (.bin .shr (.t 17) (.c (.i .u64 4))),z 19 (.fN (.c (.s [48,49,50,51,52,53,54,55,56,57,97,98,99,100,101,102])) (.t 18)),zm 20 6,z 21 (.bin .and (.t 20) (.c (.i .u8 15))),z 22 (.fN (.c (.s [48,49,50,51,52,53,54,55,56,57,97,98,99,100,101,102])) (.t 21)),z 23 (.bN 1 [Y] [.c (.i .u8 92),.c (.i .u8 120),.t 19,.t 22])] [] [z 24 (.app 5 1 1 (.t 16) (.t 23)),zm 0 24])))))))))))) (.ar [] [zm 11 5,z 12 (.bin .add (.t 11) (.c (.I 1))),zm 5 12]))
def abS:cm:=⟨60,[.t 4],.seq (.ar [] [z 4 (.aV (.c .nil))]) (.seq (.seq (.ar [] [z 5 (.aV (.c (.I 0)))]) (.block 0 (.loop Bp))) (.seq (.ar [] [zm 59 0,zm 4 59]) (.ret)))⟩
def ail:cu θ f241=N abS:=by kernel_rfl
def acN:cm:=⟨60,[.c 2 (N 3),.t 3],.seq (.ar [] [z 2 (.alloc 61 [.I 0,.s [],.I 0]),z 3 (.aV (.c (.b Z)))]) (.seq (.ar [] [z 10 (.build [.I 0,.s [],.I 0] [(0,1,.c (.I 2))]),z 4 (.alloc 61 [.I 0,.s [],.I 0]),zs (.store 3 [Y,Y,Y] (.t 4) (.t 10))]) (.seq (.seq (.ar [] [zm 11 0,z 12 (.call 209 [.t 11,.c (.s [47])])]) (.ite (.t 12) (.dH [([zm 13 0,z 14 (.fM (.t 13) (N (.c (.I 1))) Y),zf 15 0 4],zs (.store 1 [Y] (.t 15) (.c (.I 3))),[])] [] [] [zm 0 14]) (.skip))) (.seq (.ar [] [zm 17 0,z 18 (.call 206 [.t 17,.c (.s [58])]),zm 16 18,z 19 (.ext 0 (.t 16)),z 20 (.ext 1 (.t 16)),z 21 (.ext 2 (.t 16)),zm 5 19,zm 6 20,zm 7 21]) (.seq (.seq (.ar [26,27] [zf 22 0 4,zl 23 22,z 24 (.bin .eql (.t 23) (.c (.I 2))),zm 25 24,⟨N 26,[(25,A)],.aV (.t 6)⟩,⟨N 27,[(25,A)],.call 210 [.t 26,.c (.s [47])]⟩,z 28 (.pick (.t 25) (.t 27) (.c (.b Z)))]) (.ite (.t 28) (.dH [([zm 29 6,zm 30 6,z 31 (.len A (.t 30)),z 32 (.bin .sub (.t 31) (.c (.I 1))),z 33 (.fM (.t 29) Y (N (.t 32))),zf 34 0 4],zs (.store 1 [Y] (.t 34) (.c (.I 4))),[z 31 (.len A (.t 30))])] [] [] [zm 6 33]) (.skip))) (.seq (.ar [] [zm 36 5,z 37 (.call 211 [.t 36]),zm 35 37,z 38 (.ext 0 (.t 35)),z 39 (.ext 1 (.t 35)),zm 8 38,zm 9 39]) (.seq (.seq (.ar [43,44] [zm 40 7,z 41 (.un .not (.t 40)),zm 42 41,⟨N 43,[(42,Z)],.aV (.t 9)⟩,⟨N 44,[(42,Z)],.un .not (.t 43)⟩,z 45 (.pick (.t 42) (.c (.b A)) (.t 44))]) (.ite (.t 45) (.seq (.ar [] [z 46 (.build [.I 0,.s [],.I 0] []),zs (.store 3 [Y,Y,Y] (.t 2) (.t 46)),z 3 (.aV (.c (.b Z)))]) (.ret)) (.skip))) (.seq (.ar [] [zm 47 6,zm 48 8,zf 49 1 4,zs (.store 1 [Y] (.t 49) (.t 47)),zf 50 2 4,zs (.store 1 [Y] (.t 50) (.t 48))]) (.seq (.seq (.ar [] [zf 51 0 4,zl 52 51,z 53 (.bin .eql (.t 52) (.c (.I 3)))]) (.ite (.t 53) (.seq (.dH [([zL 54 3 4,zm 55 6],z 56 (.call 117 [.t 55]),[zL 54 3 4])] [] [] [zs (.store 3 [Y,Y,Y] (.t 2) (.t 54)),zm 3 56]) (.ret)) (.skip))) (.seq (.dH [([zL 57 3 4,zm 58 6],z 59 (.call 154 [.t 58]),[zL 57 3 4])] [] [] [zs (.store 3 [Y,Y,Y] (.t 2) (.t 57)),zm 3 59]) (.ret))))))))))⟩
def ajd:cu θ f158=N acN:=by kernel_rfl
def p99:cm:=⟨76,[.c 2 (some 3),.t 3,.t 4],.seq (.ar [] [z 2 (.alloc 61 [.I 0,.s [],.I 0]),z 3 (.aV (.c (.I 0))),z 4 (.aV (.c (.b Z)))]) (.seq (.block 0 (.seq (.ar [] [zm 13 0,z 14 (.fN (.t 13) (.c (.I 0))),z 15 (.bin .eql (.t 14) (.c (.i .u8 92))),zm 12 15]) (.ite (.t 12) (.seq (.ar [] [zm 17 0,z 18 (.call 156 [.t 17]),zm 16 18,z 19 (.ext 0 (.t 16)),z 20 (.ext 1 (.t 16)),z 21 (.ext 2 (.t 16)),zm 5 19,zm 6 20,zm 7 21]) (.seq (.ar [] [zm 22 5,z 23 (.bN 1 [Y] [.t 22]),z 24 (.G5 (.t 23)),z 25 (.build [.I 0,.s [],.I 0] [(0,1,.c (.I 1)),(1,1,.t 24)]),zm 26 6,zm 27 7,zs (.store 3 [Y,Y,Y] (.t 2) (.t 25)),zm 3 26,zm 4 27]) (.ret))) (.seq (.ar [] [zm 29 0,z 30 (.fN (.t 29) (.c (.I 0))),z 31 (.bin .eql (.t 30) (.c (.i .u8 60))),zm 28 31]) (.ite (.t 28) (.seq (.ar [] [zm 32 0,z 33 (.call 157 [.t 32,.c (.i .u8 62)]),zm 8 33]) (.seq (.seq (.ar [] [zm 34 8,z 35 (.bin .lss (.t 34) (.c (.I 0)))]) (.ite (.t 35) (.seq (.ar [] [z 36 (.build [.I 0,.s [],.I 0] []),zs (.store 3 [Y,Y,Y] (.t 2) (.t 36)),z 3 (.aV (.c (.I 0))),z 4 (.aV (.c (.b Z)))]) (.ret)) (.skip))) (.seq (.ar [] [zm 38 0,zm 39 8,z 40 (.fM (.t 38) (some (.c (.I 1))) (some (.t 39))),z 41 (.call 158 [.t 40]),zm 37 41,z 42 (.ext 0 (.t 37)),z 43 (.ext 1 (.t 37)),z 9 (.alloc 61 [.I 0,.s [],.I 0]),zs (.store 3 [Y,Y,Y] (.t 9) (.t 42)),zm 10 43]) (.seq (.ar [] [zL 44 3 9,zm 45 8,z 46 (.bin .add (.t 45) (.c (.I 1))),zm 47 10,zs (.store 3 [Y,Y,Y] (.t 2) (.t 44)),zm 3 46,zm 4 47]) (.ret))))) (.seq (.ar [] [zm 49 0,z 50 (.fN (.t 49) (.c (.I 0))),z 51 (.bin .eql (.t 50) (.c (.i .u8 123))),zm 48 51]) (.ite (.t 48) (.seq (.ar [] [zm 52 0,z 53 (.call 157 [.t 52,.c (.i .u8 125)]),zm 11 53]) (.seq (.seq (.ar [57,58,59,60,61] [zm 54 11,z 55 (.bin .lss (.t 54) (.c (.I 0))),zm 56 55,⟨some 57,[(56,Z)],.aV (.t 0)⟩,⟨some 58,[(56,Z)],.aV (.t 11)⟩,⟨some 59,[(56,Z)],.fM (.t 57) (some (.c (.I 1))) (some (.t 58))⟩,⟨some 60,[(56,Z)],.call 117 [.t 59]⟩,⟨some 61,[(56,Z)],.un .not (.t 60)⟩,z 62 (.pick (.t 56) (.c (.b A)) (.t 61))]) (.ite (.t 62) (.seq (.ar [] [z 63 (.build [.I 0,.s [],.I 0] []),zs (.store 3 [Y,Y,Y] (.t 2) (.t 63)),z 3 (.aV (.c (.I 0))),z 4 (.aV (.c (.b Z)))]) (.ret)) (.skip))) (.seq (.ar [] [zm 64 0,zm 65 11,z 66 (.fM (.t 64) (some (.c (.I 1))) (some (.t 65))),z 67 (.build [.I 0,.s [],.I 0] [(0,1,.c (.I 5)),(1,1,.t 66)]),zm 68 11,z 69 (.bin .add (.t 68) (.c (.I 1))),zs (.store 3 [Y,Y,Y] (.t 2) (.t 67)),zm 3 69,z 4 (.aV (.c (.b A)))]) (.ret)))) (.skip)))))))) (.seq (.dH [([zm 70 0,z 71 (.fM (.t 70) Y (some (.c (.i .i64 1)))),z 72 (.build [.I 0,.s [],.I 0] [(0,1,.c (.I 1)),(1,1,.t 71)]),zm 73 0,z 74 (.fN (.t 73) (.c (.I 0)))],z 75 (.call 159 [.t 74]),[z 72 (.build [.I 0,.s [],.I 0] [(0,1,.c (.I 1)),(1,1,.t 71)])])] [] [] [zs (.store 3 [Y,Y,Y] (.t 2) (.t 72)),z 3 (.aV (.c (.I 1))),zm 4 75]) (.ret)))⟩
def c99:cu θ f99=N p99:=by kernel_rfl
open Go.Bt
def QQ:bO θ 153 [.agg U.aoZ] J (.I (width U)):=by
 refine a6 func153 aji λa b=>ay ?_;simp only[acS,It.aoZ,SS,seval];simp only[W,seval];refine⟨λh=>?_,λh=>?_⟩;.exact bl a (.inr rfl) rfl (by simp[LW]) (by simp at h;simp[one,width,h])
 exact bl a (.inr rfl) rfl (by simp[LW]) (by simp at h;simp[one,width,h])
def YY(k:bT X)(e:F a<2^63):∀(c pre:List It) (d:Int),a=pre++c ->(K (.exit 0) ⟨[.sl 3 (a.map It.aoZ),u,.I 0,.I (eW d c),u,u,.sl 3 (a.map It.aoZ),.I (F a),.I (F a),.b Z,u,u,u,u,u,u,u,u],X⟩) ->fS (F X) θ Mu K (F c+1) ⟨[.sl 3 (a.map It.aoZ),u,.I 0,.I d,u,u,.sl 3 (a.map It.aoZ),.I (F a),.I (F pre),u,u,u,u,u,u,u,u,u],X⟩:=by
 intro c;induction c with
 |nil =>intro pre d f g;subst f;refine aF λR i=>?_;simp only[Mu,W,seval];refine⟨λh=>by simp at h,λ_=>?_⟩;simpa[eW]using g
 |cons x c ih =>
 intro pre d f g;subst f;refine aF λR i=>?_;simp only[Mu,xU,It.aoZ,W,seval];refine⟨λ_=>⟨?_,?_⟩,λh=>?_⟩;.simp;omega
 .refine aA (QQ x _) rfl ?_;simp only[W,seval];refine i _ ?_;have j:=dY pre x (by simp at e;omega);rw[j];refine oK (ax _) k ?_ ?_ (ih (pre++[x]) (IntKind.i64.wrap (d+width x)) (by simp) ?_);.repeat first|exact .nil|refine .cons (.refl _) ?_|refine .cons (.forget _) ?_
  .simp only[LW]
  simpa[eW]using g
 simp at h;omega
def Po:bO θ 95 [.sl 3 (a.map It.aoZ)] J (.I (eW 0 a)):=by
 refine a6 func95 c95 λd c=>ay ?_;have b:F a<2^63:=by have:=pw (c 0 _ rfl).1;simpa using this
 simp only[p95,SS,seval];simp only[ae,W,seval];refine cd.xA (F a+1) (YY a d b a [] 0 (by simp) ?_);simp only[W,seval];exact aY (.inr rfl) rfl ⟨rfl,rfl⟩
def VE(aE:F l<2^63):∀(a pre:aJ),l=pre++a ->(a.all iz=A->∀j0 j1 j2 j3 j4 j5 j6 j7 j8 j9 H C S V T j ac n P U B w G M v O d x y am k E D f p ad z Q q ap J av g o m L i r af e t,K (.exit 0) ⟨[j0,j1,j2,j3,j4,j5,j6,j7,j8,j9,H,C,S,V,T,j,ac,n,P,U,B,w,G,M,v,O,d,x,y,am,k,E,D,f,p,ad,z,Q,q,ap,J,av,g,o,m,L,i,r,af,e,t],X⟩) ->(a.all iz=Z->∀j0 j1 j3 j4 j5 j6 j7 j8 j9 H C S V T j ac n P U B w G M v O d x y am k E D f p ad z Q q ap J av g o m L i r af e t,K .ret ⟨[j0,j1,.b Z,j3,j4,j5,j6,j7,j8,j9,H,C,S,V,T,j,ac,n,P,U,B,w,G,M,v,O,d,x,y,am,k,E,D,f,p,ad,z,Q,q,ap,J,av,g,o,m,L,i,r,af,e,t],X⟩) ->fS (F X) θ Ge K (F a+1) ⟨[.s l,u,u,.I (F pre),u,u,u,u,u,u,u,u,u,u,u,u,u,u,u,u,u,u,u,u,u,u,u,u,u,u,u,u,u,u,u,u,u,u,u,u,u,u,u,u,u,u,u,u,u,u,u],X⟩:=by
 intro a;induction a with
 |nil =>intro pre he h1 h2;subst he;refine aF λR hR=>?_;simp only[Ge,W,seval];exact⟨λh=>by simp at h,λ_=>h1 rfl ..⟩
 |cons c a ih =>
 intro pre he h1 h2;subst he;refine aF λR hR=>?_;simp only[Ge,W,seval];refine⟨λ_=>⟨by simp;omega,λh=>?_,λh=>?_⟩,λh=>by simp at h;omega⟩;.refine h2 ?_ ..;simp only[jJ,DX];left;simp at h;simp[iz];omega
 refine hR _ (aX (fr':=[.s (pre++c::a),u,u,.I (F (pre++[c])),u,u,u,u,u,u,u,u,u,u,u,u,u,u,u,u,u,u,u,u,u,u,u,u,u,u,u,u,u,u,u,u,u,u,u,u,u,u,u,u,u,u,u,u,u,u,u]) ?_ (ih (pre++[c]) (by simp) (λh2=>h1 ?_) (λh3=>h2 ?_)));.rw[cq (by simp at aE;omega)];simp only[ai,ah,az];repeat first|exact .nil|refine .cons (.refl _) ?_|refine .cons (.forget _) ?_
 .simp[h2];simp at h;simp[iz];omega
 simp[h3]
def Sj:bO θ 127 [.I x] J (.b Z):=by refine a6 func127 ajv λc a=>ay ?_;simp only[ac5,SS,seval];simp only[W,seval];exact aY (.inr rfl) rfl (by simp[one])
def Y4(d:F m<2^63):∀(a pre:bG),m=pre++a ->(Aq a=0->((fj 3 (fh (.I 0) (fj 14 fo))) λi=>K (.exit 0) ⟨i,X⟩))->(Aq a≠0->((fj 2 (fh (.I (Aq a)) (fj 15 fo))) λi=>K .ret ⟨i,X⟩)) ->fS (F X) θ MG K (F a+1) ⟨(uu 3 (.I 0::uu 2 (.sl 1 (m.map cg)::.I (F m)::.I (F pre)::uu 9 []))),X⟩:=by
 intro a;induction a with
 |nil =>intro pre g f b;subst g;refine aF λR j=>?_;simp only[MG,W,seval];exact⟨λh=>by simp at h,λ_=>f rfl ..⟩
 |cons c a ih =>
 intro pre g f b;subst g;refine aF λR j=>?_;simp only[MG,W,seval];simp only[cg,W,seval];refine⟨λ_=>⟨by simp;omega,λh=>?_,λh=>?_⟩,λh=>by simp at h;omega⟩
 .simp at h;have e:Aq (c::a)=c:=by simp[Aq,h]
  rw[e]at b;exact b h ..
 simp at h;have e:Aq (c::a)=Aq a:=by simp[Aq,h]
 rw[e]at f b;refine j _ (aX ?_ (ih (pre++[c]) (by simp) f b));rw[cq (by simp at d;omega)];simp only[ai,ah,az];repeat' constructor
def YI:bO θ 62 [.sl 1 (m.map cg)] J (.I (Aq m)):=by
 refine a6 func62 c62 λc b=>ay ?_;have a:F m<2^63:=by simpa using pw (b 0 _ rfl).1
 simp only[p62,SS,seval];simp only[ae,W,seval];refine cd.aX ?_ (F m+1) (Y4 m a m [] (by simp) ?_ ?_);.repeat' constructor
 .intro h;simp only[W,seval];simp only[JE];intros;exact aY (.inr rfl) rfl (by simp[one,h])
 intro h;simp only[W,seval];simp only[JE];intros;exact aY (.inr rfl) rfl ⟨rfl,rfl⟩
def Yz:Ti θ 3 1 8:=nQ (by kernel_rfl)
def vR:bO θ 208 [.s l,.i .u8 c.toNat] J (.I (Lib.indexByte l c)):=by
 refine PC.Gn λw h g a=>?_;obtain⟨x,f,b,_⟩:=(a.2 0 _ rfl).mi;have d:=(a.2 1 _ rfl).fE;refine⟨.int .i64 (Lib.indexByte l c),?_,.i _ _⟩;rw[vs2 a.1,f,d];refine(Tryz.mK x c.toNat w).mono ?_;rintro e j ⟨rfl,rfl⟩;refine⟨?_,rfl⟩;rw[b];have:((c.toNat:Int).toNat).toUInt8=c:=by simp
 rw[this]
def rG:bO θ 157 [.s l,.i .u8 c.toNat] J (.I (Lib.indexByte l c)):=by refine a6 func157 aje λb a=>ay ?_;simp only[acO,SS,seval];simp only[W,seval];refine aA (vR l c _) rfl ?_;simp only[W,seval];exact aY (.inr rfl) rfl ⟨rfl,rfl⟩
def Dg:bO θ 272 [.s l,.s [c]] J (.I (Lib.indexByte l c)):=by
 refine PC.Gn λw k j b=>?_;obtain⟨x,g,d,_⟩:=(b.2 0 _ rfl).mi;obtain⟨y,f,a,_⟩:=(b.2 1 _ rfl).mi;refine⟨.int .i64 (Lib.indexByte l c),?_,.i _ _⟩;have e:y=⟨#[c]⟩:=by
  have h:y.data=#[c]:=by apply Array.toList_inj.1;rw[a]
  cases y;simp_all
 rw[vs2 b.1,g,f,e];refine(Tryz.mJ x c w).mono ?_;rintro e m ⟨rfl,rfl⟩;exact⟨by rw[d],rfl⟩
def HP:bO θ 246 [.s l,.s [c]] J (.gy [.s (cutAt l c).1,.s (cutAt l c).2.1,.b (cutAt l c).2.2]):=by
 refine a6 func246 aii λi a=>ay ?_;simp only[abP,SS,seval];simp only[W,seval];refine aA (Dg l c _) rfl ?_;simp only[W,Nat.reduceAdd,Nat.reduceSub,Nat.reduceLeDiff,Nat.reduceEqDiff,Int.reduceToNat,reduceIte,reduceCtorEq];have j:=kY l c;have g:=Da (a 0 _ rfl).1;refine⟨λh=>?_,λh=>?_⟩
 .simp only[a7]at h;have d:IntKind.i64.wrap (Lib.indexByte l c+((1:Nat):Int))=Lib.indexByte l c+1:=IntWalk.i64_in _ (by omega);rw[d];refine⟨by omega,by omega,aY (.inr rfl) rfl ⟨?_,rfl⟩⟩;have e:(Lib.indexByte l c+1).toNat=(Lib.indexByte l c).toNat+1:=by omega
  have f:(l.drop ((Lib.indexByte l c).toNat+1)).take (F l - ((Lib.indexByte l c).toNat+1))=l.drop ((Lib.indexByte l c).toNat+1):=cn (by simp);simp only[one,cutAt,h,aU,e,f,qd,aO,aZ]
 simp only[cI]at h;exact aY (.inr rfl) rfl ⟨by simp only[one,cutAt,h,aQ,aO,aZ],rfl⟩
def Cs:bO θ 206 [.s l,.s [c]] J (.gy [.s (cutAt l c).1,.s (cutAt l c).2.1,.b (cutAt l c).2.2]):=by refine a6 func206 aiE λd a=>ay ?_;simp only[acb,SS,seval];simp only[W,seval];refine aA (HP l c _) rfl ?_;simp only[W,seval];exact aY (.inr rfl) rfl ⟨rfl,rfl⟩
def vT:bO θ 248 [.s l,.s p] J (.b (apj l p)):=by refine a6 func248 aih λc a=>ay ?_;simp only[abO,SS,seval];simp only[W,seval];refine⟨λh=>by simp at h;omega,aY (.inr rfl) rfl ⟨?_,rfl⟩⟩;simp[one,apj]
def GJ:bO θ 209 [.s l,.s p] J (.b (apj l p)):=by refine a6 func209 aiC λc a=>ay ?_;simp only[ab9,SS,seval];simp only[W,seval];refine aA (vT l p _) rfl ?_;simp only[W,seval];exact aY (.inr rfl) rfl ⟨rfl,rfl⟩
def vS:bO θ 249 [.s l,.s p] J (.b (hasSuffix l p)):=by
 refine a6 func249 aif λi c=>ay ?_;simp only[abN,SS,seval];simp only[W,seval];have g:=Da (c 0 _ rfl).1;have j:=Da (c 1 _ rfl).1;have d:IntKind.i64.wrap ((F l:Int) - (F p:Int))=F l - F p:=IntWalk.i64_in _ (by omega);rw[d];refine⟨λh=>by simp at h;omega,aY (.inr rfl) rfl ⟨?_,rfl⟩⟩;simp only[one,hasSuffix,aO,aZ];by_cases a:F p<=F l
 .have e:((F l:Int) - (F p:Int)).toNat=F l - F p:=by omega
  have f:(l.drop (F l - F p)).take (F l - (F l - F p))=l.drop (F l - F p):=cn (by simp);simp[e,f,a]
 simp[a]
def GH:bO θ 210 [.s l,.s p] J (.b (hasSuffix l p)):=by refine a6 func210 aiB λc a=>ay ?_;simp only[ab8,SS,seval];simp only[W,seval];refine aA (vS l p _) rfl ?_;simp only[W,seval];exact aY (.inr rfl) rfl ⟨rfl,rfl⟩
def IU:bO θ 155 [.s l] J (.s (dj l)):=by refine a6 func155 ajg λb a=>ay ?_;simp only[acQ,SS,seval];simp only[W,seval];refine aA (Cs l 32 _) rfl ?_;simp only[W,seval];exact aY (.inr rfl) rfl ⟨rfl,rfl⟩
def zS:bO θ 160 [.s l] J (.s (dj l)):=by refine a6 func160 ajb λb a=>ay ?_;simp only[acL,SS,seval];simp only[W,seval];refine aA (Cs l 32 _) rfl ?_;simp only[W,seval];exact aY (.inr rfl) rfl ⟨rfl,rfl⟩
set_option maxRecDepth 8000 in
def nk:bO θ 168 [.i .u8 c.toNat] J (.I (du c)):=by refine a6 func168 ai3 λg a=>ay ?_;simp only[acD,SS,seval];simp only[W,seval];clear a g;refine⟨λe=>?_,λe=>⟨λb=>?_,λb=>⟨λf=>?_,λf=>⟨λd=>?_,λd=>?_⟩⟩⟩⟩<;>refine aY (.inr rfl) rfl ⟨?_,rfl⟩<;>simp at*<;> simp only[one,du,aO,aZ,V.i.injEq,gL]<;>(repeat' split)<;>omega
def kX:bO θ 117 [.s l] J (.b (apb l)):=by
 refine a6 func117 ajA λg f=>ay ?_;have a:=Da (f 0 _ rfl).1;simp only[ade,SS,seval];simp only[W,seval];refine⟨?_,?_,λh=>?_,λh=>?_⟩;.intro h;simp at h;omega
 .intro h;simp at h;omega
 .refine aY (.inr rfl) rfl ⟨?_,rfl⟩;simp only[one,aO,aZ,V.b.injEq];cases l with|nil=>rfl|cons c r =>simp only[apb];simp at h;simp;omega
 cases l with
 |nil=>simp at h
 |cons c r =>
 have e:apb (c::r)=r.all iz:=by simp only[apb];simp at h;simp;omega
 refine cd.aX ?_ (F r+1) (VE (c::r) a r [c] rfl (λd=>?_) (λd=>?_));.simp only[W,seval];repeat' constructor
 .simp only[W,seval];intros;exact aY (.inr rfl) rfl ⟨by simp only[one,e,d,aO,aZ],rfl⟩
 simp only[W,seval];intros;exact aY (.inr rfl) rfl ⟨by simp only[one,e,d,aO,aZ],rfl⟩
def s9:bO θ 97 [.agg U.aoZ] J (.b (bW U)):=by refine a6 func97 c97 λa c=>ay ?_;simp only[p97,It.aoZ,SS,seval];simp only[W,seval];exact bl a (.inr rfl) rfl (by simp[LW]) ⟨rfl,rfl⟩
def Vz(f:F l<2^63):∀(a pre:aJ),l=pre++a ->(a.all (λb=>!iU b)=A->((fh (.s l) (fj 62 fo)) λi=>K (.exit 0) ⟨i,X⟩))->(a.all (λb=>!iU b)=Z->((fj 2 (fh (.b Z) (fj 60 fo))) λi=>K .ret ⟨i,X⟩)) ->fS (F X) θ F5 K (F a+1) ⟨(.s l::uu 2 (.I (F pre)::uu 59 [])),X⟩:=by
 intro a;induction a with
 |nil =>intro pre d j g;have d:=db d;subst d;refine aF λR k=>?_;simp only[F5,W,seval];exact⟨λh=>by simp at h,λ_=>j rfl ..⟩
 |cons c a ih =>
 intro pre d j g;subst d;refine aF λR k=>?_;simp only[F5,W,seval];refine⟨λ_=>⟨by simp;omega,λ_=>by simp;omega,λ_=>by simp;omega,?_⟩,λh=>by simp at h;omega⟩;refine b7 rfl (λ_=>rG [60,62,123,125] c _) rfl ?_;simp only[W,seval];have e:(decide ((c.toNat:Int)<32)||decide (126<(c.toNat:Int))||decide (0<=Lib.indexByte [60,62,123,125] c))=iU c:=by simp only[iU];congr 2<;>exact decide_eq_decide.2 (by omega)
 rw[e];refine⟨λh=>?_,λh=>?_⟩;.exact g (by simp[h]) ..
 refine k _ (aX ?_ (ih (pre++[c]) (by simp) (λe=>j (by simp[h,e])) (λe=>g (by simp only[jJ,e,ir]))));rw[cq (by simp at f;omega)];simp only[ai,ah,az];repeat' constructor
def og:bO θ 154 [.s l] J (.b (dx l)):=by
 refine a6 func154 ajh λk i=>ay ?_;have a:=Da (i 0 _ rfl).1;simp only[acR,SS,seval];simp only[W,seval];have f:∀n:Nat,n<2^63->0<n->IntKind.i64.wrap ((n:Int) - 1)=((n - 1:Nat):Int):=λn d j=>by rw[IntWalk.i64_in _ (by omega)];omega
 have g:∀h:F l≠0,IntKind.i64.wrap ((F l:Int) - 1)=((F l - 1:Nat):Int):=λh=>f _ a (by omega);by_cases c:F l=0;.refine⟨λh=>by simp[c]at h,λ_=>?_,λh=>by simp[c]at h⟩;exact aY (.inr rfl) rfl ⟨by simp[one,dx,jR,c],rfl⟩
 rw[g c];refine⟨λ_=>by omega,λh=>?_,λh=>?_⟩
 .refine aY (.inr rfl) rfl ⟨?_,rfl⟩;have e:jR l=Z:=by simp only[jR];simp[c]at h |-;omega
  simp only[one,dx,e,eA,aO,aZ]
 have e:jR l=A:=by simp only[jR];simp[c]at h |-;omega
 refine cd.aX ?_ (F l+1) (Vz l a l [] rfl (λd=>?_) (λd=>?_));.simp only[W,seval];repeat' constructor
 .simp only[JE];intros;simp only[W,seval];refine aA (Cs l 32 _) rfl ?_;simp only[W,seval];refine aA (kX _ _) rfl ?_;simp only[W,seval];refine aY (.inr rfl) rfl ⟨?_,rfl⟩;simp only[one,dx,e,d,jQ,cY,aO,aZ];congr 3;exact decide_eq_decide.2 (by omega)
 simp only[JE];intros;simp only[W,seval];exact aY (.inr rfl) rfl ⟨by simp only[one,dx,e,d,cY,eA,aO,aZ],rfl⟩
def YX(c:List It)(r:bT X)(f:F c<2^63):∀(a pre:List It),c=pre++a ->(fits a U=A->((fj 40 fo) λl=>K (.exit 0) ⟨l,X++[.box 61 U.aoZ]⟩))->(fits a U=Z->∀n,((fj 4 (fh (.b Z) (fj 35 fo))) λl=>K .ret ⟨l,X++n⟩)) ->fS (F X) θ Ms K (F a+1) ⟨(uu 3 (.ptr (F X) 0::uu 3 (.sl 3 (c.map It.aoZ)::.I (F c)::.I (F pre)::uu 30 []))),X++[.box 61 U.aoZ]⟩:=by
 intro a;induction a with
 |nil =>intro pre i k j;have i:=db i;subst i;refine aF λR p=>?_;simp only[Ms,W,seval];exact⟨λh=>by simp at h,λ_=>k rfl ..⟩
 |cons y a ih =>
 intro pre i k j;subst i;refine aF λR p=>?_;simp only[Ms,It.aoZ,W,seval];refine⟨λ_=>⟨by simp;omega,?_⟩,λh=>by simp at h;omega⟩;refine aA (s9 y _) rfl ?_;simp only[W,seval];have q:bT (X++[.box 61 U.aoZ]):=cL r (by simp[It.aoZ,fY,Ve,YS]);have d:fits (y::a) U=fits a U->∀g,pe g ((uu 3 (.ptr (F X) 0::uu 3 (.sl 3 ((pre++y::a).map It.aoZ)::.I (F (pre++y::a))::.I (F (pre++[y]))::uu 30 []))))->∀o,R ⟨g,X++[.box 61 U.aoZ,o]⟩:=by intro e g s o;rw[e]at k j;refine p _ (cC [.box 61 U.aoZ] [o] q s ?_ (ih (pre++[y]) (by simp) k j));simp only[LW,ah,az,bq];omega
 refine⟨λh=>?_,λh=>?_⟩
 .refine d ?_ _ ?_ _
  .have:eY U y=Z:=by simp only[eY,h,fL,eA]
   simp[fits,this]
  rw[cq (by simp at f;omega)];simp only[ai,ah,az];repeat' constructor
 refine b7 rfl (λ_=>IU y.ao3 _) rfl ?_;simp only[W,seval];refine⟨λm=>?_,λm=>?_⟩
 .refine j ?_ _ ..;have:eY U y=A:=by simp only[eY,h,iq,cY];exact m
  simp[fits,this]
 refine d ?_ _ ?_ _
 .have:eY U y=Z:=by simp only[eY,h,iq,cY];exact m
  simp[fits,this]
 rw[cq (by simp at f;omega)];simp only[ai,ah,az];repeat' constructor
def W2(a:List It)(J:ag):bO θ 98 [.sl 3 (a.map It.aoZ),.agg U.aoZ] J (.b (fits a U)):=by
 refine a6 func98 c98 λe f=>ay ?_;have c:=pw (f 0 _ rfl).1;rw[ae]at c;simp only[p98,SS,seval];simp only[ae,W,seval];refine⟨by simp[It.aoZ,gD,gA],?_⟩;refine cd.aX ?_ (F a+1) (YX U a e c a [] rfl (λd=>?_) (λd=>?_));.simp only[W,seval];repeat' constructor
 .simp only[JE];intros;simp only[W,seval];exact bl e (.inr rfl) rfl (by simp[LW]) ⟨by simp[one,d],rfl⟩
 simp only[JE];intros;simp only[W,seval];exact bl e (.inr rfl) rfl (by simp[LW]) ⟨by simp[one,d],rfl⟩
set_option maxRecDepth 8000 in
def Db(pre f:List It)(x:It)(J:ag):bO θ 96 [.sl 3 ((pre++x::f).map It.aoZ),.I (F pre)] J (.b (bQ pre.getLast? x)):=by
 refine a6 func96 c96 λg o=>ay ?_;have d:=pw (o 0 _ rfl).1;rw[ae]at d;simp only[p96,SS,seval];simp only[It.aoZ,W,seval];refine⟨by simp;omega,λa=>?_,λa=>⟨λj=>?_,λj=>?_⟩⟩
 .simp only[b9]at a;have q:∀y c,pre=c++[y]->IntKind.i64.wrap ((F pre:Int) - 1)=F c:=λy c e=>by
   subst e;have:F (c++[y])<2^63:=by simp at d |-;omega
   rw[IntWalk.i64_in _ (by omega)];simp
  rcases fR pre with p|⟨c,y,m⟩;.subst p;refine⟨λh=>by simp at h,.I 0,λh=>by simp at h,?_⟩;simp only[W,seval];refine bl g (.inr rfl) rfl (by simp[LW]) ⟨?_,rfl⟩;simp[one,bQ,a]
  rw[fg]at m;rw[q y c m];subst m;have n:gp (List.map It.aoZ (c++[y]++x::f)) (F c) 0=N (.I y.ao0):=by rw[aS,ki,tH];rfl
  simp only[aG,n];refine⟨λ_=>by simp;omega,.I y.ao0,λ_=>⟨True,rfl,trivial⟩,?_⟩;simp only[W,seval];refine bl g (.inr rfl) rfl (by simp[LW]) ⟨?_,rfl⟩;have r:((F (c++[y]):Int)==0)=Z:=by simp;omega
  simp only[one,bQ,a,r,aU,aO,aZ,kI,ju,qc,ia]
 .refine aA (kX _ _) rfl ?_;simp only[W,seval];simp only[b9,cU]at a j;refine bl g (.inr rfl) rfl (by simp[LW]) ⟨?_,rfl⟩;simp only[one,bQ,a,j,aU,aQ,aO,aZ];simp
 simp only[b9,cU,fJ]at a j;have tagged:(x.ao0=2\/x.ao0=4)->bQ pre.getLast? x=(dx x.ao3&&decide (1<=x.id)&&decide (x.id<=999)):=λh=>by simp only[bQ,a,j,h,aU,aQ]
 refine⟨λi=>⟨λ_=>?_,λh=>?_⟩,λi=>⟨λk=>?_,λk=>⟨λl=>?_,λl=>?_⟩⟩⟩;.refine aA (og _ _) rfl ?_;simp only[W,seval];refine bl g (.inr rfl) rfl (by simp[LW]) ⟨?_,rfl⟩;simp at i;simp only[one,tagged (.inl i),aO,aZ]
 .rw[i]at h;simp at h
 .refine aA (og _ _) rfl ?_;simp only[W,seval];refine bl g (.inr rfl) rfl (by simp[LW]) ⟨?_,rfl⟩;simp at k;simp only[one,tagged (.inr k),aO,aZ]
 .refine aA (kX _ _) rfl ?_;simp only[W,seval];refine bl g (.inr rfl) rfl (by simp[LW]) ⟨?_,rfl⟩;simp at l;simp[one,bQ,l]
 refine bl g (.inr rfl) rfl (by simp[LW]) ⟨?_,rfl⟩;simp at i l k;simp[one,bQ,a,j,i,l,k]
def Zc(o:bT X)(f:F a<2^63):∀(b pre:List It),a=pre++b ->(bA pre b=0->((fj 35 fo) λj=>K (.exit 0) ⟨j,X⟩))->(bA pre b≠0->∀k,((fj 2 (fh (.I (bA pre b)) (fj 32 fo))) λj=>K .ret ⟨j,X++k⟩)) ->fS (F X) θ MM K (F b+1) ⟨(.sl 3 (a.map It.aoZ)::uu 12 (.sl 3 (a.map It.aoZ)::.I (F a)::.I (F pre)::uu 19 [])),X⟩:=by
 intro b;induction b with
 |nil =>intro pre d g c;have d:=db d;subst d;refine aF λR m=>?_;simp only[MM,W,seval];exact⟨λh=>by simp at h,λ_=>g rfl ..⟩
 |cons y b ih =>
 intro pre d g c;subst d;refine aF λR m=>?_;simp only[MM,It.aoZ,W,seval];refine⟨λ_=>⟨by simp;omega,?_⟩,λh=>by simp at h;omega⟩;refine aA (Db pre b y _) rfl ?_;simp only[W,seval];refine⟨λh=>?_,λh=>?_⟩
 .have e:bA pre (y::b)=1:=by simp at h;simp[bA,h]
  rw[e]at c;exact c (by decide) _ ..
 refine aA (s9 y _) rfl ?_;simp only[W,seval];have n:List.take (F pre - 0) (List.map It.aoZ (pre++y::b))=pre.map It.aoZ:=by simp
 simp only[n];refine⟨λ_=>by simp;omega,b7 rfl (λ_=>W2 y pre _) rfl ?_⟩;simp only[W,seval];have l:bQ pre.getLast? y=A:=by simpa using h
 refine⟨λi=>?_,λi=>?_⟩
 .have e:bA pre (y::b)=7:=by simp only[bA,l,i,aU,aQ,vH]
  rw[e]at c;exact c (by decide) _ ..
 have e:bA pre (y::b)=bA (pre++[y]) b:=by simp only[bA,l,i,aQ,vH,aI]
 rw[e]at g c;refine m _ (oK (ax _) o ?_ ?_ (ih (pre++[y]) (by simp) g c));.rw[cq (by simp at f;omega)];simp only[ai,ah,az];repeat' constructor
 simp only[LW]
def lN:bO θ 44 [.sl 3 (a.map It.aoZ)] J (.I (bV a)):=by
 refine a6 func44 c44 λd f=>ay ?_;have b:=pw (f 0 _ rfl).1;rw[ae]at b;simp only[p44,SS,seval];simp only[ae,W,seval];refine b7 rfl (λ_=>Po a _) rfl ?_;simp only[ae,W,seval];refine⟨λh=>?_,λh=>?_⟩
 .refine aY (.inr rfl) rfl ⟨?_,rfl⟩;simp at h;have:512<F a\/1024<eW 0 a:=by omega
  simp only[one,bV,this,aU,aO,aZ]
 simp at h;have c:¬(512<F a\/1024<eW 0 a):=by omega
 refine cd.aX ?_ (F a+1) (Zc a d b a [] rfl (λe=>?_) (λe=>?_));.simp only[W,seval];repeat' constructor
 .simp only[JE];intros;simp only[W,seval];exact aY (.inr rfl) rfl ⟨by simp only[one,bV,c,e,aQ,aO,aZ],rfl⟩
 simp only[JE];intros;simp only[W,seval];exact bl d (.inr rfl) rfl (by simp[LW]) ⟨by simp only[one,bV,c,aQ,aO,aZ],rfl⟩
def VA(p:bT X)(f:F a<2^40):∀(d pre:List It) (c:bG),a=pre++d->F c<=F pre ->(∀t,((fj 3 (fh (.own (F X+1) (F (cQ c d))) (fj 29 fo))) λq=>K (.exit 0) ⟨q,X++[t,.row 3 1 8 (F (cQ c d)) Z ((cQ c d).map cg)]⟩)) ->fS (F X) θ By K (F d+1) ⟨(uu 3 (.own (F X+1) (F c)::.mp (F X)::uu 3 (.sl 3 (a.map It.aoZ)::.I (F a)::.I (F pre)::uu 22 []))),X++[.map 3 4 (ie c),.row 3 1 8 (F c) Z (c.map cg)]⟩:=by
 intro d;induction d with
 |nil =>intro pre c m o g;have m:=db m;subst m;refine aF λR n=>?_;simp only[By,W,seval];exact⟨λh=>by simp at h,λ_=>g _ ..⟩
 |cons y d ih =>
 intro pre c m o g;subst m;refine aF λR n=>?_;by_cases j:y.id∈c
 .have l:c8 (X++[.map 3 4 (ie c),.row 3 1 8 (F c) Z (c.map cg),.box 61 y.aoZ]) 0 (.mp (F X)) (.I y.id)=N (N (0+c.idxOf y.id,.b A)):=by simp only[c8,iP,aH,ue,j,aU]
  simp only[It.aoZ]at l;simp only[By,It.aoZ,W,seval];refine⟨λ_=>⟨by simp;omega,?_⟩,λh=>by simp at h;omega⟩;refine aA (s9 y _) rfl ?_;simp only[l,W,seval];have e:cQ c (y::d)=cQ c d:=by simp[cQ,j]
  rw[e]at g;have k:bT (X++[.map 3 4 (ie c),.row 3 1 8 (F c) Z (c.map cg)]):=cL p (by simp[yJ]);refine⟨λ_=>by simp[V.qE],λh=>by simp at h,λ_=>?_⟩;refine n _ (cC [_,_] [_] k ?_ ?_ (ih (pre++[y]) c (by simp) (by simp;omega) g));.rw[cq (by simp at f;omega)];simp only[ai,ah,az];repeat' constructor
  simp only[LW,ah,az,bq];omega
 have l:c8 (X++[.map 3 4 (ie c),.row 3 1 8 (F c) Z (c.map cg),.box 61 y.aoZ]) 0 (.mp (F X)) (.I y.id)=N Y:=by simp only[c8,iP,aH,ue,j,aQ]
 have v:eL 0 (.I y.id) (ie c) 0=N Y:=by simp only[ue,j,aQ]
 simp only[It.aoZ]at l;simp only[By,It.aoZ,W,seval];refine⟨λ_=>⟨by simp;omega,?_⟩,λh=>by simp at h;omega⟩;refine aA (s9 y _) rfl ?_;simp only[l,v,W,seval];have w:c.contains y.id=Z:=by simpa using j
 refine⟨λ_=>by simp[V.qE],λh=>?_,λh=>?_⟩
 .have e:cQ c (y::d)=cQ (c++[y.id]) d:=by simp[cQ,j,h]
  rw[e]at g;have s:c.map cg++[[V.i .i64 y.id]]=(c++[y.id]).map cg:=by simp[cg]
  have u:ie c++[(V.i .i64 y.id,dB [Y] (V.b A))]=ie (c++[y.id]):=by simp[ie,dB]
  have r:F c+1=F (c++[y.id]):=by simp
  rw[s,u,r];have k:bT (X++[.map 3 4 (ie (c++[y.id])),.row 3 1 8 (F (c++[y.id])) Z ((c++[y.id]).map cg)]):=cL p (by simp[yJ]);refine⟨by simp[V.qE,dB,V.jG,V.cell,V.pure],?_,?_⟩;.simp at f;simp[maxLen];omega
  refine n _ (cC [_,_] [_] k ?_ ?_ (ih (pre++[y]) (c++[y.id]) (by simp) (by simp;omega) g));.rw[cq (by simp at f;omega)];simp only[ai,ah,az];repeat' constructor
  simp only[LW,ah,az,bq];omega
 have e:cQ c (y::d)=cQ c d:=by simp[cQ,h]
 rw[e]at g;have k:bT (X++[.map 3 4 (ie c),.row 3 1 8 (F c) Z (c.map cg)]):=cL p (by simp[yJ]);refine n _ (cC [_,_] [_] k ?_ ?_ (ih (pre++[y]) c (by simp) (by simp;omega) g));.rw[cq (by simp at f;omega)];simp only[ai,ah,az];repeat' constructor
 simp only[LW,ah,az,bq];omega
def zg(b:F a<2^40)(J:ag):PC θ 142 [.sl 3 (a.map It.aoZ)] J (λr d=>r=.own (F J) 0/\d=J++[.row 3 1 8 0 Z ((aph a).map cg)]):=by
 refine a6 func142 ajk λc e=>ay ?_;simp only[acU,SS,seval];simp only[ae,W,seval];refine cd.wk ((Wk.mV (J:=J) [_] (k:=3) Yz rfl).trans (Wk.gW ?_)) (cd.xA (F a+1) (VA a c b a [] [] rfl (ax _) ?_));.simp only[W,seval];repeat' constructor
 simp only[JE];intros;simp only[W,seval];exact rq 1 c (.inr rfl) rfl rfl rfl (by simp[zT,Ob.gen]) (by simp[one,aph,RJ,Ob.fresh])
def KU(b:F a<2^40)(J:ag):bO θ 142 [.sl 3 (a.map It.aoZ)] J (.sl 1 ((aph a).map cg)) :=PC.closed λc=>PC.fz c (zg a b J)
def M5{J:ag}{K:bj}(f:bT J)(a:Nat)(l:a<2^40):∀(k i:Nat),i+k=a ->((fj 3 (fh (.own (F J) 0) (fj 15 fo))) λj=>K (.exit 0) ⟨j,J++[.row 3 1 8 0 Z (gY a a)]⟩) ->fS (F J) θ FO K (k+1) ⟨(uu 3 (.own (F J) 0::uu 4 (.I a::.I i::uu 9 []))),J++[.row 3 1 8 0 Z (gY a i)]⟩
 |0,i,c,h1=>by
  have c:i=a:=by omega
  subst c;refine aF λR d=>?_;simp only[FO,W,seval];exact⟨λh=>by simp at h,λ_=>h1 ..⟩
 |k+1,i,c,h1=>by
  have b:i<a:=by omega
  refine aF λR d=>?_;simp only[FO,uT (Nat.le_of_lt b),DQ b,W,seval];refine⟨λ_=>?_,λh=>by simp at h;omega⟩;have e:=cq (n:=i) (by omega);rw[e];have g:(gY a i).set i [V.i .i64 (((i+1:Nat)):Int)]=gY a (i+1):=by rw[<- DP b];rfl
  rw[g];refine⟨by omega,b,d _ (aX ?_ (M5 f a l k (i+1) (by omega) h1))⟩;repeat' constructor
def zA(b:n<2^40)(J:ag):bO θ 197 [.I n] J (.sl 1 ((cK n).map cg)):=by
 refine a6 func197 aiL λa c=>ay ?_;simp only[acj,SS,seval];simp only[W,seval];refine⟨⟨by omega,.inl trivial,by omega,by omega,by simp[maxLen];omega⟩,?_⟩;have e:List.replicate n [V.i .i64 0]=gY n 0:=by simp[gY,cK]
 rw[e];refine cd.aX (fr':=(uu 3 (.own (F J) 0::uu 4 (.I n::.I (0:Nat)::uu 9 [])))) ?_ (n+1) (M5 a n b n 0 (by omega) ?_);.rw[uT (eR _)];repeat' constructor
 simp only[JE];intros;simp only[W,seval];refine ru 0 a (.inr rfl) rfl rfl ?_ ?_;.simp[fz,sk,fY,zk]
 simp[fz,sk,one,gY]
def Lg:Int:=if x∈m then m.idxOf x else -1
def Vl(l:bG)(d:F l<2^63):∀(a pre:bG),l=pre++a->x ∉ pre ->(x ∉ l->((fj 19 fo) λi=>K (.exit 0) ⟨i,X⟩))->(x∈l->((fj 4 (fh (.I (Lg l x)) (fj 14 fo))) λi=>K .ret ⟨i,X⟩)) ->fS (F X) θ FH K (F a+1) ⟨(.sl 1 (l.map cg)::.I x::uu 5 (.I (F l)::.I (F pre)::uu 10 [])),X⟩:=by
 intro a;induction a with
 |nil =>intro pre b g j f;have b:=db b;subst b;refine aF λR k=>?_;simp only[FH,W,seval];exact⟨λh=>by simp at h,λ_=>j g ..⟩
 |cons c a ih =>
 intro pre b g j f;subst b;refine aF λR k=>?_;simp only[FH,cg,W,seval];refine⟨λ_=>⟨by simp;omega,λh=>?_,λh=>?_⟩,λh=>by simp at h;omega⟩
 .simp at h;subst h;have e:Lg (pre++x::a) x=F pre:=by simp[Lg,List.idxOf_append,g]
  rw[e]at f;exact f (by simp) ..
 simp at h;refine k _ (aX ?_ (ih (pre++[c]) (by simp) (by simp[g,h]) j f));rw[cq (by simp at d;omega)];simp only[ai,ah,az];repeat' constructor
def IZ:bO θ 239 [.sl 1 (m.map cg),.I x] J (.I (Lg m x)):=by
 refine a6 func239 aim λc b=>ay ?_;have a:=pw (b 0 _ rfl).1;rw[ae]at a;simp only[abT,SS,seval];simp only[ae,W,seval];refine cd.aX ?_ (F m+1) (Vl x m a m [] rfl (by simp) (λh=>?_) (λh=>?_));.repeat' constructor
 .simp only[JE];intros;simp only[W,seval];exact aY (.inr rfl) rfl ⟨by simp[one,Lg,h],rfl⟩
 simp only[JE];intros;simp only[W,seval];exact aY (.inr rfl) rfl ⟨rfl,rfl⟩
def Ct:bO θ 196 [.sl 1 (m.map cg),.I x] J (.b (m.contains x)):=by
 refine a6 func196 aiM λc a=>ay ?_;simp only[ack,SS,seval];simp only[W,seval];refine aA (IZ m x _) rfl ?_;simp only[W,seval];refine aY (.inr rfl) rfl ⟨?_,rfl⟩;by_cases h:x∈m;.simp[one,Lg,h]
 simp[one,Lg,h]
def M4{J:ag}{K:bj}(a b:List It)(g:F a<2^63)(k:F a=F b):∀(d c f i:List It),a=f++d->b=i++c->F f=F i ->(gQ d c=A->((fj 26 fo) λj=>K (.exit 0) ⟨j,J⟩))->(gQ d c=Z->((fj 4 (fh (.b Z) (fj 21 fo))) λj=>K .ret ⟨j,J⟩)) ->fS (F J) θ FN K (F d+1) ⟨(.sl 3 (a.map It.aoZ)::.sl 3 (b.map It.aoZ)::uu 10 (.I (F a)::.I (F f)::uu 12 [])),J⟩
 |[],c,f,i,ha,hb,hp,h1,h2=>by
  have:c=[]:=by
   subst ha;subst hb;simp at k;have:F c=0:=by omega
   exact Ag.1 this
  subst this;subst ha;refine aF λR l=>?_;simp only[FN,W,seval];exact⟨λh=>by simp at h,λ_=>h1 rfl ..⟩
 |x::d,[],f,i,ha,hb,hp,h1,h2=>by subst ha;subst hb;simp at k;omega
 |x::d,y::c,f,i,ha,hb,hp,h1,h2=>by
  subst ha;subst hb;refine aF λR l=>?_;have m:(List.map It.aoZ (i++y::c)).getD (F f) []=y.aoZ:=by rw[hp];exact xU
  simp only[FN,m,It.aoZ,fu,cA,W,seval];refine⟨λ_=>⟨by simp;omega,by simp;omega,λh=>?_,λh=>?_⟩,λh=>by simp at h;omega⟩
  .refine h2 ?_ ..;have:DA x y=Z:=by simpa only[DA,da]using h
   simp[gQ,this]
  have n:DA x y=A:=by simpa only[DA,fB]using h
  have e:gQ (x::d) (y::c)=gQ d c:=by simp[gQ,n]
  rw[e]at h1 h2;refine l _ (aX ?_ (M4 _ _ g k d c (f++[x]) (i++[y]) (by simp) (by simp) (by simp[hp]) h1 h2));rw[cq (by simp at g;omega)];simp only[ai,ah,az];repeat' constructor
def DL(b:List It)(J:ag):bO θ 198 [.sl 3 (a.map It.aoZ),.sl 3 (b.map It.aoZ)] J (.b (gQ a b)):=by
 refine a6 func198 aiK λg f=>ay ?_;have c:=pw (f 0 _ rfl).1;rw[ae]at c;simp only[aci,SS,seval];simp only[ae,W,seval];refine⟨λh=>?_,λh=>?_⟩
 .refine aY (.inr rfl) rfl ⟨?_,rfl⟩;simp at h;simp only[one,aO,aZ,V.b.injEq];cases e:gQ a b;.rfl
  exact absurd (EF e) (by omega)
 simp at h;refine cd.aX ?_ (F a+1) (M4 a b c (by omega) a b [] [] rfl rfl rfl (λd=>?_) (λd=>?_));.simp only[W,seval];repeat' constructor
 .simp only[W,seval];simp only[JE];intros;exact aY (.inr rfl) rfl ⟨by simp[one,d],rfl⟩
 simp only[W,seval];simp only[JE];intros;exact aY (.inr rfl) rfl ⟨by simp[one,d],rfl⟩
def zp(b:List It)(J:ag):bO θ 129 [.sl 3 (a.map It.aoZ),.sl 3 (b.map It.aoZ)] J (.b (gQ a b)):=by refine a6 func129 ajt λd c=>ay ?_;simp only[ac3,SS,seval];simp only[W,seval];refine aA (DL a b _) rfl ?_;simp only[W,seval];exact aY (.inr rfl) rfl ⟨rfl,rfl⟩
def RN(s:bT X)(f:F a<2^40): ∀(c pre:List It) (b:aJ) (g:Nat),a=pre++c->F b+F (ao8 c).1<2^40 ->(∀o,((fh (.sl 3 (a.map It.aoZ)) (fj 2 (fh (.own (F X) n) (fh (.I (F a - F (ao8 c).2:Nat)) (fh (.own (F X+1) o) (fj 50 fo)))))) λq=>K (.exit 2) ⟨q,X++[.row 61 3 32 n Z S,.row 5 1 1 o Z (ee (b++(ao8 c).1))]⟩)) ->fS (F X) θ F7 K (F c+1) ⟨(.sl 3 (a.map It.aoZ)::uu 2 (.own (F X) n::.I (F pre)::.own (F X+1) g::uu 50 [])),X++[.row 61 3 32 n Z S,.row 5 1 1 g Z (ee b)]⟩:=by
 intro c;induction c with
 |nil =>
  intro pre b g i j d;have i:=db i;subst i;refine aF λR p=>?_;simp only[F7,W,seval];refine⟨λh=>by simp at h,.I 0,λh=>by simp at h,?_⟩;simp only[W,seval];refine⟨λh=>by simp at h,λ_=>?_⟩;have e:b++(ao8 []).1=b:=by simp[ao8]
  rw[e]at d;exact d _ ..
 |cons x c ih =>
 intro pre b g i j d;subst i;refine aF λR p=>?_;simp only[F7,It.aoZ,W,seval];refine⟨λ_=>by simp;omega,.I x.ao0,λ_=>rfl,?_⟩;simp only[W,seval];have r:decide ((F pre:Int)<(F (List.map It.aoZ (pre++x::c)):Int))=A:=by simp;omega
 simp only[r,It.aoZ,W,seval];refine⟨λh=>?_,λh=>?_⟩
 .simp at h;have l:(ao8 (x::c)).1=x.ao3++(ao8 c).1:=by simp[ao8,h]
  have k:(ao8 (x::c)).2=(ao8 c).2:=by simp[ao8,h]
  rw[l]at d j;rw[k]at d;simp only[<- List.append_assoc b]at d;rw[ai]at j;refine⟨by simp;omega,⟨?_,?_⟩,?_⟩;.simp only[eP];omega
  .simp only[eP,maxLen];omega
  rw[jz];refine p _ (aX ?_ (ih (pre++[x]) (b++x.ao3) (g+1) (by simp) (by rw[ai];omega) d));rw[cq (by simp at f;omega)];simp only[ai,ah,az];repeat' constructor
 simp at h;have l:(ao8 (x::c))=([],x::c):=by simp[ao8,h]
 rw[l]at d;have k:F (pre++x::c) - F (x::c)=F pre:=by simp
 have m:=d g;simp only[k,bM]at m;exact m ..
def Fb:Ti θ 61 3 32:=nQ (by kernel_rfl)
def QX:Ti θ 5 1 1:=nQ (by kernel_rfl)
def tX{J:ag}{K:bj}(g:List It)(i:bT J)(c:F g<2^40): ∀(n:Nat) (a pre b:List It),g=pre++a->F a<=n->aR a<2^40->F b<=F pre ->((fj 3 (fh (.own (F J) (F (b++jn n a))) (fj 52 fo))) λw=>K (.exit 0) ⟨w,J++[.row 61 3 32 (F (b++jn n a)) Z ((b++jn n a).map It.aoZ)]⟩) ->fS (F J) θ F6 K (n+1) ⟨(.sl 3 (g.map It.aoZ)::uu 2 (.own (F J) (F b)::.I (F pre)::uu 51 [])),J++[.row 61 3 32 (F b) Z (b.map It.aoZ)]⟩
 |n,[],pre,b,j,hn,ht,ho,h1=>by
  have j:=db j;subst j;have e:b++jn n []=b:=by cases n<;>simp[jn]
  rw[e]at h1;refine aF λR m=>?_;simp only[F6,W,seval];exact⟨λh=>by simp at h,λ_=>h1 ..⟩
 |0,x::a,pre,b,j,hn,ht,ho,h1=>by simp at hn
 |n+1,x::a,pre,b,j,hn,ht,ho,h1=>by
  subst j;refine aF λR m=>?_;simp only[F6,It.aoZ,W,seval];refine⟨λ_=>⟨by simp;omega,λf=>?_,λf=>?_⟩,λh=>by simp at h;omega⟩
  .simp at f;have e:b++jn (n+1) (x::a)=(b++[x])++jn n a:=by simp[jn,f]
   rw[e]at h1;have t:b.map It.aoZ++[[.I x.ao0,.s x.ao3,.I x.id]]=(b++[x]).map It.aoZ:=by simp[It.aoZ]
   have p:F b+1=F (b++[x]):=by simp
   rw[t,p];simp only[aR]at ht;refine⟨by simp;omega,?_,?_⟩;.simp at c;simp[maxLen];omega
   refine m _ (aX ?_ (tX _ i c n a (pre++[x]) (b++[x]) (by simp) (by simp at hn;omega) (by omega) (by simp;omega) h1));rw[cq (by simp at c;omega)];simp only[ai,ah,az];repeat' constructor
  simp at f;obtain⟨d,o⟩:=uE (x::a);have z:=pT (r:=a) f;have v:=vX (x::a);have u:F (pre++x::a) - F (ao8 (x::a)).2=F (pre++d):=by have:=congrArg List.length o;simp only[ai]at this |-;omega
  refine cd.wk ((Wk.mV (J:=J) [_] (k:=5) QX rfl).trans (Wk.gW ?_)) (cd.xA (F (x::a)+1) (RN _ (F b) (b.map It.aoZ) i c (x::a) pre [] 0 rfl (by simp;omega) ?_));.simp only[W,seval];repeat' constructor
  simp only[JE];intros;rw[u,bg];simp only[eP,mw,W,seval];have l:pre++x::a=(pre++d)++(ao8 (x::a)).2:=by rw[aS,<- o]
  have y:1<=F d:=by have:=congrArg List.length o;simp only[ai,ah]at this;omega
  refine⟨λh=>⟨?_,?_⟩,λh=>?_⟩;.simp at c;simp[maxLen];omega
  .simp at h;have e:b++jn (n+1) (x::a)=(b++[⟨1,(ao8 (x::a)).1,0⟩])++jn n (ao8 (x::a)).2:=by
    have:¬F (ao8 (x::a)).1=0:=by omega
    simp[jn,f,this]
   rw[e]at h1;have t:b.map It.aoZ++[[.I 1,.s (ao8 (x::a)).1,.I 0]]=(b++[(⟨1,(ao8 (x::a)).1,0⟩:It)]).map It.aoZ:=by simp[It.aoZ]
   have p:F b+1=F (b++[(⟨1,(ao8 (x::a)).1,0⟩:It)]):=by simp
   rw[t,p];have q:bT (J++[.row 61 3 32 (F (b++[(⟨1,(ao8 (x::a)).1,0⟩:It)])) Z ((b++[(⟨1,(ao8 (x::a)).1,0⟩:It)]).map It.aoZ)]):=cL i (by simp);refine m _ (cC [_] [_] q ?_ ?_ (tX _ i c n (ao8 (x::a)).2 (pre++d) (b++[⟨1,(ao8 (x::a)).1,0⟩]) l (by simp at hn;omega) (by omega) (by simp;omega) h1));.repeat' constructor
   simp only[LW,ah,az,bq];omega
  simp at h;have e:b++jn (n+1) (x::a)=b++jn n (ao8 (x::a)).2:=by simp[jn,f,h]
  rw[e]at h1;have q:bT (J++[.row 61 3 32 (F b) Z (b.map It.aoZ)]):=cL i (by simp);refine m _ (cC [_] [_] q ?_ ?_ (tX _ i c n (ao8 (x::a)).2 (pre++d) b l (by simp at hn;omega) (by omega) (by simp;omega) h1));.repeat' constructor
  simp only[LW,ah,az,bq];omega
def Gp(b:F a<2^40)(d:aR a<2^40)(J:ag):bO θ 145 [.sl 3 (a.map It.aoZ)] J (.sl 3 ((ao6 a).map It.aoZ)):=by
 refine a6 func145 ajj λc e=>ay ?_;simp only[acT,SS,seval];simp only[W,seval];refine cd.wk ((Wk.jV (k:=3) Fb rfl).trans (Wk.gW ?_)) (cd.xA (F a+1) (tX a c b (F a) a [] [] rfl (ax _) d (ax _) ?_));.simp only[W,seval];repeat' constructor
 simp only[JE];intros;simp only[W,seval];refine ru 0 c (.inr rfl) rfl rfl ?_ ?_;.simp[fz,sk,fY,zk]
 simp[fz,sk,one,ao6]
def II{J:ag}{K:bj}(a:V)(c d:bG)(p:F c<2^63): ∀(i:Nat) (l:df),i<=min (F c) (F d)->(∀x,bZ x l=CW (c.drop i) (d.drop i) x) ->(∀l,(∀x,bZ x l=CW c d x)->((fh (a) (fj 6 (fh (.mp (F J)) (fj 52 fo)))) λr=>K (.exit 0) ⟨r,J++[.map 3 3 (nW l)]⟩)) ->fS (F J) θ Mw K (i+1) ⟨(a::.sl 1 (c.map cg)::.sl 1 (d.map cg)::uu 4 (.mp (F J)::.I ((i:Int) - 1)::uu 51 [])),J++[.map 3 3 (nW l)]⟩
 |0,l,hi,hl,h1=>by refine aF λR m=>?_;simp only[Mw,W,seval];exact⟨nofun,λ_=>h1 l (by simpa using hl) ..⟩
 |i+1,l,hi,hl,h1=>by
  have e:i<F c:=by omega
  have f:i<F d:=by omega
  have o:((i+1:Nat):Int) - 1=(i:Nat):=by omega
  have n:IntKind.i64.wrap ((i:Int) - 1)=(i:Int) - 1:=IntWalk.i64_in _ (by omega);have q:∀x,bZ x (fZ l (c.getD i 0) (d.getD i 0))=CW (c.drop i) (d.drop i) x:=λx=>by rw[gf,HD e f,hl x]
  rw[o];refine aF λR m=>?_;simp only[Mw,aG,tG e,tG f,W,seval];rcases zj l (c.getD i 0)with⟨_,g,j⟩|⟨k,b,_,g,j⟩;all_goals
   simp only[g,n,dB,j,W,seval];refine⟨λ_=>⟨by simp;omega,by simp;omega,by simp[V.qE,V.jG,V.cell,V.pure],?_⟩,λh=>by simp at h<;>omega⟩;refine m _ (aX ?_ (II a c d p i _ (by omega) q h1));repeat' constructor
def RO(l:df)(C:bT X)(g:F a<2^40)(H:∀x,bZ x l=CW m T x):∀(f pre:List It) (d:List It),a=pre++f->F d<=F pre ->((fj 9 (fh (.own (F X+1) (F (d++api f m T))) (fj 50 fo))) λM=>K (.exit 2) ⟨M,X++[.map 3 3 (nW l),.row 61 3 32 (F (d++api f m T)) Z ((d++api f m T).map It.aoZ)]⟩) ->fS (F X) θ Iq K (F f+1) ⟨(uu 7 (.mp (F X)::uu 1 (.own (F X+1) (F d)::uu 24 (.sl 3 (a.map It.aoZ)::.I (F a)::.I (F pre)::uu 23 [])))),X++[.map 3 3 (nW l),.row 61 3 32 (F d) Z (d.map It.aoZ)]⟩:=by
 intro f;induction f with
 |nil =>
  intro pre d q z i;have q:=db q;subst q;have e:d++api [] m T=d:=by simp[api]
  rw[e]at i;refine aF λR j=>?_;simp only[Iq,W,seval];exact⟨λh=>by simp at h,λ_=>i ..⟩
 |cons x f ih =>
 intro pre d q z i;subst q;have w:=dY pre x (by simp at g;omega);have D:pre++x::f=(pre++[x])++f:=by simp
 have put:∀(y:It),Ou m T x=N y->∀{R:bk} {v:ao} ,(∀o,fS (F X) θ Iq K (F f+1) o->R o)->pe v (uu 7 (.mp (F X)::uu 1 (.own (F X+1) (F (d++[y]))::uu 24 (.sl 3 ((pre++x::f).map It.aoZ)::.I (F (pre++x::f))::.I (F (pre++[x]))::uu 23 [])))) ->R ⟨v,X++[.map 3 3 (nW l),.row 61 3 32 (F (d++[y])) Z ((d++[y]).map It.aoZ),.box 61 y.aoZ]⟩:=λy O R v j P=>by
  have e:d++api (x::f) m T=(d++[y])++api f m T:=by simp[api,O]
  rw[e]at i;have u:bT (X++[.map 3 3 (nW l),.row 61 3 32 (F (d++[y])) Z ((d++[y]).map It.aoZ)]):=cL C (by simp[zH]);refine j _ (cC [_,_] [_] u P ?_ (ih (pre++[x]) (d++[y]) D (by simp;omega) i));simp only[LW,ah,az,bq];omega
 have p:∀(c:Nat),c<=F pre->((c+1)*32<=2^47/\c+1<=maxLen):=λc Q=>by simp at g;simp[maxLen];omega
 have J:∀(y:It),d.map It.aoZ++[[.I y.ao0,.s y.ao3,.I y.id]]=(d++[y]).map It.aoZ:=λy=>by simp[It.aoZ]
 have G:∀(y:It),F d+1=F (d++[y]):=λy=>by simp
 refine aF λR j=>?_;simp only[Iq,It.aoZ,W,seval];refine⟨λ_=>⟨by simp;omega,?_⟩,λh=>by simp at h;omega⟩;refine aA (s9 x _) rfl ?_;simp only[W,seval];refine⟨λr=>?_,λr=>?_⟩
 .have E:∀s,c8 (X++(.map 3 3 (nW l))::s) 0 (.mp (F X)) (.I x.id)=eL 0 (.I x.id) (nW l) 0:=λs=>by simp only[c8,iP,aH]
  rcases zj l x.id with⟨t,B,L⟩|⟨k,b,t,B,L⟩
  .have n:Ou m T x=Y:=by simp only[Ou,r,aU,<- H x.id,t,iF]
   have e:d++api (x::f) m T=d++api f m T:=by simp[api,n]
   rw[e]at i;simp only[E,B,W,seval];refine⟨by simp[V.qE],?_⟩;have u:bT (X++[.map 3 3 (nW l),.row 61 3 32 (F d) Z (d.map It.aoZ)]):=cL C (by simp[zH]);refine j _ (cC [_,_] [_] u ?_ ?_ (ih (pre++[x]) d D (by simp;omega) i));.rw[w];repeat' constructor
   simp only[LW,ah,az,bq];omega
  have n:Ou m T x=N ⟨x.ao0,x.ao3,b⟩:=by simp only[Ou,r,aU,<- H x.id,t,b5]
  simp only[E,B,W,seval];refine⟨by simp[V.qE],⟨p _ (by rw[ae];exact z),?_⟩⟩;rw[G ⟨x.ao0,x.ao3,b⟩,J ⟨x.ao0,x.ao3,b⟩];refine put _ n j ?_;rw[w];repeat' constructor
 have n:Ou m T x=N x:=by simp only[Ou,r];rfl
 refine⟨p _ (by rw[ae];exact z),?_⟩;rw[G x,J x];refine put _ n j ?_;rw[w];repeat' constructor
def El(b:F a<2^40)(i:aR a<2^40)(J:ag):bO θ 85 [.sl 3 (a.map It.aoZ),.sl 1 (m.map cg),.sl 1 (T.map cg)] J (.sl 3 ((rename a m T).map It.aoZ)):=by
 refine a6 func85 c85 λf d=>ay ?_;have e:=pw (d 1 _ rfl).1;have c:=pw (d 2 _ rfl).1;rw[ae]at e c;simp only[p85,SS,seval];simp only[ae,W,seval];have h:IntKind.i64.wrap ((if((F T:Int)<(F m:Int))then(F T:Int)else(F m:Int)) - 1)=((min (F m) (F T):Nat):Int) - 1:=by rw[IntWalk.i64_in _ (by split<;>omega)];split<;>omega
 rw[h];refine cd.aX (fr':=(.sl 3 (a.map It.aoZ)::.sl 1 (m.map cg)::.sl 1 (T.map cg)::uu 4 (.mp (F J)::.I (((min (F m) (F T):Nat):Int) - 1)::uu 51 []))) ?_ _ (II _ m T e (min (F m) (F T)) [] (ax _) (λx=>by rw[Mg (ax _)];rfl) ?_);.repeat' constructor
 intro l g;simp only[JE];intros;simp only[ae,W,seval];refine cd.wk ((Wk.mV (J:=J) [_] (k:=9) Fb rfl).trans (Wk.gW ?_)) (cd.xA (F a+1) (RO a m T l f b g a [] [] rfl (ax _) ?_));.simp only[W,seval];repeat' constructor
 simp only[JE];intros;simp only[bg,W,seval];refine pQ (F J+1) (by simp only[xt];rfl) (Gp (api a m T) (pg (y6 _ _ _) b) (pg (vZ _ _ _) i) _) (by simp[fz,sk,ev]) ?_;simp only[W,seval];exact bl f (.inr rfl) rfl (by simp[LW]) ⟨rfl,rfl⟩
def VD(a B:V)(m:bG)(f:F m<2^40):∀(b pre l:bG) (g:Nat) (d:Bool),m=pre++b->F l+F b<2^40 ->(∀g d,((fh (a) (fh (B) (fj 4 (fh (.own (F X) g) (fj 32 fo))))) λr=>K (.exit 0) ⟨r,X++[.row 3 1 8 g d ((fx l b).map cg)]⟩)) ->fS (F X) θ Ga K (F b+1) ⟨(a::B::uu 4 (.own (F X) g::uu 5 (.sl 1 (m.map cg)::.I (F m)::.I (F pre)::uu 24 []))),X++[.row 3 1 8 g d (l.map cg)]⟩:=by
 intro b;induction b with
 |nil =>intro pre l g d j q c;have j:=db j;subst j;refine aF λR k=>?_;simp only[Ga,W,seval];exact⟨λh=>by simp at h,λ_=>c _ _ ..⟩
 |cons x b ih =>
 intro pre l g d j q c;subst j;have p:=dY pre x (by simp at f;omega);have o:pre++x::b=(pre++[x])++b:=by simp
 refine aF λR k=>?_;simp only[Ga,cg,W,seval];refine⟨λ_=>⟨by simp;omega,?_⟩,λh=>by simp at h<;>omega⟩;refine pQ (F X) (by simp only[iP];rfl) (Ct l x _) (by simp[fz,sk,ev,cg]) ?_;simp only[W,seval];simp only[ah]at q;refine⟨λh=>⟨?_,?_⟩,λh=>?_⟩;.simp[maxLen];omega
 .have e:fx l (x::b)=fx (l++[x]) b:=by simp at h;simp[fx,h]
  rw[e]at c;have t:List.map (λn=>[V.i .i64 n]) l++[[.I x]]=(l++[x]).map cg:=by simp[cg]
  refine k _ ?_;have s:l.map cg++[[.I x]]=(l++[x]).map cg:=by simp[cg]
  rw[s];refine aX ?_ (ih (pre++[x]) (l++[x]) (g+1) _ o (by simp;omega) c);rw[p];repeat' constructor
 have e:fx l (x::b)=fx l b:=by simp at h;simp[fx,h]
 rw[e]at c;refine k _ (aX ?_ (ih (pre++[x]) l g _ o (by omega) c));rw[p];repeat' constructor
def G1(t:List It)(k:F a<2^39)(i:F t<2^39)(e:aR a<2^40)(d:aR t<2^40)(J:ag):bO θ 128 [.sl 3 (a.map It.aoZ),.sl 3 (t.map It.aoZ)] J (.gy [.sl 3 ((ft a t).map It.aoZ),.sl 3 ((fI a t).map It.aoZ)]):=by
 refine a6 func128 aju λc f=>ay ?_;have m:=nF a;have h:=nF t;have j:=se (aph t) (aph a);simp only[ac4,SS,seval];simp only[W,seval];refine aA (zg a (by omega) _) rfl ?_;simp only[W,seval];refine aA (KU t (by omega) _) rfl ?_;simp only[ae,W,seval];refine cd.aX ?_ (F (aph t)+1) (VD (.sl 3 (a.map It.aoZ)) (.sl 3 (t.map It.aoZ)) (aph t) (by omega) (aph t) [] (aph a) 0 Z rfl (by omega) ?_);.repeat' constructor
 intro g l;simp only[JE];intros;simp only[W,seval];have b:F (fx (aph a) (aph t))<2^40:=by omega
 refine aA (zA (F (fx (aph a) (aph t))) b _) (by simp[ev]) ?_;simp only[W,seval];refine pQ (F J) (by simp only[iP];rfl) (El a (bU a t) (cK (F (bU a t))) (by omega) e _) (by simp[fz,sk,ev,bU]) ?_;simp only[W,seval];refine aA (zA (F (fx (aph a) (aph t))) b _) (by simp[ev]) ?_;simp only[W,seval];refine pQ (F J) (by simp only[iP];rfl) (El t (bU a t) (cK (F (bU a t))) (by omega) d _) (by simp[fz,sk,ev,bU]) ?_;simp only[W,seval];exact bl c (.inr rfl) rfl (by simp[LW]) ⟨rfl,rfl⟩
end Go.Proofs.Tryz
