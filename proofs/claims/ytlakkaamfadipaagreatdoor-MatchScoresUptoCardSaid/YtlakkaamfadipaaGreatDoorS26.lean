/- A part of a proof; the claim's last text says of what. -/
import Derived.Test.YtlakkaamfadipaaGreatDoorS4
import Derived.Test.YtlakkaamfadipaaGreatDoorS16
import Derived.Test.YtlakkaamfadipaaGreatDoorS18
set_option linter.all false

namespace Go.Proofs.Tryz
open Go Go.Pm
open Go.Pm.V(u)
def XI:b9:=⟨9,[.t 2],.seq (.au [] [z 1 (.box 61 (.t 0)),z 2 (.aS (.c (.i .i64 0)))]) (.seq (.seq (.au [] [zf 3 0 1,zl 4 3,z 5 (.bin .eql (.t 4) (.c (.i .i64 1)))]) (.ite (.t 5) (.seq
 (.au [] [zf 6 1 1,zl 7 6,z 8 (.len true (.t 7)),zm 2 8]) (.ret)) (.skip))) (.seq (.au [] [z 2 (.aS (.c (.i .i64 1)))]) (.ret)))⟩
theorem adt:ca prog f153=some XI:=by kernel_rfl
def IA:bD:=.seq (.au [] [z 9 (.bin .lss (.t 8) (.t 7))]) (.seq (.ite (.t 9) (.skip) (.exit 0)) (.seq (.block 1 (.seq (.au [] [z 10 (.idx 3 (.t 6) (.t 8)),zL 11 3 10,z 5 (.alloc 61 [.i .i64
 0,.s [],.i .i64 0]),zs (.store 3 [none,none,none] (.t 5) (.t 11))]) (.au [] [zm 12 3,zL 13 3 5,z 14 (.call 153 [.t 13]),z 15 (.bin .add (.t 12) (.t 14)),zm 3 15]))) (.au
 [] [z 16 (.bin .add (.t 8) (.c (.i .i64 1))),zm 8 16])))
def p95:b9:=⟨18,[.t 2],.seq (.au [] [z 2 (.aS (.c (.i .i64 0)))]) (.seq (.au [] [z 3 (.aS (.c (.i .i64 0)))]) (.seq (.seq (.au [] [zm 6 0,z 7 (.len false (.t 6)),z 8 (.aS (.c (.i .i64
 0)))]) (.block 0 (.loop IA))) (.seq (.au [] [zm 17 3,zm 2 17]) (.ret))))⟩
theorem c95:ca prog f95=some p95:=by kernel_rfl
def p97:b9:=⟨16,[.t 2],.seq (.au [] [z 1 (.box 61 (.t 0)),z 2 (.aS (.c (.b false)))]) (.seq (.au [7,8,9,12,13,14] [zf 3 0 1,zl 4 3,z 5 (.bin .eql (.t 4) (.c (.i .i64 2))),zm 6 5,
 ⟨some 7,[(6,false)],.eR 0 (.t 1)⟩,⟨some 8,[(6,false)],.load none (.t 7)⟩,⟨some 9,[(6,false)],.bin .eql (.t 8) (.c (.i .i64 3))⟩,z 10 (.pick (.t 6) (.c (.b true)) (.t
 9)),zm 11 10,⟨some 12,[(11,false)],.eR 0 (.t 1)⟩,⟨some 13,[(11,false)],.load none (.t 12)⟩,⟨some 14,[(11,false)],.bin .eql (.t 13) (.c (.i .i64 4))⟩,z 15 (.pick (.t
 11) (.c (.b true)) (.t 14)),zm 2 15]) (.ret))⟩
theorem c97:ca prog f97=some p97:=by kernel_rfl
def XG:b9:=⟨13,[.t 2],.seq (.au [] [z 2 (.aS (.c (.s [])))]) (.seq (.au [] [zm 7 0,z 8 (.call 206 [.t 7,.c (.s [32])]),zm 6 8,z 9 (.ext 0 (.t 6)),z 10 (.ext 1 (.t 6)),z 11 (.ext 2
 (.t 6)),zm 3 9,zm 4 10,zm 5 11]) (.seq (.au [] [zm 12 3,zm 2 12]) (.ret)))⟩
theorem adr:ca prog f155=some XG:=by kernel_rfl
def CM:bD:=.seq (.seq (.au [] [zm 23 3,zm 24 0,z 25 (.len true (.t 24)),z 26 (.bin .lss (.t 23) (.t 25))]) (.ite (.t 26) (.skip) (.exit 0))) (.seq (.block 1 (.seq (.au [34,35,36,37,
 40,41,42,43,44] [zm 29 0,zm 30 3,z 31 (.fS (.t 29) (.t 30)),z 32 (.bin .lss (.t 31) (.c (.i .u8 32))),zm 33 32,⟨some 34,[(33,false)],.aS (.t 0)⟩,⟨some 35,[(33,
 false)],.aS (.t 3)⟩,⟨some 36,[(33,false)],.fS (.t 34) (.t 35)⟩,⟨some 37,[(33,false)],.bin .gtr (.t 36) (.c (.i .u8 126))⟩,z 38 (.pick (.t 33) (.c (.b true)) (.t 37)),
 zm 39 38,⟨some 40,[(39,false)],.aS (.t 0)⟩,⟨some 41,[(39,false)],.aS (.t 3)⟩,⟨some 42,[(39,false)],.fS (.t 40) (.t 41)⟩,⟨some 43,[(39,false)],.call 157 [.c (.s
 [60,62,123,125]),.t 42]⟩,⟨some 44,[(39,false)],.bin .geq (.t 43) (.c (.i .i64 0))⟩,z 45 (.pick (.t 39) (.c (.b true)) (.t 44))]) (.ite (.t 45) (.seq (.au [] [z 2 (.aS (.c
 (.b false)))]) (.ret)) (.skip)))) (.au [] [zm 27 3,z 28 (.bin .add (.t 27) (.c (.i .i64 1))),zm 3 28]))
def XH:b9:=⟨63,[.t 2],.seq (.au [] [z 2 (.aS (.c (.b false)))]) (.seq (.seq (.au [11,12,13,16,17,18,19,20,21] [zm 7 0,z 8 (.len true (.t 7)),z 9 (.bin .gtr (.t 8) (.c (.i .i64
 64))),zm 10 9,⟨some 11,[(10,false)],.aS (.t 0)⟩,⟨some 12,[(10,false)],.len true (.t 11)⟩,⟨some 13,[(10,false)],.bin .eql (.t 12) (.c (.i .i64 0))⟩,z 14 (.pick (.t 10)
 (.c (.b true)) (.t 13)),zm 15 14,⟨some 16,[(15,false)],.aS (.t 0)⟩,⟨some 17,[(15,false)],.aS (.t 0)⟩,⟨some 18,[(15,false)],.len true (.t 17)⟩,⟨some 19,[(15,
 false)],.bin .sub (.t 18) (.c (.i .i64 1))⟩,⟨some 20,[(15,false)],.fS (.t 16) (.t 19)⟩,⟨some 21,[(15,false)],.bin .eql (.t 20) (.c (.i .u8 47))⟩,z 22 (.pick (.t 15) (.c
 (.b true)) (.t 21))]) (.ite (.t 22) (.seq (.au [] [z 2 (.aS (.c (.b false)))]) (.ret)) (.skip))) (.seq (.seq (.au [] [z 3 (.aS (.c (.i .i64 0)))]) (.block 0 (.loop CM)))
 (.seq (.au [] [zm 47 0,z 48 (.call 206 [.t 47,.c (.s [32])]),zm 46 48,z 49 (.ext 0 (.t 46)),z 50 (.ext 1 (.t 46)),z 51 (.ext 2 (.t 46)),zm 4 49,zm 5 50,zm 6 51]) (.seq
 (.au [55,56,57,58,59,60,61] [zm 52 4,z 53 (.call 117 [.t 52]),zm 54 53,⟨some 55,[(54,true)],.aS (.t 6)⟩,⟨some 56,[(54,true)],.un .not (.t 55)⟩,⟨some 57,[(54,
 true)],.aS (.t 56)⟩,⟨some 58,[(54,true),(57,false)],.aS (.t 5)⟩,⟨some 59,[(54,true),(57,false)],.len true (.t 58)⟩,⟨some 60,[(54,true),(57,false)],.bin .gtr (.t
 59) (.c (.i .i64 0))⟩,⟨some 61,[(54,true)],.pick (.t 57) (.c (.b true)) (.t 60)⟩,z 62 (.pick (.t 54) (.t 61) (.c (.b false))),zm 2 62]) (.ret)))))⟩
theorem ads:ca prog f154=some XH:=by kernel_rfl
def p96:b9:=⟨76,[.t 4],.seq (.au [] [z 4 (.aS (.c (.b false)))]) (.seq (.au [] [zm 6 0,zm 7 1,z 8 (.idx 3 (.t 6) (.t 7)),zL 9 3 8,z 5 (.alloc 61 [.i .i64 0,.s [],.i .i64 0]),zs
 (.store 3 [none,none,none] (.t 5) (.t 9))]) (.seq (.seq (.au [] [zf 10 0 5,zl 11 10]) (.block 0 (.seq (.au [] [z 13 (.bin .eql (.t 11) (.c (.i .i64 1))),zm 12 13]) (.ite (.t
 12) (.seq (.au [18,19,20,23,24,25,26,27,28,29,30,31,32,33] [zf 14 1 5,zl 15 14,z 16 (.bin .neq (.t 15) (.c (.s []))),zm 17 16,⟨some 18,[(17,true)],.eR 2 (.t
 5)⟩,⟨some 19,[(17,true)],.load none (.t 18)⟩,⟨some 20,[(17,true)],.bin .eql (.t 19) (.c (.i .i64 0))⟩,z 21 (.pick (.t 17) (.t 20) (.c (.b false))),zm 22 21,⟨some 23,
 [(22,true)],.aS (.t 1)⟩,⟨some 24,[(22,true)],.bin .eql (.t 23) (.c (.i .i64 0))⟩,⟨some 25,[(22,true)],.aS (.t 24)⟩,⟨some 26,[(22,true),(25,false)],.aS (.t 0)⟩,
 ⟨some 27,[(22,true),(25,false)],.aS (.t 1)⟩,⟨some 28,[(22,true),(25,false)],.bin .sub (.t 27) (.c (.i .i64 1))⟩,⟨some 29,[(22,true),(25,false)],.idx 3 (.t 26) (.t
 28)⟩,⟨some 30,[(22,true),(25,false)],.eR 0 (.t 29)⟩,⟨some 31,[(22,true),(25,false)],.load none (.t 30)⟩,⟨some 32,[(22,true),(25,false)],.bin .neq (.t 31) (.c (.i
 .i64 1))⟩,⟨some 33,[(22,true)],.pick (.t 25) (.c (.b true)) (.t 32)⟩,z 34 (.pick (.t 22) (.t 33) (.c (.b false))),zm 4 34]) (.ret)) (.seq (.au [] [z 36 (.bin .eql (.t 11) (.c
 (.i .i64 5))),zm 35 36]) (.ite (.t 35) (.seq (.au [41,42,43] [zf 37 1 5,zl 38 37,z 39 (.call 117 [.t 38]),zm 40 39,⟨some 41,[(40,true)],.eR 2 (.t 5)⟩,⟨some 42,[(40,
 true)],.load none (.t 41)⟩,⟨some 43,[(40,true)],.bin .eql (.t 42) (.c (.i .i64 0))⟩,z 44 (.pick (.t 40) (.t 43) (.c (.b false))),zm 4 44]) (.ret)) (.seq (.seq (.au [] [z 46
 (.bin .eql (.t 11) (.c (.i .i64 2))),zm 45 46]) (.ite (.t 45) (.skip) (.au [] [z 47 (.bin .eql (.t 11) (.c (.i .i64 4))),zm 45 47]))) (.ite (.t 45) (.seq (.au [52,53,54,57,
 58,59] [zf 48 1 5,zl 49 48,z 50 (.call 154 [.t 49]),zm 51 50,⟨some 52,[(51,true)],.eR 2 (.t 5)⟩,⟨some 53,[(51,true)],.load none (.t 52)⟩,⟨some 54,[(51,true)],.bin
 .geq (.t 53) (.c (.i .i64 1))⟩,z 55 (.pick (.t 51) (.t 54) (.c (.b false))),zm 56 55,⟨some 57,[(56,true)],.eR 2 (.t 5)⟩,⟨some 58,[(56,true)],.load none (.t 57)⟩,⟨some
 59,[(56,true)],.bin .leq (.t 58) (.c (.i .i64 999))⟩,z 60 (.pick (.t 56) (.t 59) (.c (.b false))),zm 4 60]) (.ret)) (.seq (.au [] [z 62 (.bin .eql (.t 11) (.c (.i .i64 3))),
 zm 61 62]) (.ite (.t 61) (.seq (.au [67,68,69,72,73,74] [zf 63 1 5,zl 64 63,z 65 (.call 117 [.t 64]),zm 66 65,⟨some 67,[(66,true)],.eR 2 (.t 5)⟩,⟨some 68,[(66,
 true)],.load none (.t 67)⟩,⟨some 69,[(66,true)],.bin .geq (.t 68) (.c (.i .i64 1))⟩,z 70 (.pick (.t 66) (.t 69) (.c (.b false))),zm 71 70,⟨some 72,[(71,true)],.eR 2 (.t
 5)⟩,⟨some 73,[(71,true)],.load none (.t 72)⟩,⟨some 74,[(71,true)],.bin .leq (.t 73) (.c (.i .i64 999))⟩,z 75 (.pick (.t 71) (.t 74) (.c (.b false))),zm 4 75]) (.ret))
 (.skip))))))))))) (.seq (.au [] [z 4 (.aS (.c (.b false)))]) (.ret))))⟩
theorem c96:ca prog f96=some p96:=by kernel_rfl
def Iz:bD:=.seq (.au [] [z 10 (.bin .lss (.t 9) (.t 8))]) (.seq (.ite (.t 10) (.skip) (.exit 0)) (.seq (.block 1 (.seq (.au [] [z 11 (.idx 3 (.t 7) (.t 9)),zL 12 3 11,z 6 (.alloc 61 [.i
 .i64 0,.s [],.i .i64 0]),zs (.store 3 [none,none,none] (.t 6) (.t 12))]) (.seq (.seq (.au [17,18,19,20,21] [zL 13 3 6,z 14 (.call 97 [.t 13]),z 15 (.un .not (.t 14)),zm
 16 15,⟨some 17,[(16,false)],.eR 2 (.t 6)⟩,⟨some 18,[(16,false)],.load none (.t 17)⟩,⟨some 19,[(16,false)],.eR 2 (.t 3)⟩,⟨some 20,[(16,false)],.load none (.t 19)⟩,
 ⟨some 21,[(16,false)],.bin .neq (.t 18) (.t 20)⟩,z 22 (.pick (.t 16) (.c (.b true)) (.t 21))]) (.ite (.t 22) (.exit 1) (.skip))) (.seq (.df [([zf 23 0 3,zl 24 23,z 25 (.bin
 .neq (.t 24) (.c (.i .i64 3))),zm 26 25,⟨some 27,[(26,false)],.eR 0 (.t 6)⟩,⟨some 28,[(26,false)],.load none (.t 27)⟩,⟨some 29,[(26,false)],.bin .neq (.t 28) (.c (.i
 .i64 2))⟩,z 30 (.pick (.t 26) (.c (.b true)) (.t 29)),zm 31 30,⟨some 32,[(31,false)],.eR 1 (.t 6)⟩,⟨some 33,[(31,false)],.load none (.t 32)⟩,⟨some 35,[(31,false)],
 .eR 1 (.t 3)⟩,⟨some 36,[(31,false)],.load none (.t 35)⟩],⟨some 34,[(31,false)],.call 155 [.t 33]⟩,[⟨some 35,[(31,false)],.eR 1 (.t 3)⟩,⟨some 36,[(31,false)],.load
 none (.t 35)⟩])] [] [27,28,29,32,33,34,35,36,37] [⟨some 37,[(31,false)],.bin .neq (.t 34) (.t 36)⟩,z 38 (.pick (.t 31) (.c (.b true)) (.t 37))]) (.ite (.t 38) (.seq
 (.au [] [z 4 (.aS (.c (.b false)))]) (.ret)) (.skip)))))) (.au [] [z 39 (.bin .add (.t 9) (.c (.i .i64 1))),zm 9 39])))
def p98:b9:=⟨40,[.t 4],.seq (.au [] [z 3 (.box 61 (.t 1)),z 4 (.aS (.c (.b false)))]) (.seq (.seq (.au [] [zm 7 0,z 8 (.len false (.t 7)),z 9 (.aS (.c (.i .i64 0)))]) (.block 0 (.loop
 Iz))) (.seq (.au [] [z 4 (.aS (.c (.b true)))]) (.ret)))⟩
theorem c98:ca prog f98=some p98:=by kernel_rfl
def IL:bD:=.seq (.au [] [z 16 (.bin .lss (.t 15) (.t 14))]) (.seq (.ite (.t 16) (.skip) (.exit 0)) (.seq (.block 1 (.seq (.au [] [zm 17 15,z 18 (.idx 3 (.t 13) (.t 15)),zL 19 3 18,z 4
 (.alloc 61 [.i .i64 0,.s [],.i .i64 0]),zm 3 17,zs (.store 3 [none,none,none] (.t 4) (.t 19))]) (.seq (.seq (.au [] [zm 20 0,zm 21 3,z 22 (.call 96 [.t 20,.t 21]),z 23
 (.un .not (.t 22))]) (.ite (.t 23) (.seq (.au [] [z 2 (.aS (.c (.i .i64 1)))]) (.ret)) (.skip))) (.seq (.df [([zL 24 3 4],z 25 (.call 97 [.t 24]),[])] [zm 26 25,⟨some 27,
 [(26,true)],.aS (.t 0)⟩,⟨some 28,[(26,true)],.aS (.t 3)⟩,⟨some 29,[(26,true)],.slice 3 (.t 27) none (some (.t 28))⟩,⟨some 30,[(26,true)],.load (some 3) (.t 4)⟩] [27,
 28,29,30,31,32] [⟨some 31,[(26,true)],.call 98 [.t 29,.t 30]⟩,⟨some 32,[(26,true)],.un .not (.t 31)⟩,z 33 (.pick (.t 26) (.t 32) (.c (.b false)))]) (.ite (.t 33) (.seq
 (.au [] [z 2 (.aS (.c (.i .i64 7)))]) (.ret)) (.skip)))))) (.au [] [z 34 (.bin .add (.t 15) (.c (.i .i64 1))),zm 15 34])))
def p44:b9:=⟨35,[.t 2],.seq (.au [] [z 2 (.aS (.c (.i .i64 0)))]) (.seq (.seq (.au [9,10,11] [zm 5 0,z 6 (.len false (.t 5)),z 7 (.bin .gtr (.t 6) (.c (.i .i64 512))),zm 8 7,⟨some 9,
 [(8,false)],.aS (.t 0)⟩,⟨some 10,[(8,false)],.call 95 [.t 9]⟩,⟨some 11,[(8,false)],.bin .gtr (.t 10) (.c (.i .i64 1024))⟩,z 12 (.pick (.t 8) (.c (.b true)) (.t 11))])
 (.ite (.t 12) (.seq (.au [] [z 2 (.aS (.c (.i .i64 3)))]) (.ret)) (.skip))) (.seq (.seq (.au [] [zm 13 0,z 14 (.len false (.t 13)),z 15 (.aS (.c (.i .i64 0)))]) (.block 0
 (.loop IL))) (.seq (.au [] [z 2 (.aS (.c (.i .i64 0)))]) (.ret))))⟩
theorem c44:ca prog f44=some p44:=by kernel_rfl
def CV:bD:=.seq (.seq (.au [] [zm 23 3,zm 24 0,z 25 (.len true (.t 24)),z 26 (.bin .lss (.t 23) (.t 25))]) (.ite (.t 26) (.skip) (.exit 0))) (.seq (.block 1 (.seq (.au [] [zm 29 0,zm 30
 3,z 31 (.fS (.t 29) (.t 30)),zm 4 31]) (.seq (.au [35,36,39,40,41,42,43,44,47,48] [zm 32 4,z 33 (.bin .geq (.t 32) (.c (.i .u8 97))),zm 34 33,⟨some 35,[(34,
 true)],.aS (.t 4)⟩,⟨some 36,[(34,true)],.bin .leq (.t 35) (.c (.i .u8 122))⟩,z 37 (.pick (.t 34) (.t 36) (.c (.b false))),zm 38 37,⟨some 39,[(38,false)],.aS (.t 4)⟩,
 ⟨some 40,[(38,false)],.bin .geq (.t 39) (.c (.i .u8 48))⟩,⟨some 41,[(38,false)],.aS (.t 40)⟩,⟨some 42,[(38,false),(41,true)],.aS (.t 4)⟩,⟨some 43,[(38,false),(41,
 true)],.bin .leq (.t 42) (.c (.i .u8 57))⟩,⟨some 44,[(38,false)],.pick (.t 41) (.t 43) (.c (.b false))⟩,z 45 (.pick (.t 38) (.c (.b true)) (.t 44)),zm 46 45,⟨some 47,[(46,
 false)],.aS (.t 4)⟩,⟨some 48,[(46,false)],.bin .eql (.t 47) (.c (.i .u8 45))⟩,z 49 (.pick (.t 46) (.c (.b true)) (.t 48)),z 50 (.un .not (.t 49))]) (.ite (.t 50) (.seq (.au
 [] [z 2 (.aS (.c (.b false)))]) (.ret)) (.skip))))) (.au [] [zm 27 3,z 28 (.bin .add (.t 27) (.c (.i .i64 1))),zm 3 28]))
def XZ:b9:=⟨51,[.t 2],.seq (.au [] [z 2 (.aS (.c (.b false)))]) (.seq (.seq (.au [9,10,11,14,15,16,19,20,21] [zm 5 0,z 6 (.len true (.t 5)),z 7 (.bin .lss (.t 6) (.c (.i .i64
 1))),zm 8 7,⟨some 9,[(8,false)],.aS (.t 0)⟩,⟨some 10,[(8,false)],.len true (.t 9)⟩,⟨some 11,[(8,false)],.bin .gtr (.t 10) (.c (.i .i64 24))⟩,z 12 (.pick (.t 8) (.c
 (.b true)) (.t 11)),zm 13 12,⟨some 14,[(13,false)],.aS (.t 0)⟩,⟨some 15,[(13,false)],.fS (.t 14) (.c (.i .i64 0))⟩,⟨some 16,[(13,false)],.bin .lss (.t 15) (.c (.i
 .u8 97))⟩,z 17 (.pick (.t 13) (.c (.b true)) (.t 16)),zm 18 17,⟨some 19,[(18,false)],.aS (.t 0)⟩,⟨some 20,[(18,false)],.fS (.t 19) (.c (.i .i64 0))⟩,⟨some 21,[(18,
 false)],.bin .gtr (.t 20) (.c (.i .u8 122))⟩,z 22 (.pick (.t 18) (.c (.b true)) (.t 21))]) (.ite (.t 22) (.seq (.au [] [z 2 (.aS (.c (.b false)))]) (.ret)) (.skip))) (.seq (.seq
 (.au [] [z 3 (.aS (.c (.i .i64 1)))]) (.block 0 (.loop CV))) (.seq (.au [] [z 2 (.aS (.c (.b true)))]) (.ret))))⟩
theorem adI:ca prog f117=some XZ:=by kernel_rfl
def Xx:b9:=⟨51,[.t 2],.seq (.au [] [z 2 (.aS (.c (.i .i64 0)))]) (.seq (.block 0 (.seq (.au [7,8,11,12,15,16] [zm 4 0,z 5 (.bin .eql (.t 4) (.c (.i .u8 9))),zm 6 5,⟨some 7,[(6,
 false)],.aS (.t 0)⟩,⟨some 8,[(6,false)],.bin .eql (.t 7) (.c (.i .u8 10))⟩,z 9 (.pick (.t 6) (.c (.b true)) (.t 8)),zm 10 9,⟨some 11,[(10,false)],.aS (.t 0)⟩,⟨some 12,
 [(10,false)],.bin .eql (.t 11) (.c (.i .u8 13))⟩,z 13 (.pick (.t 10) (.c (.b true)) (.t 12)),zm 14 13,⟨some 15,[(14,false)],.aS (.t 0)⟩,⟨some 16,[(14,false)],.bin .eql
 (.t 15) (.c (.i .u8 32))⟩,z 17 (.pick (.t 14) (.c (.b true)) (.t 16)),zm 3 17]) (.ite (.t 3) (.seq (.au [] [z 2 (.aS (.c (.i .i64 2)))]) (.ret)) (.seq (.au [22,23] [zm 19 0,z
 20 (.bin .lss (.t 19) (.c (.i .u8 32))),zm 21 20,⟨some 22,[(21,false)],.aS (.t 0)⟩,⟨some 23,[(21,false)],.bin .eql (.t 22) (.c (.i .u8 127))⟩,z 24 (.pick (.t 21) (.c (.b
 true)) (.t 23)),zm 18 24]) (.ite (.t 18) (.seq (.au [] [z 2 (.aS (.c (.i .i64 1)))]) (.ret)) (.seq (.au [29,30] [zm 26 0,z 27 (.bin .geq (.t 26) (.c (.i .u8 48))),zm 28 27,
 ⟨some 29,[(28,true)],.aS (.t 0)⟩,⟨some 30,[(28,true)],.bin .leq (.t 29) (.c (.i .u8 57))⟩,z 31 (.pick (.t 28) (.t 30) (.c (.b false))),zm 25 31]) (.ite (.t 25) (.seq (.au
 [] [z 2 (.aS (.c (.i .i64 3)))]) (.ret)) (.seq (.au [36,37,40,41,42,43,44,45,48,49] [zm 33 0,z 34 (.bin .geq (.t 33) (.c (.i .u8 97))),zm 35 34,⟨some 36,[(35,true)],
 .aS (.t 0)⟩,⟨some 37,[(35,true)],.bin .leq (.t 36) (.c (.i .u8 122))⟩,z 38 (.pick (.t 35) (.t 37) (.c (.b false))),zm 39 38,⟨some 40,[(39,false)],.aS (.t 0)⟩,⟨some 41,
 [(39,false)],.bin .geq (.t 40) (.c (.i .u8 65))⟩,⟨some 42,[(39,false)],.aS (.t 41)⟩,⟨some 43,[(39,false),(42,true)],.aS (.t 0)⟩,⟨some 44,[(39,false),(42,true)],
 .bin .leq (.t 43) (.c (.i .u8 90))⟩,⟨some 45,[(39,false)],.pick (.t 42) (.t 44) (.c (.b false))⟩,z 46 (.pick (.t 39) (.c (.b true)) (.t 45)),zm 47 46,⟨some 48,[(47,false)],
 .aS (.t 0)⟩,⟨some 49,[(47,false)],.bin .geq (.t 48) (.c (.i .u8 128))⟩,z 50 (.pick (.t 47) (.c (.b true)) (.t 49)),zm 32 50]) (.ite (.t 32) (.seq (.au [] [z 2 (.aS (.c (.i
 .i64 4)))]) (.ret)) (.skip)))))))))) (.seq (.au [] [z 2 (.aS (.c (.i .i64 5)))]) (.ret)))⟩
theorem adi:ca prog f168=some Xx:=by kernel_rfl
def XS:b9:=⟨6,[.t 2],.seq (.au [] [z 2 (.aS (.c (.b false)))]) (.seq (.au [] [zm 3 0,zm 4 0,z 5 (.bin .neq (.t 3) (.t 4)),zm 2 5]) (.ret))⟩
theorem adD:ca prog f127=some XS:=by kernel_rfl
def IH:bD:=.seq (.au [] [z 9 (.bin .lss (.t 8) (.t 7))]) (.seq (.ite (.t 9) (.skip) (.exit 0)) (.seq (.block 1 (.seq (.au [] [z 10 (.idx 1 (.t 6) (.t 8)),zl 11 10,zm 5 11]) (.seq (.au []
 [zm 12 5,zm 13 3,z 14 (.bin .neq (.t 12) (.t 13))]) (.ite (.t 14) (.seq (.au [] [zm 15 5,zm 2 15]) (.ret)) (.skip))))) (.au [] [z 16 (.bin .add (.t 8) (.c (.i .i64 1))),zm 8
 16])))
def p62:b9:=⟨18,[.t 2],.seq (.au [] [z 2 (.aS (.c (.i .i64 0)))]) (.seq (.au [] [z 3 (.aS (.c (.i .i64 0)))]) (.seq (.seq (.au [] [zm 6 0,z 7 (.len false (.t 6)),z 8 (.aS (.c (.i .i64
 0)))]) (.block 0 (.loop IH))) (.seq (.au [] [zm 17 3,zm 2 17]) (.ret))))⟩
theorem c62:ca prog f62=some p62:=by kernel_rfl
def Xa:b9:=⟨13,[.t 4,.t 5,.t 6],.seq (.au [] [z 4 (.aS (.c (.s []))),z 5 (.aS (.c (.s []))),z 6 (.aS (.c (.b false)))]) (.seq (.au [] [zm 7 0,zm 8 1,z 9 (.call 246 [.t 7,.t 8]),
 z 10 (.ext 0 (.t 9)),z 11 (.ext 1 (.t 9)),z 12 (.ext 2 (.t 9)),zm 4 10,zm 5 11,zm 6 12]) (.ret))⟩
theorem acU:ca prog f206=some Xa:=by kernel_rfl
def XE:b9:=⟨8,[.t 4],.seq (.au [] [z 4 (.aS (.c (.i .i64 0)))]) (.seq (.au [] [zm 5 0,zm 6 1,z 7 (.call 208 [.t 5,.t 6]),zm 4 7]) (.ret))⟩
theorem adp:ca prog f157=some XE:=by kernel_rfl
def W8:b9:=⟨8,[.t 4],.seq (.au [] [z 4 (.aS (.c (.b false)))]) (.seq (.au [] [zm 5 0,zm 6 1,z 7 (.call 248 [.t 5,.t 6]),zm 4 7]) (.ret))⟩
theorem acS:ca prog f209=some W8:=by kernel_rfl
def W7:b9:=⟨8,[.t 4],.seq (.au [] [z 4 (.aS (.c (.b false)))]) (.seq (.au [] [zm 5 0,zm 6 1,z 7 (.call 249 [.t 5,.t 6]),zm 4 7]) (.ret))⟩
theorem acR:ca prog f210=some W7:=by kernel_rfl
def WQ:b9:=⟨23,[.t 4,.t 5,.t 6],.seq (.au [] [z 4 (.aS (.c (.s []))),z 5 (.aS (.c (.s []))),z 6 (.aS (.c (.b false)))]) (.seq (.seq (.au [] [zm 8 0,zm 9 1,z 10 (.call 272 [.t 8,
 .t 9]),zm 7 10]) (.seq (.au [] [zm 11 7,z 12 (.bin .geq (.t 11) (.c (.i .i64 0)))]) (.ite (.t 12) (.seq (.df [] [zm 13 0,zm 14 7,z 15 (.fJ (.t 13) none (some (.t 14))),
 zm 16 0,zm 17 7,zm 18 1,z 19 (.len true (.t 18)),z 20 (.bin .add (.t 17) (.t 19)),z 21 (.fJ (.t 16) (some (.t 20)) none),zm 4 15] [] [zm 5 21,z 6 (.aS (.c (.b true)))])
 (.ret)) (.skip)))) (.seq (.au [] [zm 22 0,zm 4 22,z 5 (.aS (.c (.s []))),z 6 (.aS (.c (.b false)))]) (.ret)))⟩
theorem acA:ca prog f246=some WQ:=by kernel_rfl
def WO:b9:=⟨18,[.t 4],.seq (.au [] [z 4 (.aS (.c (.b false)))]) (.seq (.au [11,12,13,14,15,16] [zm 5 0,z 6 (.len true (.t 5)),zm 7 1,z 8 (.len true (.t 7)),z 9 (.bin .geq (.t 6)
 (.t 8)),zm 10 9,⟨some 11,[(10,true)],.aS (.t 0)⟩,⟨some 12,[(10,true)],.aS (.t 1)⟩,⟨some 13,[(10,true)],.len true (.t 12)⟩,⟨some 14,[(10,true)],.fJ (.t 11)
 none (some (.t 13))⟩,⟨some 15,[(10,true)],.aS (.t 1)⟩,⟨some 16,[(10,true)],.bin .eql (.t 14) (.t 15)⟩,z 17 (.pick (.t 10) (.t 16) (.c (.b false))),zm 4 17]) (.ret))⟩
theorem acz:ca prog f248=some WO:=by kernel_rfl
def WN:b9:=⟨21,[.t 4],.seq (.au [] [z 4 (.aS (.c (.b false)))]) (.seq (.au [11,12,13,14,15,16,17,18,19] [zm 5 0,z 6 (.len true (.t 5)),zm 7 1,z 8 (.len true (.t 7)),z 9 (.bin
 .geq (.t 6) (.t 8)),zm 10 9,⟨some 11,[(10,true)],.aS (.t 0)⟩,⟨some 12,[(10,true)],.aS (.t 0)⟩,⟨some 13,[(10,true)],.len true (.t 12)⟩,⟨some 14,[(10,true)],.aS
 (.t 1)⟩,⟨some 15,[(10,true)],.len true (.t 14)⟩,⟨some 16,[(10,true)],.bin .sub (.t 13) (.t 15)⟩,⟨some 17,[(10,true)],.fJ (.t 11) (some (.t 16)) none⟩,⟨some 18,
 [(10,true)],.aS (.t 1)⟩,⟨some 19,[(10,true)],.bin .eql (.t 17) (.t 18)⟩,z 20 (.pick (.t 10) (.t 19) (.c (.b false))),zm 4 20]) (.ret))⟩
theorem acy:ca prog f249=some WN:=by kernel_rfl
def XB:b9:=⟨13,[.t 2],.seq (.au [] [z 2 (.aS (.c (.s [])))]) (.seq (.au [] [zm 7 0,z 8 (.call 206 [.t 7,.c (.s [32])]),zm 6 8,z 9 (.ext 0 (.t 6)),z 10 (.ext 1 (.t 6)),z 11 (.ext 2
 (.t 6)),zm 3 9,zm 4 10,zm 5 11]) (.seq (.au [] [zm 12 3,zm 2 12]) (.ret)))⟩
theorem adm:ca prog f160=some XB:=by kernel_rfl
def W9:b9:=⟨23,[.t 2,.t 3],.seq (.au [] [z 2 (.aS (.c (.i .u8 0))),z 3 (.aS (.c (.b false)))]) (.seq (.block 0 (.seq (.au [8,9] [zm 5 0,z 6 (.bin .geq (.t 5) (.c (.i .u8 48))),zm 7
 6,⟨some 8,[(7,true)],.aS (.t 0)⟩,⟨some 9,[(7,true)],.bin .leq (.t 8) (.c (.i .u8 57))⟩,z 10 (.pick (.t 7) (.t 9) (.c (.b false))),zm 4 10]) (.ite (.t 4) (.seq (.au []
 [zm 11 0,z 12 (.bin .sub (.t 11) (.c (.i .u8 48))),zm 2 12,z 3 (.aS (.c (.b true)))]) (.ret)) (.seq (.au [17,18] [zm 14 0,z 15 (.bin .geq (.t 14) (.c (.i .u8 97))),zm 16 15,
 ⟨some 17,[(16,true)],.aS (.t 0)⟩,⟨some 18,[(16,true)],.bin .leq (.t 17) (.c (.i .u8 102))⟩,z 19 (.pick (.t 16) (.t 18) (.c (.b false))),zm 13 19]) (.ite (.t 13) (.seq
 (.au [] [zm 20 0,z 21 (.bin .sub (.t 20) (.c (.i .u8 97))),z 22 (.bin .add (.t 21) (.c (.i .u8 10))),zm 2 22,z 3 (.aS (.c (.b true)))]) (.ret)) (.skip)))))) (.seq (.au [] [z
 2 (.aS (.c (.i .u8 0))),z 3 (.aS (.c (.b false)))]) (.ret)))⟩
theorem acT:ca prog f207=some W9:=by kernel_rfl
def XF:b9:=⟨60,[.t 2,.t 3,.t 4],.seq (.au [] [z 2 (.aS (.c (.i .u8 0))),z 3 (.aS (.c (.i .i64 0))),z 4 (.aS (.c (.b false)))]) (.seq (.seq (.au [] [zm 10 0,z 11 (.len true (.t
 10)),z 12 (.bin .lss (.t 11) (.c (.i .i64 2)))]) (.ite (.t 12) (.seq (.au [] [z 2 (.aS (.c (.i .u8 0))),z 3 (.aS (.c (.i .i64 0))),z 4 (.aS (.c (.b false)))]) (.ret))
 (.skip))) (.seq (.seq (.au [] [zm 13 0,z 14 (.fS (.t 13) (.c (.i .i64 1)))]) (.block 0 (.seq (.seq (.au [] [z 16 (.bin .eql (.t 14) (.c (.i .u8 92))),zm 15 16]) (.ite (.t 15)
 (.skip) (.seq (.au [] [z 17 (.bin .eql (.t 14) (.c (.i .u8 60))),zm 15 17]) (.ite (.t 15) (.skip) (.au [] [z 18 (.bin .eql (.t 14) (.c (.i .u8 123))),zm 15 18]))))) (.ite (.t
 15) (.seq (.au [] [zm 19 0,z 20 (.fS (.t 19) (.c (.i .i64 1))),zm 2 20,z 3 (.aS (.c (.i .i64 2))),z 4 (.aS (.c (.b true)))]) (.ret)) (.seq (.au [] [z 22 (.bin .eql (.t 14)
 (.c (.i .u8 110))),zm 21 22]) (.ite (.t 21) (.seq (.au [] [z 2 (.aS (.c (.i .u8 10))),z 3 (.aS (.c (.i .i64 2))),z 4 (.aS (.c (.b true)))]) (.ret)) (.seq (.au [] [z 24 (.bin
 .eql (.t 14) (.c (.i .u8 116))),zm 23 24]) (.ite (.t 23) (.seq (.au [] [z 2 (.aS (.c (.i .u8 9))),z 3 (.aS (.c (.i .i64 2))),z 4 (.aS (.c (.b true)))]) (.ret)) (.seq (.au []
 [z 26 (.bin .eql (.t 14) (.c (.i .u8 120))),zm 25 26]) (.ite (.t 25) (.seq (.seq (.au [] [zm 27 0,z 28 (.len true (.t 27)),z 29 (.bin .lss (.t 28) (.c (.i .i64 4)))]) (.ite (.t
 29) (.seq (.au [] [z 2 (.aS (.c (.i .u8 0))),z 3 (.aS (.c (.i .i64 0))),z 4 (.aS (.c (.b false)))]) (.ret)) (.skip))) (.seq (.au [] [zm 31 0,z 32 (.fS (.t 31) (.c (.i .i64
 2))),z 33 (.call 207 [.t 32]),zm 30 33,z 34 (.ext 0 (.t 30)),z 35 (.ext 1 (.t 30)),zm 5 34,zm 6 35]) (.seq (.au [] [zm 37 0,z 38 (.fS (.t 37) (.c (.i .i64 3))),z 39
 (.call 207 [.t 38]),zm 36 39,z 40 (.ext 0 (.t 36)),z 41 (.ext 1 (.t 36)),zm 7 40,zm 8 41]) (.seq (.au [] [zm 42 5,z 43 (.bin .shl (.t 42) (.c (.i .u64 4))),zm 44 7,z 45
 (.bin .or (.t 43) (.t 44)),zm 9 45]) (.seq (.au [49,52,53,54,55,56,57,58] [zm 46 9,zm 47 6,zm 48 47,⟨some 49,[(48,true)],.aS (.t 8)⟩,z 50 (.pick (.t 48) (.t 49) (.c
 (.b false))),zm 51 50,⟨some 52,[(51,true)],.aS (.t 9)⟩,⟨some 53,[(51,true)],.bin .eql (.t 52) (.c (.i .u8 13))⟩,⟨some 54,[(51,true)],.aS (.t 53)⟩,⟨some 55,[(51,
 true),(54,false)],.aS (.t 9)⟩,⟨some 56,[(51,true),(54,false)],.call 168 [.t 55]⟩,⟨some 57,[(51,true),(54,false)],.bin .eql (.t 56) (.c (.i .i64 1))⟩,⟨some 58,[(51,
 true)],.pick (.t 54) (.c (.b true)) (.t 57)⟩,z 59 (.pick (.t 51) (.t 58) (.c (.b false))),zm 2 46,z 3 (.aS (.c (.i .i64 4))),zm 4 59]) (.ret)))))) (.skip))))))))))) (.seq
 (.au [] [z 2 (.aS (.c (.i .u8 0))),z 3 (.aS (.c (.i .i64 0))),z 4 (.aS (.c (.b false)))]) (.ret))))⟩
theorem adq:ca prog f156=some XF:=by kernel_rfl
def Cx:bD:=.seq (.seq (.au [] [zm 19 5,zm 20 0,z 21 (.len true (.t 20)),z 22 (.bin .lss (.t 19) (.t 21))]) (.ite (.t 22) (.skip) (.exit 0))) (.seq (.block 1 (.seq (.seq (.au [30,31,32,
 33] [zm 25 0,zm 26 5,z 27 (.fS (.t 25) (.t 26)),z 28 (.bin .lss (.t 27) (.c (.i .u8 48))),zm 29 28,⟨some 30,[(29,false)],.aS (.t 0)⟩,⟨some 31,[(29,false)],.aS (.t
 5)⟩,⟨some 32,[(29,false)],.fS (.t 30) (.t 31)⟩,⟨some 33,[(29,false)],.bin .gtr (.t 32) (.c (.i .u8 57))⟩,z 34 (.pick (.t 29) (.c (.b true)) (.t 33))]) (.ite (.t 34) (.seq
 (.au [] [z 2 (.aS (.c (.i .i64 0))),z 3 (.aS (.c (.b false)))]) (.ret)) (.skip))) (.au [] [zm 35 4,z 36 (.bin .mul (.c (.i .i64 10)) (.t 35)),zm 37 0,zm 38 5,z 39 (.fS
 (.t 37) (.t 38)),z 40 (.bin .sub (.t 39) (.c (.i .u8 48))),z 41 (.Jz .i64 (.t 40)),z 42 (.bin .add (.t 36) (.t 41)),zm 4 42]))) (.au [] [zm 23 5,z 24 (.bin .add (.t 23) (.c
 (.i .i64 1))),zm 5 24]))
def W6:b9:=⟨46,[.t 2,.t 3],.seq (.au [] [z 2 (.aS (.c (.i .i64 0))),z 3 (.aS (.c (.b false)))]) (.seq (.seq (.au [10,11,12,15,16,17] [zm 6 0,z 7 (.len true (.t 6)),z 8 (.bin
 .lss (.t 7) (.c (.i .i64 1))),zm 9 8,⟨some 10,[(9,false)],.aS (.t 0)⟩,⟨some 11,[(9,false)],.len true (.t 10)⟩,⟨some 12,[(9,false)],.bin .gtr (.t 11) (.c (.i .i64 3))⟩,
 z 13 (.pick (.t 9) (.c (.b true)) (.t 12)),zm 14 13,⟨some 15,[(14,false)],.aS (.t 0)⟩,⟨some 16,[(14,false)],.fS (.t 15) (.c (.i .i64 0))⟩,⟨some 17,[(14,false)],.bin
 .eql (.t 16) (.c (.i .u8 48))⟩,z 18 (.pick (.t 14) (.c (.b true)) (.t 17))]) (.ite (.t 18) (.seq (.au [] [z 2 (.aS (.c (.i .i64 0))),z 3 (.aS (.c (.b false)))]) (.ret))
 (.skip))) (.seq (.au [] [z 4 (.aS (.c (.i .i64 0)))]) (.seq (.seq (.au [] [z 5 (.aS (.c (.i .i64 0)))]) (.block 0 (.loop Cx))) (.seq (.au [] [zm 43 4,zm 44 4,z 45 (.bin
 .leq (.t 44) (.c (.i .i64 999))),zm 2 43,zm 3 45]) (.ret)))))⟩
theorem acQ:ca prog f211=some W6:=by kernel_rfl
def XC:b9:=⟨30,[.t 2],.seq (.au [] [z 2 (.aS (.c (.b false)))]) (.seq (.au [6,7,10,11,14,15,18,19,22,23,26,27,28] [zm 3 0,z 4 (.bin .neq (.t 3) (.c (.i .u8 92))),zm 5 4,
 ⟨some 6,[(5,true)],.aS (.t 0)⟩,⟨some 7,[(5,true)],.bin .neq (.t 6) (.c (.i .u8 60))⟩,z 8 (.pick (.t 5) (.t 7) (.c (.b false))),zm 9 8,⟨some 10,[(9,true)],.aS (.t 0)⟩,
 ⟨some 11,[(9,true)],.bin .neq (.t 10) (.c (.i .u8 123))⟩,z 12 (.pick (.t 9) (.t 11) (.c (.b false))),zm 13 12,⟨some 14,[(13,true)],.aS (.t 0)⟩,⟨some 15,[(13,true)],
 .bin .neq (.t 14) (.c (.i .u8 9))⟩,z 16 (.pick (.t 13) (.t 15) (.c (.b false))),zm 17 16,⟨some 18,[(17,true)],.aS (.t 0)⟩,⟨some 19,[(17,true)],.bin .neq (.t 18) (.c (.i
 .u8 10))⟩,z 20 (.pick (.t 17) (.t 19) (.c (.b false))),zm 21 20,⟨some 22,[(21,true)],.aS (.t 0)⟩,⟨some 23,[(21,true)],.bin .neq (.t 22) (.c (.i .u8 13))⟩,z 24 (.pick (.t
 21) (.t 23) (.c (.b false))),zm 25 24,⟨some 26,[(25,true)],.aS (.t 0)⟩,⟨some 27,[(25,true)],.call 168 [.t 26]⟩,⟨some 28,[(25,true)],.bin .neq (.t 27) (.c (.i .i64
 1))⟩,z 29 (.pick (.t 25) (.t 28) (.c (.b false))),zm 2 29]) (.ret))⟩
theorem adn:ca prog f159=some XC:=by kernel_rfl
def yw:bD:=.seq (.seq (.au [] [zm 7 5,zm 8 1,z 9 (.len true (.t 8)),z 10 (.bin .lss (.t 7) (.t 9))]) (.ite (.t 10) (.skip) (.exit 0))) (.seq (.block 1 (.seq (.au [] [zm 13 1,zm 14 5,z
 15 (.fS (.t 13) (.t 14)),zm 6 15]) (.block 2 (.seq (.au [] [zm 26 6,z 27 (.call 159 [.t 26]),zm 25 27]) (.ite (.t 25) (.au [] [zm 28 0,zm 29 6,z 30 (.bC 1 [none] [.t
 29]),z 31 (.app 5 1 1 (.t 28) (.t 30)),zm 0 31]) (.seq (.au [] [zm 33 6,z 34 (.bin .eql (.t 33) (.c (.i .u8 10))),zm 32 34]) (.ite (.t 32) (.au [] [zm 35 0,z 36 (.bC 1
 [none] [.c (.i .u8 92),.c (.i .u8 110)]),z 37 (.app 5 1 1 (.t 35) (.t 36)),zm 0 37]) (.seq (.au [] [zm 39 6,z 40 (.bin .eql (.t 39) (.c (.i .u8 9))),zm 38 40]) (.ite (.t 38)
 (.au [] [zm 41 0,z 42 (.bC 1 [none] [.c (.i .u8 92),.c (.i .u8 116)]),z 43 (.app 5 1 1 (.t 41) (.t 42)),zm 0 43]) (.seq (.au [48,49,52,53] [zm 45 6,z 46 (.bin .eql (.t
 45) (.c (.i .u8 92))),zm 47 46,⟨some 48,[(47,false)],.aS (.t 6)⟩,⟨some 49,[(47,false)],.bin .eql (.t 48) (.c (.i .u8 60))⟩,z 50 (.pick (.t 47) (.c (.b true)) (.t 49)),zm
 51 50,⟨some 52,[(51,false)],.aS (.t 6)⟩,⟨some 53,[(51,false)],.bin .eql (.t 52) (.c (.i .u8 123))⟩,z 54 (.pick (.t 51) (.c (.b true)) (.t 53)),zm 44 54]) (.ite (.t 44)
 (.au [] [zm 55 0,zm 56 6,z 57 (.bC 1 [none] [.c (.i .u8 92),.t 56]),z 58 (.app 5 1 1 (.t 55) (.t 57)),zm 0 58]) (.df [] [zm 16 0,zm 17 6,z 18 (.bin .shr (.t 17) (.c
 (.i .u64 4))),z 19 (.fS (.c (.s [48,49,50,51,52,53,54,55,56,57,97,98,99,100,101,102])) (.t 18)),zm 20 6,z 21 (.bin .and (.t 20) (.c (.i .u8 15))),z 22 (.fS
 (.c (.s [48,49,50,51,52,53,54,55,56,57,97,98,99,100,101,102])) (.t 21)),z 23 (.bC 1 [none] [.c (.i .u8 92),.c (.i .u8 120),.t 19,.t 22])] [] [z 24 (.app 5 1 1
 (.t 16) (.t 23)),zm 0 24])))))))))))) (.au [] [zm 11 5,z 12 (.bin .add (.t 11) (.c (.i .i64 1))),zm 5 12]))
def WR:b9:=⟨60,[.t 4],.seq (.au [] [z 4 (.aS (.c .nil))]) (.seq (.seq (.au [] [z 5 (.aS (.c (.i .i64 0)))]) (.block 0 (.loop yw))) (.seq (.au [] [zm 59 0,zm 4 59]) (.ret)))⟩
theorem acB:ca prog f241=some WR:=by kernel_rfl
def XD:b9:=⟨60,[.c 2 (some 3),.t 3],.seq (.au [] [z 2 (.alloc 61 [.i .i64 0,.s [],.i .i64 0]),z 3 (.aS (.c (.b false)))]) (.seq (.au [] [z 10 (.build [.i .i64 0,.s [],.i .i64 0]
 [(0,1,.c (.i .i64 2))]),z 4 (.alloc 61 [.i .i64 0,.s [],.i .i64 0]),zs (.store 3 [none,none,none] (.t 4) (.t 10))]) (.seq (.seq (.au [] [zm 11 0,z 12 (.call 209 [.t 11,.c
 (.s [47])])]) (.ite (.t 12) (.df [([zm 13 0,z 14 (.fJ (.t 13) (some (.c (.i .i64 1))) none),zf 15 0 4],zs (.store 1 [none] (.t 15) (.c (.i .i64 3))),[])] [] [] [zm 0 14])
 (.skip))) (.seq (.au [] [zm 17 0,z 18 (.call 206 [.t 17,.c (.s [58])]),zm 16 18,z 19 (.ext 0 (.t 16)),z 20 (.ext 1 (.t 16)),z 21 (.ext 2 (.t 16)),zm 5 19,zm 6 20,zm 7 21])
 (.seq (.seq (.au [26,27] [zf 22 0 4,zl 23 22,z 24 (.bin .eql (.t 23) (.c (.i .i64 2))),zm 25 24,⟨some 26,[(25,true)],.aS (.t 6)⟩,⟨some 27,[(25,true)],.call 210 [.t 26,
 .c (.s [47])]⟩,z 28 (.pick (.t 25) (.t 27) (.c (.b false)))]) (.ite (.t 28) (.df [([zm 29 6,zm 30 6,z 31 (.len true (.t 30)),z 32 (.bin .sub (.t 31) (.c (.i .i64 1))),z 33
 (.fJ (.t 29) none (some (.t 32))),zf 34 0 4],zs (.store 1 [none] (.t 34) (.c (.i .i64 4))),[z 31 (.len true (.t 30))])] [] [] [zm 6 33]) (.skip))) (.seq (.au [] [zm 36 5,z
 37 (.call 211 [.t 36]),zm 35 37,z 38 (.ext 0 (.t 35)),z 39 (.ext 1 (.t 35)),zm 8 38,zm 9 39]) (.seq (.seq (.au [43,44] [zm 40 7,z 41 (.un .not (.t 40)),zm 42 41,⟨some 43,
 [(42,false)],.aS (.t 9)⟩,⟨some 44,[(42,false)],.un .not (.t 43)⟩,z 45 (.pick (.t 42) (.c (.b true)) (.t 44))]) (.ite (.t 45) (.seq (.au [] [z 46 (.build [.i .i64 0,.s [],
 .i .i64 0] []),zs (.store 3 [none,none,none] (.t 2) (.t 46)),z 3 (.aS (.c (.b false)))]) (.ret)) (.skip))) (.seq (.au [] [zm 47 6,zm 48 8,zf 49 1 4,zs (.store 1 [none] (.t
 49) (.t 47)),zf 50 2 4,zs (.store 1 [none] (.t 50) (.t 48))]) (.seq (.seq (.au [] [zf 51 0 4,zl 52 51,z 53 (.bin .eql (.t 52) (.c (.i .i64 3)))]) (.ite (.t 53) (.seq (.df
 [([zL 54 3 4,zm 55 6],z 56 (.call 117 [.t 55]),[zL 54 3 4])] [] [] [zs (.store 3 [none,none,none] (.t 2) (.t 54)),zm 3 56]) (.ret)) (.skip))) (.seq (.df [([zL 57 3 4,zm 58
 6],z 59 (.call 154 [.t 58]),[zL 57 3 4])] [] [] [zs (.store 3 [none,none,none] (.t 2) (.t 57)),zm 3 59]) (.ret))))))))))⟩
theorem ado:ca prog f158=some XD:=by kernel_rfl
def p99:b9:=⟨76,[.c 2 (some 3),.t 3,.t 4],.seq (.au [] [z 2 (.alloc 61 [.i .i64 0,.s [],.i .i64 0]),z 3 (.aS (.c (.i .i64 0))),z 4 (.aS (.c (.b false)))]) (.seq (.block 0 (.seq (.au
 [] [zm 13 0,z 14 (.fS (.t 13) (.c (.i .i64 0))),z 15 (.bin .eql (.t 14) (.c (.i .u8 92))),zm 12 15]) (.ite (.t 12) (.seq (.au [] [zm 17 0,z 18 (.call 156 [.t 17]),zm 16 18,
 z 19 (.ext 0 (.t 16)),z 20 (.ext 1 (.t 16)),z 21 (.ext 2 (.t 16)),zm 5 19,zm 6 20,zm 7 21]) (.seq (.au [] [zm 22 5,z 23 (.bC 1 [none] [.t 22]),z 24 (.JG (.t 23)),z 25
 (.build [.i .i64 0,.s [],.i .i64 0] [(0,1,.c (.i .i64 1)),(1,1,.t 24)]),zm 26 6,zm 27 7,zs (.store 3 [none,none,none] (.t 2) (.t 25)),zm 3 26,zm 4 27]) (.ret))) (.seq
 (.au [] [zm 29 0,z 30 (.fS (.t 29) (.c (.i .i64 0))),z 31 (.bin .eql (.t 30) (.c (.i .u8 60))),zm 28 31]) (.ite (.t 28) (.seq (.au [] [zm 32 0,z 33 (.call 157 [.t 32,.c (.i
 .u8 62)]),zm 8 33]) (.seq (.seq (.au [] [zm 34 8,z 35 (.bin .lss (.t 34) (.c (.i .i64 0)))]) (.ite (.t 35) (.seq (.au [] [z 36 (.build [.i .i64 0,.s [],.i .i64 0] []),zs
 (.store 3 [none,none,none] (.t 2) (.t 36)),z 3 (.aS (.c (.i .i64 0))),z 4 (.aS (.c (.b false)))]) (.ret)) (.skip))) (.seq (.au [] [zm 38 0,zm 39 8,z 40 (.fJ (.t 38)
 (some (.c (.i .i64 1))) (some (.t 39))),z 41 (.call 158 [.t 40]),zm 37 41,z 42 (.ext 0 (.t 37)),z 43 (.ext 1 (.t 37)),z 9 (.alloc 61 [.i .i64 0,.s [],.i .i64 0]),zs (.store
 3 [none,none,none] (.t 9) (.t 42)),zm 10 43]) (.seq (.au [] [zL 44 3 9,zm 45 8,z 46 (.bin .add (.t 45) (.c (.i .i64 1))),zm 47 10,zs (.store 3 [none,none,none] (.t 2) (.t
 44)),zm 3 46,zm 4 47]) (.ret))))) (.seq (.au [] [zm 49 0,z 50 (.fS (.t 49) (.c (.i .i64 0))),z 51 (.bin .eql (.t 50) (.c (.i .u8 123))),zm 48 51]) (.ite (.t 48) (.seq (.au
 [] [zm 52 0,z 53 (.call 157 [.t 52,.c (.i .u8 125)]),zm 11 53]) (.seq (.seq (.au [57,58,59,60,61] [zm 54 11,z 55 (.bin .lss (.t 54) (.c (.i .i64 0))),zm 56 55,⟨some 57,
 [(56,false)],.aS (.t 0)⟩,⟨some 58,[(56,false)],.aS (.t 11)⟩,⟨some 59,[(56,false)],.fJ (.t 57) (some (.c (.i .i64 1))) (some (.t 58))⟩,⟨some 60,[(56,false)],.call
 117 [.t 59]⟩,⟨some 61,[(56,false)],.un .not (.t 60)⟩,z 62 (.pick (.t 56) (.c (.b true)) (.t 61))]) (.ite (.t 62) (.seq (.au [] [z 63 (.build [.i .i64 0,.s [],.i .i64 0] []),
 zs (.store 3 [none,none,none] (.t 2) (.t 63)),z 3 (.aS (.c (.i .i64 0))),z 4 (.aS (.c (.b false)))]) (.ret)) (.skip))) (.seq (.au [] [zm 64 0,zm 65 11,z 66 (.fJ (.t 64)
 (some (.c (.i .i64 1))) (some (.t 65))),z 67 (.build [.i .i64 0,.s [],.i .i64 0] [(0,1,.c (.i .i64 5)),(1,1,.t 66)]),zm 68 11,z 69 (.bin .add (.t 68) (.c (.i .i64 1))),zs
 (.store 3 [none,none,none] (.t 2) (.t 67)),zm 3 69,z 4 (.aS (.c (.b true)))]) (.ret)))) (.skip)))))))) (.seq (.df [([zm 70 0,z 71 (.fJ (.t 70) none (some (.c (.i .i64
 1)))),z 72 (.build [.i .i64 0,.s [],.i .i64 0] [(0,1,.c (.i .i64 1)),(1,1,.t 71)]),zm 73 0,z 74 (.fS (.t 73) (.c (.i .i64 0)))],z 75 (.call 159 [.t 74]),[z 72 (.build
 [.i .i64 0,.s [],.i .i64 0] [(0,1,.c (.i .i64 1)),(1,1,.t 71)])])] [] [] [zs (.store 3 [none,none,none] (.t 2) (.t 72)),z 3 (.aS (.c (.i .i64 1))),zm 4 75]) (.ret)))⟩
theorem c99:ca prog f99=some p99:=by kernel_rfl
end Go.Proofs.Tryz
namespace Go.Proofs.Tryz
open Go Go.Pm Go.Bt
open Go.Pm.V(u)
theorem MB(x:It)(J:ae):PC prog 153 [.agg x.ah7] J (fun r J'=>r=.i .i64 (width x)∧J'=J):=by
 refine PC.intro func153 adt fun bj dx=>ax ?_;simp only[XI,It.ah7,SS,seval];simp only[W,seval];refine⟨fun h=>?_,fun h=>?_⟩
 ·exact bF bj (.inr rfl) rfl (by simp[LW]) (by simp at h;simp[one,width,h])
 ·exact bF bj (.inr rfl) rfl (by simp[LW]) (by simp at h;simp[one,width,h])
theorem Ue{J:ae}{K:Exit→St→Prop}(its:List It)(bj:bG J)(hlen:its.length<2^63):∀ (rest pre:List It) (acc:Int),its=pre++rest →
  (K (.exit 0) ⟨[.sl 3 (its.map It.ah7),u,.i .i64 0,.i .i64 (ff acc rest),u,u,.sl 3 (its.map It.ah7),.i .i64 its.length,.i .i64 its.length,.b false,u,u,u,u,u,u,u,u],J⟩) →
  fp J.length prog IA K (rest.length+1) ⟨[.sl 3 (its.map It.ah7),u,.i .i64 0,.i .i64 acc,u,u,.sl 3 (its.map It.ah7),.i .i64 its.length,.i .i64 pre.length,u,u,u,u,u,u,u,u,u],J⟩:=by
 intro rest
 induction rest with
 | nil =>
  intro pre acc he hK;subst he;refine aB fun R hR=>?_;simp only[IA,W,seval];refine⟨fun h=>by simp at h,fun _=>?_⟩;simpa[ff]using hK
 | cons x rest ih =>
  intro pre acc he hK;subst he;refine aB fun R hR=>?_;simp only[IA,uM,It.ah7,W,seval];refine⟨fun _=>⟨?_,?_⟩,fun h=>?_⟩
  ·simp;omega
  ·refine az (MB x _) rfl ?_;simp only[W,seval];refine hR _ ?_
   have hw:IntKind.i64.wrap ((pre.length:Int)+1)=(((pre++[x]).length:Nat):Int):=by
    rw[bd (by simp at hlen;omega)];simp
   rw[hw];refine oh (aq _) bj ?_ ?_ (ih (pre++[x]) (IntKind.i64.wrap (acc+width x)) (by simp) ?_)
   ·repeat first | exact .nil | refine .cons (.refl _) ?_ | refine .cons (.forget _) ?_
   ·simp only[LW]
   ·simpa[ff]using hK
  ·simp at h;omega
theorem K5(its:List It)(J:ae):PC prog 95 [.sl 3 (its.map It.ah7)] J (fun r J'=>r=.i .i64 (ff 0 its)∧J'=J):=by
 refine PC.intro func95 c95 fun bj dx=>ax ?_
 have hlen:its.length<2^63:=by
  have:=rQ (dx 0 _ rfl).1;simpa using this
 simp only[p95,SS,seval];simp only[ag,W,seval];refine b6.vP (its.length+1) (Ue its bj hlen its [] 0 (by simp) ?_);simp only[W,seval];exact aU (.inr rfl) rfl ⟨rfl,rfl⟩
theorem QL{J:ae}{K:Exit→St→Prop}(s:List UInt8)(hlen:s.length<2^63):∀ (rest pre:List UInt8),s=pre++rest →
  (rest.all ou=true→∀ j0 j1 j2 j3 j4 j5 j6 j7 j8 j9 j10 j11 j12 j13 j14 j15 j16 j17 j18 j19 VU j21 j22 j23 j24 j25 j26 j27 j28 j29 j30 j31 j32 j33 j34 j35 j36 j37 j38 j39 j40 j41 j42 j43 j44 j45 j46 j47 j48 j49 j50,K (.exit 0) ⟨[j0,j1,j2,j3,j4,j5,j6,j7,j8,j9,j10,j11,j12,j13,j14,j15,j16,j17,j18,j19,VU,j21,j22,j23,j24,j25,j26,j27,j28,j29,j30,j31,j32,j33,j34,j35,j36,j37,j38,j39,j40,j41,j42,j43,j44,j45,j46,j47,j48,j49,j50],J⟩) →
  (rest.all ou=false→∀ j0 j1 j3 j4 j5 j6 j7 j8 j9 j10 j11 j12 j13 j14 j15 j16 j17 j18 j19 VU j21 j22 j23 j24 j25 j26 j27 j28 j29 j30 j31 j32 j33 j34 j35 j36 j37 j38 j39 j40 j41 j42 j43 j44 j45 j46 j47 j48 j49 j50,K .ret ⟨[j0,j1,.b false,j3,j4,j5,j6,j7,j8,j9,j10,j11,j12,j13,j14,j15,j16,j17,j18,j19,VU,j21,j22,j23,j24,j25,j26,j27,j28,j29,j30,j31,j32,j33,j34,j35,j36,j37,j38,j39,j40,j41,j42,j43,j44,j45,j46,j47,j48,j49,j50],J⟩) →
  fp J.length prog CV K (rest.length+1) ⟨[.s s,u,u,.i .i64 pre.length,u,u,u,u,u,u,u,u,u,u,u,u,u,u,u,u,u,u,u,u,u,u,u,u,u,u,u,u,u,u,u,u,u,u,u,u,u,u,u,u,u,u,u,u,u,u,u],J⟩:=by
 intro rest
 induction rest with
 | nil =>
  intro pre he h1 h2;subst he;refine aB fun R hR=>?_;simp only[CV,W,seval];exact⟨fun h=>by simp at h,fun _=>h1 rfl ..⟩
 | cons c rest ih =>
  intro pre he h1 h2;subst he;refine aB fun R hR=>?_;simp only[CV,W,seval];refine⟨fun _=>⟨by simp;omega,fun h=>?_,fun h=>?_⟩,fun h=>by simp at h;omega⟩
  ·refine h2 ?_ ..;simp only[me,AZ];left;simp at h;simp[ou];omega
  ·refine hR _ (aZ (fr':=[.s (pre++c::rest),u,u,.i .i64 (pre++[c]).length,u,u,u,u,u,u,u,u,u,u,u,u,u,u,u,u,u,u,u,u,u,u,u,u,u,u,u,u,u,u,u,u,u,u,u,u,u,u,u,u,u,u,u,u,u,u,u]) ?_ (ih (pre++[c]) (by simp) (fun h2=>h1 ?_) (fun h3=>h2 ?_)))
   ·rw[bd (by simp at hlen;omega)];simp only[al,ai,aC]
    repeat first | exact .nil | refine .cons (.refl _) ?_ | refine .cons (.forget _) ?_
   ·simp[h2];simp at h;simp[ou];omega
   ·simp[h3]
theorem NS(n:Int)(J:ae):PC prog 127 [.i .i64 n] J (fun r J'=>r=.b false∧J'=J):=by
 refine PC.intro func127 adD fun bj dx=>ax ?_;simp only[XS,SS,seval];simp only[W,seval];exact aU (.inr rfl) rfl (by simp[one])
theorem Uj{J:ae}{K:Exit→St→Prop}(l:List Int)(hlen:l.length<2^63):∀ (rest pre:List Int),l=pre++rest →
  (xA rest=0→((fj 3 (fh (.i .i64 0) (fj 14 fo))) fun ZZ=>K (.exit 0) ⟨ZZ,J⟩))→(xA rest≠0→((fj 2 (fh (.i .i64 (xA rest)) (fj 15 fo))) fun ZZ=>K .ret ⟨ZZ,J⟩)) →
  fp J.length prog IH K (rest.length+1) ⟨(uu 3 (.i .i64 0::uu 2 (.sl 1 (l.map bR)::.i .i64 l.length::.i .i64 pre.length::uu 9 []))),J⟩:=by
 intro rest
 induction rest with
 | nil =>
  intro pre he h1 h2;subst he;refine aB fun R hR=>?_;simp only[IH,W,seval];exact⟨fun h=>by simp at h,fun _=>h1 rfl ..⟩
 | cons c rest ih =>
  intro pre he h1 h2;subst he;refine aB fun R hR=>?_;simp only[IH,W,seval];simp only[bR,W,seval];refine⟨fun _=>⟨by simp;omega,fun h=>?_,fun h=>?_⟩,fun h=>by simp at h;omega⟩
  ·simp at h;have e:xA (c::rest)=c:=by simp[xA,h]
   rw[e]at h2;exact h2 h ..
  ·simp at h;have e:xA (c::rest)=xA rest:=by simp[xA,h]
   rw[e]at h1 h2;refine hR _ (aZ ?_ (ih (pre++[c]) (by simp) h1 h2));rw[bd (by simp at hlen;omega)];simp only[al,ai,aC]
   repeat' constructor
theorem TU(l:List Int)(J:ae):PC prog 62 [.sl 1 (l.map bR)] J (fun r J'=>r=.i .i64 (xA l)∧J'=J):=by
 refine PC.intro func62 c62 fun bj dx=>ax ?_;have hlen:l.length<2^63:=by simpa using rQ (dx 0 _ rfl).1
 simp only[p62,SS,seval];simp only[ag,W,seval];refine b6.aZ ?_ (l.length+1) (Uj l hlen l [] (by simp) ?_ ?_)
 ·repeat' constructor
 ·intro h;simp only[W,seval];simp only[JE];intros;exact aU (.inr rfl) rfl (by simp[one,h])
 ·intro h;simp only[W,seval];simp only[JE];intros;exact aU (.inr rfl) rfl ⟨rfl,rfl⟩
theorem TL:Ti prog 3 1 8:=lN (by kernel_rfl)
theorem td(l:List UInt8)(c:UInt8)(J:ae):PC prog 208 [.s l,.i .u8 c.toNat] J (fun r J'=>r=.i .i64 (Lib.indexByte l c)∧J'=J):=by
 refine PC.C0 fun w μ vs hv=>?_;obtain⟨x,hx,hl,_⟩:=(hv.2 0 _ rfl).kr;have hc:=(hv.2 1 _ rfl).ei;refine⟨.int .i64 (Lib.indexByte l c),?_,.i _ _⟩;rw[ZM hv.1,hx,hc];refine(Tryz.kH x c.toNat w).mono ?_;rintro e w' ⟨rfl,rfl⟩;refine⟨?_,rfl⟩;rw[hl];have:((c.toNat:Int).toNat).toUInt8=c:=by simp
 rw[this]
theorem pd(l:List UInt8)(c:UInt8)(J:ae):PC prog 157 [.s l,.i .u8 c.toNat] J (fun r J'=>r=.i .i64 (Lib.indexByte l c)∧J'=J):=by
 refine PC.intro func157 adp fun bj dx=>ax ?_;simp only[XE,SS,seval];simp only[W,seval];refine az (td l c _) rfl ?_;simp only[W,seval];exact aU (.inr rfl) rfl ⟨rfl,rfl⟩
theorem Ar(l:List UInt8)(c:UInt8)(J:ae):PC prog 272 [.s l,.s [c]] J (fun r J'=>r=.i .i64 (Lib.indexByte l c)∧J'=J):=by
 refine PC.C0 fun w μ vs hv=>?_;obtain⟨x,hx,hl,_⟩:=(hv.2 0 _ rfl).kr;obtain⟨y,hy,hly,_⟩:=(hv.2 1 _ rfl).kr;refine⟨.int .i64 (Lib.indexByte l c),?_,.i _ _⟩
 have e:y=⟨#[c]⟩:=by
  have h:y.data=#[c]:=by apply Array.toList_inj.1;rw[hly]
  cases y;simp_all
 rw[ZM hv.1,hx,hy,e];refine(Tryz.kG x c w).mono ?_;rintro e w' ⟨rfl,rfl⟩;exact⟨by rw[hl],rfl⟩
theorem Ed(l:List UInt8)(c:UInt8)(J:ae):PC prog 246 [.s l,.s [c]] J (fun r J'=>r=.fi [.s (cutAt l c).1,.s (cutAt l c).2.1,.b (cutAt l c).2.2]∧J'=J):=by
 refine PC.intro func246 acA fun bj dx=>ax ?_;simp only[WQ,SS,seval];simp only[W,seval];refine az (Ar l c _) rfl ?_;simp only[W,Nat.reduceAdd,Nat.reduceSub,Nat.reduceLeDiff,Nat.reduceEqDiff,Int.reduceToNat,reduceIte,reduceCtorEq];have h1:=kt l c;have h3:=DR (dx 0 _ rfl).1;refine⟨fun h=>?_,fun h=>?_⟩
 ·simp only[aY]at h;have h2:IntKind.i64.wrap (Lib.indexByte l c+((1:Nat):Int))=Lib.indexByte l c+1:=IntWalk.i64_in _ (by omega);rw[h2];refine⟨by omega,by omega,aU (.inr rfl) rfl ⟨?_,rfl⟩⟩;have h4:(Lib.indexByte l c+1).toNat=(Lib.indexByte l c).toNat+1:=by omega
  have h5:(l.drop ((Lib.indexByte l c).toNat+1)).take (l.length - ((Lib.indexByte l c).toNat+1))=l.drop ((Lib.indexByte l c).toNat+1):=eK (by simp);simp only[one,cutAt,h,aL,h4,h5,rN,aV,aW]
 ·simp only[b7]at h;exact aU (.inr rfl) rfl ⟨by simp only[one,cutAt,h,aK,aV,aW],rfl⟩
theorem zB(l:List UInt8)(c:UInt8)(J:ae):PC prog 206 [.s l,.s [c]] J (fun r J'=>r=.fi [.s (cutAt l c).1,.s (cutAt l c).2.1,.b (cutAt l c).2.2]∧J'=J):=by
 refine PC.intro func206 acU fun bj dx=>ax ?_;simp only[Xa,SS,seval];simp only[W,seval];refine az (Ed l c _) rfl ?_;simp only[W,seval];exact aU (.inr rfl) rfl ⟨rfl,rfl⟩
theorem th(l p:List UInt8)(J:ae):PC prog 248 [.s l,.s p] J (fun r J'=>r=.b (hasPrefix l p)∧J'=J):=by
 refine PC.intro func248 acz fun bj dx=>ax ?_;simp only[WO,SS,seval];simp only[W,seval];refine⟨fun h=>by simp at h;omega,aU (.inr rfl) rfl ⟨?_,rfl⟩⟩;simp[one,hasPrefix]
theorem Dj(l p:List UInt8)(J:ae):PC prog 209 [.s l,.s p] J (fun r J'=>r=.b (hasPrefix l p)∧J'=J):=by
 refine PC.intro func209 acS fun bj dx=>ax ?_;simp only[W8,SS,seval];simp only[W,seval];refine az (th l p _) rfl ?_;simp only[W,seval];exact aU (.inr rfl) rfl ⟨rfl,rfl⟩
theorem tf(l p:List UInt8)(J:ae):PC prog 249 [.s l,.s p] J (fun r J'=>r=.b (hasSuffix l p)∧J'=J):=by
 refine PC.intro func249 acy fun bj dx=>ax ?_;simp only[WN,SS,seval];simp only[W,seval];have h3:=DR (dx 0 _ rfl).1;have h4:=DR (dx 1 _ rfl).1;have h2:IntKind.i64.wrap ((l.length:Int) - (p.length:Int))=l.length - p.length:=IntWalk.i64_in _ (by omega);rw[h2];refine⟨fun h=>by simp at h;omega,aU (.inr rfl) rfl ⟨?_,rfl⟩⟩;simp only[one,hasSuffix,aV,aW]
 by_cases hle:p.length≤l.length
 ·have e:((l.length:Int) - (p.length:Int)).toNat=l.length - p.length:=by omega
  have h5:(l.drop (l.length - p.length)).take (l.length - (l.length - p.length))=l.drop (l.length - p.length):=eK (by simp);simp[e,h5,hle]
 ·simp[hle]
theorem Di(l p:List UInt8)(J:ae):PC prog 210 [.s l,.s p] J (fun r J'=>r=.b (hasSuffix l p)∧J'=J):=by
 refine PC.intro func210 acR fun bj dx=>ax ?_;simp only[W7,SS,seval];simp only[W,seval];refine az (tf l p _) rfl ?_;simp only[W,seval];exact aU (.inr rfl) rfl ⟨rfl,rfl⟩
theorem Fe(l:List UInt8)(J:ae):PC prog 155 [.s l] J (fun r J'=>r=.s (ey l)∧J'=J):=by
 refine PC.intro func155 adr fun bj dx=>ax ?_;simp only[XG,SS,seval];simp only[W,seval];refine az (zB l 32 _) rfl ?_;simp only[W,seval];exact aU (.inr rfl) rfl ⟨rfl,rfl⟩
theorem wX(l:List UInt8)(J:ae):PC prog 160 [.s l] J (fun r J'=>r=.s (ey l)∧J'=J):=by
 refine PC.intro func160 adm fun bj dx=>ax ?_;simp only[XB,SS,seval];simp only[W,seval];refine az (zB l 32 _) rfl ?_;simp only[W,seval];exact aU (.inr rfl) rfl ⟨rfl,rfl⟩
set_option maxRecDepth 8000 in
theorem kY(b:UInt8)(J:ae):PC prog 168 [.i .u8 b.toNat] J (fun r J'=>r=.i .i64 (dd b)∧J'=J):=by
 refine PC.intro func168 adi fun bj dx=>ax ?_;simp only[Xx,SS,seval];simp only[W,seval];clear dx bj;refine⟨fun h1=>?_,fun h1=>⟨fun h2=>?_,fun h2=>⟨fun h3=>?_,fun h3=>⟨fun h4=>?_,fun h4=>?_⟩⟩⟩⟩<;>refine aU (.inr rfl) rfl ⟨?_,rfl⟩<;>simp at*<;> simp only[one,dd,aV,aW,V.i.injEq,gk]<;>(repeat' split)<;>omega
theorem jq(s:List UInt8)(J:ae):PC prog 117 [.s s] J (fun r J'=>r=.b (ain s)∧J'=J):=by
 refine PC.intro func117 adI fun bj dx=>ax ?_;have hlen:=DR (dx 0 _ rfl).1;simp only[XZ,SS,seval];simp only[W,seval];refine⟨?_,?_,fun h=>?_,fun h=>?_⟩
 ·intro h;simp at h;omega
 ·intro h;simp at h;omega
 ·refine aU (.inr rfl) rfl ⟨?_,rfl⟩;simp only[one,aV,aW,V.b.injEq];cases s with
  | nil=>rfl
  | cons c r =>
   simp only[ain];simp at h;simp;omega
 ·cases s with
  | nil=>simp at h
  | cons c r =>
   have e:ain (c::r)=r.all ou:=by
    simp only[ain];simp at h;simp;omega
   refine b6.aZ ?_ (r.length+1) (QL (c::r) hlen r [c] rfl (fun h1=>?_) (fun h1=>?_))
   ·simp only[W,seval]
    repeat' constructor
   ·simp only[W,seval];intros;exact aU (.inr rfl) rfl ⟨by simp only[one,e,h1,aV,aW],rfl⟩
   ·simp only[W,seval];intros;exact aU (.inr rfl) rfl ⟨by simp only[one,e,h1,aV,aW],rfl⟩
theorem qv(x:It)(J:ae):PC prog 97 [.agg x.ah7] J (fun r J'=>r=.b (bW x)∧J'=J):=by
 refine PC.intro func97 c97 fun bj dx=>ax ?_;simp only[p97,It.ah7,SS,seval];simp only[W,seval];exact bF bj (.inr rfl) rfl (by simp[LW]) ⟨rfl,rfl⟩
theorem QH{J:ae}{K:Exit→St→Prop}(s:List UInt8)(hlen:s.length<2^63):∀ (rest pre:List UInt8),s=pre++rest →
  (rest.all (fun b=>!mK b)=true→((fh (.s s) (fj 62 fo)) fun ZZ=>K (.exit 0) ⟨ZZ,J⟩))→(rest.all (fun b=>!mK b)=false→((fj 2 (fh (.b false) (fj 60 fo))) fun ZZ=>K .ret ⟨ZZ,J⟩)) →
  fp J.length prog CM K (rest.length+1) ⟨(.s s::uu 2 (.i .i64 pre.length::uu 59 [])),J⟩:=by
 intro rest
 induction rest with
 | nil =>
  intro pre he h1 h2;have he:s=pre:=by simpa using he
  subst he;refine aB fun R hR=>?_;simp only[CM,W,seval];exact⟨fun h=>by simp at h,fun _=>h1 rfl ..⟩
 | cons c rest ih =>
  intro pre he h1 h2;subst he;refine aB fun R hR=>?_;simp only[CM,W,seval];refine⟨fun _=>⟨by simp;omega,fun _=>by simp;omega,fun _=>by simp;omega,?_⟩,fun h=>by simp at h;omega⟩;refine cu rfl (fun _=>pd [60,62,123,125] c _) rfl ?_;simp only[W,seval]
  have e:(decide ((c.toNat:Int)<32)||decide (126<(c.toNat:Int))||decide (0≤Lib.indexByte [60,62,123,125] c))=mK c:=by
   simp only[mK];congr 2<;>exact decide_eq_decide.2 (by omega)
  rw[e];refine⟨fun h=>?_,fun h=>?_⟩
  ·exact h2 (by simp[h]) ..
  ·refine hR _ (aZ ?_ (ih (pre++[c]) (by simp) (fun e=>h1 (by simp[h,e])) (fun e=>h2 (by simp only[me,e,iG]))));rw[bd (by simp at hlen;omega)];simp only[al,ai,aC]
   repeat' constructor
theorem l0(s:List UInt8)(J:ae):PC prog 154 [.s s] J (fun r J'=>r=.b (fB s)∧J'=J):=by
 refine PC.intro func154 ads fun bj dx=>ax ?_;have hlen:=DR (dx 0 _ rfl).1;simp only[XH,SS,seval];simp only[W,seval];have hm:∀ n:Nat,n<2^63→0<n→IntKind.i64.wrap ((n:Int) - 1)=((n - 1:Nat):Int):=fun n h1 h2=>by rw[IntWalk.i64_in _ (by omega)];omega
 have gv:∀ h:s.length≠0,IntKind.i64.wrap ((s.length:Int) - 1)=((s.length - 1:Nat):Int):=fun h=>hm _ hlen (by omega)
 by_cases h0:s.length=0
 ·refine⟨fun h=>by simp[h0]at h,fun _=>?_,fun h=>by simp[h0]at h⟩;exact aU (.inr rfl) rfl ⟨by simp[one,fB,ki,h0],rfl⟩
 ·rw[gv h0];refine⟨fun _=>by omega,fun h=>?_,fun h=>?_⟩
  ·refine aU (.inr rfl) rfl ⟨?_,rfl⟩
   have e:ki s=false:=by
    simp only[ki];simp[h0]at h ⊢;omega
   simp only[one,fB,e,eY,aV,aW]
  ·have e:ki s=true:=by
    simp only[ki];simp[h0]at h ⊢;omega
   refine b6.aZ ?_ (s.length+1) (QH s hlen s [] rfl (fun h1=>?_) (fun h1=>?_))
   ·simp only[W,seval]
    repeat' constructor
   ·simp only[JE];intros;simp only[W,seval];refine az (zB s 32 _) rfl ?_;simp only[W,seval];refine az (jq _ _) rfl ?_;simp only[W,seval];refine aU (.inr rfl) rfl ⟨?_,rfl⟩;simp only[one,fB,e,h1,wL,dP,aV,aW];congr 3;exact decide_eq_decide.2 (by omega)
   ·simp only[JE];intros;simp only[W,seval];exact aU (.inr rfl) rfl ⟨by simp only[one,fB,e,h1,dP,eY,aV,aW],rfl⟩
theorem Ud{J:ae}{K:Exit→St→Prop}(x:It)(its:List It)(bj:bG J)(hlen:its.length<2^63):∀ (rest pre:List It),its=pre++rest →
  (fits rest x=true→((fj 40 fo) fun ZZ=>K (.exit 0) ⟨ZZ,J++[.box 61 x.ah7]⟩))→(fits rest x=false→∀ loc,((fj 4 (fh (.b false) (fj 35 fo))) fun ZZ=>K .ret ⟨ZZ,J++loc⟩)) →
  fp J.length prog Iz K (rest.length+1) ⟨(uu 3 (.ptr J.length 0::uu 3 (.sl 3 (its.map It.ah7)::.i .i64 its.length::.i .i64 pre.length::uu 30 []))),J++[.box 61 x.ah7]⟩:=by
 intro rest
 induction rest with
 | nil =>
  intro pre he h1 h2;have he:its=pre:=by simpa using he
  subst he;refine aB fun R hR=>?_;simp only[Iz,W,seval];exact⟨fun h=>by simp at h,fun _=>h1 rfl ..⟩
 | cons y rest ih =>
  intro pre he h1 h2;subst he;refine aB fun R hR=>?_;simp only[Iz,It.ah7,W,seval];refine⟨fun _=>⟨by simp;omega,?_⟩,fun h=>by simp at h;omega⟩;refine az (qv y _) rfl ?_;simp only[W,seval];have fM:bG (J++[.box 61 x.ah7]):=cj bj (by simp[It.ah7,eI,Qt,T8])
  have back:fits (y::rest) x=fits rest x→∀ fr',nU fr' ((uu 3 (.ptr J.length 0::uu 3 (.sl 3 ((pre++y::rest).map It.ah7)::.i .i64 (pre++y::rest).length::.i .i64 (pre++[y]).length::uu 30 []))))→∀ o,R ⟨fr',J++[.box 61 x.ah7,o]⟩:=by
   intro e fr' hc o;rw[e]at h1 h2;refine hR _ (b5 [.box 61 x.ah7] [o] fM hc ?_ (ih (pre++[y]) (by simp) h1 h2));simp only[LW,ai,aC,bz];omega
  refine⟨fun h=>?_,fun h=>?_⟩
  ·refine back ?_ _ ?_ _
   ·have:iT x y=false:=by simp only[iT,h,fG,eY]
    simp[fits,this]
   ·rw[bd (by simp at hlen;omega)];simp only[al,ai,aC]
    repeat' constructor
  ·refine cu rfl (fun _=>Fe y.aib _) rfl ?_;simp only[W,seval];refine⟨fun h3=>?_,fun h3=>?_⟩
   ·refine h2 ?_ _ ..;have:iT x y=true:=by simp only[iT,h,iF,dP];exact h3
    simp[fits,this]
   ·refine back ?_ _ ?_ _
    ·have:iT x y=false:=by simp only[iT,h,iF,dP];exact h3
     simp[fits,this]
    ·rw[bd (by simp at hlen;omega)];simp only[al,ai,aC]
     repeat' constructor
theorem RZ(x:It)(its:List It)(J:ae):PC prog 98 [.sl 3 (its.map It.ah7),.agg x.ah7] J (fun r J'=>r=.b (fits its x)∧J'=J):=by
 refine PC.intro func98 c98 fun bj dx=>ax ?_;have hlen:=rQ (dx 0 _ rfl).1;rw[ag]at hlen;simp only[p98,SS,seval];simp only[ag,W,seval];refine⟨by simp[It.ah7,eZ,eX],?_⟩;refine b6.aZ ?_ (its.length+1) (Ud x its bj hlen its [] rfl (fun h1=>?_) (fun h1=>?_))
 ·simp only[W,seval]
  repeat' constructor
 ·simp only[JE];intros;simp only[W,seval];exact bF bj (.inr rfl) rfl (by simp[LW]) ⟨by simp[one,h1],rfl⟩
 ·simp only[JE];intros;simp only[W,seval];exact bF bj (.inr rfl) rfl (by simp[LW]) ⟨by simp[one,h1],rfl⟩
set_option maxRecDepth 8000 in
theorem Ao(pre rest:List It)(x:It)(J:ae):PC prog 96 [.sl 3 ((pre++x::rest).map It.ah7),.i .i64 pre.length] J (fun r J'=>r=.b (cH pre.getLast? x)∧J'=J):=by
 refine PC.intro func96 c96 fun bj dx=>ax ?_;have hlen:=rQ (dx 0 _ rfl).1;rw[ag]at hlen;simp only[p96,SS,seval];simp only[It.ah7,W,seval];refine⟨by simp;omega,fun hk=>?_,fun hk=>⟨fun nX=>?_,fun nX=>?_⟩⟩
 ·simp only[bT]at hk
  have hp:∀ y ys,pre=ys++[y]→IntKind.i64.wrap ((pre.length:Int) - 1)=ys.length:=fun y ys e=>by
   subst e;have:(ys++[y]).length<2^63:=by simp at hlen ⊢;omega
   rw[IntWalk.i64_in _ (by omega)];simp
  rcases kD pre with Hs | ⟨ys,y,xF⟩
  ·subst Hs;refine⟨fun h=>by simp at h,.i .i64 0,fun h=>by simp at h,?_⟩;simp only[W,seval];refine bF bj (.inr rfl) rfl (by simp[LW]) ⟨?_,rfl⟩;simp[one,cH,hk]
  ·rw[kE]at xF;rw[hp y ys xF];subst xF
   have eA:eS (List.map It.ah7 (ys++[y]++x::rest)) ys.length 0=some (.i .i64 y.ah9):=by
    rw[aR,iH,qO];rfl
   simp only[aD,eA];refine⟨fun _=>by simp;omega,.i .i64 y.ah9,fun _=>⟨True,rfl,trivial⟩,?_⟩;simp only[W,seval];refine bF bj (.inr rfl) rfl (by simp[LW]) ⟨?_,rfl⟩;have gv:(((ys++[y]).length:Int)==0)=false:=by simp;omega
   simp only[one,cH,hk,gv,aL,aV,aW,pO,mV,DC,im]
 ·refine az (jq _ _) rfl ?_;simp only[W,seval];simp only[bT,cI]at hk nX;refine bF bj (.inr rfl) rfl (by simp[LW]) ⟨?_,rfl⟩;simp only[one,cH,hk,nX,aL,aK,aV,aW];simp
 ·simp only[bT,cI,gm]at hk nX
  have tagged:(x.ah9=2∨x.ah9=4)→cH pre.getLast? x=(fB x.aib&&decide (1≤x.id)&&decide (x.id≤999)):=fun h=>by
   simp only[cH,hk,nX,h,aL,aK]
  refine⟨fun h2=>⟨fun _=>?_,fun h=>?_⟩,fun h2=>⟨fun h4=>?_,fun h4=>⟨fun h3=>?_,fun h3=>?_⟩⟩⟩
  ·refine az (l0 _ _) rfl ?_;simp only[W,seval];refine bF bj (.inr rfl) rfl (by simp[LW]) ⟨?_,rfl⟩;simp at h2;simp only[one,tagged (.inl h2),aV,aW]
  ·rw[h2]at h;simp at h
  ·refine az (l0 _ _) rfl ?_;simp only[W,seval];refine bF bj (.inr rfl) rfl (by simp[LW]) ⟨?_,rfl⟩;simp at h4;simp only[one,tagged (.inr h4),aV,aW]
  ·refine az (jq _ _) rfl ?_;simp only[W,seval];refine bF bj (.inr rfl) rfl (by simp[LW]) ⟨?_,rfl⟩;simp at h3;simp[one,cH,h3]
  ·refine bF bj (.inr rfl) rfl (by simp[LW]) ⟨?_,rfl⟩;simp at h2 h3 h4;simp[one,cH,hk,nX,h2,h3,h4]
theorem Up{J:ae}{K:Exit→St→Prop}(its:List It)(bj:bG J)(hlen:its.length<2^63):∀ (rest pre:List It),its=pre++rest →
  (bA pre rest=0→((fj 35 fo) fun ZZ=>K (.exit 0) ⟨ZZ,J⟩))→(bA pre rest≠0→∀ loc,((fj 2 (fh (.i .i64 (bA pre rest)) (fj 32 fo))) fun ZZ=>K .ret ⟨ZZ,J++loc⟩)) →
  fp J.length prog IL K (rest.length+1) ⟨(.sl 3 (its.map It.ah7)::uu 12 (.sl 3 (its.map It.ah7)::.i .i64 its.length::.i .i64 pre.length::uu 19 [])),J⟩:=by
 intro rest
 induction rest with
 | nil =>
  intro pre he h1 h2;have he:its=pre:=by simpa using he
  subst he;refine aB fun R hR=>?_;simp only[IL,W,seval];exact⟨fun h=>by simp at h,fun _=>h1 rfl ..⟩
 | cons y rest ih =>
  intro pre he h1 h2;subst he;refine aB fun R hR=>?_;simp only[IL,It.ah7,W,seval];refine⟨fun _=>⟨by simp;omega,?_⟩,fun h=>by simp at h;omega⟩;refine az (Ao pre rest y _) rfl ?_;simp only[W,seval];refine⟨fun h=>?_,fun h=>?_⟩
  ·have e:bA pre (y::rest)=1:=by simp at h;simp[bA,h]
   rw[e]at h2;exact h2 (by decide) _ ..
  ·refine az (qv y _) rfl ?_;simp only[W,seval];have ht:List.take (pre.length - 0) (List.map It.ah7 (pre++y::rest))=pre.map It.ah7:=by simp
   simp only[ht];refine⟨fun _=>by simp;omega,cu rfl (fun _=>RZ y pre _) rfl ?_⟩;simp only[W,seval];have h':cH pre.getLast? y=true:=by simpa using h
   refine⟨fun h3=>?_,fun h3=>?_⟩
   ·have e:bA pre (y::rest)=7:=by
     simp only[bA,h',h3,aL,aK,Ia]
    rw[e]at h2;exact h2 (by decide) _ ..
   ·have e:bA pre (y::rest)=bA (pre++[y]) rest:=by
     simp only[bA,h',h3,aK,Ia,aF]
    rw[e]at h1 h2;refine hR _ (oh (aq _) bj ?_ ?_ (ih (pre++[y]) (by simp) h1 h2))
    ·rw[bd (by simp at hlen;omega)];simp only[al,ai,aC]
     repeat' constructor
    ·simp only[LW]
theorem jO(its:List It)(J:ae):PC prog 44 [.sl 3 (its.map It.ah7)] J (fun r J'=>r=.i .i64 (bX its)∧J'=J):=by
 refine PC.intro func44 c44 fun bj dx=>ax ?_;have hlen:=rQ (dx 0 _ rfl).1;rw[ag]at hlen;simp only[p44,SS,seval];simp only[ag,W,seval];refine cu rfl (fun _=>K5 its _) rfl ?_;simp only[ag,W,seval];refine⟨fun h=>?_,fun h=>?_⟩
 ·refine aU (.inr rfl) rfl ⟨?_,rfl⟩;simp at h;have:512<its.length∨1024<ff 0 its:=by omega
  simp only[one,bX,this,aL,aV,aW]
 ·simp at h;have hn:¬ (512<its.length∨1024<ff 0 its):=by omega
  refine b6.aZ ?_ (its.length+1) (Up its bj hlen its [] rfl (fun h1=>?_) (fun h1=>?_))
  ·simp only[W,seval]
   repeat' constructor
  ·simp only[JE];intros;simp only[W,seval];exact aU (.inr rfl) rfl ⟨by simp only[one,bX,hn,h1,aK,aV,aW],rfl⟩
  ·simp only[JE];intros;simp only[W,seval];exact bF bj (.inr rfl) rfl (by simp[LW]) ⟨by simp only[one,bX,hn,aK,aV,aW],rfl⟩
theorem QI{J:ae}{K:Exit→St→Prop}(its:List It)(bj:bG J)(hlen:its.length<2^40):∀ (rest pre:List It) (acc:List Int),its=pre++rest→acc.length≤pre.length →
  (∀ es,((fj 3 (fh (.own (J.length+1) (ck acc rest).length) (fj 29 fo))) fun ZZ=>K (.exit 0) ⟨ZZ,J++[es,.row 3 1 8 (ck acc rest).length false ((ck acc rest).map bR)]⟩)) →
  fp J.length prog yC K (rest.length+1) ⟨(uu 3 (.own (J.length+1) acc.length::.mp J.length::uu 3 (.sl 3 (its.map It.ah7)::.i .i64 its.length::.i .i64 pre.length::uu 22 []))),J++[.map 3 4 (fK acc),.row 3 1 8 acc.length false (acc.map bR)]⟩:=by
 intro rest
 induction rest with
 | nil =>
  intro pre acc he hac h1;have he:its=pre:=by simpa using he
  subst he;refine aB fun R hR=>?_;simp only[yC,W,seval];exact⟨fun h=>by simp at h,fun _=>h1 _ ..⟩
 | cons y rest ih =>
  intro pre acc he hac h1;subst he;refine aB fun R hR=>?_
  by_cases hm:y.id∈acc
  ·have hf:cN (J++[.map 3 4 (fK acc),.row 3 1 8 acc.length false (acc.map bR),.box 61 y.ah7]) 0 (.mp J.length) (.i .i64 y.id)=some (some (0+acc.idxOf y.id,.b true)):=by
    simp only[cN,gj,aw,rz,hm,aL]
   simp only[It.ah7]at hf;simp only[yC,It.ah7,W,seval];refine⟨fun _=>⟨by simp;omega,?_⟩,fun h=>by simp at h;omega⟩;refine az (qv y _) rfl ?_;simp only[hf,W,seval]
   have e:ck acc (y::rest)=ck acc rest:=by
    simp[ck,hm]
   rw[e]at h1;have fM:bG (J++[.map 3 4 (fK acc),.row 3 1 8 acc.length false (acc.map bR)]):=cj bj (by simp[vD]);refine⟨fun _=>by simp[V.ov],fun h=>by simp at h,fun _=>?_⟩;refine hR _ (b5 [_,_] [_] fM ?_ ?_ (ih (pre++[y]) acc (by simp) (by simp;omega) h1))
   ·rw[bd (by simp at hlen;omega)];simp only[al,ai,aC]
    repeat' constructor
   ·simp only[LW,ai,aC,bz];omega
  ·have hf:cN (J++[.map 3 4 (fK acc),.row 3 1 8 acc.length false (acc.map bR),.box 61 y.ah7]) 0 (.mp J.length) (.i .i64 y.id)=some none:=by
    simp only[cN,gj,aw,rz,hm,aK]
   have Fu:dM 0 (.i .i64 y.id) (fK acc) 0=some none:=by simp only[rz,hm,aK]
   simp only[It.ah7]at hf;simp only[yC,It.ah7,W,seval];refine⟨fun _=>⟨by simp;omega,?_⟩,fun h=>by simp at h;omega⟩;refine az (qv y _) rfl ?_;simp only[hf,Fu,W,seval];have hc:acc.contains y.id=false:=by simpa using hm
   refine⟨fun _=>by simp[V.ov],fun h=>?_,fun h=>?_⟩
   ·have e:ck acc (y::rest)=ck (acc++[y.id]) rest:=by simp[ck,hm,h]
    rw[e]at h1;have hr:acc.map bR++[[V.i .i64 y.id]]=(acc++[y.id]).map bR:=by simp[bR]
    have hs:fK acc++[(V.i .i64 y.id,cX [none] (V.b true))]=fK (acc++[y.id]):=by simp[fK,cX]
    have hl:acc.length+1=(acc++[y.id]).length:=by simp
    rw[hr,hs,hl];have fM:bG (J++[.map 3 4 (fK (acc++[y.id])),.row 3 1 8 (acc++[y.id]).length false ((acc++[y.id]).map bR)]):=cj bj (by simp[vD]);refine⟨by simp[V.ov,cX,V.iL,V.cell,V.pure],?_,?_⟩
    ·simp at hlen;simp[maxLen];omega
    ·refine hR _ (b5 [_,_] [_] fM ?_ ?_ (ih (pre++[y]) (acc++[y.id]) (by simp) (by simp;omega) h1))
     ·rw[bd (by simp at hlen;omega)];simp only[al,ai,aC]
      repeat' constructor
     ·simp only[LW,ai,aC,bz];omega
   ·have e:ck acc (y::rest)=ck acc rest:=by simp[ck,h]
    rw[e]at h1;have fM:bG (J++[.map 3 4 (fK acc),.row 3 1 8 acc.length false (acc.map bR)]):=cj bj (by simp[vD]);refine hR _ (b5 [_,_] [_] fM ?_ ?_ (ih (pre++[y]) acc (by simp) (by simp;omega) h1))
    ·rw[bd (by simp at hlen;omega)];simp only[al,ai,aC]
     repeat' constructor
    ·simp only[LW,ai,aC,bz];omega
theorem v8(its:List It)(hlen:its.length<2^40)(J:ae):PC prog 142 [.sl 3 (its.map It.ah7)] J (fun r J'=>r=.own J.length 0∧J'=J++[.row 3 1 8 0 false ((aio its).map bR)]):=by
 refine PC.intro func142 adv fun bj dx=>ax ?_;simp only[XK,SS,seval];simp only[ag,W,seval];refine b6.wk ((Wk.kR (J:=J) [_] (k:=3) TL rfl).trans (Wk.gA ?_)) (b6.vP (its.length+1) (QI its bj hlen its [] [] rfl (aq _) ?_))
 ·simp only[W,seval]
  repeat' constructor
 ·simp only[JE];intros;simp only[W,seval];exact oX 1 bj (.inr rfl) rfl rfl rfl (by simp[wY,Ob.gen]) (by simp[one,aio,Nr,Ob.fresh])
theorem G7(its:List It)(hlen:its.length<2^40)(J:ae):PC prog 142 [.sl 3 (its.map It.ah7)] J (fun r J'=>r=.sl 1 ((aio its).map bR)∧J'=J) :=
 PC.closed fun bj=>PC.fz bj (v8 its hlen J)
theorem I4{J:ae}{K:Exit→St→Prop}(bj:bG J)(N:Nat)(hN:N<2^40):∀ (k i:Nat),i+k=N →
  ((fj 3 (fh (.own J.length 0) (fj 15 fo))) fun ZZ=>K (.exit 0) ⟨ZZ,J++[.row 3 1 8 0 false (fD N N)]⟩) →
  fp J.length prog Cz K (k+1) ⟨(uu 3 (.own J.length 0::uu 4 (.i .i64 N::.i .i64 i::uu 9 []))),J++[.row 3 1 8 0 false (fD N i)]⟩
 | 0,i,he,h1=>by
  have he:i=N:=by omega
  subst he;refine aB fun R hR=>?_;simp only[Cz,W,seval];exact⟨fun h=>by simp at h,fun _=>h1 ..⟩
 | k+1,i,he,h1=>by
  have hi:i<N:=by omega
  refine aB fun R hR=>?_;simp only[Cz,sf (Nat.le_of_lt hi),AS hi,W,seval];refine⟨fun _=>?_,fun h=>by simp at h;omega⟩;have hw:=bd (n:=i) (by omega);rw[hw];have mF:(fD N i).set i [V.i .i64 (((i+1:Nat)):Int)]=fD N (i+1):=by rw[← AR hi];rfl
  rw[mF];refine⟨by omega,hi,hR _ (aZ ?_ (I4 bj N hN k (i+1) (by omega) h1))⟩
  repeat' constructor
theorem wH(n:Nat)(hn:n<2^40)(J:ae):PC prog 197 [.i .i64 n] J (fun r J'=>r=.sl 1 ((cc n).map bR)∧J'=J):=by
 refine PC.intro func197 acY fun bj dx=>ax ?_;simp only[Xe,SS,seval];simp only[W,seval];refine⟨⟨by omega,.inl trivial,by omega,by omega,by simp[maxLen];omega⟩,?_⟩;have e:List.replicate n [V.i .i64 0]=fD n 0:=by simp[fD,cc]
 rw[e];refine b6.aZ (fr':=(uu 3 (.own J.length 0::uu 4 (.i .i64 n::.i .i64 (0:Nat)::uu 9 [])))) ?_ (n+1) (I4 bj n hn n 0 (by omega) ?_)
 ·rw[sf (dT _)]
  repeat' constructor
 ·simp only[JE];intros;simp only[W,seval];refine qc 0 bj (.inr rfl) rfl rfl ?_ ?_
  ·simp[fz,qD,eI,wh]
  ·simp[fz,qD,one,fD]
def Hp(l:List Int)(x:Int):Int:=if x∈l then l.idxOf x else -1
theorem Qw{J:ae}{K:Exit→St→Prop}(x:Int)(l:List Int)(hlen:l.length<2^63):∀ (rest pre:List Int),l=pre++rest→x ∉ pre →
  (x ∉ l→((fj 19 fo) fun ZZ=>K (.exit 0) ⟨ZZ,J⟩))→(x∈l→((fj 4 (fh (.i .i64 (Hp l x)) (fj 14 fo))) fun ZZ=>K .ret ⟨ZZ,J⟩)) →
  fp J.length prog Cr K (rest.length+1) ⟨(.sl 1 (l.map bR)::.i .i64 x::uu 5 (.i .i64 l.length::.i .i64 pre.length::uu 10 [])),J⟩:=by
 intro rest
 induction rest with
 | nil =>
  intro pre he hn h1 h2;have he:l=pre:=by simpa using he
  subst he;refine aB fun R hR=>?_;simp only[Cr,W,seval];exact⟨fun h=>by simp at h,fun _=>h1 hn ..⟩
 | cons c rest ih =>
  intro pre he hn h1 h2;subst he;refine aB fun R hR=>?_;simp only[Cr,bR,W,seval];refine⟨fun _=>⟨by simp;omega,fun h=>?_,fun h=>?_⟩,fun h=>by simp at h;omega⟩
  ·simp at h;subst h
   have e:Hp (pre++x::rest) x=pre.length:=by
    simp[Hp,List.idxOf_append,hn]
   rw[e]at h2;exact h2 (by simp) ..
  ·simp at h;refine hR _ (aZ ?_ (ih (pre++[c]) (by simp) (by simp[hn,h]) h1 h2));rw[bd (by simp at hlen;omega)];simp only[al,ai,aC]
   repeat' constructor
theorem Fi(l:List Int)(x:Int)(J:ae):PC prog 239 [.sl 1 (l.map bR),.i .i64 x] J (fun r J'=>r=.i .i64 (Hp l x)∧J'=J):=by
 refine PC.intro func239 acC fun bj dx=>ax ?_;have hlen:=rQ (dx 0 _ rfl).1;rw[ag]at hlen;simp only[WS,SS,seval];simp only[ag,W,seval];refine b6.aZ ?_ (l.length+1) (Qw x l hlen l [] rfl (by simp) (fun h=>?_) (fun h=>?_))
 ·repeat' constructor
 ·simp only[JE];intros;simp only[W,seval];exact aU (.inr rfl) rfl ⟨by simp[one,Hp,h],rfl⟩
 ·simp only[JE];intros;simp only[W,seval];exact aU (.inr rfl) rfl ⟨rfl,rfl⟩
theorem zC(l:List Int)(x:Int)(J:ae):PC prog 196 [.sl 1 (l.map bR),.i .i64 x] J (fun r J'=>r=.b (l.contains x)∧J'=J):=by
 refine PC.intro func196 acZ fun bj dx=>ax ?_;simp only[Xf,SS,seval];simp only[W,seval];refine az (Fi l x _) rfl ?_;simp only[W,seval];refine aU (.inr rfl) rfl ⟨?_,rfl⟩
 by_cases h:x∈l
 ·simp[one,Hp,h]
 ·simp[one,Hp,h]
theorem I3{J:ae}{K:Exit→St→Prop}(a b:List It)(hlen:a.length<2^63)(Ow:a.length=b.length):∀ (ra rb pa pb:List It),a=pa++ra→b=pb++rb→pa.length=pb.length →
  (ju ra rb=true→((fj 26 fo) fun ZZ=>K (.exit 0) ⟨ZZ,J⟩))→(ju ra rb=false→((fj 4 (fh (.b false) (fj 21 fo))) fun ZZ=>K .ret ⟨ZZ,J⟩)) →
  fp J.length prog Cy K (ra.length+1) ⟨(.sl 3 (a.map It.ah7)::.sl 3 (b.map It.ah7)::uu 10 (.i .i64 a.length::.i .i64 pa.length::uu 12 [])),J⟩
 | [],rb,pa,pb,ha,hb,hp,h1,h2=>by
  have:rb=[]:=by
   subst ha;subst hb;simp at Ow;have:rb.length=0:=by omega
   exact xp.1 this
  subst this;subst ha;refine aB fun R hR=>?_;simp only[Cy,W,seval];exact⟨fun h=>by simp at h,fun _=>h1 rfl ..⟩
 | x::ra,[],pa,pb,ha,hb,hp,h1,h2=>by
  subst ha;subst hb;simp at Ow;omega
 | x::ra,y::rb,pa,pb,ha,hb,hp,h1,h2=>by
  subst ha;subst hb;refine aB fun R hR=>?_;have eA:(List.map It.ah7 (pb++y::rb)).getD pa.length []=y.ah7:=by rw[hp];exact uM
  simp only[Cy,eA,It.ah7,dO,bY,W,seval];refine⟨fun _=>⟨by simp;omega,by simp;omega,fun h=>?_,fun h=>?_⟩,fun h=>by simp at h;omega⟩
  ·refine h2 ?_ ..;have:Hl x y=false:=by simpa only[Hl,dm]using h
   simp[ju,this]
  ·have he:Hl x y=true:=by simpa only[Hl,mS]using h
   have e:ju (x::ra) (y::rb)=ju ra rb:=by simp[ju,he]
   rw[e]at h1 h2;refine hR _ (aZ ?_ (I3 _ _ hlen Ow ra rb (pa++[x]) (pb++[y]) (by simp) (by simp) (by simp[hp]) h1 h2));rw[bd (by simp at hlen;omega)];simp only[al,ai,aC]
   repeat' constructor
theorem AO(a b:List It)(J:ae):PC prog 198 [.sl 3 (a.map It.ah7),.sl 3 (b.map It.ah7)] J (fun r J'=>r=.b (ju a b)∧J'=J):=by
 refine PC.intro func198 acX fun bj dx=>ax ?_;have hlen:=rQ (dx 0 _ rfl).1;rw[ag]at hlen;simp only[Xd,SS,seval];simp only[ag,W,seval];refine⟨fun h=>?_,fun h=>?_⟩
 ·refine aU (.inr rfl) rfl ⟨?_,rfl⟩;simp at h;simp only[one,aV,aW,V.b.injEq];cases e:ju a b
  ·rfl
  ·exact absurd (Lb e) (by omega)
 ·simp at h;refine b6.aZ ?_ (a.length+1) (I3 a b hlen (by omega) a b [] [] rfl rfl rfl (fun h1=>?_) (fun h1=>?_))
  ·simp only[W,seval]
   repeat' constructor
  ·simp only[W,seval];simp only[JE];intros;exact aU (.inr rfl) rfl ⟨by simp[one,h1],rfl⟩
  ·simp only[W,seval];simp only[JE];intros;exact aU (.inr rfl) rfl ⟨by simp[one,h1],rfl⟩
theorem wu(a b:List It)(J:ae):PC prog 129 [.sl 3 (a.map It.ah7),.sl 3 (b.map It.ah7)] J (fun r J'=>r=.b (ju a b)∧J'=J):=by
 refine PC.intro func129 adB fun bj dx=>ax ?_;simp only[XQ,SS,seval];simp only[W,seval];refine az (AO a b _) rfl ?_;simp only[W,seval];exact aU (.inr rfl) rfl ⟨rfl,rfl⟩
theorem Nv{J:ae}{K:Exit→St→Prop}(its:List It)(go:Nat)(rows:List (List V))(bj:bG J)(hlen:its.length<2^40):
  ∀ (rest pre:List It) (b:List UInt8) (g:Nat),its=pre++rest→b.length+(aie rest).1.length<2^40 →
  (∀ g',((fh (.sl 3 (its.map It.ah7)) (fj 2 (fh (.own J.length go) (fh (.i .i64 (its.length - (aie rest).2.length:Nat)) (fh (.own (J.length+1) g') (fj 50 fo)))))) fun ZZ=>K (.exit 2) ⟨ZZ,J++[.row 61 3 32 go false rows,.row 5 1 1 g' false (de (b++(aie rest).1))]⟩)) →
  fp J.length prog CP K (rest.length+1) ⟨(.sl 3 (its.map It.ah7)::uu 2 (.own J.length go::.i .i64 pre.length::.own (J.length+1) g::uu 50 [])),J++[.row 61 3 32 go false rows,.row 5 1 1 g false (de b)]⟩:=by
 intro rest
 induction rest with
 | nil =>
  intro pre b g he hb h1;have he:its=pre:=by simpa using he
  subst he;refine aB fun R hR=>?_;simp only[CP,W,seval];refine⟨fun h=>by simp at h,.i .i64 0,fun h=>by simp at h,?_⟩;simp only[W,seval];refine⟨fun h=>by simp at h,fun _=>?_⟩;have e:b++(aie []).1=b:=by simp[aie]
  rw[e]at h1;exact h1 _ ..
 | cons x rest ih =>
  intro pre b g he hb h1;subst he;refine aB fun R hR=>?_;simp only[CP,It.ah7,W,seval];refine⟨fun _=>by simp;omega,.i .i64 x.ah9,fun _=>rfl,?_⟩;simp only[W,seval];have dc:decide ((pre.length:Int)<((List.map It.ah7 (pre++x::rest)).length:Int))=true:=by simp;omega
  simp only[dc,It.ah7,W,seval];refine⟨fun h=>?_,fun h=>?_⟩
  ·simp at h;have e1:(aie (x::rest)).1=x.aib++(aie rest).1:=by simp[aie,h]
   have e2:(aie (x::rest)).2=(aie rest).2:=by simp[aie,h]
   rw[e1]at h1 hb;rw[e2]at h1;simp only[← List.append_assoc b]at h1;rw[al]at hb;refine⟨by simp;omega,⟨?_,?_⟩,?_⟩
   ·simp only[dA];omega
   ·simp only[dA,maxLen];omega
   ·rw[gO];refine hR _ (aZ ?_ (ih (pre++[x]) (b++x.aib) (g+1) (by simp) (by rw[al];omega) h1));rw[bd (by simp at hlen;omega)];simp only[al,ai,aC]
    repeat' constructor
  ·simp at h;have e1:(aie (x::rest))=([],x::rest):=by simp[aie,h]
   rw[e1]at h1;have e2:(pre++x::rest).length - (x::rest).length=pre.length:=by simp
   have h2:=h1 g;simp only[e2,bV]at h2;exact h2 ..
theorem B5:Ti prog 61 3 32:=lN (by kernel_rfl)
theorem MJ:Ti prog 5 1 1:=lN (by kernel_rfl)
theorem rk{J:ae}{K:Exit→St→Prop}(its:List It)(bj:bG J)(hlen:its.length<2^40):
  ∀ (n:Nat) (rest pre out:List It),its=pre++rest→rest.length≤n→aH rest<2^40→out.length≤pre.length →
  ((fj 3 (fh (.own J.length (out++gD n rest).length) (fj 52 fo))) fun ZZ=>K (.exit 0) ⟨ZZ,J++[.row 61 3 32 (out++gD n rest).length false ((out++gD n rest).map It.ah7)]⟩) →
  fp J.length prog CO K (n+1) ⟨(.sl 3 (its.map It.ah7)::uu 2 (.own J.length out.length::.i .i64 pre.length::uu 51 [])),J++[.row 61 3 32 out.length false (out.map It.ah7)]⟩
 | n,[],pre,out,he,hn,ht,ho,h1=>by
  have he:its=pre:=by simpa using he
  subst he;have e:out++gD n []=out:=by cases n<;>simp[gD]
  rw[e]at h1;refine aB fun R hR=>?_;simp only[CO,W,seval];exact⟨fun h=>by simp at h,fun _=>h1 ..⟩
 | 0,x::rest,pre,out,he,hn,ht,ho,h1=>by simp at hn
 | n+1,x::rest,pre,out,he,hn,ht,ho,h1=>by
  subst he;refine aB fun R hR=>?_;simp only[CO,It.ah7,W,seval];refine⟨fun _=>⟨by simp;omega,fun hk=>?_,fun hk=>?_⟩,fun h=>by simp at h;omega⟩
  ·simp at hk;have e:out++gD (n+1) (x::rest)=(out++[x])++gD n rest:=by simp[gD,hk]
   rw[e]at h1;have hr:out.map It.ah7++[[.i .i64 x.ah9,.s x.aib,.i .i64 x.id]]=(out++[x]).map It.ah7:=by simp[It.ah7]
   have hl:out.length+1=(out++[x]).length:=by simp
   rw[hr,hl];simp only[aH]at ht;refine⟨by simp;omega,?_,?_⟩
   ·simp at hlen;simp[maxLen];omega
   ·refine hR _ (aZ ?_ (rk _ bj hlen n rest (pre++[x]) (out++[x]) (by simp) (by simp at hn;omega) (by omega) (by simp;omega) h1));rw[bd (by simp at hlen;omega)];simp only[al,ai,aC]
    repeat' constructor
  ·simp at hk;obtain⟨run,cT⟩:=rT (x::rest);have Mj:=nJ (r:=rest) hk;have YA:=tm (x::rest)
   have Fo:(pre++x::rest).length - (aie (x::rest)).2.length=(pre++run).length:=by
    have:=congrArg List.length cT;simp only[al]at this ⊢;omega
   refine b6.wk ((Wk.kR (J:=J) [_] (k:=5) MJ rfl).trans (Wk.gA ?_)) (b6.vP ((x::rest).length+1) (Nv _ out.length (out.map It.ah7) bj hlen (x::rest) pre [] 0 rfl (by simp;omega) ?_))
   ·simp only[W,seval]
    repeat' constructor
   ·simp only[JE];intros;rw[Fo,bk];simp only[dA,kz,W,seval];have YX:pre++x::rest=(pre++run)++(aie (x::rest)).2:=by rw[aR,← cT]
    have rI:1≤run.length:=by
     have:=congrArg List.length cT;simp only[al,ai]at this;omega
    refine⟨fun h=>⟨?_,?_⟩,fun h=>?_⟩
    ·simp at hlen;simp[maxLen];omega
    ·simp at h
     have e:out++gD (n+1) (x::rest)=(out++[⟨1,(aie (x::rest)).1,0⟩])++gD n (aie (x::rest)).2:=by
      have:¬ (aie (x::rest)).1.length=0:=by omega
      simp[gD,hk,this]
     rw[e]at h1;have hr:out.map It.ah7++[[.i .i64 1,.s (aie (x::rest)).1,.i .i64 0]]=(out++[(⟨1,(aie (x::rest)).1,0⟩:It)]).map It.ah7:=by simp[It.ah7]
     have hl:out.length+1=(out++[(⟨1,(aie (x::rest)).1,0⟩:It)]).length:=by simp
     rw[hr,hl];have fM:bG (J++[.row 61 3 32 (out++[(⟨1,(aie (x::rest)).1,0⟩:It)]).length false ((out++[(⟨1,(aie (x::rest)).1,0⟩:It)]).map It.ah7)]):=cj bj (by simp);refine hR _ (b5 [_] [_] fM ?_ ?_ (rk _ bj hlen n (aie (x::rest)).2 (pre++run) (out++[⟨1,(aie (x::rest)).1,0⟩]) YX (by simp at hn;omega) (by omega) (by simp;omega) h1))
     ·repeat' constructor
     ·simp only[LW,ai,aC,bz];omega
    ·simp at h
     have e:out++gD (n+1) (x::rest)=out++gD n (aie (x::rest)).2:=by
      simp[gD,hk,h]
     rw[e]at h1;have fM:bG (J++[.row 61 3 32 out.length false (out.map It.ah7)]):=cj bj (by simp);refine hR _ (b5 [_] [_] fM ?_ ?_ (rk _ bj hlen n (aie (x::rest)).2 (pre++run) out YX (by simp at hn;omega) (by omega) (by simp;omega) h1))
     ·repeat' constructor
     ·simp only[LW,ai,aC,bz];omega
theorem C1(its:List It)(hlen:its.length<2^40)(ht:aH its<2^40)(J:ae):PC prog 145 [.sl 3 (its.map It.ah7)] J (fun r J'=>r=.sl 3 ((aih its).map It.ah7)∧J'=J):=by
 refine PC.intro func145 adu fun bj dx=>ax ?_;simp only[XJ,SS,seval];simp only[W,seval];refine b6.wk ((Wk.iy (k:=3) B5 rfl).trans (Wk.gA ?_)) (b6.vP (its.length+1) (rk its bj hlen its.length its [] [] rfl (aq _) ht (aq _) ?_))
 ·simp only[W,seval]
  repeat' constructor
 ·simp only[JE];intros;simp only[W,seval];refine qc 0 bj (.inr rfl) rfl rfl ?_ ?_
  ·simp[fz,qD,eI,wh]
  ·simp[fz,qD,one,aih]
theorem E1{J:ae}{K:Exit→St→Prop}(F:V)(fr to:List Int)(Rl:fr.length<2^63):
  ∀ (i:Nat) (l:List (Int×Int)),i≤min fr.length to.length→(∀ x,bS x l=Ab (fr.drop i) (to.drop i) x) →
  (∀ l,(∀ x,bS x l=Ab fr to x)→((fh (F) (fj 6 (fh (.mp J.length) (fj 52 fo)))) fun ZZ=>K (.exit 0) ⟨ZZ,J++[.map 3 3 (lT l)]⟩)) →
  fp J.length prog IB K (i+1) ⟨(F::.sl 1 (fr.map bR)::.sl 1 (to.map bR)::uu 4 (.mp J.length::.i .i64 ((i:Int) - 1)::uu 51 [])),J++[.map 3 3 (lT l)]⟩
 | 0,l,hi,hl,h1=>by
  refine aB fun R hR=>?_;simp only[IB,W,seval];exact⟨nofun,fun _=>h1 l (by simpa using hl) ..⟩
 | i+1,l,hi,hl,h1=>by
  have YZ:i<fr.length:=by omega
  have Hz:i<to.length:=by omega
  have e0:((i+1:Nat):Int) - 1=(i:Nat):=by omega
  have hw:IntKind.i64.wrap ((i:Int) - 1)=(i:Int) - 1:=IntWalk.i64_in _ (by omega);have BH:∀ x,bS x (eO l (fr.getD i 0) (to.getD i 0))=Ab (fr.drop i) (to.drop i) x:=fun x=>by rw[gG,D1 YZ Hz,hl x]
  rw[e0];refine aB fun R hR=>?_;simp only[IB,aD,qN YZ,qN Hz,W,seval];rcases wg l (fr.getD i 0)with⟨_,h3,h4⟩ | ⟨k,b,_,h3,h4⟩
  all_goals
   simp only[h3,hw,cX,h4,W,seval];refine⟨fun _=>⟨by simp;omega,by simp;omega,by simp[V.ov,V.iL,V.cell,V.pure],?_⟩,fun h=>by simp at h<;>omega⟩;refine hR _ (aZ ?_ (E1 F fr to Rl i _ (by omega) BH h1))
   repeat' constructor
theorem Nw{J:ae}{K:Exit→St→Prop}(its:List It)(fr to:List Int)(l:List (Int×Int))(bj:bG J)(hlen:its.length<2^40)(hl:∀ x,bS x l=Ab fr to x):∀ (rest pre:List It) (out:List It),its=pre++rest→out.length≤pre.length →
  ((fj 9 (fh (.own (J.length+1) (out++aip rest fr to).length) (fj 50 fo))) fun ZZ=>K (.exit 2) ⟨ZZ,J++[.map 3 3 (lT l),.row 61 3 32 (out++aip rest fr to).length false ((out++aip rest fr to).map It.ah7)]⟩) →
  fp J.length prog EJ K (rest.length+1) ⟨(uu 7 (.mp J.length::uu 1 (.own (J.length+1) out.length::uu 24 (.sl 3 (its.map It.ah7)::.i .i64 its.length::.i .i64 pre.length::uu 23 [])))),J++[.map 3 3 (lT l),.row 61 3 32 out.length false (out.map It.ah7)]⟩:=by
 intro rest
 induction rest with
 | nil =>
  intro pre out he ho h1;have he:its=pre:=by simpa using he
  subst he;have e:out++aip [] fr to=out:=by simp[aip]
  rw[e]at h1;refine aB fun R hR=>?_;simp only[EJ,W,seval];exact⟨fun h=>by simp at h,fun _=>h1 ..⟩
 | cons x rest ih =>
  intro pre out he ho h1;subst he
  have hw:IntKind.i64.wrap ((pre.length:Int)+1)=(((pre++[x]).length:Nat):Int):=by
   rw[bd (by simp at hlen;omega)];simp
  have Rk:pre++x::rest=(pre++[x])++rest:=by simp
  have put:∀ (y:It),Kk fr to x=some y→∀ {R:St→Prop} {f0:List V} ,(∀ st',fp J.length prog EJ K (rest.length+1) st'→R st')→nU f0 (uu 7 (.mp J.length::uu 1 (.own (J.length+1) (out++[y]).length::uu 24 (.sl 3 ((pre++x::rest).map It.ah7)::.i .i64 (pre++x::rest).length::.i .i64 (pre++[x]).length::uu 23 [])))) →
    R ⟨f0,J++[.map 3 3 (lT l),.row 61 3 32 (out++[y]).length false ((out++[y]).map It.ah7),.box 61 y.ah7]⟩:=fun y hy R f0 hR hc=>by
   have e:out++aip (x::rest) fr to=(out++[y])++aip rest fr to:=by simp[aip,hy]
   rw[e]at h1;have fM:bG (J++[.map 3 3 (lT l),.row 61 3 32 (out++[y]).length false ((out++[y]).map It.ah7)]):=cj bj (by simp[wP]);refine hR _ (b5 [_,_] [_] fM hc ?_ (ih (pre++[x]) (out++[y]) Rk (by simp;omega) h1));simp only[LW,ai,aC,bz];omega
  have okA:∀ (m:Nat),m≤pre.length→((m+1)*32≤2^47∧m+1≤maxLen):=fun m hm=>by simp at hlen;simp[maxLen];omega
  have cq:∀ (y:It),out.map It.ah7++[[.i .i64 y.ah9,.s y.aib,.i .i64 y.id]]=(out++[y]).map It.ah7:=fun y=>by simp[It.ah7]
  have oM:∀ (y:It),out.length+1=(out++[y]).length:=fun y=>by simp
  refine aB fun R hR=>?_;simp only[EJ,It.ah7,W,seval];refine⟨fun _=>⟨by simp;omega,?_⟩,fun h=>by simp at h;omega⟩;refine az (qv x _) rfl ?_;simp only[W,seval];refine⟨fun ht=>?_,fun ht=>?_⟩
  ·have hf:∀ s,cN (J++(.map 3 3 (lT l))::s) 0 (.mp J.length) (.i .i64 x.id)=dM 0 (.i .i64 x.id) (lT l) 0:=fun s=>by simp only[cN,gj,aw]
   rcases wg l x.id with⟨h2,h3,h4⟩ | ⟨k,b,h2,h3,h4⟩
   ·have N3:Kk fr to x=none:=by simp only[Kk,ht,aL,← hl x.id,h2,fY]
    have e:out++aip (x::rest) fr to=out++aip rest fr to:=by simp[aip,N3]
    rw[e]at h1;simp only[hf,h3,W,seval];refine⟨by simp[V.ov],?_⟩;have fM:bG (J++[.map 3 3 (lT l),.row 61 3 32 out.length false (out.map It.ah7)]):=cj bj (by simp[wP]);refine hR _ (b5 [_,_] [_] fM ?_ ?_ (ih (pre++[x]) out Rk (by simp;omega) h1))
    ·rw[hw];repeat' constructor
    ·simp only[LW,ai,aC,bz];omega
   ·have N3:Kk fr to x=some ⟨x.ah9,x.aib,b⟩:=by simp only[Kk,ht,aL,← hl x.id,h2,bK]
    simp only[hf,h3,W,seval];refine⟨by simp[V.ov],⟨okA _ (by rw[ag];exact ho),?_⟩⟩;rw[oM ⟨x.ah9,x.aib,b⟩,cq ⟨x.ah9,x.aib,b⟩];refine put _ N3 hR ?_;rw[hw];repeat' constructor
  ·have N3:Kk fr to x=some x:=by simp only[Kk,ht];rfl
   refine⟨okA _ (by rw[ag];exact ho),?_⟩;rw[oM x,cq x];refine put _ N3 hR ?_;rw[hw];repeat' constructor
theorem Bl(its:List It)(fr to:List Int)(hlen:its.length<2^40)(ht:aH its<2^40)(J:ae):PC prog 85 [.sl 3 (its.map It.ah7),.sl 1 (fr.map bR),.sl 1 (to.map bR)] J (fun r J'=>r=.sl 3 ((rename its fr to).map It.ah7)∧J'=J):=by
 refine PC.intro func85 c85 fun bj dx=>ax ?_;have Rl:=rQ (dx 1 _ rfl).1;have hto:=rQ (dx 2 _ rfl).1;rw[ag]at Rl hto;simp only[p85,SS,seval];simp only[ag,W,seval]
 have abN:IntKind.i64.wrap ((if((to.length:Int)<(fr.length:Int))then(to.length:Int)else(fr.length:Int)) - 1)=((min fr.length to.length:Nat):Int) - 1:=by
  rw[IntWalk.i64_in _ (by split<;>omega)];split<;>omega
 rw[abN];refine b6.aZ (fr':=(.sl 3 (its.map It.ah7)::.sl 1 (fr.map bR)::.sl 1 (to.map bR)::uu 4 (.mp J.length::.i .i64 (((min fr.length to.length:Nat):Int) - 1)::uu 51 []))) ?_ _ (E1 _ fr to Rl (min fr.length to.length) [] (aq _) (fun x=>by rw[Im (aq _)];rfl) ?_)
 ·repeat' constructor
 ·intro l hl;simp only[JE];intros;simp only[ag,W,seval];refine b6.wk ((Wk.kR (J:=J) [_] (k:=9) B5 rfl).trans (Wk.gA ?_)) (b6.vP (its.length+1) (Nw its fr to l bj hlen hl its [] [] rfl (aq _) ?_))
  ·simp only[W,seval]
   repeat' constructor
  ·simp only[JE];intros;simp only[bk,W,seval];refine nF (J.length+1) (by simp only[uo];rfl) (C1 (aip its fr to) (mR (vR _ _ _) hlen) (mR (tt _ _ _) ht) _) (by simp[fz,qD,ev]) ?_;simp only[W,seval];exact bF bj (.inr rfl) rfl (by simp[LW]) ⟨rfl,rfl⟩
theorem QK{J:ae}{K:Exit→St→Prop}(A B:V)(m:List Int)(hlen:m.length<2^40):∀ (rest pre l:List Int) (g:Nat) (sh:Bool),m=pre++rest→l.length+rest.length<2^40 →
  (∀ g sh,((fh (A) (fh (B) (fj 4 (fh (.own J.length g) (fj 32 fo))))) fun ZZ=>K (.exit 0) ⟨ZZ,J++[.row 3 1 8 g sh ((dV l rest).map bR)]⟩)) →
  fp J.length prog CQ K (rest.length+1) ⟨(A::B::uu 4 (.own J.length g::uu 5 (.sl 1 (m.map bR)::.i .i64 m.length::.i .i64 pre.length::uu 24 []))),J++[.row 3 1 8 g sh (l.map bR)]⟩:=by
 intro rest
 induction rest with
 | nil =>
  intro pre l g sh he hl h1;have he:m=pre:=by simpa using he
  subst he;refine aB fun R hR=>?_;simp only[CQ,W,seval];exact⟨fun h=>by simp at h,fun _=>h1 _ _ ..⟩
 | cons x rest ih =>
  intro pre l g sh he hl h1;subst he
  have hw:IntKind.i64.wrap ((pre.length:Int)+1)=(((pre++[x]).length:Nat):Int):=by
   rw[bd (by simp at hlen;omega)];simp
  have Rk:pre++x::rest=(pre++[x])++rest:=by simp
  refine aB fun R hR=>?_;simp only[CQ,bR,W,seval];refine⟨fun _=>⟨by simp;omega,?_⟩,fun h=>by simp at h<;>omega⟩;refine nF J.length (by simp only[gj];rfl) (zC l x _) (by simp[fz,qD,ev,bR]) ?_;simp only[W,seval];simp only[ai]at hl;refine⟨fun h=>⟨?_,?_⟩,fun h=>?_⟩
  ·simp[maxLen];omega
  ·have e:dV l (x::rest)=dV (l++[x]) rest:=by
    simp at h;simp[dV,h]
   rw[e]at h1;have hr:List.map (fun n=>[V.i .i64 n]) l++[[.i .i64 x]]=(l++[x]).map bR:=by simp[bR]
   refine hR _ ?_;have s6:l.map bR++[[.i .i64 x]]=(l++[x]).map bR:=by simp[bR]
   rw[s6];refine aZ ?_ (ih (pre++[x]) (l++[x]) (g+1) _ Rk (by simp;omega) h1);rw[hw];repeat' constructor
  ·have e:dV l (x::rest)=dV l rest:=by
    simp at h;simp[dV,h]
   rw[e]at h1;refine hR _ (aZ ?_ (ih (pre++[x]) l g _ Rk (by omega) h1));rw[hw];repeat' constructor
theorem Dx(s t:List It)(hs:s.length<2^39)(ht:t.length<2^39)(Jh:aH s<2^40)(PF:aH t<2^40)(J:ae):PC prog 128 [.sl 3 (s.map It.ah7),.sl 3 (t.map It.ah7)] J (fun r J'=>r=.fi [.sl 3 ((eu s t).map It.ah7),.sl 3 ((eF s t).map It.ah7)]∧J'=J):=by
 refine PC.intro func128 adC fun bj dx=>ax ?_;have h1:=lA s;have h2:=lA t;have h3:=pC (aio t) (aio s);simp only[XR,SS,seval];simp only[W,seval];refine az (v8 s (by omega) _) rfl ?_;simp only[W,seval];refine az (G7 t (by omega) _) rfl ?_;simp only[ag,W,seval];refine b6.aZ ?_ ((aio t).length+1) (QK (.sl 3 (s.map It.ah7)) (.sl 3 (t.map It.ah7)) (aio t) (by omega) (aio t) [] (aio s) 0 false rfl (by omega) ?_)
 ·repeat' constructor
 ·intro g sh;simp only[JE];intros;simp only[W,seval];have hc:(dV (aio s) (aio t)).length<2^40:=by omega
  refine az (wH (dV (aio s) (aio t)).length hc _) (by simp[ev]) ?_;simp only[W,seval];refine nF J.length (by simp only[gj];rfl) (Bl s (bE s t) (cc (bE s t).length) (by omega) Jh _) (by simp[fz,qD,ev,bE]) ?_;simp only[W,seval];refine az (wH (dV (aio s) (aio t)).length hc _) (by simp[ev]) ?_;simp only[W,seval];refine nF J.length (by simp only[gj];rfl) (Bl t (bE s t) (cc (bE s t).length) (by omega) PF _) (by simp[fz,qD,ev,bE]) ?_;simp only[W,seval];exact bF bj (.inr rfl) rfl (by simp[LW]) ⟨rfl,rfl⟩
end Go.Proofs.Tryz
