/- A part of a proof; the claim's last text says of what. -/
import Derived.Test.YtlakkaamfadipaaGreatDoorL5
import Derived.Test.YtlakkaamfadipaaGreatDoorL17
import Derived.Test.YtlakkaamfadipaaGreatDoorL18
set_option linter.all false

namespace Go.Proofs.Tryz
open Go Go.Pm
open Go.Pm.V(u)
def T8:cy:=⟨9,[.t 2],.seq (.ax [] [z 1 (.box 61 (.t 0)),z 2 (.bg (.c (.i .i64 0)))]) (.seq (.seq (.ax [] [zf 3 0 1,zl 4 3,z 5 (.bin .eql (.t 4) (.c (.i .i64 1)))]) (.ite (.t 5) (.seq
 (.ax [] [zf 6 1 1,zl 7 6,z 8 (.len true (.t 7)),zm 2 8]) (.ret)) (.skip))) (.seq (.ax [] [z 2 (.bg (.c (.i .i64 1)))]) (.ret)))⟩
theorem ZV:cA prog f153=some T8:=by kernel_rfl
def FM:bE:=.seq (.ax [] [z 9 (.bin .lss (.t 8) (.t 7))]) (.seq (.ite (.t 9) (.skip) (.exit 0)) (.seq (.block 1 (.seq (.ax [] [z 10 (.idx 3 (.t 6) (.t 8)),zL 11 3 10,z 5 (.alloc 61 [.i .i64
 0,.s [],.i .i64 0]),zs (.store 3 [none,none,none] (.t 5) (.t 11))]) (.ax [] [zm 12 3,zL 13 3 5,z 14 (.call 153 [.t 13]),z 15 (.bin .add (.t 12) (.t 14)),zm 3 15]))) (.ax
 [] [z 16 (.bin .add (.t 8) (.c (.i .i64 1))),zm 8 16])))
def p95:cy:=⟨18,[.t 2],.seq (.ax [] [z 2 (.bg (.c (.i .i64 0)))]) (.seq (.ax [] [z 3 (.bg (.c (.i .i64 0)))]) (.seq (.seq (.ax [] [zm 6 0,z 7 (.len false (.t 6)),z 8 (.bg (.c (.i .i64
 0)))]) (.block 0 (.loop FM))) (.seq (.ax [] [zm 17 3,zm 2 17]) (.ret))))⟩
theorem c95:cA prog f95=some p95:=by kernel_rfl
def p97:cy:=⟨16,[.t 2],.seq (.ax [] [z 1 (.box 61 (.t 0)),z 2 (.bg (.c (.b false)))]) (.seq (.ax [7,8,9,12,13,14] [zf 3 0 1,zl 4 3,z 5 (.bin .eql (.t 4) (.c (.i .i64 2))),zm 6 5,
 ⟨some 7,[(6,false)],.gi 0 (.t 1)⟩,⟨some 8,[(6,false)],.load none (.t 7)⟩,⟨some 9,[(6,false)],.bin .eql (.t 8) (.c (.i .i64 3))⟩,z 10 (.pick (.t 6) (.c (.b true)) (.t
 9)),zm 11 10,⟨some 12,[(11,false)],.gi 0 (.t 1)⟩,⟨some 13,[(11,false)],.load none (.t 12)⟩,⟨some 14,[(11,false)],.bin .eql (.t 13) (.c (.i .i64 4))⟩,z 15 (.pick (.t
 11) (.c (.b true)) (.t 14)),zm 2 15]) (.ret))⟩
theorem c97:cA prog f97=some p97:=by kernel_rfl
def T6:cy:=⟨13,[.t 2],.seq (.ax [] [z 2 (.bg (.c (.s [])))]) (.seq (.ax [] [zm 7 0,z 8 (.call 206 [.t 7,.c (.s [32])]),zm 6 8,z 9 (.ext 0 (.t 6)),z 10 (.ext 1 (.t 6)),z 11 (.ext 2
 (.t 6)),zm 3 9,zm 4 10,zm 5 11]) (.seq (.ax [] [zm 12 3,zm 2 12]) (.ret)))⟩
theorem ZT:cA prog f155=some T6:=by kernel_rfl
def Am:bE:=.seq (.seq (.ax [] [zm 23 3,zm 24 0,z 25 (.len true (.t 24)),z 26 (.bin .lss (.t 23) (.t 25))]) (.ite (.t 26) (.skip) (.exit 0))) (.seq (.block 1 (.seq (.ax [34,35,36,37,
 40,41,42,43,44] [zm 29 0,zm 30 3,z 31 (.gY (.t 29) (.t 30)),z 32 (.bin .lss (.t 31) (.c (.i .u8 32))),zm 33 32,⟨some 34,[(33,false)],.bg (.t 0)⟩,⟨some 35,[(33,
 false)],.bg (.t 3)⟩,⟨some 36,[(33,false)],.gY (.t 34) (.t 35)⟩,⟨some 37,[(33,false)],.bin .gtr (.t 36) (.c (.i .u8 126))⟩,z 38 (.pick (.t 33) (.c (.b true)) (.t 37)),
 zm 39 38,⟨some 40,[(39,false)],.bg (.t 0)⟩,⟨some 41,[(39,false)],.bg (.t 3)⟩,⟨some 42,[(39,false)],.gY (.t 40) (.t 41)⟩,⟨some 43,[(39,false)],.call 157 [.c (.s
 [60,62,123,125]),.t 42]⟩,⟨some 44,[(39,false)],.bin .geq (.t 43) (.c (.i .i64 0))⟩,z 45 (.pick (.t 39) (.c (.b true)) (.t 44))]) (.ite (.t 45) (.seq (.ax [] [z 2 (.bg (.c
 (.b false)))]) (.ret)) (.skip)))) (.ax [] [zm 27 3,z 28 (.bin .add (.t 27) (.c (.i .i64 1))),zm 3 28]))
def T7:cy:=⟨63,[.t 2],.seq (.ax [] [z 2 (.bg (.c (.b false)))]) (.seq (.seq (.ax [11,12,13,16,17,18,19,20,21] [zm 7 0,z 8 (.len true (.t 7)),z 9 (.bin .gtr (.t 8) (.c (.i .i64
 64))),zm 10 9,⟨some 11,[(10,false)],.bg (.t 0)⟩,⟨some 12,[(10,false)],.len true (.t 11)⟩,⟨some 13,[(10,false)],.bin .eql (.t 12) (.c (.i .i64 0))⟩,z 14 (.pick (.t 10)
 (.c (.b true)) (.t 13)),zm 15 14,⟨some 16,[(15,false)],.bg (.t 0)⟩,⟨some 17,[(15,false)],.bg (.t 0)⟩,⟨some 18,[(15,false)],.len true (.t 17)⟩,⟨some 19,[(15,
 false)],.bin .sub (.t 18) (.c (.i .i64 1))⟩,⟨some 20,[(15,false)],.gY (.t 16) (.t 19)⟩,⟨some 21,[(15,false)],.bin .eql (.t 20) (.c (.i .u8 47))⟩,z 22 (.pick (.t 15) (.c
 (.b true)) (.t 21))]) (.ite (.t 22) (.seq (.ax [] [z 2 (.bg (.c (.b false)))]) (.ret)) (.skip))) (.seq (.seq (.ax [] [z 3 (.bg (.c (.i .i64 0)))]) (.block 0 (.loop Am)))
 (.seq (.ax [] [zm 47 0,z 48 (.call 206 [.t 47,.c (.s [32])]),zm 46 48,z 49 (.ext 0 (.t 46)),z 50 (.ext 1 (.t 46)),z 51 (.ext 2 (.t 46)),zm 4 49,zm 5 50,zm 6 51]) (.seq
 (.ax [55,56,57,58,59,60,61] [zm 52 4,z 53 (.call 117 [.t 52]),zm 54 53,⟨some 55,[(54,true)],.bg (.t 6)⟩,⟨some 56,[(54,true)],.un .not (.t 55)⟩,⟨some 57,[(54,
 true)],.bg (.t 56)⟩,⟨some 58,[(54,true),(57,false)],.bg (.t 5)⟩,⟨some 59,[(54,true),(57,false)],.len true (.t 58)⟩,⟨some 60,[(54,true),(57,false)],.bin .gtr (.t
 59) (.c (.i .i64 0))⟩,⟨some 61,[(54,true)],.pick (.t 57) (.c (.b true)) (.t 60)⟩,z 62 (.pick (.t 54) (.t 61) (.c (.b false))),zm 2 62]) (.ret)))))⟩
theorem ZU:cA prog f154=some T7:=by kernel_rfl
def p96:cy:=⟨76,[.t 4],.seq (.ax [] [z 4 (.bg (.c (.b false)))]) (.seq (.ax [] [zm 6 0,zm 7 1,z 8 (.idx 3 (.t 6) (.t 7)),zL 9 3 8,z 5 (.alloc 61 [.i .i64 0,.s [],.i .i64 0]),zs
 (.store 3 [none,none,none] (.t 5) (.t 9))]) (.seq (.seq (.ax [] [zf 10 0 5,zl 11 10]) (.block 0 (.seq (.ax [] [z 13 (.bin .eql (.t 11) (.c (.i .i64 1))),zm 12 13]) (.ite (.t
 12) (.seq (.ax [18,19,20,23,24,25,26,27,28,29,30,31,32,33] [zf 14 1 5,zl 15 14,z 16 (.bin .neq (.t 15) (.c (.s []))),zm 17 16,⟨some 18,[(17,true)],.gi 2 (.t
 5)⟩,⟨some 19,[(17,true)],.load none (.t 18)⟩,⟨some 20,[(17,true)],.bin .eql (.t 19) (.c (.i .i64 0))⟩,z 21 (.pick (.t 17) (.t 20) (.c (.b false))),zm 22 21,⟨some 23,
 [(22,true)],.bg (.t 1)⟩,⟨some 24,[(22,true)],.bin .eql (.t 23) (.c (.i .i64 0))⟩,⟨some 25,[(22,true)],.bg (.t 24)⟩,⟨some 26,[(22,true),(25,false)],.bg (.t 0)⟩,
 ⟨some 27,[(22,true),(25,false)],.bg (.t 1)⟩,⟨some 28,[(22,true),(25,false)],.bin .sub (.t 27) (.c (.i .i64 1))⟩,⟨some 29,[(22,true),(25,false)],.idx 3 (.t 26) (.t
 28)⟩,⟨some 30,[(22,true),(25,false)],.gi 0 (.t 29)⟩,⟨some 31,[(22,true),(25,false)],.load none (.t 30)⟩,⟨some 32,[(22,true),(25,false)],.bin .neq (.t 31) (.c (.i
 .i64 1))⟩,⟨some 33,[(22,true)],.pick (.t 25) (.c (.b true)) (.t 32)⟩,z 34 (.pick (.t 22) (.t 33) (.c (.b false))),zm 4 34]) (.ret)) (.seq (.ax [] [z 36 (.bin .eql (.t 11) (.c
 (.i .i64 5))),zm 35 36]) (.ite (.t 35) (.seq (.ax [41,42,43] [zf 37 1 5,zl 38 37,z 39 (.call 117 [.t 38]),zm 40 39,⟨some 41,[(40,true)],.gi 2 (.t 5)⟩,⟨some 42,[(40,
 true)],.load none (.t 41)⟩,⟨some 43,[(40,true)],.bin .eql (.t 42) (.c (.i .i64 0))⟩,z 44 (.pick (.t 40) (.t 43) (.c (.b false))),zm 4 44]) (.ret)) (.seq (.seq (.ax [] [z 46
 (.bin .eql (.t 11) (.c (.i .i64 2))),zm 45 46]) (.ite (.t 45) (.skip) (.ax [] [z 47 (.bin .eql (.t 11) (.c (.i .i64 4))),zm 45 47]))) (.ite (.t 45) (.seq (.ax [52,53,54,57,
 58,59] [zf 48 1 5,zl 49 48,z 50 (.call 154 [.t 49]),zm 51 50,⟨some 52,[(51,true)],.gi 2 (.t 5)⟩,⟨some 53,[(51,true)],.load none (.t 52)⟩,⟨some 54,[(51,true)],.bin
 .geq (.t 53) (.c (.i .i64 1))⟩,z 55 (.pick (.t 51) (.t 54) (.c (.b false))),zm 56 55,⟨some 57,[(56,true)],.gi 2 (.t 5)⟩,⟨some 58,[(56,true)],.load none (.t 57)⟩,⟨some
 59,[(56,true)],.bin .leq (.t 58) (.c (.i .i64 999))⟩,z 60 (.pick (.t 56) (.t 59) (.c (.b false))),zm 4 60]) (.ret)) (.seq (.ax [] [z 62 (.bin .eql (.t 11) (.c (.i .i64 3))),
 zm 61 62]) (.ite (.t 61) (.seq (.ax [67,68,69,72,73,74] [zf 63 1 5,zl 64 63,z 65 (.call 117 [.t 64]),zm 66 65,⟨some 67,[(66,true)],.gi 2 (.t 5)⟩,⟨some 68,[(66,
 true)],.load none (.t 67)⟩,⟨some 69,[(66,true)],.bin .geq (.t 68) (.c (.i .i64 1))⟩,z 70 (.pick (.t 66) (.t 69) (.c (.b false))),zm 71 70,⟨some 72,[(71,true)],.gi 2 (.t
 5)⟩,⟨some 73,[(71,true)],.load none (.t 72)⟩,⟨some 74,[(71,true)],.bin .leq (.t 73) (.c (.i .i64 999))⟩,z 75 (.pick (.t 71) (.t 74) (.c (.b false))),zm 4 75]) (.ret))
 (.skip))))))))))) (.seq (.ax [] [z 4 (.bg (.c (.b false)))]) (.ret))))⟩
theorem c96:cA prog f96=some p96:=by kernel_rfl
def FL:bE:=.seq (.ax [] [z 10 (.bin .lss (.t 9) (.t 8))]) (.seq (.ite (.t 10) (.skip) (.exit 0)) (.seq (.block 1 (.seq (.ax [] [z 11 (.idx 3 (.t 7) (.t 9)),zL 12 3 11,z 6 (.alloc 61 [.i
 .i64 0,.s [],.i .i64 0]),zs (.store 3 [none,none,none] (.t 6) (.t 12))]) (.seq (.seq (.ax [17,18,19,20,21] [zL 13 3 6,z 14 (.call 97 [.t 13]),z 15 (.un .not (.t 14)),zm
 16 15,⟨some 17,[(16,false)],.gi 2 (.t 6)⟩,⟨some 18,[(16,false)],.load none (.t 17)⟩,⟨some 19,[(16,false)],.gi 2 (.t 3)⟩,⟨some 20,[(16,false)],.load none (.t 19)⟩,
 ⟨some 21,[(16,false)],.bin .neq (.t 18) (.t 20)⟩,z 22 (.pick (.t 16) (.c (.b true)) (.t 21))]) (.ite (.t 22) (.exit 1) (.skip))) (.seq (.dG [([zf 23 0 3,zl 24 23,z 25 (.bin
 .neq (.t 24) (.c (.i .i64 3))),zm 26 25,⟨some 27,[(26,false)],.gi 0 (.t 6)⟩,⟨some 28,[(26,false)],.load none (.t 27)⟩,⟨some 29,[(26,false)],.bin .neq (.t 28) (.c (.i
 .i64 2))⟩,z 30 (.pick (.t 26) (.c (.b true)) (.t 29)),zm 31 30,⟨some 32,[(31,false)],.gi 1 (.t 6)⟩,⟨some 33,[(31,false)],.load none (.t 32)⟩,⟨some 35,[(31,false)],
 .gi 1 (.t 3)⟩,⟨some 36,[(31,false)],.load none (.t 35)⟩],⟨some 34,[(31,false)],.call 155 [.t 33]⟩,[⟨some 35,[(31,false)],.gi 1 (.t 3)⟩,⟨some 36,[(31,false)],.load
 none (.t 35)⟩])] [] [27,28,29,32,33,34,35,36,37] [⟨some 37,[(31,false)],.bin .neq (.t 34) (.t 36)⟩,z 38 (.pick (.t 31) (.c (.b true)) (.t 37))]) (.ite (.t 38) (.seq
 (.ax [] [z 4 (.bg (.c (.b false)))]) (.ret)) (.skip)))))) (.ax [] [z 39 (.bin .add (.t 9) (.c (.i .i64 1))),zm 9 39])))
def p98:cy:=⟨40,[.t 4],.seq (.ax [] [z 3 (.box 61 (.t 1)),z 4 (.bg (.c (.b false)))]) (.seq (.seq (.ax [] [zm 7 0,z 8 (.len false (.t 7)),z 9 (.bg (.c (.i .i64 0)))]) (.block 0 (.loop
 FL))) (.seq (.ax [] [z 4 (.bg (.c (.b true)))]) (.ret)))⟩
theorem c98:cA prog f98=some p98:=by kernel_rfl
def FX:bE:=.seq (.ax [] [z 16 (.bin .lss (.t 15) (.t 14))]) (.seq (.ite (.t 16) (.skip) (.exit 0)) (.seq (.block 1 (.seq (.ax [] [zm 17 15,z 18 (.idx 3 (.t 13) (.t 15)),zL 19 3 18,z 4
 (.alloc 61 [.i .i64 0,.s [],.i .i64 0]),zm 3 17,zs (.store 3 [none,none,none] (.t 4) (.t 19))]) (.seq (.seq (.ax [] [zm 20 0,zm 21 3,z 22 (.call 96 [.t 20,.t 21]),z 23
 (.un .not (.t 22))]) (.ite (.t 23) (.seq (.ax [] [z 2 (.bg (.c (.i .i64 1)))]) (.ret)) (.skip))) (.seq (.dG [([zL 24 3 4],z 25 (.call 97 [.t 24]),[])] [zm 26 25,⟨some 27,
 [(26,true)],.bg (.t 0)⟩,⟨some 28,[(26,true)],.bg (.t 3)⟩,⟨some 29,[(26,true)],.slice 3 (.t 27) none (some (.t 28))⟩,⟨some 30,[(26,true)],.load (some 3) (.t 4)⟩] [27,
 28,29,30,31,32] [⟨some 31,[(26,true)],.call 98 [.t 29,.t 30]⟩,⟨some 32,[(26,true)],.un .not (.t 31)⟩,z 33 (.pick (.t 26) (.t 32) (.c (.b false)))]) (.ite (.t 33) (.seq
 (.ax [] [z 2 (.bg (.c (.i .i64 7)))]) (.ret)) (.skip)))))) (.ax [] [z 34 (.bin .add (.t 15) (.c (.i .i64 1))),zm 15 34])))
def p44:cy:=⟨35,[.t 2],.seq (.ax [] [z 2 (.bg (.c (.i .i64 0)))]) (.seq (.seq (.ax [9,10,11] [zm 5 0,z 6 (.len false (.t 5)),z 7 (.bin .gtr (.t 6) (.c (.i .i64 512))),zm 8 7,⟨some 9,
 [(8,false)],.bg (.t 0)⟩,⟨some 10,[(8,false)],.call 95 [.t 9]⟩,⟨some 11,[(8,false)],.bin .gtr (.t 10) (.c (.i .i64 1024))⟩,z 12 (.pick (.t 8) (.c (.b true)) (.t 11))])
 (.ite (.t 12) (.seq (.ax [] [z 2 (.bg (.c (.i .i64 3)))]) (.ret)) (.skip))) (.seq (.seq (.ax [] [zm 13 0,z 14 (.len false (.t 13)),z 15 (.bg (.c (.i .i64 0)))]) (.block 0
 (.loop FX))) (.seq (.ax [] [z 2 (.bg (.c (.i .i64 0)))]) (.ret))))⟩
theorem c44:cA prog f44=some p44:=by kernel_rfl
def Au:bE:=.seq (.seq (.ax [] [zm 23 3,zm 24 0,z 25 (.len true (.t 24)),z 26 (.bin .lss (.t 23) (.t 25))]) (.ite (.t 26) (.skip) (.exit 0))) (.seq (.block 1 (.seq (.ax [] [zm 29 0,zm 30
 3,z 31 (.gY (.t 29) (.t 30)),zm 4 31]) (.seq (.ax [35,36,39,40,41,42,43,44,47,48] [zm 32 4,z 33 (.bin .geq (.t 32) (.c (.i .u8 97))),zm 34 33,⟨some 35,[(34,
 true)],.bg (.t 4)⟩,⟨some 36,[(34,true)],.bin .leq (.t 35) (.c (.i .u8 122))⟩,z 37 (.pick (.t 34) (.t 36) (.c (.b false))),zm 38 37,⟨some 39,[(38,false)],.bg (.t 4)⟩,
 ⟨some 40,[(38,false)],.bin .geq (.t 39) (.c (.i .u8 48))⟩,⟨some 41,[(38,false)],.bg (.t 40)⟩,⟨some 42,[(38,false),(41,true)],.bg (.t 4)⟩,⟨some 43,[(38,false),(41,
 true)],.bin .leq (.t 42) (.c (.i .u8 57))⟩,⟨some 44,[(38,false)],.pick (.t 41) (.t 43) (.c (.b false))⟩,z 45 (.pick (.t 38) (.c (.b true)) (.t 44)),zm 46 45,⟨some 47,[(46,
 false)],.bg (.t 4)⟩,⟨some 48,[(46,false)],.bin .eql (.t 47) (.c (.i .u8 45))⟩,z 49 (.pick (.t 46) (.c (.b true)) (.t 48)),z 50 (.un .not (.t 49))]) (.ite (.t 50) (.seq (.ax
 [] [z 2 (.bg (.c (.b false)))]) (.ret)) (.skip))))) (.ax [] [zm 27 3,z 28 (.bin .add (.t 27) (.c (.i .i64 1))),zm 3 28]))
def Up:cy:=⟨51,[.t 2],.seq (.ax [] [z 2 (.bg (.c (.b false)))]) (.seq (.seq (.ax [9,10,11,14,15,16,19,20,21] [zm 5 0,z 6 (.len true (.t 5)),z 7 (.bin .lss (.t 6) (.c (.i .i64
 1))),zm 8 7,⟨some 9,[(8,false)],.bg (.t 0)⟩,⟨some 10,[(8,false)],.len true (.t 9)⟩,⟨some 11,[(8,false)],.bin .gtr (.t 10) (.c (.i .i64 24))⟩,z 12 (.pick (.t 8) (.c
 (.b true)) (.t 11)),zm 13 12,⟨some 14,[(13,false)],.bg (.t 0)⟩,⟨some 15,[(13,false)],.gY (.t 14) (.c (.i .i64 0))⟩,⟨some 16,[(13,false)],.bin .lss (.t 15) (.c (.i
 .u8 97))⟩,z 17 (.pick (.t 13) (.c (.b true)) (.t 16)),zm 18 17,⟨some 19,[(18,false)],.bg (.t 0)⟩,⟨some 20,[(18,false)],.gY (.t 19) (.c (.i .i64 0))⟩,⟨some 21,[(18,
 false)],.bin .gtr (.t 20) (.c (.i .u8 122))⟩,z 22 (.pick (.t 18) (.c (.b true)) (.t 21))]) (.ite (.t 22) (.seq (.ax [] [z 2 (.bg (.c (.b false)))]) (.ret)) (.skip))) (.seq (.seq
 (.ax [] [z 3 (.bg (.c (.i .i64 1)))]) (.block 0 (.loop Au))) (.seq (.ax [] [z 2 (.bg (.c (.b true)))]) (.ret))))⟩
theorem aab:cA prog f117=some Up:=by kernel_rfl
def TT:cy:=⟨51,[.t 2],.seq (.ax [] [z 2 (.bg (.c (.i .i64 0)))]) (.seq (.block 0 (.seq (.ax [7,8,11,12,15,16] [zm 4 0,z 5 (.bin .eql (.t 4) (.c (.i .u8 9))),zm 6 5,⟨some 7,[(6,
 false)],.bg (.t 0)⟩,⟨some 8,[(6,false)],.bin .eql (.t 7) (.c (.i .u8 10))⟩,z 9 (.pick (.t 6) (.c (.b true)) (.t 8)),zm 10 9,⟨some 11,[(10,false)],.bg (.t 0)⟩,⟨some 12,
 [(10,false)],.bin .eql (.t 11) (.c (.i .u8 13))⟩,z 13 (.pick (.t 10) (.c (.b true)) (.t 12)),zm 14 13,⟨some 15,[(14,false)],.bg (.t 0)⟩,⟨some 16,[(14,false)],.bin .eql
 (.t 15) (.c (.i .u8 32))⟩,z 17 (.pick (.t 14) (.c (.b true)) (.t 16)),zm 3 17]) (.ite (.t 3) (.seq (.ax [] [z 2 (.bg (.c (.i .i64 2)))]) (.ret)) (.seq (.ax [22,23] [zm 19 0,z
 20 (.bin .lss (.t 19) (.c (.i .u8 32))),zm 21 20,⟨some 22,[(21,false)],.bg (.t 0)⟩,⟨some 23,[(21,false)],.bin .eql (.t 22) (.c (.i .u8 127))⟩,z 24 (.pick (.t 21) (.c (.b
 true)) (.t 23)),zm 18 24]) (.ite (.t 18) (.seq (.ax [] [z 2 (.bg (.c (.i .i64 1)))]) (.ret)) (.seq (.ax [29,30] [zm 26 0,z 27 (.bin .geq (.t 26) (.c (.i .u8 48))),zm 28 27,
 ⟨some 29,[(28,true)],.bg (.t 0)⟩,⟨some 30,[(28,true)],.bin .leq (.t 29) (.c (.i .u8 57))⟩,z 31 (.pick (.t 28) (.t 30) (.c (.b false))),zm 25 31]) (.ite (.t 25) (.seq (.ax
 [] [z 2 (.bg (.c (.i .i64 3)))]) (.ret)) (.seq (.ax [36,37,40,41,42,43,44,45,48,49] [zm 33 0,z 34 (.bin .geq (.t 33) (.c (.i .u8 97))),zm 35 34,⟨some 36,[(35,true)],
 .bg (.t 0)⟩,⟨some 37,[(35,true)],.bin .leq (.t 36) (.c (.i .u8 122))⟩,z 38 (.pick (.t 35) (.t 37) (.c (.b false))),zm 39 38,⟨some 40,[(39,false)],.bg (.t 0)⟩,⟨some 41,
 [(39,false)],.bin .geq (.t 40) (.c (.i .u8 65))⟩,⟨some 42,[(39,false)],.bg (.t 41)⟩,⟨some 43,[(39,false),(42,true)],.bg (.t 0)⟩,⟨some 44,[(39,false),(42,true)],
 .bin .leq (.t 43) (.c (.i .u8 90))⟩,⟨some 45,[(39,false)],.pick (.t 42) (.t 44) (.c (.b false))⟩,z 46 (.pick (.t 39) (.c (.b true)) (.t 45)),zm 47 46,⟨some 48,[(47,false)],
 .bg (.t 0)⟩,⟨some 49,[(47,false)],.bin .geq (.t 48) (.c (.i .u8 128))⟩,z 50 (.pick (.t 47) (.c (.b true)) (.t 49)),zm 32 50]) (.ite (.t 32) (.seq (.ax [] [z 2 (.bg (.c (.i
 .i64 4)))]) (.ret)) (.skip)))))))))) (.seq (.ax [] [z 2 (.bg (.c (.i .i64 5)))]) (.ret)))⟩
theorem ZK:cA prog f168=some TT:=by kernel_rfl
def Ui:cy:=⟨6,[.t 2],.seq (.ax [] [z 2 (.bg (.c (.b false)))]) (.seq (.ax [] [zm 3 0,zm 4 0,z 5 (.bin .neq (.t 3) (.t 4)),zm 2 5]) (.ret))⟩
theorem Z6:cA prog f127=some Ui:=by kernel_rfl
def FU:bE:=.seq (.ax [] [z 9 (.bin .lss (.t 8) (.t 7))]) (.seq (.ite (.t 9) (.skip) (.exit 0)) (.seq (.block 1 (.seq (.ax [] [z 10 (.idx 1 (.t 6) (.t 8)),zl 11 10,zm 5 11]) (.seq (.ax []
 [zm 12 5,zm 13 3,z 14 (.bin .neq (.t 12) (.t 13))]) (.ite (.t 14) (.seq (.ax [] [zm 15 5,zm 2 15]) (.ret)) (.skip))))) (.ax [] [z 16 (.bin .add (.t 8) (.c (.i .i64 1))),zm 8
 16])))
def p62:cy:=⟨18,[.t 2],.seq (.ax [] [z 2 (.bg (.c (.i .i64 0)))]) (.seq (.ax [] [z 3 (.bg (.c (.i .i64 0)))]) (.seq (.seq (.ax [] [zm 6 0,z 7 (.len false (.t 6)),z 8 (.bg (.c (.i .i64
 0)))]) (.block 0 (.loop FU))) (.seq (.ax [] [zm 17 3,zm 2 17]) (.ret))))⟩
theorem c62:cA prog f62=some p62:=by kernel_rfl
def TB:cy:=⟨13,[.t 4,.t 5,.t 6],.seq (.ax [] [z 4 (.bg (.c (.s []))),z 5 (.bg (.c (.s []))),z 6 (.bg (.c (.b false)))]) (.seq (.ax [] [zm 7 0,zm 8 1,z 9 (.call 246 [.t 7,.t 8]),
 z 10 (.ext 0 (.t 9)),z 11 (.ext 1 (.t 9)),z 12 (.ext 2 (.t 9)),zm 4 10,zm 5 11,zm 6 12]) (.ret))⟩
theorem Zt:cA prog f206=some TB:=by kernel_rfl
def T0:cy:=⟨8,[.t 4],.seq (.ax [] [z 4 (.bg (.c (.i .i64 0)))]) (.seq (.ax [] [zm 5 0,zm 6 1,z 7 (.call 208 [.t 5,.t 6]),zm 4 7]) (.ret))⟩
theorem ZR:cA prog f157=some T0:=by kernel_rfl
def Tz:cy:=⟨8,[.t 4],.seq (.ax [] [z 4 (.bg (.c (.b false)))]) (.seq (.ax [] [zm 5 0,zm 6 1,z 7 (.call 248 [.t 5,.t 6]),zm 4 7]) (.ret))⟩
theorem Zr:cA prog f209=some Tz:=by kernel_rfl
def Ty:cy:=⟨8,[.t 4],.seq (.ax [] [z 4 (.bg (.c (.b false)))]) (.seq (.ax [] [zm 5 0,zm 6 1,z 7 (.call 249 [.t 5,.t 6]),zm 4 7]) (.ret))⟩
theorem Zq:cA prog f210=some Ty:=by kernel_rfl
def Tm:cy:=⟨23,[.t 4,.t 5,.t 6],.seq (.ax [] [z 4 (.bg (.c (.s []))),z 5 (.bg (.c (.s []))),z 6 (.bg (.c (.b false)))]) (.seq (.seq (.ax [] [zm 8 0,zm 9 1,z 10 (.call 272 [.t 8,
 .t 9]),zm 7 10]) (.seq (.ax [] [zm 11 7,z 12 (.bin .geq (.t 11) (.c (.i .i64 0)))]) (.ite (.t 12) (.seq (.dG [] [zm 13 0,zm 14 7,z 15 (.fN (.t 13) none (some (.t 14))),
 zm 16 0,zm 17 7,zm 18 1,z 19 (.len true (.t 18)),z 20 (.bin .add (.t 17) (.t 19)),z 21 (.fN (.t 16) (some (.t 20)) none),zm 4 15] [] [zm 5 21,z 6 (.bg (.c (.b true)))])
 (.ret)) (.skip)))) (.seq (.ax [] [zm 22 0,zm 4 22,z 5 (.bg (.c (.s []))),z 6 (.bg (.c (.b false)))]) (.ret)))⟩
theorem Ze:cA prog f246=some Tm:=by kernel_rfl
def Tl:cy:=⟨18,[.t 4],.seq (.ax [] [z 4 (.bg (.c (.b false)))]) (.seq (.ax [11,12,13,14,15,16] [zm 5 0,z 6 (.len true (.t 5)),zm 7 1,z 8 (.len true (.t 7)),z 9 (.bin .geq (.t 6)
 (.t 8)),zm 10 9,⟨some 11,[(10,true)],.bg (.t 0)⟩,⟨some 12,[(10,true)],.bg (.t 1)⟩,⟨some 13,[(10,true)],.len true (.t 12)⟩,⟨some 14,[(10,true)],.fN (.t 11)
 none (some (.t 13))⟩,⟨some 15,[(10,true)],.bg (.t 1)⟩,⟨some 16,[(10,true)],.bin .eql (.t 14) (.t 15)⟩,z 17 (.pick (.t 10) (.t 16) (.c (.b false))),zm 4 17]) (.ret))⟩
theorem Zd:cA prog f248=some Tl:=by kernel_rfl
def Tk:cy:=⟨21,[.t 4],.seq (.ax [] [z 4 (.bg (.c (.b false)))]) (.seq (.ax [11,12,13,14,15,16,17,18,19] [zm 5 0,z 6 (.len true (.t 5)),zm 7 1,z 8 (.len true (.t 7)),z 9 (.bin
 .geq (.t 6) (.t 8)),zm 10 9,⟨some 11,[(10,true)],.bg (.t 0)⟩,⟨some 12,[(10,true)],.bg (.t 0)⟩,⟨some 13,[(10,true)],.len true (.t 12)⟩,⟨some 14,[(10,true)],.bg
 (.t 1)⟩,⟨some 15,[(10,true)],.len true (.t 14)⟩,⟨some 16,[(10,true)],.bin .sub (.t 13) (.t 15)⟩,⟨some 17,[(10,true)],.fN (.t 11) (some (.t 16)) none⟩,⟨some 18,
 [(10,true)],.bg (.t 1)⟩,⟨some 19,[(10,true)],.bin .eql (.t 17) (.t 18)⟩,z 20 (.pick (.t 10) (.t 19) (.c (.b false))),zm 4 20]) (.ret))⟩
theorem Zc:cA prog f249=some Tk:=by kernel_rfl
def TX:cy:=⟨13,[.t 2],.seq (.ax [] [z 2 (.bg (.c (.s [])))]) (.seq (.ax [] [zm 7 0,z 8 (.call 206 [.t 7,.c (.s [32])]),zm 6 8,z 9 (.ext 0 (.t 6)),z 10 (.ext 1 (.t 6)),z 11 (.ext 2
 (.t 6)),zm 3 9,zm 4 10,zm 5 11]) (.seq (.ax [] [zm 12 3,zm 2 12]) (.ret)))⟩
theorem ZO:cA prog f160=some TX:=by kernel_rfl
def TA:cy:=⟨23,[.t 2,.t 3],.seq (.ax [] [z 2 (.bg (.c (.i .u8 0))),z 3 (.bg (.c (.b false)))]) (.seq (.block 0 (.seq (.ax [8,9] [zm 5 0,z 6 (.bin .geq (.t 5) (.c (.i .u8 48))),zm 7
 6,⟨some 8,[(7,true)],.bg (.t 0)⟩,⟨some 9,[(7,true)],.bin .leq (.t 8) (.c (.i .u8 57))⟩,z 10 (.pick (.t 7) (.t 9) (.c (.b false))),zm 4 10]) (.ite (.t 4) (.seq (.ax []
 [zm 11 0,z 12 (.bin .sub (.t 11) (.c (.i .u8 48))),zm 2 12,z 3 (.bg (.c (.b true)))]) (.ret)) (.seq (.ax [17,18] [zm 14 0,z 15 (.bin .geq (.t 14) (.c (.i .u8 97))),zm 16 15,
 ⟨some 17,[(16,true)],.bg (.t 0)⟩,⟨some 18,[(16,true)],.bin .leq (.t 17) (.c (.i .u8 102))⟩,z 19 (.pick (.t 16) (.t 18) (.c (.b false))),zm 13 19]) (.ite (.t 13) (.seq
 (.ax [] [zm 20 0,z 21 (.bin .sub (.t 20) (.c (.i .u8 97))),z 22 (.bin .add (.t 21) (.c (.i .u8 10))),zm 2 22,z 3 (.bg (.c (.b true)))]) (.ret)) (.skip)))))) (.seq (.ax [] [z
 2 (.bg (.c (.i .u8 0))),z 3 (.bg (.c (.b false)))]) (.ret)))⟩
theorem Zs:cA prog f207=some TA:=by kernel_rfl
def T5:cy:=⟨60,[.t 2,.t 3,.t 4],.seq (.ax [] [z 2 (.bg (.c (.i .u8 0))),z 3 (.bg (.c (.i .i64 0))),z 4 (.bg (.c (.b false)))]) (.seq (.seq (.ax [] [zm 10 0,z 11 (.len true (.t
 10)),z 12 (.bin .lss (.t 11) (.c (.i .i64 2)))]) (.ite (.t 12) (.seq (.ax [] [z 2 (.bg (.c (.i .u8 0))),z 3 (.bg (.c (.i .i64 0))),z 4 (.bg (.c (.b false)))]) (.ret))
 (.skip))) (.seq (.seq (.ax [] [zm 13 0,z 14 (.gY (.t 13) (.c (.i .i64 1)))]) (.block 0 (.seq (.seq (.ax [] [z 16 (.bin .eql (.t 14) (.c (.i .u8 92))),zm 15 16]) (.ite (.t 15)
 (.skip) (.seq (.ax [] [z 17 (.bin .eql (.t 14) (.c (.i .u8 60))),zm 15 17]) (.ite (.t 15) (.skip) (.ax [] [z 18 (.bin .eql (.t 14) (.c (.i .u8 123))),zm 15 18]))))) (.ite (.t
 15) (.seq (.ax [] [zm 19 0,z 20 (.gY (.t 19) (.c (.i .i64 1))),zm 2 20,z 3 (.bg (.c (.i .i64 2))),z 4 (.bg (.c (.b true)))]) (.ret)) (.seq (.ax [] [z 22 (.bin .eql (.t 14)
 (.c (.i .u8 110))),zm 21 22]) (.ite (.t 21) (.seq (.ax [] [z 2 (.bg (.c (.i .u8 10))),z 3 (.bg (.c (.i .i64 2))),z 4 (.bg (.c (.b true)))]) (.ret)) (.seq (.ax [] [z 24 (.bin
 .eql (.t 14) (.c (.i .u8 116))),zm 23 24]) (.ite (.t 23) (.seq (.ax [] [z 2 (.bg (.c (.i .u8 9))),z 3 (.bg (.c (.i .i64 2))),z 4 (.bg (.c (.b true)))]) (.ret)) (.seq (.ax []
 [z 26 (.bin .eql (.t 14) (.c (.i .u8 120))),zm 25 26]) (.ite (.t 25) (.seq (.seq (.ax [] [zm 27 0,z 28 (.len true (.t 27)),z 29 (.bin .lss (.t 28) (.c (.i .i64 4)))]) (.ite (.t
 29) (.seq (.ax [] [z 2 (.bg (.c (.i .u8 0))),z 3 (.bg (.c (.i .i64 0))),z 4 (.bg (.c (.b false)))]) (.ret)) (.skip))) (.seq (.ax [] [zm 31 0,z 32 (.gY (.t 31) (.c (.i .i64
 2))),z 33 (.call 207 [.t 32]),zm 30 33,z 34 (.ext 0 (.t 30)),z 35 (.ext 1 (.t 30)),zm 5 34,zm 6 35]) (.seq (.ax [] [zm 37 0,z 38 (.gY (.t 37) (.c (.i .i64 3))),z 39
 (.call 207 [.t 38]),zm 36 39,z 40 (.ext 0 (.t 36)),z 41 (.ext 1 (.t 36)),zm 7 40,zm 8 41]) (.seq (.ax [] [zm 42 5,z 43 (.bin .shl (.t 42) (.c (.i .u64 4))),zm 44 7,z 45
 (.bin .or (.t 43) (.t 44)),zm 9 45]) (.seq (.ax [49,52,53,54,55,56,57,58] [zm 46 9,zm 47 6,zm 48 47,⟨some 49,[(48,true)],.bg (.t 8)⟩,z 50 (.pick (.t 48) (.t 49) (.c
 (.b false))),zm 51 50,⟨some 52,[(51,true)],.bg (.t 9)⟩,⟨some 53,[(51,true)],.bin .eql (.t 52) (.c (.i .u8 13))⟩,⟨some 54,[(51,true)],.bg (.t 53)⟩,⟨some 55,[(51,
 true),(54,false)],.bg (.t 9)⟩,⟨some 56,[(51,true),(54,false)],.call 168 [.t 55]⟩,⟨some 57,[(51,true),(54,false)],.bin .eql (.t 56) (.c (.i .i64 1))⟩,⟨some 58,[(51,
 true)],.pick (.t 54) (.c (.b true)) (.t 57)⟩,z 59 (.pick (.t 51) (.t 58) (.c (.b false))),zm 2 46,z 3 (.bg (.c (.i .i64 4))),zm 4 59]) (.ret)))))) (.skip))))))))))) (.seq
 (.ax [] [z 2 (.bg (.c (.i .u8 0))),z 3 (.bg (.c (.i .i64 0))),z 4 (.bg (.c (.b false)))]) (.ret))))⟩
theorem ZS:cA prog f156=some T5:=by kernel_rfl
def Ac:bE:=.seq (.seq (.ax [] [zm 19 5,zm 20 0,z 21 (.len true (.t 20)),z 22 (.bin .lss (.t 19) (.t 21))]) (.ite (.t 22) (.skip) (.exit 0))) (.seq (.block 1 (.seq (.seq (.ax [30,31,32,
 33] [zm 25 0,zm 26 5,z 27 (.gY (.t 25) (.t 26)),z 28 (.bin .lss (.t 27) (.c (.i .u8 48))),zm 29 28,⟨some 30,[(29,false)],.bg (.t 0)⟩,⟨some 31,[(29,false)],.bg (.t
 5)⟩,⟨some 32,[(29,false)],.gY (.t 30) (.t 31)⟩,⟨some 33,[(29,false)],.bin .gtr (.t 32) (.c (.i .u8 57))⟩,z 34 (.pick (.t 29) (.c (.b true)) (.t 33))]) (.ite (.t 34) (.seq
 (.ax [] [z 2 (.bg (.c (.i .i64 0))),z 3 (.bg (.c (.b false)))]) (.ret)) (.skip))) (.ax [] [zm 35 4,z 36 (.bin .mul (.c (.i .i64 10)) (.t 35)),zm 37 0,zm 38 5,z 39 (.gY
 (.t 37) (.t 38)),z 40 (.bin .sub (.t 39) (.c (.i .u8 48))),z 41 (.De .i64 (.t 40)),z 42 (.bin .add (.t 36) (.t 41)),zm 4 42]))) (.ax [] [zm 23 5,z 24 (.bin .add (.t 23) (.c
 (.i .i64 1))),zm 5 24]))
def Tx:cy:=⟨46,[.t 2,.t 3],.seq (.ax [] [z 2 (.bg (.c (.i .i64 0))),z 3 (.bg (.c (.b false)))]) (.seq (.seq (.ax [10,11,12,15,16,17] [zm 6 0,z 7 (.len true (.t 6)),z 8 (.bin
 .lss (.t 7) (.c (.i .i64 1))),zm 9 8,⟨some 10,[(9,false)],.bg (.t 0)⟩,⟨some 11,[(9,false)],.len true (.t 10)⟩,⟨some 12,[(9,false)],.bin .gtr (.t 11) (.c (.i .i64 3))⟩,
 z 13 (.pick (.t 9) (.c (.b true)) (.t 12)),zm 14 13,⟨some 15,[(14,false)],.bg (.t 0)⟩,⟨some 16,[(14,false)],.gY (.t 15) (.c (.i .i64 0))⟩,⟨some 17,[(14,false)],.bin
 .eql (.t 16) (.c (.i .u8 48))⟩,z 18 (.pick (.t 14) (.c (.b true)) (.t 17))]) (.ite (.t 18) (.seq (.ax [] [z 2 (.bg (.c (.i .i64 0))),z 3 (.bg (.c (.b false)))]) (.ret))
 (.skip))) (.seq (.ax [] [z 4 (.bg (.c (.i .i64 0)))]) (.seq (.seq (.ax [] [z 5 (.bg (.c (.i .i64 0)))]) (.block 0 (.loop Ac))) (.seq (.ax [] [zm 43 4,zm 44 4,z 45 (.bin
 .leq (.t 44) (.c (.i .i64 999))),zm 2 43,zm 3 45]) (.ret)))))⟩
theorem Zp:cA prog f211=some Tx:=by kernel_rfl
def TY:cy:=⟨30,[.t 2],.seq (.ax [] [z 2 (.bg (.c (.b false)))]) (.seq (.ax [6,7,10,11,14,15,18,19,22,23,26,27,28] [zm 3 0,z 4 (.bin .neq (.t 3) (.c (.i .u8 92))),zm 5 4,
 ⟨some 6,[(5,true)],.bg (.t 0)⟩,⟨some 7,[(5,true)],.bin .neq (.t 6) (.c (.i .u8 60))⟩,z 8 (.pick (.t 5) (.t 7) (.c (.b false))),zm 9 8,⟨some 10,[(9,true)],.bg (.t 0)⟩,
 ⟨some 11,[(9,true)],.bin .neq (.t 10) (.c (.i .u8 123))⟩,z 12 (.pick (.t 9) (.t 11) (.c (.b false))),zm 13 12,⟨some 14,[(13,true)],.bg (.t 0)⟩,⟨some 15,[(13,true)],
 .bin .neq (.t 14) (.c (.i .u8 9))⟩,z 16 (.pick (.t 13) (.t 15) (.c (.b false))),zm 17 16,⟨some 18,[(17,true)],.bg (.t 0)⟩,⟨some 19,[(17,true)],.bin .neq (.t 18) (.c (.i
 .u8 10))⟩,z 20 (.pick (.t 17) (.t 19) (.c (.b false))),zm 21 20,⟨some 22,[(21,true)],.bg (.t 0)⟩,⟨some 23,[(21,true)],.bin .neq (.t 22) (.c (.i .u8 13))⟩,z 24 (.pick (.t
 21) (.t 23) (.c (.b false))),zm 25 24,⟨some 26,[(25,true)],.bg (.t 0)⟩,⟨some 27,[(25,true)],.call 168 [.t 26]⟩,⟨some 28,[(25,true)],.bin .neq (.t 27) (.c (.i .i64
 1))⟩,z 29 (.pick (.t 25) (.t 28) (.c (.b false))),zm 2 29]) (.ret))⟩
theorem ZP:cA prog f159=some TY:=by kernel_rfl
def vY:bE:=.seq (.seq (.ax [] [zm 7 5,zm 8 1,z 9 (.len true (.t 8)),z 10 (.bin .lss (.t 7) (.t 9))]) (.ite (.t 10) (.skip) (.exit 0))) (.seq (.block 1 (.seq (.ax [] [zm 13 1,zm 14 5,z
 15 (.gY (.t 13) (.t 14)),zm 6 15]) (.block 2 (.seq (.ax [] [zm 26 6,z 27 (.call 159 [.t 26]),zm 25 27]) (.ite (.t 25) (.ax [] [zm 28 0,zm 29 6,z 30 (.c6 1 [none] [.t
 29]),z 31 (.app 5 1 1 (.t 28) (.t 30)),zm 0 31]) (.seq (.ax [] [zm 33 6,z 34 (.bin .eql (.t 33) (.c (.i .u8 10))),zm 32 34]) (.ite (.t 32) (.ax [] [zm 35 0,z 36 (.c6 1
 [none] [.c (.i .u8 92),.c (.i .u8 110)]),z 37 (.app 5 1 1 (.t 35) (.t 36)),zm 0 37]) (.seq (.ax [] [zm 39 6,z 40 (.bin .eql (.t 39) (.c (.i .u8 9))),zm 38 40]) (.ite (.t 38)
 (.ax [] [zm 41 0,z 42 (.c6 1 [none] [.c (.i .u8 92),.c (.i .u8 116)]),z 43 (.app 5 1 1 (.t 41) (.t 42)),zm 0 43]) (.seq (.ax [48,49,52,53] [zm 45 6,z 46 (.bin .eql (.t
 45) (.c (.i .u8 92))),zm 47 46,⟨some 48,[(47,false)],.bg (.t 6)⟩,⟨some 49,[(47,false)],.bin .eql (.t 48) (.c (.i .u8 60))⟩,z 50 (.pick (.t 47) (.c (.b true)) (.t 49)),zm
 51 50,⟨some 52,[(51,false)],.bg (.t 6)⟩,⟨some 53,[(51,false)],.bin .eql (.t 52) (.c (.i .u8 123))⟩,z 54 (.pick (.t 51) (.c (.b true)) (.t 53)),zm 44 54]) (.ite (.t 44)
 (.ax [] [zm 55 0,zm 56 6,z 57 (.c6 1 [none] [.c (.i .u8 92),.t 56]),z 58 (.app 5 1 1 (.t 55) (.t 57)),zm 0 58]) (.dG [] [zm 16 0,zm 17 6,z 18 (.bin .shr (.t 17) (.c
 (.i .u64 4))),z 19 (.gY (.c (.s [48,49,50,51,52,53,54,55,56,57,97,98,99,100,101,102])) (.t 18)),zm 20 6,z 21 (.bin .and (.t 20) (.c (.i .u8 15))),z 22 (.gY
 (.c (.s [48,49,50,51,52,53,54,55,56,57,97,98,99,100,101,102])) (.t 21)),z 23 (.c6 1 [none] [.c (.i .u8 92),.c (.i .u8 120),.t 19,.t 22])] [] [z 24 (.app 5 1 1
 (.t 16) (.t 23)),zm 0 24])))))))))))) (.ax [] [zm 11 5,z 12 (.bin .add (.t 11) (.c (.i .i64 1))),zm 5 12]))
def To:cy:=⟨60,[.t 4],.seq (.ax [] [z 4 (.bg (.c .nil))]) (.seq (.seq (.ax [] [z 5 (.bg (.c (.i .i64 0)))]) (.block 0 (.loop vY))) (.seq (.ax [] [zm 59 0,zm 4 59]) (.ret)))⟩
theorem Zg:cA prog f241=some To:=by kernel_rfl
def TZ:cy:=⟨60,[.c 2 (some 3),.t 3],.seq (.ax [] [z 2 (.alloc 61 [.i .i64 0,.s [],.i .i64 0]),z 3 (.bg (.c (.b false)))]) (.seq (.ax [] [z 10 (.build [.i .i64 0,.s [],.i .i64 0]
 [(0,1,.c (.i .i64 2))]),z 4 (.alloc 61 [.i .i64 0,.s [],.i .i64 0]),zs (.store 3 [none,none,none] (.t 4) (.t 10))]) (.seq (.seq (.ax [] [zm 11 0,z 12 (.call 209 [.t 11,.c
 (.s [47])])]) (.ite (.t 12) (.dG [([zm 13 0,z 14 (.fN (.t 13) (some (.c (.i .i64 1))) none),zf 15 0 4],zs (.store 1 [none] (.t 15) (.c (.i .i64 3))),[])] [] [] [zm 0 14])
 (.skip))) (.seq (.ax [] [zm 17 0,z 18 (.call 206 [.t 17,.c (.s [58])]),zm 16 18,z 19 (.ext 0 (.t 16)),z 20 (.ext 1 (.t 16)),z 21 (.ext 2 (.t 16)),zm 5 19,zm 6 20,zm 7 21])
 (.seq (.seq (.ax [26,27] [zf 22 0 4,zl 23 22,z 24 (.bin .eql (.t 23) (.c (.i .i64 2))),zm 25 24,⟨some 26,[(25,true)],.bg (.t 6)⟩,⟨some 27,[(25,true)],.call 210 [.t 26,
 .c (.s [47])]⟩,z 28 (.pick (.t 25) (.t 27) (.c (.b false)))]) (.ite (.t 28) (.dG [([zm 29 6,zm 30 6,z 31 (.len true (.t 30)),z 32 (.bin .sub (.t 31) (.c (.i .i64 1))),z 33
 (.fN (.t 29) none (some (.t 32))),zf 34 0 4],zs (.store 1 [none] (.t 34) (.c (.i .i64 4))),[z 31 (.len true (.t 30))])] [] [] [zm 6 33]) (.skip))) (.seq (.ax [] [zm 36 5,z
 37 (.call 211 [.t 36]),zm 35 37,z 38 (.ext 0 (.t 35)),z 39 (.ext 1 (.t 35)),zm 8 38,zm 9 39]) (.seq (.seq (.ax [43,44] [zm 40 7,z 41 (.un .not (.t 40)),zm 42 41,⟨some 43,
 [(42,false)],.bg (.t 9)⟩,⟨some 44,[(42,false)],.un .not (.t 43)⟩,z 45 (.pick (.t 42) (.c (.b true)) (.t 44))]) (.ite (.t 45) (.seq (.ax [] [z 46 (.build [.i .i64 0,.s [],
 .i .i64 0] []),zs (.store 3 [none,none,none] (.t 2) (.t 46)),z 3 (.bg (.c (.b false)))]) (.ret)) (.skip))) (.seq (.ax [] [zm 47 6,zm 48 8,zf 49 1 4,zs (.store 1 [none] (.t
 49) (.t 47)),zf 50 2 4,zs (.store 1 [none] (.t 50) (.t 48))]) (.seq (.seq (.ax [] [zf 51 0 4,zl 52 51,z 53 (.bin .eql (.t 52) (.c (.i .i64 3)))]) (.ite (.t 53) (.seq (.dG
 [([zL 54 3 4,zm 55 6],z 56 (.call 117 [.t 55]),[zL 54 3 4])] [] [] [zs (.store 3 [none,none,none] (.t 2) (.t 54)),zm 3 56]) (.ret)) (.skip))) (.seq (.dG [([zL 57 3 4,zm 58
 6],z 59 (.call 154 [.t 58]),[zL 57 3 4])] [] [] [zs (.store 3 [none,none,none] (.t 2) (.t 57)),zm 3 59]) (.ret))))))))))⟩
theorem ZQ:cA prog f158=some TZ:=by kernel_rfl
def p99:cy:=⟨76,[.c 2 (some 3),.t 3,.t 4],.seq (.ax [] [z 2 (.alloc 61 [.i .i64 0,.s [],.i .i64 0]),z 3 (.bg (.c (.i .i64 0))),z 4 (.bg (.c (.b false)))]) (.seq (.block 0 (.seq (.ax
 [] [zm 13 0,z 14 (.gY (.t 13) (.c (.i .i64 0))),z 15 (.bin .eql (.t 14) (.c (.i .u8 92))),zm 12 15]) (.ite (.t 12) (.seq (.ax [] [zm 17 0,z 18 (.call 156 [.t 17]),zm 16 18,
 z 19 (.ext 0 (.t 16)),z 20 (.ext 1 (.t 16)),z 21 (.ext 2 (.t 16)),zm 5 19,zm 6 20,zm 7 21]) (.seq (.ax [] [zm 22 5,z 23 (.c6 1 [none] [.t 22]),z 24 (.Fc (.t 23)),z 25
 (.build [.i .i64 0,.s [],.i .i64 0] [(0,1,.c (.i .i64 1)),(1,1,.t 24)]),zm 26 6,zm 27 7,zs (.store 3 [none,none,none] (.t 2) (.t 25)),zm 3 26,zm 4 27]) (.ret))) (.seq
 (.ax [] [zm 29 0,z 30 (.gY (.t 29) (.c (.i .i64 0))),z 31 (.bin .eql (.t 30) (.c (.i .u8 60))),zm 28 31]) (.ite (.t 28) (.seq (.ax [] [zm 32 0,z 33 (.call 157 [.t 32,.c (.i
 .u8 62)]),zm 8 33]) (.seq (.seq (.ax [] [zm 34 8,z 35 (.bin .lss (.t 34) (.c (.i .i64 0)))]) (.ite (.t 35) (.seq (.ax [] [z 36 (.build [.i .i64 0,.s [],.i .i64 0] []),zs
 (.store 3 [none,none,none] (.t 2) (.t 36)),z 3 (.bg (.c (.i .i64 0))),z 4 (.bg (.c (.b false)))]) (.ret)) (.skip))) (.seq (.ax [] [zm 38 0,zm 39 8,z 40 (.fN (.t 38)
 (some (.c (.i .i64 1))) (some (.t 39))),z 41 (.call 158 [.t 40]),zm 37 41,z 42 (.ext 0 (.t 37)),z 43 (.ext 1 (.t 37)),z 9 (.alloc 61 [.i .i64 0,.s [],.i .i64 0]),zs (.store
 3 [none,none,none] (.t 9) (.t 42)),zm 10 43]) (.seq (.ax [] [zL 44 3 9,zm 45 8,z 46 (.bin .add (.t 45) (.c (.i .i64 1))),zm 47 10,zs (.store 3 [none,none,none] (.t 2) (.t
 44)),zm 3 46,zm 4 47]) (.ret))))) (.seq (.ax [] [zm 49 0,z 50 (.gY (.t 49) (.c (.i .i64 0))),z 51 (.bin .eql (.t 50) (.c (.i .u8 123))),zm 48 51]) (.ite (.t 48) (.seq (.ax
 [] [zm 52 0,z 53 (.call 157 [.t 52,.c (.i .u8 125)]),zm 11 53]) (.seq (.seq (.ax [57,58,59,60,61] [zm 54 11,z 55 (.bin .lss (.t 54) (.c (.i .i64 0))),zm 56 55,⟨some 57,
 [(56,false)],.bg (.t 0)⟩,⟨some 58,[(56,false)],.bg (.t 11)⟩,⟨some 59,[(56,false)],.fN (.t 57) (some (.c (.i .i64 1))) (some (.t 58))⟩,⟨some 60,[(56,false)],.call
 117 [.t 59]⟩,⟨some 61,[(56,false)],.un .not (.t 60)⟩,z 62 (.pick (.t 56) (.c (.b true)) (.t 61))]) (.ite (.t 62) (.seq (.ax [] [z 63 (.build [.i .i64 0,.s [],.i .i64 0] []),
 zs (.store 3 [none,none,none] (.t 2) (.t 63)),z 3 (.bg (.c (.i .i64 0))),z 4 (.bg (.c (.b false)))]) (.ret)) (.skip))) (.seq (.ax [] [zm 64 0,zm 65 11,z 66 (.fN (.t 64)
 (some (.c (.i .i64 1))) (some (.t 65))),z 67 (.build [.i .i64 0,.s [],.i .i64 0] [(0,1,.c (.i .i64 5)),(1,1,.t 66)]),zm 68 11,z 69 (.bin .add (.t 68) (.c (.i .i64 1))),zs
 (.store 3 [none,none,none] (.t 2) (.t 67)),zm 3 69,z 4 (.bg (.c (.b true)))]) (.ret)))) (.skip)))))))) (.seq (.dG [([zm 70 0,z 71 (.fN (.t 70) none (some (.c (.i .i64
 1)))),z 72 (.build [.i .i64 0,.s [],.i .i64 0] [(0,1,.c (.i .i64 1)),(1,1,.t 71)]),zm 73 0,z 74 (.gY (.t 73) (.c (.i .i64 0)))],z 75 (.call 159 [.t 74]),[z 72 (.build
 [.i .i64 0,.s [],.i .i64 0] [(0,1,.c (.i .i64 1)),(1,1,.t 71)])])] [] [] [zs (.store 3 [none,none,none] (.t 2) (.t 72)),z 3 (.bg (.c (.i .i64 1))),zm 4 75]) (.ret)))⟩
theorem c99:cA prog f99=some p99:=by kernel_rfl
end Go.Proofs.Tryz
namespace Go.Proofs.Tryz
open Go Go.Pm Go.Bt
open Go.Pm.V(u)
theorem Jg(x:It)(J:ae):PC prog 153 [.agg x.aen] J (fun r J'=>r=.i .i64 (width x)∧J'=J):=by
 refine PC.intro func153 ZV fun bz er=>aB ?_;simp only[T8,It.aen,SS,seval];simp only[W,seval];refine⟨fun h=>?_,fun h=>?_⟩
 ·exact bu bz (.inr rfl) rfl (by simp[LW]) (by simp at h;simp[one,width,h])
 ·exact bu bz (.inr rfl) rfl (by simp[LW]) (by simp at h;simp[one,width,h])
theorem Qy{J:ae}{K:Exit→St→Prop}(its:List It)(bz:bG J)(hlen:its.length<2^63):∀ (rest pre:List It) (acc:Int),its=pre++rest →
  (K (.exit 0) ⟨[.sl 3 (its.map It.aen),u,.i .i64 0,.i .i64 (jq acc rest),u,u,.sl 3 (its.map It.aen),.i .i64 its.length,.i .i64 its.length,.b false,u,u,u,u,u,u,u,u],J⟩) →
  gw J.length prog FM K (rest.length+1) ⟨[.sl 3 (its.map It.aen),u,.i .i64 0,.i .i64 acc,u,u,.sl 3 (its.map It.aen),.i .i64 its.length,.i .i64 pre.length,u,u,u,u,u,u,u,u,u],J⟩:=by
 intro rest
 induction rest with
 | nil =>
  intro pre acc he hK;subst he;refine aH fun R hR=>?_;simp only[FM,W,seval];refine⟨fun h=>by simp at h,fun _=>?_⟩;simpa[jq]using hK
 | cons x rest ih =>
  intro pre acc he hK;subst he;refine aH fun R hR=>?_;simp only[FM,zS,It.aen,W,seval];refine⟨fun _=>⟨?_,?_⟩,fun h=>?_⟩
  ·simp;omega
  ·refine aA (Jg x _) rfl ?_;simp only[W,seval];refine hR _ ?_
   have hw:IntKind.i64.wrap ((pre.length:Int)+1)=(((pre++[x]).length:Nat):Int):=by
    rw[br (by simp at hlen;omega)];simp
   rw[hw];refine vR (aq _) bz ?_ ?_ (ih (pre++[x]) (IntKind.i64.wrap (acc+width x)) (by simp) ?_)
   ·repeat first | exact .nil | refine .cons (.refl _) ?_ | refine .cons (.forget _) ?_
   ·simp only[LW]
   ·simpa[jq]using hK
  ·simp at h;omega
theorem HY(its:List It)(J:ae):PC prog 95 [.sl 3 (its.map It.aen)] J (fun r J'=>r=.i .i64 (jq 0 its)∧J'=J):=by
 refine PC.intro func95 c95 fun bz er=>aB ?_
 have hlen:its.length<2^63:=by
  have:=qW (er 0 _ rfl).1;simpa using this
 simp only[p95,SS,seval];simp only[aj,W,seval];refine cE.BX (its.length+1) (Qy its bz hlen its [] 0 (by simp) ?_);simp only[W,seval];exact a6 (.inr rfl) rfl ⟨rfl,rfl⟩
theorem Nq{J:ae}{K:Exit→St→Prop}(s:List UInt8)(hlen:s.length<2^63):∀ (rest pre:List UInt8),s=pre++rest →
  (rest.all mY=true→∀ j0 j1 j2 j3 j4 j5 j6 j7 j8 j9 XF XE XD XC XB XA Xz Xy Xx Xw Si Xv Xu Xt Xr Xq Xp Xo Xn Xm Xl Xk Xj Xi Xh Xg Xf Xe Xd Xc Xb Xa W9 W8 W7 W6 W5 W4 W3 W2 W1,K (.exit 0) ⟨[j0,j1,j2,j3,j4,j5,j6,j7,j8,j9,XF,XE,XD,XC,XB,XA,Xz,Xy,Xx,Xw,Si,Xv,Xu,Xt,Xr,Xq,Xp,Xo,Xn,Xm,Xl,Xk,Xj,Xi,Xh,Xg,Xf,Xe,Xd,Xc,Xb,Xa,W9,W8,W7,W6,W5,W4,W3,W2,W1],J⟩) →
  (rest.all mY=false→∀ j0 j1 j3 j4 j5 j6 j7 j8 j9 XF XE XD XC XB XA Xz Xy Xx Xw Si Xv Xu Xt Xr Xq Xp Xo Xn Xm Xl Xk Xj Xi Xh Xg Xf Xe Xd Xc Xb Xa W9 W8 W7 W6 W5 W4 W3 W2 W1,K .ret ⟨[j0,j1,.b false,j3,j4,j5,j6,j7,j8,j9,XF,XE,XD,XC,XB,XA,Xz,Xy,Xx,Xw,Si,Xv,Xu,Xt,Xr,Xq,Xp,Xo,Xn,Xm,Xl,Xk,Xj,Xi,Xh,Xg,Xf,Xe,Xd,Xc,Xb,Xa,W9,W8,W7,W6,W5,W4,W3,W2,W1],J⟩) →
  gw J.length prog Au K (rest.length+1) ⟨[.s s,u,u,.i .i64 pre.length,u,u,u,u,u,u,u,u,u,u,u,u,u,u,u,u,u,u,u,u,u,u,u,u,u,u,u,u,u,u,u,u,u,u,u,u,u,u,u,u,u,u,u,u,u,u,u],J⟩:=by
 intro rest
 induction rest with
 | nil =>
  intro pre he h1 h2;subst he;refine aH fun R hR=>?_;simp only[Au,W,seval];exact⟨fun h=>by simp at h,fun _=>h1 rfl ..⟩
 | cons c rest ih =>
  intro pre he h1 h2;subst he;refine aH fun R hR=>?_;simp only[Au,W,seval];refine⟨fun _=>⟨by simp;omega,fun h=>?_,fun h=>?_⟩,fun h=>by simp at h;omega⟩
  ·refine h2 ?_ ..;simp only[lI,Bool.and_eq_false_iff];left;simp at h;simp[mY];omega
  ·refine hR _ (bk (fr':=[.s (pre++c::rest),u,u,.i .i64 (pre++[c]).length,u,u,u,u,u,u,u,u,u,u,u,u,u,u,u,u,u,u,u,u,u,u,u,u,u,u,u,u,u,u,u,u,u,u,u,u,u,u,u,u,u,u,u,u,u,u,u]) ?_ (ih (pre++[c]) (by simp) (fun h2=>h1 ?_) (fun h3=>h2 ?_)))
   ·rw[br (by simp at hlen;omega)];simp only[al,ai,aK]
    repeat first | exact .nil | refine .cons (.refl _) ?_ | refine .cons (.forget _) ?_
   ·simp[h2];simp at h;simp[mY];omega
   ·simp[h3]
theorem Kv(n:Int)(J:ae):PC prog 127 [.i .i64 n] J (fun r J'=>r=.b false∧J'=J):=by
 refine PC.intro func127 Z6 fun bz er=>aB ?_;simp only[Ui,SS,seval];simp only[W,seval];exact a6 (.inr rfl) rfl (by simp[one])
theorem Qz{J:ae}{K:Exit→St→Prop}(l:List Int)(hlen:l.length<2^63):∀ (rest pre:List Int),l=pre++rest →
  (tR rest=0→((fj 3 (fh (.i .i64 0) (fj 14 fo))) fun ZZ=>K (.exit 0) ⟨ZZ,J⟩))→(tR rest≠0→((fj 2 (fh (.i .i64 (tR rest)) (fj 15 fo))) fun ZZ=>K .ret ⟨ZZ,J⟩)) →
  gw J.length prog FU K (rest.length+1) ⟨(uu 3 (.i .i64 0::uu 2 (.sl 1 (l.map cq)::.i .i64 l.length::.i .i64 pre.length::uu 9 []))),J⟩:=by
 intro rest
 induction rest with
 | nil =>
  intro pre he h1 h2;subst he;refine aH fun R hR=>?_;simp only[FU,W,seval];exact⟨fun h=>by simp at h,fun _=>h1 rfl ..⟩
 | cons c rest ih =>
  intro pre he h1 h2;subst he;refine aH fun R hR=>?_;simp only[FU,W,seval];simp only[cq,W,seval];refine⟨fun _=>⟨by simp;omega,fun h=>?_,fun h=>?_⟩,fun h=>by simp at h;omega⟩
  ·simp at h;have e:tR (c::rest)=c:=by simp[tR,h]
   rw[e]at h2;exact h2 h ..
  ·simp at h;have e:tR (c::rest)=tR rest:=by simp[tR,h]
   rw[e]at h1 h2;refine hR _ (bk ?_ (ih (pre++[c]) (by simp) h1 h2));rw[br (by simp at hlen;omega)];simp only[al,ai,aK]
   repeat' constructor
theorem Qg(l:List Int)(J:ae):PC prog 62 [.sl 1 (l.map cq)] J (fun r J'=>r=.i .i64 (tR l)∧J'=J):=by
 refine PC.intro func62 c62 fun bz er=>aB ?_;have hlen:l.length<2^63:=by simpa using qW (er 0 _ rfl).1
 simp only[p62,SS,seval];simp only[aj,W,seval];refine cE.bk ?_ (l.length+1) (Qz l hlen l [] (by simp) ?_ ?_)
 ·repeat' constructor
 ·intro h;simp only[W,seval];simp only[JE];intros;exact a6 (.inr rfl) rfl (by simp[one,h])
 ·intro h;simp only[W,seval];simp only[JE];intros;exact a6 (.inr rfl) rfl ⟨rfl,rfl⟩
theorem Qa:Ti prog 3 1 8:=nD (by kernel_rfl)
theorem rh(l:List UInt8)(c:UInt8)(J:ae):PC prog 208 [.s l,.i .u8 c.toNat] J (fun r J'=>r=.i .i64 (Lib.indexByte l c)∧J'=J):=by
 refine PC.Ay fun w μ vs hv=>?_;obtain⟨x,hx,hl,_⟩:=(hv.2 0 _ rfl).kb;have hc:=(hv.2 1 _ rfl).dI;refine⟨.int .i64 (Lib.indexByte l c),?_,.i _ _⟩;rw[Wa hv.1,hx,hc];refine(Tryz.ka x c.toNat w).mono ?_;rintro e w' ⟨rfl,rfl⟩;refine⟨?_,rfl⟩;rw[hl];have:((c.toNat:Int).toNat).toUInt8=c:=by simp
 rw[this]
theorem nM(l:List UInt8)(c:UInt8)(J:ae):PC prog 157 [.s l,.i .u8 c.toNat] J (fun r J'=>r=.i .i64 (Lib.indexByte l c)∧J'=J):=by
 refine PC.intro func157 ZR fun bz er=>aB ?_;simp only[T0,SS,seval];simp only[W,seval];refine aA (rh l c _) rfl ?_;simp only[W,seval];exact a6 (.inr rfl) rfl ⟨rfl,rfl⟩
theorem xX(l:List UInt8)(c:UInt8)(J:ae):PC prog 272 [.s l,.s [c]] J (fun r J'=>r=.i .i64 (Lib.indexByte l c)∧J'=J):=by
 refine PC.Ay fun w μ vs hv=>?_;obtain⟨x,hx,hl,_⟩:=(hv.2 0 _ rfl).kb;obtain⟨y,hy,Yo,_⟩:=(hv.2 1 _ rfl).kb;refine⟨.int .i64 (Lib.indexByte l c),?_,.i _ _⟩
 have e:y=⟨#[c]⟩:=by
  have h:y.data=#[c]:=by apply Array.toList_inj.1;rw[Yo]
  cases y;simp_all
 rw[Wa hv.1,hx,hy,e];refine(Tryz.jZ x c w).mono ?_;rintro e w' ⟨rfl,rfl⟩;exact⟨by rw[hl],rfl⟩
theorem BQ(l:List UInt8)(c:UInt8)(J:ae):PC prog 246 [.s l,.s [c]] J (fun r J'=>r=.fa [.s (cutAt l c).1,.s (cutAt l c).2.1,.b (cutAt l c).2.2]∧J'=J):=by
 refine PC.intro func246 Ze fun bz er=>aB ?_;simp only[Tm,SS,seval];simp only[W,seval];refine aA (xX l c _) rfl ?_;simp only[W,Nat.reduceAdd,Nat.reduceSub,Nat.reduceLeDiff,Nat.reduceEqDiff,Int.reduceToNat,reduceIte,reduceCtorEq];have h1:=jK l c;have h3:=DS (er 0 _ rfl).1;refine⟨fun h=>?_,fun h=>?_⟩
 ·simp only[a8]at h;have h2:IntKind.i64.wrap (Lib.indexByte l c+((1:Nat):Int))=Lib.indexByte l c+1:=IntWalk.i64_in _ (by omega);rw[h2];refine⟨by omega,by omega,a6 (.inr rfl) rfl ⟨?_,rfl⟩⟩;have h4:(Lib.indexByte l c+1).toNat=(Lib.indexByte l c).toNat+1:=by omega
  have h5:(l.drop ((Lib.indexByte l c).toNat+1)).take (l.length - ((Lib.indexByte l c).toNat+1))=l.drop ((Lib.indexByte l c).toNat+1):=ca (by simp);simp only[one,cutAt,h,aR,h4,h5,pU,bd,bf]
 ·simp only[dx]at h;exact a6 (.inr rfl) rfl ⟨by simp only[one,cutAt,h,aO,bd,bf],rfl⟩
theorem xd(l:List UInt8)(c:UInt8)(J:ae):PC prog 206 [.s l,.s [c]] J (fun r J'=>r=.fa [.s (cutAt l c).1,.s (cutAt l c).2.1,.b (cutAt l c).2.2]∧J'=J):=by
 refine PC.intro func206 Zt fun bz er=>aB ?_;simp only[TB,SS,seval];simp only[W,seval];refine aA (BQ l c _) rfl ?_;simp only[W,seval];exact a6 (.inr rfl) rfl ⟨rfl,rfl⟩
theorem rk(l p:List UInt8)(J:ae):PC prog 248 [.s l,.s p] J (fun r J'=>r=.b (hasPrefix l p)∧J'=J):=by
 refine PC.intro func248 Zd fun bz er=>aB ?_;simp only[Tl,SS,seval];simp only[W,seval];refine⟨fun h=>by simp at h;omega,a6 (.inr rfl) rfl ⟨?_,rfl⟩⟩;simp[one,hasPrefix]
theorem AU(l p:List UInt8)(J:ae):PC prog 209 [.s l,.s p] J (fun r J'=>r=.b (hasPrefix l p)∧J'=J):=by
 refine PC.intro func209 Zr fun bz er=>aB ?_;simp only[Tz,SS,seval];simp only[W,seval];refine aA (rk l p _) rfl ?_;simp only[W,seval];exact a6 (.inr rfl) rfl ⟨rfl,rfl⟩
theorem rj(l p:List UInt8)(J:ae):PC prog 249 [.s l,.s p] J (fun r J'=>r=.b (hasSuffix l p)∧J'=J):=by
 refine PC.intro func249 Zc fun bz er=>aB ?_;simp only[Tk,SS,seval];simp only[W,seval];have h3:=DS (er 0 _ rfl).1;have h4:=DS (er 1 _ rfl).1;have h2:IntKind.i64.wrap ((l.length:Int) - (p.length:Int))=l.length - p.length:=IntWalk.i64_in _ (by omega);rw[h2];refine⟨fun h=>by simp at h;omega,a6 (.inr rfl) rfl ⟨?_,rfl⟩⟩;simp only[one,hasSuffix,bd,bf]
 by_cases hle:p.length≤l.length
 ·have e:((l.length:Int) - (p.length:Int)).toNat=l.length - p.length:=by omega
  have h5:(l.drop (l.length - p.length)).take (l.length - (l.length - p.length))=l.drop (l.length - p.length):=ca (by simp);simp[e,h5,hle]
 ·simp[hle]
theorem AT(l p:List UInt8)(J:ae):PC prog 210 [.s l,.s p] J (fun r J'=>r=.b (hasSuffix l p)∧J'=J):=by
 refine PC.intro func210 Zq fun bz er=>aB ?_;simp only[Ty,SS,seval];simp only[W,seval];refine aA (rj l p _) rfl ?_;simp only[W,seval];exact a6 (.inr rfl) rfl ⟨rfl,rfl⟩
theorem CA(l:List UInt8)(J:ae):PC prog 155 [.s l] J (fun r J'=>r=.s (iH l)∧J'=J):=by
 refine PC.intro func155 ZT fun bz er=>aB ?_;simp only[T6,SS,seval];simp only[W,seval];refine aA (xd l 32 _) rfl ?_;simp only[W,seval];exact a6 (.inr rfl) rfl ⟨rfl,rfl⟩
theorem uz(l:List UInt8)(J:ae):PC prog 160 [.s l] J (fun r J'=>r=.s (iH l)∧J'=J):=by
 refine PC.intro func160 ZO fun bz er=>aB ?_;simp only[TX,SS,seval];simp only[W,seval];refine aA (xd l 32 _) rfl ?_;simp only[W,seval];exact a6 (.inr rfl) rfl ⟨rfl,rfl⟩
set_option maxRecDepth 8000 in
theorem kt(b:UInt8)(J:ae):PC prog 168 [.i .u8 b.toNat] J (fun r J'=>r=.i .i64 (eE b)∧J'=J):=by
 refine PC.intro func168 ZK fun bz er=>aB ?_;simp only[TT,SS,seval];simp only[W,seval];clear er bz;refine⟨fun h1=>?_,fun h1=>⟨fun h2=>?_,fun h2=>⟨fun h3=>?_,fun h3=>⟨fun h4=>?_,fun h4=>?_⟩⟩⟩⟩<;>refine a6 (.inr rfl) rfl ⟨?_,rfl⟩<;>simp at*<;> simp only[one,eE,bd,bf,V.i.injEq,jD]<;>(repeat' split)<;>omega
theorem iK(s:List UInt8)(J:ae):PC prog 117 [.s s] J (fun r J'=>r=.b (aeC s)∧J'=J):=by
 refine PC.intro func117 aab fun bz er=>aB ?_;have hlen:=DS (er 0 _ rfl).1;simp only[Up,SS,seval];simp only[W,seval];refine⟨?_,?_,fun h=>?_,fun h=>?_⟩
 ·intro h;simp at h;omega
 ·intro h;simp at h;omega
 ·refine a6 (.inr rfl) rfl ⟨?_,rfl⟩;simp only[one,bd,bf,V.b.injEq];cases s with
  | nil=>rfl
  | cons c r =>
   simp only[aeC];simp at h;simp;omega
 ·cases s with
  | nil=>simp at h
  | cons c r =>
   have e:aeC (c::r)=r.all mY:=by
    simp only[aeC];simp at h;simp;omega
   refine cE.bk ?_ (r.length+1) (Nq (c::r) hlen r [c] rfl (fun h1=>?_) (fun h1=>?_))
   ·simp only[W,seval]
    repeat' constructor
   ·simp only[W,seval];intros;exact a6 (.inr rfl) rfl ⟨by simp only[one,e,h1,bd,bf],rfl⟩
   ·simp only[W,seval];intros;exact a6 (.inr rfl) rfl ⟨by simp only[one,e,h1,bd,bf],rfl⟩
theorem oU(x:It)(J:ae):PC prog 97 [.agg x.aen] J (fun r J'=>r=.b (b5 x)∧J'=J):=by
 refine PC.intro func97 c97 fun bz er=>aB ?_;simp only[p97,It.aen,SS,seval];simp only[W,seval];exact bu bz (.inr rfl) rfl (by simp[LW]) ⟨rfl,rfl⟩
theorem Nl{J:ae}{K:Exit→St→Prop}(s:List UInt8)(hlen:s.length<2^63):∀ (rest pre:List UInt8),s=pre++rest →
  (rest.all (fun b=>!lZ b)=true→((fh (.s s) (fj 62 fo)) fun ZZ=>K (.exit 0) ⟨ZZ,J⟩))→(rest.all (fun b=>!lZ b)=false→((fj 2 (fh (.b false) (fj 60 fo))) fun ZZ=>K .ret ⟨ZZ,J⟩)) →
  gw J.length prog Am K (rest.length+1) ⟨(.s s::uu 2 (.i .i64 pre.length::uu 59 [])),J⟩:=by
 intro rest
 induction rest with
 | nil =>
  intro pre he h1 h2;have he:s=pre:=by simpa using he
  subst he;refine aH fun R hR=>?_;simp only[Am,W,seval];exact⟨fun h=>by simp at h,fun _=>h1 rfl ..⟩
 | cons c rest ih =>
  intro pre he h1 h2;subst he;refine aH fun R hR=>?_;simp only[Am,W,seval];refine⟨fun _=>⟨by simp;omega,fun _=>by simp;omega,fun _=>by simp;omega,?_⟩,fun h=>by simp at h;omega⟩;refine cL rfl (fun _=>nM [60,62,123,125] c _) rfl ?_;simp only[W,seval]
  have e:(decide ((c.toNat:Int)<32)||decide (126<(c.toNat:Int))||decide (0≤Lib.indexByte [60,62,123,125] c))=lZ c:=by
   simp only[lZ];congr 2<;>exact decide_eq_decide.2 (by omega)
  rw[e];refine⟨fun h=>?_,fun h=>?_⟩
  ·exact h2 (by simp[h]) ..
  ·refine hR _ (bk ?_ (ih (pre++[c]) (by simp) (fun e=>h1 (by simp[h,e])) (fun e=>h2 (by simp only[lI,e,qS]))));rw[br (by simp at hlen;omega)];simp only[al,ai,aK]
   repeat' constructor
theorem lB(s:List UInt8)(J:ae):PC prog 154 [.s s] J (fun r J'=>r=.b (gy s)∧J'=J):=by
 refine PC.intro func154 ZU fun bz er=>aB ?_;have hlen:=DS (er 0 _ rfl).1;simp only[T7,SS,seval];simp only[W,seval];have hm:∀ n:Nat,n<2^63→0<n→IntKind.i64.wrap ((n:Int) - 1)=((n - 1:Nat):Int):=fun n h1 h2=>by rw[IntWalk.i64_in _ (by omega)];omega
 have gr:∀ h:s.length≠0,IntKind.i64.wrap ((s.length:Int) - 1)=((s.length - 1:Nat):Int):=fun h=>hm _ hlen (by omega)
 by_cases h0:s.length=0
 ·refine⟨fun h=>by simp[h0]at h,fun _=>?_,fun h=>by simp[h0]at h⟩;exact a6 (.inr rfl) rfl ⟨by simp[one,gy,jz,h0],rfl⟩
 ·rw[gr h0];refine⟨fun _=>by omega,fun h=>?_,fun h=>?_⟩
  ·refine a6 (.inr rfl) rfl ⟨?_,rfl⟩
   have e:jz s=false:=by
    simp only[jz];simp[h0]at h ⊢;omega
   simp only[one,gy,e,gU,bd,bf]
  ·have e:jz s=true:=by
    simp only[jz];simp[h0]at h ⊢;omega
   refine cE.bk ?_ (s.length+1) (Nl s hlen s [] rfl (fun h1=>?_) (fun h1=>?_))
   ·simp only[W,seval]
    repeat' constructor
   ·simp only[JE];intros;simp only[W,seval];refine aA (xd s 32 _) rfl ?_;simp only[W,seval];refine aA (iK _ _) rfl ?_;simp only[W,seval];refine a6 (.inr rfl) rfl ⟨?_,rfl⟩;simp only[one,gy,e,h1,ui,ed,bd,bf];congr 3;exact decide_eq_decide.2 (by omega)
   ·simp only[JE];intros;simp only[W,seval];exact a6 (.inr rfl) rfl ⟨by simp only[one,gy,e,h1,ed,gU,bd,bf],rfl⟩
theorem Qx{J:ae}{K:Exit→St→Prop}(x:It)(its:List It)(bz:bG J)(hlen:its.length<2^63):∀ (rest pre:List It),its=pre++rest →
  (fits rest x=true→((fj 40 fo) fun ZZ=>K (.exit 0) ⟨ZZ,J++[.box 61 x.aen]⟩))→(fits rest x=false→∀ loc,((fj 4 (fh (.b false) (fj 35 fo))) fun ZZ=>K .ret ⟨ZZ,J++loc⟩)) →
  gw J.length prog FL K (rest.length+1) ⟨(uu 3 (.ptr J.length 0::uu 3 (.sl 3 (its.map It.aen)::.i .i64 its.length::.i .i64 pre.length::uu 30 []))),J++[.box 61 x.aen]⟩:=by
 intro rest
 induction rest with
 | nil =>
  intro pre he h1 h2;have he:its=pre:=by simpa using he
  subst he;refine aH fun R hR=>?_;simp only[FL,W,seval];exact⟨fun h=>by simp at h,fun _=>h1 rfl ..⟩
 | cons y rest ih =>
  intro pre he h1 h2;subst he;refine aH fun R hR=>?_;simp only[FL,It.aen,W,seval];refine⟨fun _=>⟨by simp;omega,?_⟩,fun h=>by simp at h;omega⟩;refine aA (oU y _) rfl ?_;simp only[W,seval];have fK:bG (J++[.box 61 x.aen]):=ck bz (by simp[It.aen,eF,M7,Qs])
  have back:fits (y::rest) x=fits rest x→∀ fr',qJ fr' ((uu 3 (.ptr J.length 0::uu 3 (.sl 3 ((pre++y::rest).map It.aen)::.i .i64 (pre++y::rest).length::.i .i64 (pre++[y]).length::uu 30 []))))→∀ o,R ⟨fr',J++[.box 61 x.aen,o]⟩:=by
   intro e fr' hc o;rw[e]at h1 h2;refine hR _ (bR [.box 61 x.aen] [o] fK hc ?_ (ih (pre++[y]) (by simp) h1 h2));simp only[LW,ai,aK,bj];omega
  refine⟨fun h=>?_,fun h=>?_⟩
  ·refine back ?_ _ ?_ _
   ·have:jj x y=false:=by simp only[jj,h,gE,gU]
    simp[fits,this]
   ·rw[br (by simp at hlen;omega)];simp only[al,ai,aK]
    repeat' constructor
  ·refine cL rfl (fun _=>CA y.aer _) rfl ?_;simp only[W,seval];refine⟨fun h3=>?_,fun h3=>?_⟩
   ·refine h2 ?_ _ ..;have:jj x y=true:=by simp only[jj,h,kH,ed];exact h3
    simp[fits,this]
   ·refine back ?_ _ ?_ _
    ·have:jj x y=false:=by simp only[jj,h,kH,ed];exact h3
     simp[fits,this]
    ·rw[br (by simp at hlen;omega)];simp only[al,ai,aK]
     repeat' constructor
theorem OD(x:It)(its:List It)(J:ae):PC prog 98 [.sl 3 (its.map It.aen),.agg x.aen] J (fun r J'=>r=.b (fits its x)∧J'=J):=by
 refine PC.intro func98 c98 fun bz er=>aB ?_;have hlen:=qW (er 0 _ rfl).1;rw[aj]at hlen;simp only[p98,SS,seval];simp only[aj,W,seval];refine⟨by simp[It.aen,eO,eL],?_⟩;refine cE.bk ?_ (its.length+1) (Qx x its bz hlen its [] rfl (fun h1=>?_) (fun h1=>?_))
 ·simp only[W,seval]
  repeat' constructor
 ·simp only[JE];intros;simp only[W,seval];exact bu bz (.inr rfl) rfl (by simp[LW]) ⟨by simp[one,h1],rfl⟩
 ·simp only[JE];intros;simp only[W,seval];exact bu bz (.inr rfl) rfl (by simp[LW]) ⟨by simp[one,h1],rfl⟩
set_option maxRecDepth 8000 in
theorem xT(pre rest:List It)(x:It)(J:ae):PC prog 96 [.sl 3 ((pre++x::rest).map It.aen),.i .i64 pre.length] J (fun r J'=>r=.b (cH pre.getLast? x)∧J'=J):=by
 refine PC.intro func96 c96 fun bz er=>aB ?_;have hlen:=qW (er 0 _ rfl).1;rw[aj]at hlen;simp only[p96,SS,seval];simp only[It.aen,W,seval];refine⟨by simp;omega,fun hk=>?_,fun hk=>⟨fun ny=>?_,fun ny=>?_⟩⟩
 ·simp only[bN]at hk
  have hp:∀ y ys,pre=ys++[y]→IntKind.i64.wrap ((pre.length:Int) - 1)=ys.length:=fun y ys e=>by
   subst e;have:(ys++[y]).length<2^63:=by simp at hlen ⊢;omega
   rw[IntWalk.i64_in _ (by omega)];simp
  rcases List.eq_nil_or_concat pre with KL | ⟨ys,y,u3⟩
  ·subst KL;refine⟨fun h=>by simp at h,.i .i64 0,fun h=>by simp at h,?_⟩;simp only[W,seval];refine bu bz (.inr rfl) rfl (by simp[LW]) ⟨?_,rfl⟩;simp[one,cH,hk]
  ·rw[yr]at u3;rw[hp y ys u3];subst u3
   have eJ:eV (List.map It.aen (ys++[y]++x::rest)) ys.length 0=some (.i .i64 y.aep):=by
    rw[aM,List.singleton_append,L1];rfl
   simp only[aX,eJ];refine⟨fun _=>by simp;omega,.i .i64 y.aep,fun _=>⟨True,rfl,trivial⟩,?_⟩;simp only[W,seval];refine bu bz (.inr rfl) rfl (by simp[LW]) ⟨?_,rfl⟩;have gr:(((ys++[y]).length:Int)==0)=false:=by simp;omega
   simp only[one,cH,hk,gr,aR,bd,bf,kF,iV,qM,jE]
 ·refine aA (iK _ _) rfl ?_;simp only[W,seval];simp only[bN,dv]at hk ny;refine bu bz (.inr rfl) rfl (by simp[LW]) ⟨?_,rfl⟩;simp only[one,cH,hk,ny,aR,aO,bd,bf];simp
 ·simp only[bN,dv,gC]at hk ny
  have tagged:(x.aep=2∨x.aep=4)→cH pre.getLast? x=(gy x.aer&&decide (1≤x.id)&&decide (x.id≤999)):=fun h=>by
   simp only[cH,hk,ny,h,aR,aO]
  refine⟨fun h2=>⟨fun _=>?_,fun h=>?_⟩,fun h2=>⟨fun h4=>?_,fun h4=>⟨fun h3=>?_,fun h3=>?_⟩⟩⟩
  ·refine aA (lB _ _) rfl ?_;simp only[W,seval];refine bu bz (.inr rfl) rfl (by simp[LW]) ⟨?_,rfl⟩;simp at h2;simp only[one,tagged (.inl h2),bd,bf]
  ·rw[h2]at h;simp at h
  ·refine aA (lB _ _) rfl ?_;simp only[W,seval];refine bu bz (.inr rfl) rfl (by simp[LW]) ⟨?_,rfl⟩;simp at h4;simp only[one,tagged (.inr h4),bd,bf]
  ·refine aA (iK _ _) rfl ?_;simp only[W,seval];refine bu bz (.inr rfl) rfl (by simp[LW]) ⟨?_,rfl⟩;simp at h3;simp[one,cH,h3]
  ·refine bu bz (.inr rfl) rfl (by simp[LW]) ⟨?_,rfl⟩;simp at h2 h3 h4;simp[one,cH,hk,ny,h2,h3,h4]
theorem QD{J:ae}{K:Exit→St→Prop}(its:List It)(bz:bG J)(hlen:its.length<2^63):∀ (rest pre:List It),its=pre++rest →
  (cB pre rest=0→((fj 35 fo) fun ZZ=>K (.exit 0) ⟨ZZ,J⟩))→(cB pre rest≠0→∀ loc,((fj 2 (fh (.i .i64 (cB pre rest)) (fj 32 fo))) fun ZZ=>K .ret ⟨ZZ,J++loc⟩)) →
  gw J.length prog FX K (rest.length+1) ⟨(.sl 3 (its.map It.aen)::uu 12 (.sl 3 (its.map It.aen)::.i .i64 its.length::.i .i64 pre.length::uu 19 [])),J⟩:=by
 intro rest
 induction rest with
 | nil =>
  intro pre he h1 h2;have he:its=pre:=by simpa using he
  subst he;refine aH fun R hR=>?_;simp only[FX,W,seval];exact⟨fun h=>by simp at h,fun _=>h1 rfl ..⟩
 | cons y rest ih =>
  intro pre he h1 h2;subst he;refine aH fun R hR=>?_;simp only[FX,It.aen,W,seval];refine⟨fun _=>⟨by simp;omega,?_⟩,fun h=>by simp at h;omega⟩;refine aA (xT pre rest y _) rfl ?_;simp only[W,seval];refine⟨fun h=>?_,fun h=>?_⟩
  ·have e:cB pre (y::rest)=1:=by simp at h;simp[cB,h]
   rw[e]at h2;exact h2 (by decide) _ ..
  ·refine aA (oU y _) rfl ?_;simp only[W,seval];have ht:List.take (pre.length - 0) (List.map It.aen (pre++y::rest))=pre.map It.aen:=by simp
   simp only[ht];refine⟨fun _=>by simp;omega,cL rfl (fun _=>OD y pre _) rfl ?_⟩;simp only[W,seval];have h':cH pre.getLast? y=true:=by simpa using h
   refine⟨fun h3=>?_,fun h3=>?_⟩
   ·have e:cB pre (y::rest)=7:=by
     simp only[cB,h',h3,aR,aO,Bool.true_eq_false]
    rw[e]at h2;exact h2 (by decide) _ ..
   ·have e:cB pre (y::rest)=cB (pre++[y]) rest:=by
     simp only[cB,h',h3,aO,Bool.true_eq_false,aG]
    rw[e]at h1 h2;refine hR _ (vR (aq _) bz ?_ ?_ (ih (pre++[y]) (by simp) h1 h2))
    ·rw[br (by simp at hlen;omega)];simp only[al,ai,aK]
     repeat' constructor
    ·simp only[LW]
theorem jh(its:List It)(J:ae):PC prog 44 [.sl 3 (its.map It.aen)] J (fun r J'=>r=.i .i64 (b6 its)∧J'=J):=by
 refine PC.intro func44 c44 fun bz er=>aB ?_;have hlen:=qW (er 0 _ rfl).1;rw[aj]at hlen;simp only[p44,SS,seval];simp only[aj,W,seval];refine cL rfl (fun _=>HY its _) rfl ?_;simp only[aj,W,seval];refine⟨fun h=>?_,fun h=>?_⟩
 ·refine a6 (.inr rfl) rfl ⟨?_,rfl⟩;simp at h;have:512<its.length∨1024<jq 0 its:=by omega
  simp only[one,b6,this,aR,bd,bf]
 ·simp at h;have hn:¬ (512<its.length∨1024<jq 0 its):=by omega
  refine cE.bk ?_ (its.length+1) (QD its bz hlen its [] rfl (fun h1=>?_) (fun h1=>?_))
  ·simp only[W,seval]
   repeat' constructor
  ·simp only[JE];intros;simp only[W,seval];exact a6 (.inr rfl) rfl ⟨by simp only[one,b6,hn,h1,aO,bd,bf],rfl⟩
  ·simp only[JE];intros;simp only[W,seval];exact bu bz (.inr rfl) rfl (by simp[LW]) ⟨by simp only[one,b6,hn,aO,bd,bf],rfl⟩
theorem Nn{J:ae}{K:Exit→St→Prop}(its:List It)(bz:bG J)(hlen:its.length<2^40):∀ (rest pre:List It) (acc:List Int),its=pre++rest→acc.length≤pre.length →
  (∀ es,((fj 3 (fh (.own (J.length+1) (cW acc rest).length) (fj 29 fo))) fun ZZ=>K (.exit 0) ⟨ZZ,J++[es,.row 3 1 8 (cW acc rest).length false ((cW acc rest).map cq)]⟩)) →
  gw J.length prog wc K (rest.length+1) ⟨(uu 3 (.own (J.length+1) acc.length::.mp J.length::uu 3 (.sl 3 (its.map It.aen)::.i .i64 its.length::.i .i64 pre.length::uu 22 []))),J++[.map 3 4 (fm acc),.row 3 1 8 acc.length false (acc.map cq)]⟩:=by
 intro rest
 induction rest with
 | nil =>
  intro pre acc he hac h1;have he:its=pre:=by simpa using he
  subst he;refine aH fun R hR=>?_;simp only[wc,W,seval];exact⟨fun h=>by simp at h,fun _=>h1 _ ..⟩
 | cons y rest ih =>
  intro pre acc he hac h1;subst he;refine aH fun R hR=>?_
  by_cases hm:y.id∈acc
  ·have hf:bX (J++[.map 3 4 (fm acc),.row 3 1 8 acc.length false (acc.map cq),.box 61 y.aen]) 0 (.mp J.length) (.i .i64 y.id)=some (some (0+acc.idxOf y.id,.b true)):=by
    simp only[bX,jB,au,pG,hm,aR]
   simp only[It.aen]at hf;simp only[wc,It.aen,W,seval];refine⟨fun _=>⟨by simp;omega,?_⟩,fun h=>by simp at h;omega⟩;refine aA (oU y _) rfl ?_;simp only[hf,W,seval]
   have e:cW acc (y::rest)=cW acc rest:=by
    simp[cW,hm]
   rw[e]at h1;have fK:bG (J++[.map 3 4 (fm acc),.row 3 1 8 acc.length false (acc.map cq)]):=ck bz (by simp[tw]);refine⟨fun _=>by simp[V.mZ],fun h=>by simp at h,fun _=>?_⟩;refine hR _ (bR [_,_] [_] fK ?_ ?_ (ih (pre++[y]) acc (by simp) (by simp;omega) h1))
   ·rw[br (by simp at hlen;omega)];simp only[al,ai,aK]
    repeat' constructor
   ·simp only[LW,ai,aK,bj];omega
  ·have hf:bX (J++[.map 3 4 (fm acc),.row 3 1 8 acc.length false (acc.map cq),.box 61 y.aen]) 0 (.mp J.length) (.i .i64 y.id)=some none:=by
    simp only[bX,jB,au,pG,hm,aO]
   have AS:c4 0 (.i .i64 y.id) (fm acc) 0=some none:=by simp only[pG,hm,aO]
   simp only[It.aen]at hf;simp only[wc,It.aen,W,seval];refine⟨fun _=>⟨by simp;omega,?_⟩,fun h=>by simp at h;omega⟩;refine aA (oU y _) rfl ?_;simp only[hf,AS,W,seval];have hc:acc.contains y.id=false:=by simpa using hm
   refine⟨fun _=>by simp[V.mZ],fun h=>?_,fun h=>?_⟩
   ·have e:cW acc (y::rest)=cW (acc++[y.id]) rest:=by simp[cW,hm,h]
    rw[e]at h1;have hr:acc.map cq++[[V.i .i64 y.id]]=(acc++[y.id]).map cq:=by simp[cq]
    have hs:fm acc++[(V.i .i64 y.id,cz [none] (V.b true))]=fm (acc++[y.id]):=by simp[fm,cz]
    have hl:acc.length+1=(acc++[y.id]).length:=by simp
    rw[hr,hs,hl];have fK:bG (J++[.map 3 4 (fm (acc++[y.id])),.row 3 1 8 (acc++[y.id]).length false ((acc++[y.id]).map cq)]):=ck bz (by simp[tw]);refine⟨by simp[V.mZ,cz,V.gx,V.cell,V.pure],?_,?_⟩
    ·simp at hlen;simp[maxLen];omega
    ·refine hR _ (bR [_,_] [_] fK ?_ ?_ (ih (pre++[y]) (acc++[y.id]) (by simp) (by simp;omega) h1))
     ·rw[br (by simp at hlen;omega)];simp only[al,ai,aK]
      repeat' constructor
     ·simp only[LW,ai,aK,bj];omega
   ·have e:cW acc (y::rest)=cW acc rest:=by simp[cW,h]
    rw[e]at h1;have fK:bG (J++[.map 3 4 (fm acc),.row 3 1 8 acc.length false (acc.map cq)]):=ck bz (by simp[tw]);refine hR _ (bR [_,_] [_] fK ?_ ?_ (ih (pre++[y]) acc (by simp) (by simp;omega) h1))
    ·rw[br (by simp at hlen;omega)];simp only[al,ai,aK]
     repeat' constructor
    ·simp only[LW,ai,aK,bj];omega
theorem tS(its:List It)(hlen:its.length<2^40)(J:ae):PC prog 142 [.sl 3 (its.map It.aen)] J (fun r J'=>r=.own J.length 0∧J'=J++[.row 3 1 8 0 false ((aeD its).map cq)]):=by
 refine PC.intro func142 ZX fun bz er=>aB ?_;simp only[Ua,SS,seval];simp only[aj,W,seval];refine cE.wk ((Wk.lT (J:=J) [_] (k:=3) Qa rfl).trans (Wk.kP ?_)) (cE.BX (its.length+1) (Nn its bz hlen its [] [] rfl (aq _) ?_))
 ·simp only[W,seval]
  repeat' constructor
 ·simp only[JE];intros;simp only[W,seval];exact zU 1 bz (.inr rfl) rfl rfl rfl (by simp[Ck,Ob.gen]) (by simp[one,aeD,Ql,Ob.fresh])
theorem Ed(its:List It)(hlen:its.length<2^40)(J:ae):PC prog 142 [.sl 3 (its.map It.aen)] J (fun r J'=>r=.sl 1 ((aeD its).map cq)∧J'=J) :=
 PC.closed fun bz=>PC.fz bz (tS its hlen J)
theorem F4{J:ae}{K:Exit→St→Prop}(bz:bG J)(N:Nat)(hN:N<2^40):∀ (k i:Nat),i+k=N →
  ((fj 3 (fh (.own J.length 0) (fj 15 fo))) fun ZZ=>K (.exit 0) ⟨ZZ,J++[.row 3 1 8 0 false (fk N N)]⟩) →
  gw J.length prog Ae K (k+1) ⟨(uu 3 (.own J.length 0::uu 4 (.i .i64 N::.i .i64 i::uu 9 []))),J++[.row 3 1 8 0 false (fk N i)]⟩
 | 0,i,he,h1=>by
  have he:i=N:=by omega
  subst he;refine aH fun R hR=>?_;simp only[Ae,W,seval];exact⟨fun h=>by simp at h,fun _=>h1 ..⟩
 | k+1,i,he,h1=>by
  have hi:i<N:=by omega
  refine aH fun R hR=>?_;simp only[Ae,qi (Nat.le_of_lt hi),yk hi,W,seval];refine⟨fun _=>?_,fun h=>by simp at h;omega⟩;have hw:=br (n:=i) (by omega);rw[hw];have iS:(fk N i).set i [V.i .i64 (((i+1:Nat)):Int)]=fk N (i+1):=by rw[← yj hi];rfl
  rw[iS];refine⟨by omega,hi,hR _ (bk ?_ (F4 bz N hN k (i+1) (by omega) h1))⟩
  repeat' constructor
theorem ug(n:Nat)(hn:n<2^40)(J:ae):PC prog 197 [.i .i64 n] J (fun r J'=>r=.sl 1 ((gA n).map cq)∧J'=J):=by
 refine PC.intro func197 Zz fun bz er=>aB ?_;simp only[TH,SS,seval];simp only[W,seval];refine⟨⟨by omega,.inl trivial,by omega,by omega,by simp[maxLen];omega⟩,?_⟩;have e:List.replicate n [V.i .i64 0]=fk n 0:=by simp[fk,gA]
 rw[e];refine cE.bk (fr':=(uu 3 (.own J.length 0::uu 4 (.i .i64 n::.i .i64 (0:Nat)::uu 9 [])))) ?_ (n+1) (F4 bz n hn n 0 (by omega) ?_)
 ·rw[qi (eX _)]
  repeat' constructor
 ·simp only[JE];intros;simp only[W,seval];refine sH 0 bz (.inr rfl) rfl rfl ?_ ?_
  ·simp[fz,wU,eF,Cm]
  ·simp[fz,wU,one,fk]
def Ez(l:List Int)(x:Int):Int:=if x∈l then l.idxOf x else -1
theorem Nd{J:ae}{K:Exit→St→Prop}(x:Int)(l:List Int)(hlen:l.length<2^63):∀ (rest pre:List Int),l=pre++rest→x ∉ pre →
  (x ∉ l→((fj 19 fo) fun ZZ=>K (.exit 0) ⟨ZZ,J⟩))→(x∈l→((fj 4 (fh (.i .i64 (Ez l x)) (fj 14 fo))) fun ZZ=>K .ret ⟨ZZ,J⟩)) →
  gw J.length prog z7 K (rest.length+1) ⟨(.sl 1 (l.map cq)::.i .i64 x::uu 5 (.i .i64 l.length::.i .i64 pre.length::uu 10 [])),J⟩:=by
 intro rest
 induction rest with
 | nil =>
  intro pre he hn h1 h2;have he:l=pre:=by simpa using he
  subst he;refine aH fun R hR=>?_;simp only[z7,W,seval];exact⟨fun h=>by simp at h,fun _=>h1 hn ..⟩
 | cons c rest ih =>
  intro pre he hn h1 h2;subst he;refine aH fun R hR=>?_;simp only[z7,cq,W,seval];refine⟨fun _=>⟨by simp;omega,fun h=>?_,fun h=>?_⟩,fun h=>by simp at h;omega⟩
  ·simp at h;subst h
   have e:Ez (pre++x::rest) x=pre.length:=by
    simp[Ez,List.idxOf_append,hn]
   rw[e]at h2;exact h2 (by simp) ..
  ·simp at h;refine hR _ (bk ?_ (ih (pre++[c]) (by simp) (by simp[hn,h]) h1 h2));rw[br (by simp at hlen;omega)];simp only[al,ai,aK]
   repeat' constructor
theorem CG(l:List Int)(x:Int)(J:ae):PC prog 239 [.sl 1 (l.map cq),.i .i64 x] J (fun r J'=>r=.i .i64 (Ez l x)∧J'=J):=by
 refine PC.intro func239 Zh fun bz er=>aB ?_;have hlen:=qW (er 0 _ rfl).1;rw[aj]at hlen;simp only[Tp,SS,seval];simp only[aj,W,seval];refine cE.bk ?_ (l.length+1) (Nd x l hlen l [] rfl (by simp) (fun h=>?_) (fun h=>?_))
 ·repeat' constructor
 ·simp only[JE];intros;simp only[W,seval];exact a6 (.inr rfl) rfl ⟨by simp[one,Ez,h],rfl⟩
 ·simp only[JE];intros;simp only[W,seval];exact a6 (.inr rfl) rfl ⟨rfl,rfl⟩
theorem xf(l:List Int)(x:Int)(J:ae):PC prog 196 [.sl 1 (l.map cq),.i .i64 x] J (fun r J'=>r=.b (l.contains x)∧J'=J):=by
 refine PC.intro func196 ZA fun bz er=>aB ?_;simp only[TI,SS,seval];simp only[W,seval];refine aA (CG l x _) rfl ?_;simp only[W,seval];refine a6 (.inr rfl) rfl ⟨?_,rfl⟩
 by_cases h:x∈l
 ·simp[one,Ez,h]
 ·simp[one,Ez,h]
theorem F3{J:ae}{K:Exit→St→Prop}(a b:List It)(hlen:a.length<2^63)(Mj:a.length=b.length):∀ (ra rb pa pb:List It),a=pa++ra→b=pb++rb→pa.length=pb.length →
  (iN ra rb=true→((fj 26 fo) fun ZZ=>K (.exit 0) ⟨ZZ,J⟩))→(iN ra rb=false→((fj 4 (fh (.b false) (fj 21 fo))) fun ZZ=>K .ret ⟨ZZ,J⟩)) →
  gw J.length prog Ad K (ra.length+1) ⟨(.sl 3 (a.map It.aen)::.sl 3 (b.map It.aen)::uu 10 (.i .i64 a.length::.i .i64 pa.length::uu 12 [])),J⟩
 | [],rb,pa,pb,ha,hb,hp,h1,h2=>by
  have:rb=[]:=by
   subst ha;subst hb;simp at Mj;have:rb.length=0:=by omega
   exact uP.1 this
  subst this;subst ha;refine aH fun R hR=>?_;simp only[Ad,W,seval];exact⟨fun h=>by simp at h,fun _=>h1 rfl ..⟩
 | x::ra,[],pa,pb,ha,hb,hp,h1,h2=>by
  subst ha;subst hb;simp at Mj;omega
 | x::ra,y::rb,pa,pb,ha,hb,hp,h1,h2=>by
  subst ha;subst hb;refine aH fun R hR=>?_;have eJ:(List.map It.aen (pb++y::rb)).getD pa.length []=y.aen:=by rw[hp];exact zS
  simp only[Ad,eJ,It.aen,dM,bI,W,seval];refine⟨fun _=>⟨by simp;omega,by simp;omega,fun h=>?_,fun h=>?_⟩,fun h=>by simp at h;omega⟩
  ·refine h2 ?_ ..;have:Ew x y=false:=by simpa only[Ew,eH]using h
   simp[iN,this]
  ·have he:Ew x y=true:=by simpa only[Ew,Fl]using h
   have e:iN (x::ra) (y::rb)=iN ra rb:=by simp[iN,he]
   rw[e]at h1 h2;refine hR _ (bk ?_ (F3 _ _ hlen Mj ra rb (pa++[x]) (pb++[y]) (by simp) (by simp) (by simp[hp]) h1 h2));rw[br (by simp at hlen;omega)];simp only[al,ai,aK]
   repeat' constructor
theorem yi(a b:List It)(J:ae):PC prog 198 [.sl 3 (a.map It.aen),.sl 3 (b.map It.aen)] J (fun r J'=>r=.b (iN a b)∧J'=J):=by
 refine PC.intro func198 Zy fun bz er=>aB ?_;have hlen:=qW (er 0 _ rfl).1;rw[aj]at hlen;simp only[TG,SS,seval];simp only[aj,W,seval];refine⟨fun h=>?_,fun h=>?_⟩
 ·refine a6 (.inr rfl) rfl ⟨?_,rfl⟩;simp at h;simp only[one,bd,bf,V.b.injEq];cases e:iN a b
  ·rfl
  ·exact absurd (H7 e) (by omega)
 ·simp at h;refine cE.bk ?_ (a.length+1) (F3 a b hlen (by omega) a b [] [] rfl rfl rfl (fun h1=>?_) (fun h1=>?_))
  ·simp only[W,seval]
   repeat' constructor
  ·simp only[W,seval];simp only[JE];intros;exact a6 (.inr rfl) rfl ⟨by simp[one,h1],rfl⟩
  ·simp only[W,seval];simp only[JE];intros;exact a6 (.inr rfl) rfl ⟨by simp[one,h1],rfl⟩
theorem tZ(a b:List It)(J:ae):PC prog 129 [.sl 3 (a.map It.aen),.sl 3 (b.map It.aen)] J (fun r J'=>r=.b (iN a b)∧J'=J):=by
 refine PC.intro func129 Z4 fun bz er=>aB ?_;simp only[Ug,SS,seval];simp only[W,seval];refine aA (yi a b _) rfl ?_;simp only[W,seval];exact a6 (.inr rfl) rfl ⟨rfl,rfl⟩
theorem J5{J:ae}{K:Exit→St→Prop}(its:List It)(go:Nat)(rows:List (List V))(bz:bG J)(hlen:its.length<2^40):
  ∀ (rest pre:List It) (b:List UInt8) (g:Nat),its=pre++rest→b.length+(aeu rest).1.length<2^40 →
  (∀ g',((fh (.sl 3 (its.map It.aen)) (fj 2 (fh (.own J.length go) (fh (.i .i64 (its.length - (aeu rest).2.length:Nat)) (fh (.own (J.length+1) g') (fj 50 fo)))))) fun ZZ=>K (.exit 2) ⟨ZZ,J++[.row 61 3 32 go false rows,.row 5 1 1 g' false (cN (b++(aeu rest).1))]⟩)) →
  gw J.length prog Ao K (rest.length+1) ⟨(.sl 3 (its.map It.aen)::uu 2 (.own J.length go::.i .i64 pre.length::.own (J.length+1) g::uu 50 [])),J++[.row 61 3 32 go false rows,.row 5 1 1 g false (cN b)]⟩:=by
 intro rest
 induction rest with
 | nil =>
  intro pre b g he hb h1;have he:its=pre:=by simpa using he
  subst he;refine aH fun R hR=>?_;simp only[Ao,W,seval];refine⟨fun h=>by simp at h,.i .i64 0,fun h=>by simp at h,?_⟩;simp only[W,seval];refine⟨fun h=>by simp at h,fun _=>?_⟩;have e:b++(aeu []).1=b:=by simp[aeu]
  rw[e]at h1;exact h1 _ ..
 | cons x rest ih =>
  intro pre b g he hb h1;subst he;refine aH fun R hR=>?_;simp only[Ao,It.aen,W,seval];refine⟨fun _=>by simp;omega,.i .i64 x.aep,fun _=>rfl,?_⟩;simp only[W,seval];have cM:decide ((pre.length:Int)<((List.map It.aen (pre++x::rest)).length:Int))=true:=by simp;omega
  simp only[cM,It.aen,W,seval];refine⟨fun h=>?_,fun h=>?_⟩
  ·simp at h;have e1:(aeu (x::rest)).1=x.aer++(aeu rest).1:=by simp[aeu,h]
   have e2:(aeu (x::rest)).2=(aeu rest).2:=by simp[aeu,h]
   rw[e1]at h1 hb;rw[e2]at h1;simp only[← List.append_assoc b]at h1;rw[al]at hb;refine⟨by simp;omega,⟨?_,?_⟩,?_⟩
   ·simp only[dd];omega
   ·simp only[dd,maxLen];omega
   ·rw[gj];refine hR _ (bk ?_ (ih (pre++[x]) (b++x.aer) (g+1) (by simp) (by rw[al];omega) h1));rw[br (by simp at hlen;omega)];simp only[al,ai,aK]
    repeat' constructor
  ·simp at h;have e1:(aeu (x::rest))=([],x::rest):=by simp[aeu,h]
   rw[e1]at h1;have e2:(pre++x::rest).length - (x::rest).length=pre.length:=by simp
   have h2:=h1 g;simp only[e2,bF]at h2;exact h2 ..
theorem zK:Ti prog 61 3 32:=nD (by kernel_rfl)
theorem Jn:Ti prog 5 1 1:=nD (by kernel_rfl)
theorem pC{J:ae}{K:Exit→St→Prop}(its:List It)(bz:bG J)(hlen:its.length<2^40):
  ∀ (n:Nat) (rest pre out:List It),its=pre++rest→rest.length≤n→bP rest<2^40→out.length≤pre.length →
  ((fj 3 (fh (.own J.length (out++fD n rest).length) (fj 52 fo))) fun ZZ=>K (.exit 0) ⟨ZZ,J++[.row 61 3 32 (out++fD n rest).length false ((out++fD n rest).map It.aen)]⟩) →
  gw J.length prog An K (n+1) ⟨(.sl 3 (its.map It.aen)::uu 2 (.own J.length out.length::.i .i64 pre.length::uu 51 [])),J++[.row 61 3 32 out.length false (out.map It.aen)]⟩
 | n,[],pre,out,he,hn,ht,ho,h1=>by
  have he:its=pre:=by simpa using he
  subst he;have e:out++fD n []=out:=by cases n<;>simp[fD]
  rw[e]at h1;refine aH fun R hR=>?_;simp only[An,W,seval];exact⟨fun h=>by simp at h,fun _=>h1 ..⟩
 | 0,x::rest,pre,out,he,hn,ht,ho,h1=>by simp at hn
 | n+1,x::rest,pre,out,he,hn,ht,ho,h1=>by
  subst he;refine aH fun R hR=>?_;simp only[An,It.aen,W,seval];refine⟨fun _=>⟨by simp;omega,fun hk=>?_,fun hk=>?_⟩,fun h=>by simp at h;omega⟩
  ·simp at hk;have e:out++fD (n+1) (x::rest)=(out++[x])++fD n rest:=by simp[fD,hk]
   rw[e]at h1;have hr:out.map It.aen++[[.i .i64 x.aep,.s x.aer,.i .i64 x.id]]=(out++[x]).map It.aen:=by simp[It.aen]
   have hl:out.length+1=(out++[x]).length:=by simp
   rw[hr,hl];simp only[bP]at ht;refine⟨by simp;omega,?_,?_⟩
   ·simp at hlen;simp[maxLen];omega
   ·refine hR _ (bk ?_ (pC _ bz hlen n rest (pre++[x]) (out++[x]) (by simp) (by simp at hn;omega) (by omega) (by simp;omega) h1));rw[br (by simp at hlen;omega)];simp only[al,ai,aK]
    repeat' constructor
  ·simp at hk;obtain⟨run,cx⟩:=pY (x::rest);have I3:=kJ (r:=rest) hk;have htt:=rn (x::rest)
   have EB:(pre++x::rest).length - (aeu (x::rest)).2.length=(pre++run).length:=by
    have:=congrArg List.length cx;simp only[al]at this ⊢;omega
   refine cE.wk ((Wk.lT (J:=J) [_] (k:=5) Jn rfl).trans (Wk.kP ?_)) (cE.BX ((x::rest).length+1) (J5 _ out.length (out.map It.aen) bz hlen (x::rest) pre [] 0 rfl (by simp;omega) ?_))
   ·simp only[W,seval]
    repeat' constructor
   ·simp only[JE];intros;rw[EB,bh];simp only[dd,jP,W,seval];have Ve:pre++x::rest=(pre++run)++(aeu (x::rest)).2:=by rw[aM,← cx]
    have kV:1≤run.length:=by
     have:=congrArg List.length cx;simp only[al,ai]at this;omega
    refine⟨fun h=>⟨?_,?_⟩,fun h=>?_⟩
    ·simp at hlen;simp[maxLen];omega
    ·simp at h
     have e:out++fD (n+1) (x::rest)=(out++[⟨1,(aeu (x::rest)).1,0⟩])++fD n (aeu (x::rest)).2:=by
      have:¬ (aeu (x::rest)).1.length=0:=by omega
      simp[fD,hk,this]
     rw[e]at h1;have hr:out.map It.aen++[[.i .i64 1,.s (aeu (x::rest)).1,.i .i64 0]]=(out++[(⟨1,(aeu (x::rest)).1,0⟩:It)]).map It.aen:=by simp[It.aen]
     have hl:out.length+1=(out++[(⟨1,(aeu (x::rest)).1,0⟩:It)]).length:=by simp
     rw[hr,hl];have fK:bG (J++[.row 61 3 32 (out++[(⟨1,(aeu (x::rest)).1,0⟩:It)]).length false ((out++[(⟨1,(aeu (x::rest)).1,0⟩:It)]).map It.aen)]):=ck bz (by simp);refine hR _ (bR [_] [_] fK ?_ ?_ (pC _ bz hlen n (aeu (x::rest)).2 (pre++run) (out++[⟨1,(aeu (x::rest)).1,0⟩]) Ve (by simp at hn;omega) (by omega) (by simp;omega) h1))
     ·repeat' constructor
     ·simp only[LW,ai,aK,bj];omega
    ·simp at h
     have e:out++fD (n+1) (x::rest)=out++fD n (aeu (x::rest)).2:=by
      simp[fD,hk,h]
     rw[e]at h1;have fK:bG (J++[.row 61 3 32 out.length false (out.map It.aen)]):=ck bz (by simp);refine hR _ (bR [_] [_] fK ?_ ?_ (pC _ bz hlen n (aeu (x::rest)).2 (pre++run) out Ve (by simp at hn;omega) (by omega) (by simp;omega) h1))
     ·repeat' constructor
     ·simp only[LW,ai,aK,bj];omega
theorem Az(its:List It)(hlen:its.length<2^40)(ht:bP its<2^40)(J:ae):PC prog 145 [.sl 3 (its.map It.aen)] J (fun r J'=>r=.sl 3 ((aeB its).map It.aen)∧J'=J):=by
 refine PC.intro func145 ZW fun bz er=>aB ?_;simp only[T9,SS,seval];simp only[W,seval];refine cE.wk ((Wk.pA (k:=3) zK rfl).trans (Wk.kP ?_)) (cE.BX (its.length+1) (pC its bz hlen its.length its [] [] rfl (aq _) ht (aq _) ?_))
 ·simp only[W,seval]
  repeat' constructor
 ·simp only[JE];intros;simp only[W,seval];refine sH 0 bz (.inr rfl) rfl rfl ?_ ?_
  ·simp[fz,wU,eF,Cm]
  ·simp[fz,wU,one,aeB]
theorem Cq{J:ae}{K:Exit→St→Prop}(F:V)(fr to:List Int)(Wx:fr.length<2^63):
  ∀ (i:Nat) (l:List (Int×Int)),i≤min fr.length to.length→(∀ x,bo x l=DD (fr.drop i) (to.drop i) x) →
  (∀ l,(∀ x,bo x l=DD fr to x)→((fh (F) (fj 6 (fh (.mp J.length) (fj 52 fo)))) fun ZZ=>K (.exit 0) ⟨ZZ,J++[.map 3 3 (lu l)]⟩)) →
  gw J.length prog FN K (i+1) ⟨(F::.sl 1 (fr.map cq)::.sl 1 (to.map cq)::uu 4 (.mp J.length::.i .i64 ((i:Int) - 1)::uu 51 [])),J++[.map 3 3 (lu l)]⟩
 | 0,l,hi,hl,h1=>by
  refine aH fun R hR=>?_;simp only[FN,W,seval];exact⟨nofun,fun _=>h1 l (by simpa using hl) ..⟩
 | i+1,l,hi,hl,h1=>by
  have Vg:i<fr.length:=by omega
  have Bp:i<to.length:=by omega
  have e0:((i+1:Nat):Int) - 1=(i:Nat):=by omega
  have hw:IntKind.i64.wrap ((i:Int) - 1)=(i:Int) - 1:=IntWalk.i64_in _ (by omega);have zi:∀ x,bo x (ee l (fr.getD i 0) (to.getD i 0))=DD (fr.drop i) (to.drop i) x:=fun x=>by rw[eD,Jl Vg Bp,hl x]
  rw[e0];refine aH fun R hR=>?_;simp only[FN,aX,Dt Vg,Dt Bp,W,seval];rcases tX l (fr.getD i 0)with⟨_,h3,h4⟩ | ⟨k,b,_,h3,h4⟩
  all_goals
   simp only[h3,hw,cz,h4,W,seval];refine⟨fun _=>⟨by simp;omega,by simp;omega,by simp[V.mZ,V.gx,V.cell,V.pure],?_⟩,fun h=>by simp at h<;>omega⟩;refine hR _ (bk ?_ (Cq F fr to Wx i _ (by omega) zi h1))
   repeat' constructor
theorem J6{J:ae}{K:Exit→St→Prop}(its:List It)(fr to:List Int)(l:List (Int×Int))(bz:bG J)(hlen:its.length<2^40)(hl:∀ x,bo x l=DD fr to x):∀ (rest pre:List It) (out:List It),its=pre++rest→out.length≤pre.length →
  ((fj 9 (fh (.own (J.length+1) (out++renamed rest fr to).length) (fj 50 fo))) fun ZZ=>K (.exit 2) ⟨ZZ,J++[.map 3 3 (lu l),.row 61 3 32 (out++renamed rest fr to).length false ((out++renamed rest fr to).map It.aen)]⟩) →
  gw J.length prog Cd K (rest.length+1) ⟨(uu 7 (.mp J.length::uu 1 (.own (J.length+1) out.length::uu 24 (.sl 3 (its.map It.aen)::.i .i64 its.length::.i .i64 pre.length::uu 23 [])))),J++[.map 3 3 (lu l),.row 61 3 32 out.length false (out.map It.aen)]⟩:=by
 intro rest
 induction rest with
 | nil =>
  intro pre out he ho h1;have he:its=pre:=by simpa using he
  subst he;have e:out++renamed [] fr to=out:=by simp[renamed]
  rw[e]at h1;refine aH fun R hR=>?_;simp only[Cd,W,seval];exact⟨fun h=>by simp at h,fun _=>h1 ..⟩
 | cons x rest ih =>
  intro pre out he ho h1;subst he
  have hw:IntKind.i64.wrap ((pre.length:Int)+1)=(((pre++[x]).length:Nat):Int):=by
   rw[br (by simp at hlen;omega)];simp
  have NU:pre++x::rest=(pre++[x])++rest:=by simp
  have put:∀ (y:It),MO fr to x=some y→∀ {R:St→Prop} {f0:List V} ,(∀ st',gw J.length prog Cd K (rest.length+1) st'→R st')→qJ f0 (uu 7 (.mp J.length::uu 1 (.own (J.length+1) (out++[y]).length::uu 24 (.sl 3 ((pre++x::rest).map It.aen)::.i .i64 (pre++x::rest).length::.i .i64 (pre++[x]).length::uu 23 [])))) →
    R ⟨f0,J++[.map 3 3 (lu l),.row 61 3 32 (out++[y]).length false ((out++[y]).map It.aen),.box 61 y.aen]⟩:=fun y hy R f0 hR hc=>by
   have e:out++renamed (x::rest) fr to=(out++[y])++renamed rest fr to:=by simp[renamed,hy]
   rw[e]at h1;have fK:bG (J++[.map 3 3 (lu l),.row 61 3 32 (out++[y]).length false ((out++[y]).map It.aen)]):=ck bz (by simp[uo]);refine hR _ (bR [_,_] [_] fK hc ?_ (ih (pre++[x]) (out++[y]) NU (by simp;omega) h1));simp only[LW,ai,aK,bj];omega
  have okA:∀ (m:Nat),m≤pre.length→((m+1)*32≤2^47∧m+1≤maxLen):=fun m hm=>by simp at hlen;simp[maxLen];omega
  have bT:∀ (y:It),out.map It.aen++[[.i .i64 y.aep,.s y.aer,.i .i64 y.id]]=(out++[y]).map It.aen:=fun y=>by simp[It.aen]
  have nw:∀ (y:It),out.length+1=(out++[y]).length:=fun y=>by simp
  refine aH fun R hR=>?_;simp only[Cd,It.aen,W,seval];refine⟨fun _=>⟨by simp;omega,?_⟩,fun h=>by simp at h;omega⟩;refine aA (oU x _) rfl ?_;simp only[W,seval];refine⟨fun ht=>?_,fun ht=>?_⟩
  ·have hf:∀ s,bX (J++(.map 3 3 (lu l))::s) 0 (.mp J.length) (.i .i64 x.id)=c4 0 (.i .i64 x.id) (lu l) 0:=fun s=>by simp only[bX,jB,au]
   rcases tX l x.id with⟨h2,h3,h4⟩ | ⟨k,b,h2,h3,h4⟩
   ·have KE:MO fr to x=none:=by simp only[MO,ht,aR,← hl x.id,h2,xQ]
    have e:out++renamed (x::rest) fr to=out++renamed rest fr to:=by simp[renamed,KE]
    rw[e]at h1;simp only[hf,h3,W,seval];refine⟨by simp[V.mZ],?_⟩;have fK:bG (J++[.map 3 3 (lu l),.row 61 3 32 out.length false (out.map It.aen)]):=ck bz (by simp[uo]);refine hR _ (bR [_,_] [_] fK ?_ ?_ (ih (pre++[x]) out NU (by simp;omega) h1))
    ·rw[hw];repeat' constructor
    ·simp only[LW,ai,aK,bj];omega
   ·have KE:MO fr to x=some ⟨x.aep,x.aer,b⟩:=by simp only[MO,ht,aR,← hl x.id,h2,bL]
    simp only[hf,h3,W,seval];refine⟨by simp[V.mZ],⟨okA _ (by rw[aj];exact ho),?_⟩⟩;rw[nw ⟨x.aep,x.aer,b⟩,bT ⟨x.aep,x.aer,b⟩];refine put _ KE hR ?_;rw[hw];repeat' constructor
  ·have KE:MO fr to x=some x:=by simp only[MO,ht];rfl
   refine⟨okA _ (by rw[aj];exact ho),?_⟩;rw[nw x,bT x];refine put _ KE hR ?_;rw[hw];repeat' constructor
theorem yQ(its:List It)(fr to:List Int)(hlen:its.length<2^40)(ht:bP its<2^40)(J:ae):PC prog 85 [.sl 3 (its.map It.aen),.sl 1 (fr.map cq),.sl 1 (to.map cq)] J (fun r J'=>r=.sl 3 ((rename its fr to).map It.aen)∧J'=J):=by
 refine PC.intro func85 c85 fun bz er=>aB ?_;have Wx:=qW (er 1 _ rfl).1;have hto:=qW (er 2 _ rfl).1;rw[aj]at Wx hto;simp only[p85,SS,seval];simp only[aj,W,seval]
 have KP:IntKind.i64.wrap ((if((to.length:Int)<(fr.length:Int))then(to.length:Int)else(fr.length:Int)) - 1)=((min fr.length to.length:Nat):Int) - 1:=by
  rw[IntWalk.i64_in _ (by split<;>omega)];split<;>omega
 rw[KP];refine cE.bk (fr':=(.sl 3 (its.map It.aen)::.sl 1 (fr.map cq)::.sl 1 (to.map cq)::uu 4 (.mp J.length::.i .i64 (((min fr.length to.length:Nat):Int) - 1)::uu 51 []))) ?_ _ (Cq _ fr to Wx (min fr.length to.length) [] (aq _) (fun x=>by rw[MB (aq _)];rfl) ?_)
 ·repeat' constructor
 ·intro l hl;simp only[JE];intros;simp only[aj,W,seval];refine cE.wk ((Wk.lT (J:=J) [_] (k:=9) zK rfl).trans (Wk.kP ?_)) (cE.BX (its.length+1) (J6 its fr to l bz hlen hl its [] [] rfl (aq _) ?_))
  ·simp only[W,seval]
   repeat' constructor
  ·simp only[JE];intros;simp only[bh,W,seval];refine vi (J.length+1) (by simp only[r8];rfl) (Az (renamed its fr to) (Fk (BY _ _ _) hlen) (Fk (zV _ _ _) ht) _) (by simp[fz,wU,ev]) ?_;simp only[W,seval];exact bu bz (.inr rfl) rfl (by simp[LW]) ⟨rfl,rfl⟩
theorem Np{J:ae}{K:Exit→St→Prop}(A B:V)(m:List Int)(hlen:m.length<2^40):∀ (rest pre l:List Int) (g:Nat) (sh:Bool),m=pre++rest→l.length+rest.length<2^40 →
  (∀ g sh,((fh (A) (fh (B) (fj 4 (fh (.own J.length g) (fj 32 fo))))) fun ZZ=>K (.exit 0) ⟨ZZ,J++[.row 3 1 8 g sh ((dR l rest).map cq)]⟩)) →
  gw J.length prog Ap K (rest.length+1) ⟨(A::B::uu 4 (.own J.length g::uu 5 (.sl 1 (m.map cq)::.i .i64 m.length::.i .i64 pre.length::uu 24 []))),J++[.row 3 1 8 g sh (l.map cq)]⟩:=by
 intro rest
 induction rest with
 | nil =>
  intro pre l g sh he hl h1;have he:m=pre:=by simpa using he
  subst he;refine aH fun R hR=>?_;simp only[Ap,W,seval];exact⟨fun h=>by simp at h,fun _=>h1 _ _ ..⟩
 | cons x rest ih =>
  intro pre l g sh he hl h1;subst he
  have hw:IntKind.i64.wrap ((pre.length:Int)+1)=(((pre++[x]).length:Nat):Int):=by
   rw[br (by simp at hlen;omega)];simp
  have NU:pre++x::rest=(pre++[x])++rest:=by simp
  refine aH fun R hR=>?_;simp only[Ap,cq,W,seval];refine⟨fun _=>⟨by simp;omega,?_⟩,fun h=>by simp at h<;>omega⟩;refine vi J.length (by simp only[jB];rfl) (xf l x _) (by simp[fz,wU,ev,cq]) ?_;simp only[W,seval];simp only[ai]at hl;refine⟨fun h=>⟨?_,?_⟩,fun h=>?_⟩
  ·simp[maxLen];omega
  ·have e:dR l (x::rest)=dR (l++[x]) rest:=by
    simp at h;simp[dR,h]
   rw[e]at h1;have hr:List.map (fun n=>[V.i .i64 n]) l++[[.i .i64 x]]=(l++[x]).map cq:=by simp[cq]
   refine hR _ ?_;have ox:l.map cq++[[.i .i64 x]]=(l++[x]).map cq:=by simp[cq]
   rw[ox];refine bk ?_ (ih (pre++[x]) (l++[x]) (g+1) _ NU (by simp;omega) h1);rw[hw];repeat' constructor
  ·have e:dR l (x::rest)=dR l rest:=by
    simp at h;simp[dR,h]
   rw[e]at h1;refine hR _ (bk ?_ (ih (pre++[x]) l g _ NU (by omega) h1));rw[hw];repeat' constructor
theorem A9(s t:List It)(hs:s.length<2^39)(ht:t.length<2^39)(DF:bP s<2^40)(Pu:bP t<2^40)(J:ae):PC prog 128 [.sl 3 (s.map It.aen),.sl 3 (t.map It.aen)] J (fun r J'=>r=.fa [.sl 3 ((xo s t).map It.aen),.sl 3 ((xn s t).map It.aen)]∧J'=J):=by
 refine PC.intro func128 Z5 fun bz er=>aB ?_;have h1:=tT s;have h2:=tT t;have h3:=uA (aeD t) (aeD s);simp only[Uh,SS,seval];simp only[W,seval];refine aA (tS s (by omega) _) rfl ?_;simp only[W,seval];refine aA (Ed t (by omega) _) rfl ?_;simp only[aj,W,seval];refine cE.bk ?_ ((aeD t).length+1) (Np (.sl 3 (s.map It.aen)) (.sl 3 (t.map It.aen)) (aeD t) (by omega) (aeD t) [] (aeD s) 0 false rfl (by omega) ?_)
 ·repeat' constructor
 ·intro g sh;simp only[JE];intros;simp only[W,seval];have hc:(dR (aeD s) (aeD t)).length<2^40:=by omega
  refine aA (ug (dR (aeD s) (aeD t)).length hc _) (by simp[ev]) ?_;simp only[W,seval];refine vi J.length (by simp only[jB];rfl) (yQ s (eT s t) (gA (eT s t).length) (by omega) DF _) (by simp[fz,wU,ev,eT]) ?_;simp only[W,seval];refine aA (ug (dR (aeD s) (aeD t)).length hc _) (by simp[ev]) ?_;simp only[W,seval];refine vi J.length (by simp only[jB];rfl) (yQ t (eT s t) (gA (eT s t).length) (by omega) Pu _) (by simp[fz,wU,ev,eT]) ?_;simp only[W,seval];exact bu bz (.inr rfl) rfl (by simp[LW]) ⟨rfl,rfl⟩
end Go.Proofs.Tryz
