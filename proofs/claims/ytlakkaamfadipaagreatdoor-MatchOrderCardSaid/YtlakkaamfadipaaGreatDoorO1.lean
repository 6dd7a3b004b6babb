/- A part of a proof; the claim's last text says of what. -/
import Derived.Test.YtlakkaamfadipaaGreatDoorB15
set_option linter.all false

namespace Go.Proofs.Tryz
open Go Go.Pm
set_option maxRecDepth 100000
def QJ:bj prog f212:=⟨_,by cbv⟩
def Qj:=(⟨_,by cbv⟩:Nf (dY prog f161))
def o7:bK:=(⟨_,by cbv⟩:Nf (dV Qj.1 0 [])).1
def QO:bj prog f161:=⟨(λa=>(⟨_,by cbv⟩:Nf (eL Qj.1 [a])).1) o7,by kernel_rfl⟩
def QK:bj prog f204:=⟨_,by cbv⟩
def Qh:=(⟨_,by cbv⟩:Nf (dY prog f244))
def oY:bK:=(⟨_,by cbv⟩:Nf (dV Qh.1 0 [])).1
def QH:bj prog f244:=⟨(λa=>(⟨_,by cbv⟩:Nf (eL Qh.1 [a])).1) oY,by kernel_rfl⟩
def Qi:=(⟨_,by cbv⟩:Nf (dY prog f162))
def rP:bK:=(⟨_,by cbv⟩:Nf (dV Qi.1 0 [])).1
def QN:bj prog f162:=⟨(λa=>(⟨_,by cbv⟩:Nf (eL Qi.1 [a])).1) rP,by kernel_rfl⟩
def nB:bK:=.seq (.dv [] [z 81 (.bin .lss (.t 80) (.t 79))]) (.seq (.ite (.t 81) (.skip) (.exit 1)) (.seq (.block 2 (.seq (.dv [] [zm 82 80,zm 5 82]) (.seq (.dv [] [zm 83 0,zm 84 5,z 85
 (.idx 3 (.t 83) (.t 84)),zL 86 3 85,z 6 (.alloc 61 [.I 0,.s [],.I 0]),zs (.store 3 [none,none,none] (.t 6) (.t 86))]) (.seq (.seq (.dv [91,92,93,94,95] [zL 87
 3 6,z 88 (.call 81 [.t 87]),z 89 (.un .not (.t 88)),zm 90 89,⟨some 91,[(90,false)],.pq 2 (.t 6)⟩,⟨some 92,[(90,false)],.load none (.t 91)⟩,⟨some 93,[(90,false)],.pq
 2 (.t 3)⟩,⟨some 94,[(90,false)],.load none (.t 93)⟩,⟨some 95,[(90,false)],.bin .neq (.t 92) (.t 94)⟩,z 96 (.pick (.t 90) (.c (.b true)) (.t 95))]) (.ite (.t 96) (.exit 2)
 (.skip))) (.seq (.jH [([zf 97 0 3,zl 98 97,z 99 (.bin .neq (.t 98) (.c (.I 3))),zm 100 99,⟨some 101,[(100,false)],.pq 0 (.t 6)⟩,⟨some 102,[(100,false)],.load none
 (.t 101)⟩,⟨some 103,[(100,false)],.bin .neq (.t 102) (.c (.I 2))⟩,z 104 (.pick (.t 100) (.c (.b true)) (.t 103)),zm 105 104,⟨some 106,[(105,false)],.pq 1 (.t 6)⟩,
 ⟨some 107,[(105,false)],.load none (.t 106)⟩,⟨some 109,[(105,false)],.pq 1 (.t 3)⟩,⟨some 110,[(105,false)],.load none (.t 109)⟩],⟨some 108,[(105,false)],.call 80 [.t
 107]⟩,[⟨some 109,[(105,false)],.pq 1 (.t 3)⟩,⟨some 110,[(105,false)],.load none (.t 109)⟩])] [] [101,102,103,106,107,108,109,110,111] [⟨some 111,[(105,false)],
 .bin .neq (.t 108) (.t 110)⟩,z 112 (.pick (.t 105) (.c (.b true)) (.t 111))]) (.ite (.t 112) (.seq (.dv [] [z 4 (.gm (.c (.I 7)))]) (.ret)) (.skip))))))) (.dv [] [z 113
 (.bin .add (.t 80) (.c (.I 1))),zm 80 113])))
def QW:ux:=⟨114,[.t 4],.seq (.dv [] [z 3 (.box 61 (.t 1)),z 4 (.gm (.c (.I 0)))]) (.seq (.seq (.dv [] [zf 7 0 3,zl 8 7]) (.block 0 (.seq (.dv [] [z 10 (.bin .eql (.t 8) (.c (.i
 .i64 1))),zm 9 10]) (.ite (.t 9) (.seq (.seq (.dv [15,16,17,20,21,22,23,24,25,26,27,28,29,30,31,32] [zf 11 1 3,zl 12 11,z 13 (.bin .eql (.t 12) (.c (.s []))),zm
 14 13,⟨some 15,[(14,false)],.pq 2 (.t 3)⟩,⟨some 16,[(14,false)],.load none (.t 15)⟩,⟨some 17,[(14,false)],.bin .neq (.t 16) (.c (.I 0))⟩,z 18 (.pick (.t 14) (.c
 (.b true)) (.t 17)),zm 19 18,⟨some 20,[(19,false)],.gm (.t 0)⟩,⟨some 21,[(19,false)],.len false (.t 20)⟩,⟨some 22,[(19,false)],.bin .gtr (.t 21) (.c (.I 0))⟩,
 ⟨some 23,[(19,false)],.gm (.t 22)⟩,⟨some 24,[(19,false),(23,true)],.gm (.t 0)⟩,⟨some 25,[(19,false),(23,true)],.gm (.t 0)⟩,⟨some 26,[(19,false),(23,true)],
 .len false (.t 25)⟩,⟨some 27,[(19,false),(23,true)],.bin .sub (.t 26) (.c (.I 1))⟩,⟨some 28,[(19,false),(23,true)],.idx 3 (.t 24) (.t 27)⟩,⟨some 29,[(19,false),
 (23,true)],.pq 0 (.t 28)⟩,⟨some 30,[(19,false),(23,true)],.load none (.t 29)⟩,⟨some 31,[(19,false),(23,true)],.bin .eql (.t 30) (.c (.I 1))⟩,⟨some 32,[(19,
 false)],.pick (.t 23) (.t 31) (.c (.b false))⟩,z 33 (.pick (.t 19) (.c (.b true)) (.t 32))]) (.ite (.t 33) (.seq (.dv [] [z 4 (.gm (.c (.I 1)))]) (.ret)) (.skip))) (.seq
 (.dv [] [z 4 (.gm (.c (.I 0)))]) (.ret))) (.seq (.dv [] [z 35 (.bin .eql (.t 8) (.c (.I 5))),zm 34 35]) (.ite (.t 34) (.seq (.seq (.dv [41,42,43] [zf 36 1 3,zl 37
 36,z 38 (.call 161 [.t 37]),z 39 (.un .not (.t 38)),zm 40 39,⟨some 41,[(40,false)],.pq 2 (.t 3)⟩,⟨some 42,[(40,false)],.load none (.t 41)⟩,⟨some 43,[(40,false)],.bin
 .neq (.t 42) (.c (.I 0))⟩,z 44 (.pick (.t 40) (.c (.b true)) (.t 43))]) (.ite (.t 44) (.seq (.dv [] [z 4 (.gm (.c (.I 1)))]) (.ret)) (.skip))) (.seq (.dv [] [z 4 (.gm
 (.c (.I 0)))]) (.ret))) (.seq (.seq (.dv [] [z 46 (.bin .eql (.t 8) (.c (.I 2))),zm 45 46]) (.ite (.t 45) (.skip) (.dv [] [z 47 (.bin .eql (.t 8) (.c (.I 4))),zm
 45 47]))) (.ite (.t 45) (.seq (.dv [53,54,55,58,59,60] [zf 48 1 3,zl 49 48,z 50 (.call 162 [.t 49]),z 51 (.un .not (.t 50)),zm 52 51,⟨some 53,[(52,false)],.pq 2 (.t
 3)⟩,⟨some 54,[(52,false)],.load none (.t 53)⟩,⟨some 55,[(52,false)],.bin .lss (.t 54) (.c (.I 1))⟩,z 56 (.pick (.t 52) (.c (.b true)) (.t 55)),zm 57 56,⟨some 58,
 [(57,false)],.pq 2 (.t 3)⟩,⟨some 59,[(57,false)],.load none (.t 58)⟩,⟨some 60,[(57,false)],.bin .gtr (.t 59) (.c (.I 999))⟩,z 61 (.pick (.t 57) (.c (.b true)) (.t
 60))]) (.ite (.t 61) (.seq (.dv [] [z 4 (.gm (.c (.I 1)))]) (.ret)) (.skip))) (.seq (.dv [] [z 63 (.bin .eql (.t 8) (.c (.I 3))),zm 62 63]) (.ite (.t 62) (.seq (.dv
 [69,70,71,74,75,76] [zf 64 1 3,zl 65 64,z 66 (.call 161 [.t 65]),z 67 (.un .not (.t 66)),zm 68 67,⟨some 69,[(68,false)],.pq 2 (.t 3)⟩,⟨some 70,[(68,false)],.load
 none (.t 69)⟩,⟨some 71,[(68,false)],.bin .lss (.t 70) (.c (.I 1))⟩,z 72 (.pick (.t 68) (.c (.b true)) (.t 71)),zm 73 72,⟨some 74,[(73,false)],.pq 2 (.t 3)⟩,⟨some
 75,[(73,false)],.load none (.t 74)⟩,⟨some 76,[(73,false)],.bin .gtr (.t 75) (.c (.I 999))⟩,z 77 (.pick (.t 73) (.c (.b true)) (.t 76))]) (.ite (.t 77) (.seq (.dv [] [z
 4 (.gm (.c (.I 1)))]) (.ret)) (.skip))) (.seq (.dv [] [z 4 (.gm (.c (.I 1)))]) (.ret)))))))))))) (.seq (.seq (.dv [] [zm 78 0,z 79 (.len false (.t 78)),z 80 (.gm
 (.c (.I 0)))]) (.block 1 (.loop nB))) (.seq (.dv [] [z 4 (.gm (.c (.I 0)))]) (.ret))))⟩
def acd:dY prog f103=some QW:=by kernel_rfl
def q46:=(⟨_,by cbv⟩:Nf (dY prog f46))
def wP:bK:=(⟨_,by cbv⟩:Nf (dV q46.1 0 [])).1
def p46:bj prog f46:=⟨(λa=>(⟨_,by cbv⟩:Nf (eL q46.1 [a])).1) wP,by kernel_rfl⟩
def Qn:=(⟨_,by cbv⟩:Nf (dY prog f102))
def rU:bK:=(⟨_,by cbv⟩:Nf (dV Qn.1 0 [])).1
def QX:bj prog f102:=⟨(λa=>(⟨_,by cbv⟩:Nf (eL Qn.1 [a])).1) rU,by kernel_rfl⟩
def QL:bj prog f164:=⟨_,by cbv⟩
def Qk:=(⟨_,by cbv⟩:Nf (dY prog f139))
def rQ:bK:=(⟨_,by cbv⟩:Nf (dV Qk.1 0 [])).1
def QP:bj prog f139:=⟨(λa=>(⟨_,by cbv⟩:Nf (eL Qk.1 [a])).1) rQ,by kernel_rfl⟩
def q74:=(⟨_,by cbv⟩:Nf (dY prog f74))
def wN:bK:=(⟨_,by cbv⟩:Nf (dV q74.1 0 [])).1
def p74:bj prog f74:=⟨(λa=>(⟨_,by cbv⟩:Nf (eL q74.1 [a])).1) wN,by kernel_rfl⟩
def IW:=(⟨_,by cbv⟩:Nf (dY prog f104))
def o8:bK:=(⟨_,by cbv⟩:Nf (dV IW.1 0 [])).1
def rT:bK:=(⟨_,by cbv⟩:Nf (dV IW.1 1 [])).1
def QV:bj prog f104:=⟨(λa b=>(⟨_,by cbv⟩:Nf (eL IW.1 [a,b])).1) o8 rT,by kernel_rfl⟩
def IV:=(⟨_,by cbv⟩:Nf (dY prog f163))
def rO:bK:=(⟨_,by cbv⟩:Nf (dV IV.1 0 [])).1
def oZ:bK:=(⟨_,by cbv⟩:Nf (dV IV.1 1 [])).1
def QM:bj prog f163:=⟨(λa b=>(⟨_,by cbv⟩:Nf (eL IV.1 [a,b])).1) rO oZ,by kernel_rfl⟩
def q47:=(⟨_,by cbv⟩:Nf (dY prog f47))
def wO:bK:=(⟨_,by cbv⟩:Nf (dV q47.1 0 [])).1
def p47:bj prog f47:=⟨(λa=>(⟨_,by cbv⟩:Nf (eL q47.1 [a])).1) wO,by kernel_rfl⟩
end Go.Proofs.Tryz
