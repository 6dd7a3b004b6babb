/- A part of a proof; the claim's last text says of what. -/
import Derived.Test.YtlakkaamfadipaaGreatDoorProg
import Derived.KernelRfl
import Derived.Test.YtlakkaamfadipaaGreatDoorB11
set_option linter.all false

namespace Go.Proofs.Tryz
open Go Go.Pm
set_option maxRecDepth 100000
def q39:=(⟨_,by cbv⟩:Nf (dY prog f39))
def Vi:bK:=(⟨_,by cbv⟩:Nf (dV q39.1 0 [])).1
def p39:bj prog f39:=⟨(λa=>(⟨_,by cbv⟩:Nf (eL q39.1 [a])).1) Vi,by kernel_rfl⟩
def p81:bj prog f81:=⟨_,by cbv⟩
def q80:=(⟨_,by cbv⟩:Nf (dY prog f80))
def U5:bK:=(⟨_,by cbv⟩:Nf (dV q80.1 0 [])).1
def p80:bj prog f80:=⟨(λa=>(⟨_,by cbv⟩:Nf (eL q80.1 [a])).1) U5,by kernel_rfl⟩
def q82:=(⟨_,by cbv⟩:Nf (dY prog f82))
def QC:bK:=(⟨_,by cbv⟩:Nf (dV q82.1 0 [])).1
def p82:bj prog f82:=⟨(λa=>(⟨_,by cbv⟩:Nf (eL q82.1 [a])).1) QC,by kernel_rfl⟩
def p48:bj prog f48:=⟨_,by cbv⟩
def q83:=(⟨_,by cbv⟩:Nf (dY prog f83))
def U4:bK:=(⟨_,by cbv⟩:Nf (dV q83.1 0 [])).1
def p83:bj prog f83:=⟨(λa=>(⟨_,by cbv⟩:Nf (eL q83.1 [a])).1) U4,by kernel_rfl⟩
def q36:=(⟨_,by cbv⟩:Nf (dY prog f36))
def Vj:bK:=(⟨_,by cbv⟩:Nf (dV q36.1 0 [])).1
def p36:bj prog f36:=⟨(λa=>(⟨_,by cbv⟩:Nf (eL q36.1 [a])).1) Vj,by kernel_rfl⟩
def q35:=(⟨_,by cbv⟩:Nf (dY prog f35))
def QG:bK:=(⟨_,by cbv⟩:Nf (dV q35.1 0 [])).1
def QF:bK:=(λa=>(⟨_,by cbv⟩:Nf (dV q35.1 1 [a])).1) QG
def p35:bj prog f35:=⟨(λa b=>(⟨_,by cbv⟩:Nf (eL q35.1 [a,b])).1) QG QF,by kernel_rfl⟩
def akJ:=(⟨_,by cbv⟩:Nf (dY prog f105))
def N9:bK:=(⟨_,by cbv⟩:Nf (dV akJ.1 0 [])).1
def amv:bj prog f105:=⟨(λa=>(⟨_,by cbv⟩:Nf (eL akJ.1 [a])).1) N9,by kernel_rfl⟩
def p49:bj prog f49:=⟨_,by cbv⟩
def p12:bj prog f12:=⟨_,by cbv⟩
def q17:=(⟨_,by cbv⟩:Nf (dY prog f17))
def Vo:bK:=(⟨_,by cbv⟩:Nf (dV q17.1 0 [])).1
def p17:bj prog f17:=⟨(λa=>(⟨_,by cbv⟩:Nf (eL q17.1 [a])).1) Vo,by kernel_rfl⟩
def p3:ux:=⟨73,[.t 8],.seq (.dv [] [z 4 (.box 24 (.t 0)),z 8 (.gm (.c (.b false)))]) (.seq (.seq (.dv [16,17,18,19,20,21,22,23,26,27,28] [zf 10 0 4,zl 11 10,z 12 (.dH 1
 [some 3] [.t 11]),z 13 (.call 11 [.t 12]),z 14 (.un .not (.t 13)),zm 15 14,⟨some 16,[(15,false)],.pq 1 (.t 4)⟩,⟨some 17,[(15,false)],.load none (.t 16)⟩,⟨some 18,[(15,
 false)],.len true (.t 17)⟩,⟨some 19,[(15,false)],.pq 2 (.t 4)⟩,⟨some 20,[(15,false)],.load none (.t 19)⟩,⟨some 21,[(15,false)],.len true (.t 20)⟩,⟨some 22,[(15,
 false)],.bin .add (.t 18) (.t 21)⟩,⟨some 23,[(15,false)],.bin .gtr (.t 22) (.c (.I 200))⟩,z 24 (.pick (.t 15) (.c (.b true)) (.t 23)),zm 25 24,⟨some 26,[(25,false)],
 .gm (.t 1)⟩,⟨some 27,[(25,false)],.len false (.t 26)⟩,⟨some 28,[(25,false)],.bin .gtr (.t 27) (.c (.I 80))⟩,z 29 (.pick (.t 25) (.c (.b true)) (.t 28))]) (.ite (.t
 29) (.seq (.dv [] [z 30 (.call 12 []),zm 8 30]) (.ret)) (.skip))) (.seq (.dv [] [zm 31 1,z 32 (.build [.nil,.I 0] [(0,1,.t 31)]),z 33 (.box 31 (.t 32)),z 34 (.call 13
 [.t 33]),z 9 (.alloc 24 [.nil,.s [],.s [],.I 0,.I 0,.I 0]),zs (.store 6 [some 3,none,none,none,none,none] (.t 9) (.t 34))]) (.seq (.seq (.dv [] [zm 35 2,
 z 36 (.call 14 [.t 35,.c (.I 7)])]) (.block 0 (.seq (.dv [] [z 38 (.bin .eql (.t 36) (.c (.I 1))),zm 37 38]) (.ite (.t 37) (.dv [] [zf 39 0 9,zs (.store 1 [some 3]
 (.t 39) (.c .nil))]) (.seq (.dv [] [z 41 (.bin .eql (.t 36) (.c (.I 2))),zm 40 41]) (.ite (.t 40) (.dv [] [zf 42 1 9,zs (.store 1 [none] (.t 42) (.c (.s [60])))]) (.seq
 (.dv [] [z 44 (.bin .eql (.t 36) (.c (.I 3))),zm 43 44]) (.ite (.t 43) (.dv [] [zf 45 2 9,zs (.store 1 [none] (.t 45) (.c (.s [97,10])))]) (.seq (.dv [] [z 47 (.bin .eql
 (.t 36) (.c (.I 4))),zm 46 47]) (.ite (.t 46) (.dv [] [zm 48 3,zf 49 3 9,zs (.store 1 [none] (.t 49) (.t 48))]) (.seq (.dv [] [z 51 (.bin .eql (.t 36) (.c (.I 5))),
 zm 50 51]) (.ite (.t 50) (.dv [] [zm 52 3,zf 53 4 9,zs (.store 1 [none] (.t 53) (.t 52))]) (.seq (.dv [] [z 55 (.bin .eql (.t 36) (.c (.I 6))),zm 54 55]) (.ite (.t 54)
 (.dv [] [zm 56 3,zf 57 5 9,zs (.store 1 [none] (.t 57) (.t 56))]) (.skip))))))))))))))) (.seq (.jH [([zL 58 6 4,zL 60 6 4],z 59 (.call 15 [.t 58]),[zL 60 6 4]),([],z 61
 (.call 16 [.t 60]),[]),([z 62 (.bin .eql (.t 59) (.t 61)),zm 63 62,⟨some 64,[(63,true)],.load (some 6) (.t 9)⟩,⟨some 66,[(63,true)],.load (some 6) (.t 9)⟩],⟨some 65,
 [(63,true)],.call 15 [.t 64]⟩,[⟨some 66,[(63,true)],.load (some 6) (.t 9)⟩])] [] [64,65,66,67,68,71] [⟨some 67,[(63,true)],.call 16 [.t 66]⟩,⟨some 68,[(63,true)],
 .bin .eql (.t 65) (.t 67)⟩,z 69 (.pick (.t 63) (.t 68) (.c (.b false))),zm 70 69,⟨some 71,[(70,true)],.call 12 []⟩,z 72 (.pick (.t 70) (.t 71) (.c (.b false))),zm 8 72])
 (.ret)))))⟩
def tI:Ti prog 3 1 8:=qJ (by kernel_rfl)
end Go.Proofs.Tryz
