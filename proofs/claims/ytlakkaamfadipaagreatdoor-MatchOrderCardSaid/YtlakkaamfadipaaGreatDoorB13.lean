/- A part of a proof; the claim's last text says of what. -/
import Derived.Test.YtlakkaamfadipaaGreatDoorProg
import Derived.KernelRfl
import Derived.Test.YtlakkaamfadipaaGreatDoorB10
set_option linter.all false

namespace Go.Proofs.Tryz
open Go Go.Pm
set_option maxRecDepth 100000
def q51:=(⟨_,by cbv⟩:Nf (dY prog f51))
def Mz:bK:=(⟨_,by cbv⟩:Nf (dV q51.1 0 [])).1
def I1:bK:=(λa=>(⟨_,by cbv⟩:Nf (dV q51.1 1 [a])).1) Mz
def p51:bj prog f51:=⟨(λa b=>(⟨_,by cbv⟩:Nf (eL q51.1 [a,b])).1) Mz I1,by kernel_rfl⟩
def akH:=(⟨_,by cbv⟩:Nf (dY prog f109))
def N7:bK:=(⟨_,by cbv⟩:Nf (dV akH.1 0 [])).1
def amr:bj prog f109:=⟨(λa=>(⟨_,by cbv⟩:Nf (eL akH.1 [a])).1) N7,by kernel_rfl⟩
def alO:bj prog f170:=⟨_,by cbv⟩
def alN:bj prog f171:=⟨_,by cbv⟩
def I8:bK:=.seq (.seq (.dv [] [zm 8 7,zm 9 0,z 10 (.len true (.t 9)),z 11 (.bin .lss (.t 8) (.t 10))]) (.ite (.t 11) (.skip) (.exit 0))) (.block 1 (.block 2 (.seq (.dv [] [zm 14 2,zm 15
 0,zm 16 7,z 17 (.Dy (.t 15) (.t 16)),z 18 (.uD (.t 14) [.t 17]),zm 13 18]) (.ite (.t 13) (.dv [] [zm 19 7,z 20 (.bin .add (.t 19) (.c (.I 1))),zm 7 20]) (.seq
 (.jH [] [zm 22 0,zm 23 7,z 24 (.Dy (.t 22) (.t 23)),zm 25 1,z 26 (.Dy (.t 25) (.c (.I 0))),z 27 (.bin .eql (.t 24) (.t 26)),zm 28 27,⟨some 29,[(28,false)],.gm
 (.t 0)⟩,⟨some 30,[(28,false)],.gm (.t 7)⟩,⟨some 31,[(28,false)],.Dy (.t 29) (.t 30)⟩,⟨some 32,[(28,false)],.gm (.t 1)⟩,⟨some 33,[(28,false)],.Dy (.t 32) (.c
 (.I 1))⟩,⟨some 34,[(28,false)],.bin .eql (.t 31) (.t 33)⟩,z 35 (.pick (.t 28) (.c (.b true)) (.t 34)),zm 36 35,⟨some 37,[(36,true)],.gm (.t 7)⟩,⟨some 38,[(36,
 true)],.bin .add (.t 37) (.c (.I 1))⟩,⟨some 39,[(36,true)],.gm (.t 0)⟩,⟨some 40,[(36,true)],.len true (.t 39)⟩,⟨some 41,[(36,true)],.bin .lss (.t 38) (.t 40)⟩,z
 42 (.pick (.t 36) (.t 41) (.c (.b false))),zm 43 42,⟨some 44,[(43,true)],.gm (.t 2)⟩,⟨some 45,[(43,true)],.gm (.t 0)⟩,⟨some 46,[(43,true)],.gm (.t 7)⟩,⟨some 47,
 [(43,true)],.bin .add (.t 46) (.c (.I 1))⟩,⟨some 48,[(43,true)],.Dy (.t 45) (.t 47)⟩] [29,30,31,32,33,34,37,38,39,40,41,44,45,46,47,48,49] [⟨some 49,
 [(43,true)],.uD (.t 44) [.t 48]⟩,z 50 (.pick (.t 43) (.t 49) (.c (.b false))),zm 21 50]) (.ite (.t 21) (.dv [] [zm 51 7,z 52 (.bin .add (.t 51) (.c (.I 2))),zm 7 52])
 (.seq (.dv [] [zm 12 7,zm 6 12]) (.ret))))))))
def alP:bj prog f169:=⟨⟨54,[.t 6],.seq (.dv [] [z 6 (.gm (.c (.I 0)))]) (.seq (.dv [] [z 7 (.gm (.c (.I 1)))]) (.seq (.block 0 (.loop I8)) (.seq (.dv [] [zm 53 7,zm 6 53]) (.ret))))⟩,by kernel_rfl⟩
def alz:bj prog f184:=⟨_,by cbv⟩
def aku:=(⟨_,by cbv⟩:Nf (dY prog f181))
def NO:bK:=(⟨_,by cbv⟩:Nf (dV aku.1 0 [])).1
def alC:bj prog f181:=⟨(λa=>(⟨_,by cbv⟩:Nf (eL aku.1 [a])).1) NO,by kernel_rfl⟩
def akZ:bj prog f251:=⟨_,by cbv⟩
def ak9:bj prog f224:=⟨_,by cbv⟩
def akv:=(⟨_,by cbv⟩:Nf (dY prog f180))
def NP:bK:=(⟨_,by cbv⟩:Nf (dV akv.1 0 [])).1
def alD:bj prog f180:=⟨(λa=>(⟨_,by cbv⟩:Nf (eL akv.1 [a])).1) NP,by kernel_rfl⟩
def ag9:=(⟨_,by cbv⟩:Nf (dY prog f179))
def NQ:bK:=(⟨_,by cbv⟩:Nf (dV ag9.1 0 [])).1
def I5:bK:=(⟨_,by cbv⟩:Nf (dV ag9.1 1 [])).1
def alF:bj prog f179:=⟨(λa b=>(⟨_,by cbv⟩:Nf (eL ag9.1 [a,b])).1) NQ I5,by kernel_rfl⟩
def ala:bj prog f223:=⟨_,by cbv⟩
def ak8:bj prog f225:=⟨_,by cbv⟩
def alB:bj prog f182:=⟨_,by cbv⟩
def p65:bj prog f65:=⟨_,by cbv⟩
def alA:bj prog f183:=⟨_,by cbv⟩
def ahb:=(⟨_,by cbv⟩:Nf (dY prog f118))
def N5:bK:=(⟨_,by cbv⟩:Nf (dV ahb.1 0 [])).1
def N4:bK:=(⟨_,by cbv⟩:Nf (dV ahb.1 1 [])).1
def aml:bj prog f118:=⟨(λa b=>(⟨_,by cbv⟩:Nf (eL ahb.1 [a,b])).1) N5 N4,by kernel_rfl⟩
def Va:bK:=.seq (.dv [] [z 45 (.bin .lss (.t 44) (.t 43))]) (.seq (.ite (.t 45) (.skip) (.exit 0)) (.seq (.block 1 (.seq (.dv [] [z 46 (.idx 3 (.t 42) (.t 44)),zL 47 3 46,z 11 (.alloc 182
 [.s [],.s [],.I 0]),zs (.store 3 [none,none,none] (.t 11) (.t 47))]) (.seq (.dv [] [zf 48 0 11,zl 49 48,zf 50 1 11,zl 51 50,z 52 (.build [.s [],.s []] [(0,1,.t
 49),(1,1,.t 51)]),z 12 (.alloc 184 [.s [],.s []]),zs (.store 2 [none,none] (.t 12) (.t 52))]) (.jH [([zm 53 0,z 54 (.gU (.t 53)),zf 55 1 54,zl 56 55,zL 57 2 12,zm
 59 1,zf 60 2 11,zl 61 60,z 62 (.build [.I 0,.I 0] [(0,1,.t 59),(1,1,.t 61)]),z 63 (.dH 2 [none,none] [.t 62])],z 64 (.Oi 4 (.nil) (.t 56) (.t 57)),[]),
 ([z 58 (.ext 0 (.t 64)),z 66 (.ext 1 (.t 64))],z 65 (.app 190 2 16 (.t 58) (.t 63)),[])] [] [] [zs (.Oh [some 2] (.t 56) (.t 66) (.t 65))])))) (.dv [] [z 67 (.bin .add (.t 44)
 (.c (.I 1))),zm 44 67])))
def U9:bK:=.seq (.dv [] [z 71 (.next (.t 70)),z 72 (.ext 0 (.t 71))]) (.seq (.ite (.t 72) (.skip) (.exit 2)) (.block 3 (.seq (.dv [] [z 73 (.ent (.t 70)),z 74 (.ext 0 (.t 73)),z 75 (.ext
 1 (.t 73)),z 13 (.alloc 150 [.I 0,.s [],.I 0]),zs (.store 3 [none,none,none] (.t 13) (.t 74)),zm 14 75]) (.jH [([zm 76 0,z 77 (.gU (.t 76)),zf 78 2 77,zl 79
 78,zL 80 3 13,zm 82 1,zm 83 14,z 84 (.build [.I 0,.I 0] [(0,1,.t 82),(1,1,.t 83)]),z 85 (.dH 2 [none,none] [.t 84])],z 86 (.Oi 5 (.nil) (.t 79) (.t
 80)),[]),([z 81 (.ext 0 (.t 86)),z 88 (.ext 1 (.t 86))],z 87 (.app 190 2 16 (.t 81) (.t 85)),[])] [] [] [zs (.Oh [some 2] (.t 79) (.t 88) (.t 87))]))))
def p72:ux:=⟨89,[.t 6],.seq (.dv [] [z 6 (.gm (.c (.b false)))]) (.seq (.seq (.dv [] [zm 16 0,z 17 (.gU (.t 16)),zf 18 0 17,zl 19 18,zm 20 1,z 21 (.look 0 (.agg [.sl 3 [],.jG,
 .I 0,.I 0,.I 0,.I 0]) true (.t 19) (.t 20)),zm 15 21,z 22 (.ext 0 (.t 15)),z 23 (.ext 1 (.t 15)),z 7 (.alloc 162 [.nil,.jG,.I 0,.I 0,.i
 .i64 0,.I 0]),zs (.store 6 [some 3,none,none,none,none,none] (.t 7) (.t 22)),zm 8 23]) (.seq (.dv [26,27,28,29,30,31] [zm 24 8,zm 25 24,⟨some 26,[(25,false)],
 .gm (.t 0)⟩,⟨some 27,[(25,false)],.gU (.t 26)⟩,⟨some 28,[(25,false)],.pq 0 (.t 27)⟩,⟨some 29,[(25,false)],.load none (.t 28)⟩,⟨some 30,[(25,false)],.Jj (.t
 29)⟩,⟨some 31,[(25,false)],.bin .geq (.t 30) (.c (.I 1024))⟩,z 32 (.pick (.t 25) (.c (.b true)) (.t 31))]) (.ite (.t 32) (.seq (.dv [] [z 6 (.gm (.c (.b false)))])
 (.ret)) (.skip)))) (.seq (.dv [] [zm 33 2,z 34 (.call 118 [.t 33]),z 9 (.alloc 162 [.nil,.jG,.I 0,.I 0,.I 0,.I 0]),zs (.store 6 [some 3,none,none,
 none,none,none] (.t 9) (.t 34))]) (.seq (.jH [] [zm 35 0,z 36 (.gU (.t 35)),zf 37 0 36,zl 38 37,zm 39 1,zL 40 6 9] [] [zs (.FK 0 [some 3,none,none,none,none,none]
 (.t 38) (.t 39) (.t 40))]) (.seq (.seq (.dv [] [zf 41 0 9,zl 42 41,z 43 (.len false (.t 42)),z 44 (.gm (.c (.I 0)))]) (.block 0 (.loop Va))) (.seq (.seq (.dv [] [zf 68
 1 9,zl 69 68,z 70 (.range (.t 69))]) (.block 2 (.loop U9))) (.seq (.dv [] [z 6 (.gm (.c (.b true)))]) (.ret)))))))⟩
def c72:dY prog f72=some p72:=by kernel_rfl
def al7:bj prog f135:=⟨_,by cbv⟩
def alq:bj prog f202:=⟨_,by cbv⟩
def Vc:bK:=.seq (.dv [] [z 31 (.bin .lss (.t 30) (.t 29))]) (.seq (.ite (.t 31) (.skip) (.exit 0)) (.seq (.block 1 (.seq (.dv [] [z 32 (.idx 3 (.t 28) (.t 30)),zL 33 3 32,z 8 (.alloc 182
 [.s [],.s [],.I 0]),zs (.store 3 [none,none,none] (.t 8) (.t 33))]) (.seq (.dv [] [zf 34 0 8,zl 35 34,zf 36 1 8,zl 37 36,z 38 (.build [.s [],.s []] [(0,1,.t 35),
 (1,1,.t 37)]),z 9 (.alloc 184 [.s [],.s []]),zs (.store 2 [none,none] (.t 9) (.t 38))]) (.seq (.jH [([zm 39 0,z 40 (.gU (.t 39)),zf 41 1 40,zl 42 41,zL 43 2 9,zm 44
 0,z 45 (.gU (.t 44)),zf 46 1 45,zl 47 46,zL 48 2 9,z 49 (.look 4 (.nil) false (.t 47) (.t 48)),zm 50 1],z 51 (.call 135 [.t 49,.t 50]),[z 40 (.gU (.t 39)),zf 41 1
 40,zl 42 41,zL 43 2 9])] [] [] [zs (.FK 4 [some 2] (.t 42) (.t 43) (.t 51))]) (.seq (.jH [] [zm 52 0,z 53 (.gU (.t 52)),zf 54 1 53,zl 55 54,zL 56 2 9] [] [z 57 (.look 4
 (.nil) false (.t 55) (.t 56)),z 58 (.len false (.t 57)),z 59 (.bin .eql (.t 58) (.c (.I 0)))]) (.ite (.t 59) (.jH [] [zm 60 0,z 61 (.gU (.t 60)),zf 62 1 61,zl 63 62,
 zL 64 2 9] [] [zs (.Lx 4 (.t 63) (.t 64))]) (.skip))))))) (.dv [] [z 65 (.bin .add (.t 30) (.c (.I 1))),zm 30 65])))
def Vb:bK:=.seq (.dv [] [z 69 (.next (.t 68)),z 70 (.ext 0 (.t 69))]) (.seq (.ite (.t 70) (.skip) (.exit 2)) (.block 3 (.seq (.dv [] [z 71 (.ent (.t 68)),z 72 (.ext 0 (.t 71)),z 10
 (.alloc 150 [.I 0,.s [],.I 0]),zs (.store 3 [none,none,none] (.t 10) (.t 72))]) (.seq (.jH [([zm 73 0,z 74 (.gU (.t 73)),zf 75 2 74,zl 76 75,zL 77 3 10,zm
 78 0,z 79 (.gU (.t 78)),zf 80 2 79,zl 81 80,zL 82 3 10,z 83 (.look 5 (.nil) false (.t 81) (.t 82)),zm 84 1],z 85 (.call 135 [.t 83,.t 84]),[z 74 (.gU (.t 73)),zf 75
 2 74,zl 76 75,zL 77 3 10])] [] [] [zs (.FK 5 [some 2] (.t 76) (.t 77) (.t 85))]) (.seq (.jH [] [zm 86 0,z 87 (.gU (.t 86)),zf 88 2 87,zl 89 88,zL 90 3 10] [] [z 91
 (.look 5 (.nil) false (.t 89) (.t 90)),z 92 (.len false (.t 91)),z 93 (.bin .eql (.t 92) (.c (.I 0)))]) (.ite (.t 93) (.jH [] [zm 94 0,z 95 (.gU (.t 94)),zf 96 2 95,
 zl 97 96,zL 98 3 10] [] [zs (.Lx 5 (.t 97) (.t 98))]) (.skip)))))))
def p70:ux:=⟨99,[.t 4],.seq (.dv [] [z 4 (.gm (.c (.b false)))]) (.seq (.dv [] [zm 12 0,z 13 (.gU (.t 12)),zf 14 0 13,zl 15 14,zm 16 1,z 17 (.look 0 (.agg [.sl 3 [],.jG,.i
 .i64 0,.I 0,.I 0,.I 0]) true (.t 15) (.t 16)),zm 11 17,z 18 (.ext 0 (.t 11)),z 19 (.ext 1 (.t 11)),z 5 (.alloc 162 [.nil,.jG,.I 0,.I 0,.i
 .i64 0,.I 0]),zs (.store 6 [some 3,none,none,none,none,none] (.t 5) (.t 18)),zm 6 19]) (.seq (.seq (.dv [] [zm 20 6,z 21 (.un .not (.t 20))]) (.ite (.t 21) (.seq
 (.dv [] [z 4 (.gm (.c (.b false)))]) (.ret)) (.skip))) (.seq (.dv [] [zm 22 0,z 23 (.gU (.t 22)),zf 24 0 23,zl 25 24,zm 26 1,zs (.Lx 0 (.t 25) (.t 26))]) (.seq (.seq
 (.dv [] [zf 27 0 5,zl 28 27,z 29 (.len false (.t 28)),z 30 (.gm (.c (.I 0)))]) (.block 0 (.loop Vc))) (.seq (.seq (.dv [] [zf 66 1 5,zl 67 66,z 68 (.range (.t 67))])
 (.block 2 (.loop Vb))) (.seq (.dv [] [z 4 (.gm (.c (.b true)))]) (.ret)))))))⟩
def c70:dY prog f70=some p70:=by kernel_rfl
def FF:bK:=.seq (.dv [] [z 36 (.bin .lss (.t 35) (.t 34))]) (.seq (.ite (.t 36) (.skip) (.exit 2)) (.seq (.block 3 (.seq (.dv [] [z 37 (.idx 2 (.t 33) (.t 35)),zL 38 2 37,z 9 (.alloc 190
 [.I 0,.I 0]),zs (.store 2 [none,none] (.t 9) (.t 38))]) (.seq (.dv [] [zm 39 5,zf 40 0 9,zl 41 40,z 42 (.look 0 (.agg [.I 0,.I 0,.I 0]) false (.t
 39) (.t 41)),z 10 (.alloc 160 [.I 0,.I 0,.I 0]),zs (.store 3 [none,none,none] (.t 10) (.t 42))]) (.seq (.dv [] [zf 43 0 10,zl 44 43,zf 45 1 9,zl 46 45,zf
 47 2 7,zl 48 47,z 49 (.min2 (.t 46) (.t 48)),z 50 (.bin .add (.t 44) (.t 49)),zf 51 0 10,zs (.store 1 [none] (.t 51) (.t 50))]) (.dv [] [zm 52 5,zf 53 0 9,zl 54 53,zL 55 3
 10,zs (.FK 0 [none,none,none] (.t 52) (.t 54) (.t 55))]))))) (.dv [] [z 56 (.bin .add (.t 35) (.c (.I 1))),zm 35 56])))
def Jc:bK:=.seq (.dv [] [z 21 (.bin .lss (.t 20) (.t 19))]) (.seq (.ite (.t 21) (.skip) (.exit 0)) (.seq (.block 1 (.seq (.dv [] [z 22 (.idx 3 (.t 18) (.t 20)),zL 23 3 22,z 7 (.alloc 182
 [.s [],.s [],.I 0]),zs (.store 3 [none,none,none] (.t 7) (.t 23))]) (.seq (.jH [] [zm 24 0,z 25 (.gU (.t 24)),zf 26 1 25,zl 27 26,zf 28 0 7,zl 29 28,zf 30 1 7,
 zl 31 30,z 32 (.build [.s [],.s []] [(0,1,.t 29),(1,1,.t 31)]),z 33 (.look 4 (.nil) false (.t 27) (.t 32)),z 34 (.len false (.t 33)),z 35 (.gm (.c (.I 0)))] [] [])
 (.block 2 (.loop FF))))) (.dv [] [z 57 (.bin .add (.t 20) (.c (.I 1))),zm 20 57])))
def FE:bK:=.seq (.dv [] [z 74 (.bin .lss (.t 73) (.t 72))]) (.seq (.ite (.t 74) (.skip) (.exit 6)) (.seq (.block 7 (.seq (.dv [] [z 75 (.idx 2 (.t 71) (.t 73)),zL 76 2 75,z 14 (.alloc 190
 [.I 0,.I 0]),zs (.store 2 [none,none] (.t 14) (.t 76))]) (.seq (.dv [] [zm 77 5,zf 78 0 14,zl 79 78,z 80 (.look 0 (.agg [.I 0,.I 0,.I 0]) false (.t
 77) (.t 79)),z 15 (.alloc 160 [.I 0,.I 0,.I 0]),zs (.store 3 [none,none,none] (.t 15) (.t 80))]) (.seq (.seq (.dv [] [zL 81 3 11,z 82 (.call 183 [.t 81])])
 (.ite (.t 82) (.dv [] [zf 83 2 15,zl 84 83,zf 85 1 14,zl 86 85,zm 87 12,z 88 (.min2 (.t 86) (.t 87)),z 89 (.bin .add (.t 84) (.t 88)),zf 90 2 15,zs (.store 1 [none] (.t 90)
 (.t 89))]) (.jH [([zf 91 1 15,zl 92 91,zf 93 1 14,zl 94 93,zm 95 12,z 96 (.min2 (.t 94) (.t 95)),zL 97 3 11],z 98 (.call 184 [.t 97]),[zf 91 1 15,zl 92 91,zf 93 1 14,zl
 94 93])] [z 99 (.bin .mul (.t 96) (.t 98))] [] [z 100 (.bin .add (.t 92) (.t 99)),zf 101 1 15,zs (.store 1 [none] (.t 101) (.t 100))]))) (.dv [] [zm 102 5,zf 103 0 14,zl 104
 103,zL 105 3 15,zs (.FK 0 [none,none,none] (.t 102) (.t 104) (.t 105))]))))) (.dv [] [z 106 (.bin .add (.t 73) (.c (.I 1))),zm 73 106])))
def N3:bK:=.seq (.dv [] [z 61 (.next (.t 60)),z 62 (.ext 0 (.t 61))]) (.seq (.ite (.t 62) (.skip) (.exit 4)) (.block 5 (.seq (.dv [] [z 63 (.ent (.t 60)),z 64 (.ext 0 (.t 63)),z 65 (.ext
 1 (.t 63)),z 11 (.alloc 150 [.I 0,.s [],.I 0]),zs (.store 3 [none,none,none] (.t 11) (.t 64)),zm 12 65]) (.seq (.jH [] [zm 66 0,z 67 (.gU (.t 66)),zf 68 2
 67,zl 69 68,zL 70 3 11,z 71 (.look 5 (.nil) false (.t 69) (.t 70)),z 72 (.len false (.t 71)),z 73 (.gm (.c (.I 0)))] [] []) (.block 6 (.loop FE))))))
def amk:ux:=⟨108,[.t 4],.seq (.dv [] [z 3 (.box 162 (.t 1)),z 4 (.gm (.c .jG))]) (.seq (.dv [] [z 16 (.GP 3 160),zm 5 16]) (.seq (.seq (.dv [] [zf 17 0 3,zl 18 17,z 19 (.len
 false (.t 18)),z 20 (.gm (.c (.I 0)))]) (.block 0 (.loop Jc))) (.seq (.seq (.dv [] [zf 58 1 3,zl 59 58,z 60 (.range (.t 59))]) (.block 4 (.loop N3))) (.seq (.dv
 [] [zm 107 5,zm 4 107]) (.ret)))))⟩
def arv:dY prog f119=some amk:=by kernel_rfl
def amj:bj prog f120:=⟨_,by cbv⟩
def q58:=(⟨_,by cbv⟩:Nf (dY prog f58))
def QE:bK:=(⟨_,by cbv⟩:Nf (dV q58.1 0 [])).1
def p58:bj prog f58:=⟨(λa=>(⟨_,by cbv⟩:Nf (eL q58.1 [a])).1) QE,by kernel_rfl⟩
def ak0:bj prog f250:=⟨_,by cbv⟩
def ali:bj prog f214:=⟨_,by cbv⟩
def alj:bj prog f213:=⟨_,by cbv⟩
def adk:=(⟨_,by cbv⟩:Nf (dY prog f215))
def NK:bK:=(⟨_,by cbv⟩:Nf (dV adk.1 0 [])).1
def NJ:bK:=(⟨_,by cbv⟩:Nf (dV adk.1 1 [])).1
def NI:bK:=(⟨_,by cbv⟩:Nf (dV adk.1 2 [])).1
def alh:bj prog f215:=⟨(λa c b=>(⟨_,by cbv⟩:Nf (eL adk.1 [a,c,b])).1) NK NJ NI,by kernel_rfl⟩
def NY:bK:=.seq (.dv [] [z 23 (.bin .lss (.t 22) (.t 21))]) (.seq (.ite (.t 23) (.skip) (.exit 0)) (.seq (.block 1 (.seq (.dv [] [zm 24 22,z 25 (.idx 3 (.t 20) (.t 22)),zL 26 3 25,z 7
 (.alloc 150 [.I 0,.s [],.I 0]),zm 6 24,zs (.store 3 [none,none,none] (.t 7) (.t 26))]) (.jH [([zm 27 5,zm 28 6,z 29 (.bin .add (.t 28) (.c (.I 1))),zm 30
 5,zm 31 6,z 32 (.idx 1 (.t 30) (.t 31)),zl 33 32,zL 34 3 7],z 35 (.call 213 [.t 34]),[z 32 (.idx 1 (.t 30) (.t 31)),zl 33 32])] [z 36 (.bin .add (.t 33) (.t 35))] [] [z 37
 (.idx 1 (.t 27) (.t 29)),zs (.store 1 [none] (.t 37) (.t 36))]))) (.dv [] [z 38 (.bin .add (.t 22) (.c (.I 1))),zm 22 38])))
def NX:bK:=.seq (.dv [] [z 58 (.bin .lss (.t 57) (.t 56))]) (.seq (.ite (.t 58) (.skip) (.exit 4)) (.seq (.block 5 (.seq (.dv [] [zm 59 57,z 60 (.idx 3 (.t 55) (.t 57)),zL 61 3 60,z 12
 (.alloc 150 [.I 0,.s [],.I 0]),zm 11 59,zs (.store 3 [none,none,none] (.t 12) (.t 61))]) (.seq (.jH [([zm 62 5,zm 63 11,z 64 (.bin .add (.t 63) (.c (.i .i64
 1))),z 65 (.idx 1 (.t 62) (.t 64)),zl 66 65,zL 67 3 9,zm 70 5,zm 71 11,z 72 (.idx 1 (.t 70) (.t 71)),zl 73 72,zL 74 3 12],z 68 (.call 213 [.t 67]),[z 65 (.idx 1 (.t 62)
 (.t 64)),zl 66 65,z 72 (.idx 1 (.t 70) (.t 71)),zl 73 72,zL 74 3 12]),([z 69 (.bin .add (.t 66) (.t 68))],z 75 (.call 213 [.t 74]),[z 65 (.idx 1 (.t 62) (.t 64)),zl 66 65,z
 72 (.idx 1 (.t 70) (.t 71)),zl 73 72])] [z 76 (.bin .add (.t 73) (.t 75))] [] [z 77 (.min2 (.t 69) (.t 76)),zm 13 77]) (.seq (.seq (.dv [] [zL 79 3 9,zL 80 3 12,z 81 (.call 214
 [.t 79,.t 80]),zm 78 81,z 82 (.ext 0 (.t 78)),z 83 (.ext 1 (.t 78)),zm 14 82,zm 15 83]) (.seq (.dv [] [zm 84 15]) (.ite (.t 84) (.dv [] [zm 85 13,zm 86 10,zm 87 14,z 88
 (.bin .add (.t 86) (.t 87)),z 89 (.min2 (.t 85) (.t 88)),zm 13 89]) (.skip)))) (.dv [] [zm 90 5,zm 91 11,z 92 (.bin .add (.t 91) (.c (.I 1))),zm 93 5,zm 94 11,z 95
 (.bin .add (.t 94) (.c (.I 1))),z 96 (.idx 1 (.t 93) (.t 95)),zl 97 96,zm 98 13,zm 10 97,z 99 (.idx 1 (.t 90) (.t 92)),zs (.store 1 [none] (.t 99) (.t 98))]))))) (.dv []
 [z 100 (.bin .add (.t 57) (.c (.I 1))),zm 57 100])))
def NW:bK:=.seq (.dv [] [z 42 (.bin .lss (.t 41) (.t 40))]) (.seq (.ite (.t 42) (.skip) (.exit 2)) (.seq (.block 3 (.seq (.dv [] [z 43 (.idx 3 (.t 39) (.t 41)),zL 44 3 43,z 9 (.alloc 150
 [.I 0,.s [],.I 0]),zs (.store 3 [none,none,none] (.t 9) (.t 44))]) (.seq (.dv [] [zm 45 5,z 46 (.idx 1 (.t 45) (.c (.I 0))),zl 47 46,zm 10 47]) (.seq (.jH
 [([zm 48 5,z 49 (.idx 1 (.t 48) (.c (.I 0))),zl 50 49,zL 51 3 9],z 52 (.call 213 [.t 51]),[z 49 (.idx 1 (.t 48) (.c (.I 0))),zl 50 49])] [] [] [z 53 (.bin .add (.t
 50) (.t 52)),z 54 (.idx 1 (.t 48) (.c (.I 0))),zs (.store 1 [none] (.t 54) (.t 53))]) (.seq (.dv [] [zm 55 1,z 56 (.len false (.t 55)),z 57 (.gm (.c (.I 0)))])
 (.block 4 (.loop NX))))))) (.dv [] [z 101 (.bin .add (.t 41) (.c (.I 1))),zm 41 101])))
def alS:ux:=⟨111,[.t 4],.seq (.dv [] [z 4 (.gm (.c (.I 0)))]) (.seq (.dv [] [zm 16 1,z 17 (.len false (.t 16)),z 18 (.bin .add (.t 17) (.c (.I 1))),z 19 (.mk 3 1 8 [.I 0]
 (.t 18) (.t 18)),zm 5 19]) (.seq (.seq (.dv [] [zm 20 1,z 21 (.len false (.t 20)),z 22 (.gm (.c (.I 0)))]) (.block 0 (.loop NY))) (.seq (.seq (.dv [] [zm 39 0,z 40
 (.len false (.t 39)),z 41 (.gm (.c (.I 0)))]) (.block 2 (.loop NW))) (.seq (.jH [([zm 102 5,zm 103 1,z 104 (.len false (.t 103)),z 105 (.idx 1 (.t 102) (.t 104)),zl
 106 105,zm 107 0,zm 108 1],z 109 (.call 215 [.t 107,.t 108]),[z 104 (.len false (.t 103)),z 105 (.idx 1 (.t 102) (.t 104)),zl 106 105])] [] [] [z 110 (.bin .add (.t 106) (.t
 109)),zm 4 110]) (.ret)))))⟩
def aru:dY prog f166=some alS:=by kernel_rfl
def alT:bj prog f165:=⟨_,by cbv⟩
def amu:bj prog f106:=⟨_,by cbv⟩
def ami:bj prog f121:=⟨_,by cbv⟩
def ams:bj prog f108:=⟨_,by cbv⟩
def q57:=(⟨_,by cbv⟩:Nf (dY prog f57))
def Ve:bK:=(⟨_,by cbv⟩:Nf (dV q57.1 0 [])).1
def p57:bj prog f57:=⟨(λa=>(⟨_,by cbv⟩:Nf (eL q57.1 [a])).1) Ve,by kernel_rfl⟩
def akY:bj prog f252:=⟨_,by cbv⟩
def alg:bj prog f216:=⟨_,by cbv⟩
def alR:bj prog f167:=⟨_,by cbv⟩
def akI:=(⟨_,by cbv⟩:Nf (dY prog f107))
def N8:bK:=(⟨_,by cbv⟩:Nf (dV akI.1 0 [])).1
def amt:bj prog f107:=⟨(λa=>(⟨_,by cbv⟩:Nf (eL akI.1 [a])).1) N8,by kernel_rfl⟩
def p15:bj prog f15:=⟨_,by cbv⟩
def p50:bj prog f50:=⟨_,by cbv⟩
def p20:bj prog f20:=⟨_,by cbv⟩
def p26:bj prog f26:=⟨_,by cbv⟩
def p69:bj prog f69:=⟨_,by cbv⟩
def p68:bj prog f68:=⟨_,by cbv⟩
def al9:bj prog f132:=⟨_,by cbv⟩
def p27:ux:=⟨92,[.t 4],.seq (.dv [] [z 3 (.box 37 (.t 1)),z 4 (.gm (.c (.I 0)))]) (.seq (.seq (.dv [] [zL 10 8 3,z 11 (.call 66 [.t 10]),zm 5 11]) (.seq (.dv [] [zm 12 5,z 13
 (.bin .neq (.t 12) (.c (.I 0)))]) (.ite (.t 13) (.seq (.dv [] [zm 14 5,zm 4 14]) (.ret)) (.skip)))) (.seq (.dv [] [zL 15 8 3,z 16 (.call 67 [.t 15]),zm 6 16]) (.seq (.dv
 [] [zm 18 0,zm 19 6,z 20 (.call 68 [.t 18,.t 19]),zm 17 20,z 21 (.ext 0 (.t 17)),z 22 (.ext 1 (.t 17)),zm 7 21,zm 8 22]) (.seq (.seq (.dv [26,27,28,29,30,31] [zm 23 8,
 z 24 (.un .not (.t 23)),zm 25 24,⟨some 26,[(25,true)],.gm (.t 0)⟩,⟨some 27,[(25,true)],.gU (.t 26)⟩,⟨some 28,[(25,true)],.pq 1 (.t 27)⟩,⟨some 29,[(25,true)],
 .load none (.t 28)⟩,⟨some 30,[(25,true)],.len false (.t 29)⟩,⟨some 31,[(25,true)],.bin .geq (.t 30) (.c (.I 1024))⟩,z 32 (.pick (.t 25) (.t 31) (.c (.b false)))])
 (.ite (.t 32) (.seq (.dv [] [z 4 (.gm (.c (.I 3)))]) (.ret)) (.skip))) (.seq (.YZ [(9,108,[.I 0,.s [],.nil,.nil,.s [],.s [],.s [],.s [],.I 0,.I 0,
 .nil])] [([zm 33 0,z 34 (.gU (.t 33)),zf 35 2 34,zl 36 35,zm 37 6,zL 38 8 3,zf 40 0 3,zl 41 40],z 39 (.call 69 [.t 38]),[z 34 (.gU (.t 33)),zf 35 2 34,zl 36 35,zf
 40 0 3,zl 41 40]),([],z 42 (.call 51 [.t 41]),[z 34 (.gU (.t 33)),zf 35 2 34,zl 36 35])] [] [z 43 (.build [.I 0,.s [],.nil,.nil,.s [],.s [],.s [],.s [],.i .i64
 0,.I 0,.nil] [(0,1,.t 36),(1,1,.t 37),(2,8,.t 39),(10,1,.t 42)])] [] [zs (.store 11 [none,none,some 3,some 3,none,none,none,none,none,none,some 3] (.t 9)
 (.t 43))]) (.seq (.dv [] [zm 44 0,z 45 (.gU (.t 44)),zf 46 2 45,zl 47 46,z 48 (.bin .add (.t 47) (.c (.I 1))),z 49 (.gU (.t 44)),zf 50 2 49,zs (.store 1 [none]
 (.t 50) (.t 48))]) (.seq (.seq (.dv [] [zm 51 8]) (.ite (.t 51) (.seq (.jH [] [zm 52 0,z 53 (.gU (.t 52)),zf 54 0 53,zl 55 54,zm 56 0,z 57 (.gU (.t 56)),zf 58 1 57,
 zl 59 58,zm 60 7,z 61 (.idx 11 (.t 59) (.t 60)),zf 62 0 61,zl 63 62] [] [z 64 (.call 70 [.t 55,.t 63])]) (.jH [] [zm 65 0,z 66 (.gU (.t 65)),zf 67 1 66,zl 68 67,zm 69
 7,zL 70 11 9] [] [z 71 (.idx 11 (.t 68) (.t 69)),zs (.store 11 [none,none,some 3,some 3,none,none,none,none,none,none,some 3] (.t 71) (.t 70))])) (.jH [([zm 72 0,zm
 73 0,z 74 (.gU (.t 73)),zf 75 1 74,zl 76 75,zm 77 7,zL 78 11 9],z 79 (.Sg 108 11 176 [none,none,some 3,some 3,none,none,none,none,none,none,some 3] [.t 78]),[z
 74 (.gU (.t 73)),zf 75 1 74,zl 76 75]),([],z 80 (.call 71 [.t 76,.t 77,.t 79]),[])] [] [] [z 81 (.gU (.t 72)),zf 82 1 81,zs (.store 1 [some 11] (.t 82) (.t 80))])))
 (.seq (.jH [] [zm 83 0,z 84 (.gU (.t 83)),zf 85 0 84,zl 86 85,zf 87 0 9,zl 88 87,zf 89 10 9,zl 90 89] [] [z 91 (.call 72 [.t 86,.t 88,.t 90])]) (.seq (.dv [] [z 4
 (.gm (.c (.I 0)))]) (.ret))))))))))⟩
def c27:dY prog f27=some p27:=by kernel_rfl
def q23:=(⟨_,by cbv⟩:Nf (dY prog f23))
def QI:bK:=(⟨_,by cbv⟩:Nf (dV q23.1 0 [])).1
def p23:bj prog f23:=⟨(λa=>(⟨_,by cbv⟩:Nf (eL q23.1 [a])).1) QI,by kernel_rfl⟩
def al8:bj prog f133:=⟨_,by cbv⟩
def als:bj prog f200:=⟨_,by cbv⟩
def p64:bj prog f64:=⟨_,by cbv⟩
def akq:=(⟨_,by cbv⟩:Nf (dY prog f201))
def FD:bK:=(⟨_,by cbv⟩:Nf (dV akq.1 0 [])).1
def alr:bj prog f201:=⟨(λa=>(⟨_,by cbv⟩:Nf (eL akq.1 [a])).1) FD,by kernel_rfl⟩
def akl:=(⟨_,by cbv⟩:Nf (dY prog f242))
def NF:bK:=(⟨_,by cbv⟩:Nf (dV akl.1 0 [])).1
def ak5:bj prog f242:=⟨(λa=>(⟨_,by cbv⟩:Nf (eL akl.1 [a])).1) NF,by kernel_rfl⟩
end Go.Proofs.Tryz
