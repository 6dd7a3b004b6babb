/- A part of a proof; the claim's last text says of what. -/
import Derived.Test.YtlakkaamfadipaaGreatDoorProg
import Derived.KernelRfl
import Derived.Test.YtlakkaamfadipaaGreatDoorB10
set_option linter.all false

namespace Go.Proofs.Tryz
open Go Go.Pm
set_option maxRecDepth 100000
def akD:=(⟨_,by cbv⟩:Nf (dY prog f131))
def Jb:bK:=(⟨_,by cbv⟩:Nf (dV akD.1 0 [])).1
def ama:bj prog f131:=⟨(λa=>(⟨_,by cbv⟩:Nf (eL akD.1 [a])).1) Jb,by kernel_rfl⟩
def p71:bj prog f71:=⟨_,by cbv⟩
def q59:=(⟨_,by cbv⟩:Nf (dY prog f59))
def QD:bK:=(⟨_,by cbv⟩:Nf (dV q59.1 0 [])).1
def p59:bj prog f59:=⟨(λa=>(⟨_,by cbv⟩:Nf (eL q59.1 [a])).1) QD,by kernel_rfl⟩
def amh:bj prog f123:=⟨_,by cbv⟩
def amg:bj prog f124:=⟨_,by cbv⟩
def p14:bj prog f14:=⟨_,by cbv⟩
def akC:=(⟨_,by cbv⟩:Nf (dY prog f142))
def Ja:bK:=(⟨_,by cbv⟩:Nf (dV akC.1 0 [])).1
def al4:bj prog f142:=⟨(λa=>(⟨_,by cbv⟩:Nf (eL akC.1 [a])).1) Ja,by kernel_rfl⟩
def akt:=(⟨_,by cbv⟩:Nf (dY prog f197))
def NN:bK:=(⟨_,by cbv⟩:Nf (dV akt.1 0 [])).1
def alw:bj prog f197:=⟨(λa=>(⟨_,by cbv⟩:Nf (eL akt.1 [a])).1) NN,by kernel_rfl⟩
def aha:=(⟨_,by cbv⟩:Nf (dY prog f145))
def I9:bK:=(⟨_,by cbv⟩:Nf (dV aha.1 0 [])).1
def N1:bK:=(λa=>(⟨_,by cbv⟩:Nf (dV aha.1 1 [a])).1) I9
def al3:bj prog f145:=⟨(λa b=>(⟨_,by cbv⟩:Nf (eL aha.1 [a,b])).1) I9 N1,by kernel_rfl⟩
def q85:=(⟨_,by cbv⟩:Nf (dY prog f85))
def U3:bK:=(⟨_,by cbv⟩:Nf (dV q85.1 0 [])).1
def QB:bK:=(⟨_,by cbv⟩:Nf (dV q85.1 1 [])).1
def p85:bj prog f85:=⟨(λa b=>(⟨_,by cbv⟩:Nf (eL q85.1 [a,b])).1) U3 QB,by kernel_rfl⟩
def akE:=(⟨_,by cbv⟩:Nf (dY prog f128))
def N2:bK:=(⟨_,by cbv⟩:Nf (dV akE.1 0 [])).1
def ame:bj prog f128:=⟨(λa=>(⟨_,by cbv⟩:Nf (eL akE.1 [a])).1) N2,by kernel_rfl⟩
def amd:bj prog f129:=⟨_,by cbv⟩
def alx:bj prog f196:=⟨_,by cbv⟩
def akn:=(⟨_,by cbv⟩:Nf (dY prog f239))
def NG:bK:=(⟨_,by cbv⟩:Nf (dV akn.1 0 [])).1
def ak7:bj prog f239:=⟨(λa=>(⟨_,by cbv⟩:Nf (eL akn.1 [a])).1) NG,by kernel_rfl⟩
def aks:=(⟨_,by cbv⟩:Nf (dY prog f198))
def NM:bK:=(⟨_,by cbv⟩:Nf (dV aks.1 0 [])).1
def alv:bj prog f198:=⟨(λa=>(⟨_,by cbv⟩:Nf (eL aks.1 [a])).1) NM,by kernel_rfl⟩
def p66:bj prog f66:=⟨_,by cbv⟩
def amb:bj prog f130:=⟨_,by cbv⟩
def p67:bj prog f67:=⟨_,by cbv⟩
def q45:=(⟨_,by cbv⟩:Nf (dY prog f45))
def Vg:bK:=(⟨_,by cbv⟩:Nf (dV q45.1 0 [])).1
def p45:bj prog f45:=⟨(λa=>(⟨_,by cbv⟩:Nf (eL q45.1 [a])).1) Vg,by kernel_rfl⟩
def amx:ux:=⟨123,[.t 4],.seq (.dv [] [z 3 (.box 61 (.t 1)),z 4 (.gm (.c (.I 0)))]) (.seq (.dv [13,14,15] [zf 9 0 3,zl 10 9,z 11 (.bin .neq (.t 10) (.c (.I 1))),zm 12 11,
 ⟨some 13,[(12,true)],.pq 0 (.t 3)⟩,⟨some 14,[(12,true)],.load none (.t 13)⟩,⟨some 15,[(12,true)],.bin .neq (.t 14) (.c (.I 5))⟩,z 16 (.pick (.t 12) (.t 15) (.c (.b
 false))),zm 5 16]) (.seq (.seq (.dv [] [zm 17 5]) (.ite (.t 17) (.seq (.jH [([zm 19 0,z 20 (.gU (.t 19)),zf 21 3 20,zl 22 21,zf 23 2 3,zl 24 23,z 25 (.look 0 (.agg [.i
 .i64 0,.s [],.I 0]) true (.t 22) (.t 24)),zm 18 25,z 26 (.ext 0 (.t 18)),z 27 (.ext 1 (.t 18))],z 6 (.alloc 61 [.I 0,.s [],.I 0]),[z 20 (.gU (.t 19)),zf
 21 3 20,zl 22 21,zf 23 2 3,zl 24 23,z 25 (.look 0 (.agg [.I 0,.s [],.I 0]) true (.t 22) (.t 24))]),([],zs (.store 3 [none,none,none] (.t 6) (.t 26)),[])] [] []
 [zm 7 27]) (.seq (.jH [([zm 28 7,zm 29 28,⟨some 30,[(29,true)],.pq 0 (.t 3)⟩,⟨some 31,[(29,true)],.load none (.t 30)⟩,⟨some 32,[(29,true)],.bin .neq (.t 31) (.c (.i
 .i64 3))⟩,⟨some 33,[(29,true)],.gm (.t 32)⟩,⟨some 34,[(29,true),(33,false)],.pq 0 (.t 6)⟩,⟨some 35,[(29,true),(33,false)],.load none (.t 34)⟩,⟨some 36,[(29,
 true),(33,false)],.bin .neq (.t 35) (.c (.I 2))⟩,⟨some 37,[(29,true)],.pick (.t 33) (.c (.b true)) (.t 36)⟩,⟨some 38,[(29,true)],.gm (.t 37)⟩,⟨some 39,[(29,
 true),(38,false)],.pq 1 (.t 6)⟩,⟨some 40,[(29,true),(38,false)],.load none (.t 39)⟩,⟨some 42,[(29,true),(38,false)],.pq 1 (.t 3)⟩,⟨some 43,[(29,true),(38,
 false)],.load none (.t 42)⟩],⟨some 41,[(29,true),(38,false)],.call 160 [.t 40]⟩,[⟨some 42,[(29,true),(38,false)],.pq 1 (.t 3)⟩,⟨some 43,[(29,true),(38,false)],
 .load none (.t 42)⟩])] [] [30,31,32,33,34,35,36,37,38,39,40,41,42,43,44,45] [⟨some 44,[(29,true),(38,false)],.bin .neq (.t 41) (.t 43)⟩,⟨some 45,[(29,true)],
 .pick (.t 38) (.c (.b true)) (.t 44)⟩,z 46 (.pick (.t 29) (.t 45) (.c (.b false)))]) (.ite (.t 46) (.seq (.dv [] [z 4 (.gm (.c (.I 7)))]) (.ret)) (.skip)))) (.skip))) (.seq
 (.dv [] [zm 47 0,z 48 (.gU (.t 47)),zf 49 0 48,zl 50 49,z 51 (.len false (.t 50)),zm 8 51]) (.seq (.seq (.dv [] [zm 52 0,z 53 (.gU (.t 52)),zf 54 1 53,zl 55 54,z 56
 (.len false (.t 55)),z 57 (.bin .gtr (.t 56) (.c (.I 0)))]) (.ite (.t 57) (.dv [] [zm 58 8,z 59 (.bin .add (.t 58) (.c (.I 1))),zm 8 59]) (.skip))) (.seq (.seq (.dv
 [64,65,66,67,68,69] [zf 60 0 3,zl 61 60,z 62 (.bin .neq (.t 61) (.c (.I 1))),zm 63 62,⟨some 64,[(63,false)],.gm (.t 0)⟩,⟨some 65,[(63,false)],.gU (.t 64)⟩,
 ⟨some 66,[(63,false)],.pq 1 (.t 65)⟩,⟨some 67,[(63,false)],.load none (.t 66)⟩,⟨some 68,[(63,false)],.len false (.t 67)⟩,⟨some 69,[(63,false)],.bin .eql (.t 68) (.c
 (.I 0))⟩,z 70 (.pick (.t 63) (.c (.b true)) (.t 69))]) (.ite (.t 70) (.dv [] [zm 71 8,z 72 (.bin .add (.t 71) (.c (.I 1))),zm 8 72]) (.skip))) (.seq (.seq (.dv [76,
 77,78,79,80,81] [zm 73 8,z 74 (.bin .gtr (.t 73) (.c (.I 512))),zm 75 74,⟨some 76,[(75,false)],.gm (.t 0)⟩,⟨some 77,[(75,false)],.gU (.t 76)⟩,⟨some 78,[(75,
 false)],.pq 2 (.t 77)⟩,⟨some 79,[(75,false)],.load none (.t 78)⟩,⟨some 80,[(75,false)],.bin .add (.t 79) (.c (.I 1))⟩,⟨some 81,[(75,false)],.bin .gtr (.t 80) (.c
 (.I 1024))⟩,z 82 (.pick (.t 75) (.c (.b true)) (.t 81))]) (.ite (.t 82) (.seq (.dv [] [z 4 (.gm (.c (.I 3)))]) (.ret)) (.skip))) (.seq (.dv [] [zm 83 0,z 84 (.gU
 (.t 83)),zf 85 2 84,zl 86 85,z 87 (.bin .add (.t 86) (.c (.I 1))),z 88 (.gU (.t 83)),zf 89 2 88,zs (.store 1 [none] (.t 89) (.t 87))]) (.seq (.seq (.dv [] [zf 90 0 3,
 zl 91 90,z 92 (.bin .eql (.t 91) (.c (.I 1)))]) (.ite (.t 92) (.seq (.jH [([zm 93 0,zm 94 0,z 95 (.gU (.t 94)),zf 96 1 95,zl 97 96,zf 98 1 3,zl 99 98],z 100 (.apps
 5 (.t 97) (.t 99)),[])] [] [] [z 101 (.gU (.t 93)),zf 102 1 101,zs (.store 1 [some 1] (.t 102) (.t 100))]) (.seq (.dv [] [z 4 (.gm (.c (.I 0)))]) (.ret))) (.skip)))
 (.seq (.seq (.dv [] [zm 103 5]) (.ite (.t 103) (.jH [] [zm 104 0,z 105 (.gU (.t 104)),zf 106 3 105,zl 107 106,zf 108 2 3,zl 109 108,zL 110 3 3] [] [zs (.FK 0 [none,
 none,none] (.t 107) (.t 109) (.t 110))]) (.skip))) (.seq (.dv [] [zm 111 0,z 112 (.call 101 [.t 111])]) (.seq (.jH [([zm 113 0,zm 114 0,z 115 (.gU (.t 114)),zf 116 0 115,
 zl 117 116,zL 118 3 3,z 119 (.dH 3 [none,none,none] [.t 118])],z 120 (.app 61 3 32 (.t 117) (.t 119)),[])] [] [] [z 121 (.gU (.t 113)),zf 122 0 121,zs (.store 1 [some
 3] (.t 122) (.t 120))]) (.seq (.dv [] [z 4 (.gm (.c (.I 0)))]) (.ret)))))))))))))⟩
def arw:dY prog f100=some amx:=by kernel_rfl
def amw:bj prog f101:=⟨_,by cbv⟩
def akr:=(⟨_,by cbv⟩:Nf (dY prog f199))
def I4:bK:=(⟨_,by cbv⟩:Nf (dV akr.1 0 [])).1
def alu:bj prog f199:=⟨(λa=>(⟨_,by cbv⟩:Nf (eL akr.1 [a])).1) I4,by kernel_rfl⟩
def p43:bj prog f43:=⟨_,by cbv⟩
def al5:bj prog f141:=⟨_,by cbv⟩
def q79:=(⟨_,by cbv⟩:Nf (dY prog f79))
def U6:bK:=(⟨_,by cbv⟩:Nf (dV q79.1 0 [])).1
def p79:bj prog f79:=⟨(λa=>(⟨_,by cbv⟩:Nf (eL q79.1 [a])).1) U6,by kernel_rfl⟩
def I2:bK:=.seq (.seq (.dv [] [zm 20 12,z 21 (.bin .gtr (.t 20) (.c (.I 0)))]) (.ite (.t 21) (.skip) (.exit 0))) (.seq (.block 1 (.seq (.dv [] [zm 24 0,z 25 (.call 79 [.t 24,.c (.i
 .i64 3)]),z 26 (.build [.I 0,.s [],.I 0] [(0,1,.c (.I 1)),(1,1,.t 25)]),z 13 (.alloc 61 [.I 0,.s [],.I 0]),zs (.store 3 [none,none,none] (.t
 13) (.t 26))]) (.seq (.seq (.dv [] [zm 27 0,z 28 (.call 43 [.t 27,.c (.I 8)])]) (.block 2 (.seq (.seq (.dv [] [z 30 (.bin .eql (.t 28) (.c (.I 0))),zm 29 30]) (.ite
 (.t 29) (.skip) (.dv [] [z 31 (.bin .eql (.t 28) (.c (.I 1))),zm 29 31]))) (.ite (.t 29) (.dv [] [z 32 (.dH 1 [none] [.c (.s [110]),.c (.s [110,97,109,101]),.c (.s
 [120,49])]),zm 33 0,z 34 (.call 43 [.t 33,.c (.I 3)]),z 35 (.idx 1 (.t 32) (.t 34)),zl 36 35,z 37 (.build [.I 0,.s [],.I 0] [(0,1,.c (.I 5)),(1,1,
 .t 36)]),zs (.store 3 [none,none,none] (.t 13) (.t 37))]) (.seq (.dv [] [z 39 (.bin .eql (.t 28) (.c (.I 2))),zm 38 39]) (.ite (.t 38) (.seq (.dv [] [zm 40 2]) (.ite (.t
 40) (.seq (.dv [] [zm 41 11,z 42 (.bin .add (.t 41) (.c (.I 1))),zm 11 42]) (.dv [] [z 43 (.dH 1 [none] [.c (.s [98,114]),.c (.s [105,109,103,32,97])]),zm 44 0,
 z 45 (.call 43 [.t 44,.c (.I 2)]),z 46 (.idx 1 (.t 43) (.t 45)),zl 47 46,zm 48 11,z 49 (.build [.I 0,.s [],.I 0] [(0,1,.c (.I 4)),(1,1,.t 47),(2,1,
 .t 48)]),zs (.store 3 [none,none,none] (.t 13) (.t 49))])) (.skip))) (.seq (.seq (.dv [] [z 51 (.bin .eql (.t 28) (.c (.I 3))),zm 50 51]) (.ite (.t 50) (.skip) (.dv [] [z
 52 (.bin .eql (.t 28) (.c (.I 4))),zm 50 52]))) (.ite (.t 50) (.seq (.dv [] [zm 53 2]) (.ite (.t 53) (.seq (.dv [] [zm 54 11,z 55 (.bin .add (.t 54) (.c (.I 1))),zm
 11 55]) (.seq (.dv [] [z 56 (.dH 1 [none] [.c (.s [98]),.c (.s [105]),.c (.s [97,32,104,61,49])]),zm 57 0,z 58 (.call 43 [.t 57,.c (.I 3)]),z 59 (.idx 1 (.t 56)
 (.t 58)),zl 60 59,zm 61 11,z 62 (.build [.I 0,.s [],.I 0] [(0,1,.c (.I 2)),(1,1,.t 60),(2,1,.t 61)]),zs (.store 3 [none,none,none] (.t 13) (.t 62))])
 (.dv [] [zm 63 10,zL 64 3 13,z 65 (.dH 3 [none,none,none] [.t 64]),z 66 (.app 61 3 32 (.t 63) (.t 65)),zm 10 66]))) (.skip))) (.seq (.seq (.dv [] [z 68 (.bin .eql (.t
 28) (.c (.I 5))),zm 67 68]) (.ite (.t 67) (.skip) (.dv [] [z 69 (.bin .eql (.t 28) (.c (.I 6))),zm 67 69]))) (.ite (.t 67) (.seq (.dv [] [zm 70 10,z 71 (.len false
 (.t 70)),z 72 (.bin .sub (.t 71) (.c (.I 1))),zm 14 72]) (.seq (.dv [] [zm 73 14,z 74 (.bin .geq (.t 73) (.c (.I 0)))]) (.ite (.t 74) (.seq (.seq (.dv [] [zm 75 3,z
 76 (.un .not (.t 75))]) (.ite (.t 76) (.dv [] [zm 77 0,zm 78 14,z 79 (.bin .add (.t 78) (.c (.I 1))),z 80 (.call 43 [.t 77,.t 79]),zm 14 80]) (.skip))) (.seq (.jH [([zm
 81 10,zm 82 14,z 83 (.idx 3 (.t 81) (.t 82)),zf 84 1 83,zl 85 84,zm 87 10,zm 88 14,z 89 (.idx 3 (.t 87) (.t 88)),zf 90 2 89,zl 91 90],z 86 (.call 80 [.t 85]),[z 89 (.idx
 3 (.t 87) (.t 88)),zf 90 2 89,zl 91 90])] [] [] [z 92 (.build [.I 0,.s [],.I 0] [(0,1,.c (.I 3)),(1,1,.t 86),(2,1,.t 91)]),zs (.store 3 [none,none,
 none] (.t 13) (.t 92))]) (.jH [([zm 93 10,zm 94 14,z 95 (.slice 3 (.t 93) none (some (.t 94))),zm 97 10,zm 98 14,z 99 (.bin .add (.t 98) (.c (.I 1))),z 100 (.slice 3
 (.t 97) (some (.t 99)) none)],z 96 (.app 61 3 32 (.c .nil) (.t 95)),[z 100 (.slice 3 (.t 97) (some (.t 99)) none)])] [] [] [z 101 (.app 61 3 32 (.t 96) (.t 100)),zm 10 101])))
 (.seq (.dv [104,105] [zm 102 2,zm 103 102,⟨some 104,[(103,true)],.gm (.t 3)⟩,⟨some 105,[(103,true)],.un .not (.t 104)⟩,z 106 (.pick (.t 103) (.t 105) (.c (.b false)))])
 (.ite (.t 106) (.seq (.dv [] [zm 107 11,z 108 (.bin .add (.t 107) (.c (.I 1))),zm 11 108]) (.dv [] [zm 109 11,z 110 (.build [.I 0,.s [],.I 0] [(0,1,.c (.i
 .i64 3)),(1,1,.c (.s [98])),(2,1,.t 109)]),zs (.store 3 [none,none,none] (.t 13) (.t 110))])) (.skip)))))) (.skip))))))))))) (.dv [] [zm 111 9,zL 112 3 13,z 113 (.dH
 3 [none,none,none] [.t 112]),z 114 (.call 48 [.t 111,.t 113]),zm 9 114])))) (.dv [] [zm 22 12,z 23 (.bin .sub (.t 22) (.c (.I 1))),zm 12 23]))
def MA:bK:=.seq (.seq (.dv [121] [zm 118 15,z 119 (.bin .geq (.t 118) (.c (.I 0))),zm 120 119,⟨some 121,[(120,true)],.gm (.t 3)⟩,z 122 (.pick (.t 120) (.t 121) (.c (.b false)))])
 (.ite (.t 122) (.skip) (.exit 3))) (.seq (.block 4 (.jH [([zm 125 9,zm 126 10,zm 127 15,z 128 (.idx 3 (.t 126) (.t 127)),zf 129 1 128,zl 130 129,zm 132 10,zm 133 15,z 134
 (.idx 3 (.t 132) (.t 133)),zf 135 2 134,zl 136 135],z 131 (.call 80 [.t 130]),[z 134 (.idx 3 (.t 132) (.t 133)),zf 135 2 134,zl 136 135])] [z 137 (.build [.I 0,.s [],.i
 .i64 0] [(0,1,.c (.I 3)),(1,1,.t 131),(2,1,.t 136)]),z 138 (.dH 3 [none,none,none] [.t 137])] [] [z 139 (.app 61 3 32 (.t 125) (.t 138)),zm 9 139])) (.dv []
 [zm 123 15,z 124 (.bin .sub (.t 123) (.c (.I 1))),zm 15 124]))
def p34:ux:=⟨141,[.t 8],.seq (.dv [] [z 8 (.gm (.c .nil))]) (.seq (.dv [] [z 9 (.gm (.c .nil)),z 10 (.gm (.c .nil))]) (.seq (.dv [] [z 11 (.gm (.c (.I 0)))]) (.seq (.seq (.dv []
 [zm 16 0,zm 17 1,z 18 (.bin .add (.t 17) (.c (.I 1))),z 19 (.call 43 [.t 16,.t 18]),zm 12 19]) (.block 0 (.loop I2))) (.seq (.seq (.dv [] [zm 115 10,z 116 (.len false
 (.t 115)),z 117 (.bin .sub (.t 116) (.c (.I 1))),zm 15 117]) (.block 3 (.loop MA))) (.seq (.dv [] [zm 140 9,zm 8 140]) (.ret))))))⟩
def c34:dY prog f34=some p34:=by kernel_rfl
def q94:=(⟨_,by cbv⟩:Nf (dY prog f94))
def QA:bK:=(⟨_,by cbv⟩:Nf (dV q94.1 0 [])).1
def p94:bj prog f94:=⟨(λa=>(⟨_,by cbv⟩:Nf (eL q94.1 [a])).1) QA,by kernel_rfl⟩
def p41:ux:=⟨56,[.c 2 (some 8)],.seq (.dv [] [z 2 (.alloc 37 [.nil,.nil,.s [],.s [],.s [],.s [],.I 0,.I 0])]) (.seq (.dv [] [zm 7 0,z 8 (.call 34 [.t 7,.c (.I 4),.c
 (.b true),.c (.b true)]),zm 3 8]) (.seq (.seq (.dv [] [zm 9 3,z 10 (.len false (.t 9)),z 11 (.bin .eql (.t 10) (.c (.I 0)))]) (.ite (.t 11) (.dv [] [z 12 (.dH 1
 [none] [.c (.s [83,97,118,101]),.c (.s [114,101,100,32,99,97,114]),.c (.s [82,101,100,32,99,97,114,115])]),zm 13 0,z 14 (.call 43 [.t 13,.c (.I 3)]),z 15
 (.idx 1 (.t 12) (.t 14)),zl 16 15,z 17 (.build [.I 0,.s [],.I 0] [(0,1,.c (.I 1)),(1,1,.t 16)]),z 18 (.dH 3 [none,none,none] [.t 17]),zm 3 18])
 (.skip))) (.seq (.dv [] [zm 19 0,zm 20 3,z 21 (.call 94 [.t 19,.t 20]),zm 4 21]) (.seq (.dv [] [zm 23 3,zm 24 4,z 25 (.call 49 [.t 23,.t 24]),zm 22 25,z 26 (.ext 0 (.t
 22)),z 27 (.ext 1 (.t 22)),zm 5 26,zm 6 27]) (.seq (.jH [([zm 28 5,zm 29 6,z 30 (.dH 1 [none] [.c (.s []),.c (.s []),.c (.s [83,97,118,101]),.c (.s [114,101,100,
 32,99,97,114])]),zm 31 0,z 35 (.dH 1 [none] [.c (.s []),.c (.s []),.c (.s [120]),.c (.s [83,97,118,101])]),zm 36 0,z 40 (.dH 1 [none] [.c (.s []),.c (.s [97,
 110,110]),.c (.s [98,111,98])]),zm 41 0,z 45 (.dH 1 [none] [.c (.s []),.c (.s [112]),.c (.s [113])]),zm 46 0,zm 50 0,zm 52 0],z 32 (.call 43 [.t 31,.c (.i .i64
 4)]),[z 30 (.dH 1 [none] [.c (.s []),.c (.s []),.c (.s [83,97,118,101]),.c (.s [114,101,100,32,99,97,114])]),z 35 (.dH 1 [none] [.c (.s []),.c (.s []),.c (.s
 [120]),.c (.s [83,97,118,101])]),z 40 (.dH 1 [none] [.c (.s []),.c (.s [97,110,110]),.c (.s [98,111,98])]),z 45 (.dH 1 [none] [.c (.s []),.c (.s [112]),.c (.s
 [113])])]),([z 33 (.idx 1 (.t 30) (.t 32)),zl 34 33],z 37 (.call 43 [.t 36,.c (.I 4)]),[z 30 (.dH 1 [none] [.c (.s []),.c (.s []),.c (.s [83,97,118,101]),.c (.s
 [114,101,100,32,99,97,114])]),z 33 (.idx 1 (.t 30) (.t 32)),zl 34 33,z 35 (.dH 1 [none] [.c (.s []),.c (.s []),.c (.s [120]),.c (.s [83,97,118,101])]),z 40
 (.dH 1 [none] [.c (.s []),.c (.s [97,110,110]),.c (.s [98,111,98])]),z 45 (.dH 1 [none] [.c (.s []),.c (.s [112]),.c (.s [113])])]),([z 38 (.idx 1 (.t 35) (.t
 37)),zl 39 38],z 42 (.call 43 [.t 41,.c (.I 3)]),[z 30 (.dH 1 [none] [.c (.s []),.c (.s []),.c (.s [83,97,118,101]),.c (.s [114,101,100,32,99,97,114])]),z
 33 (.idx 1 (.t 30) (.t 32)),zl 34 33,z 35 (.dH 1 [none] [.c (.s []),.c (.s []),.c (.s [120]),.c (.s [83,97,118,101])]),z 38 (.idx 1 (.t 35) (.t 37)),zl 39 38,z 40
 (.dH 1 [none] [.c (.s []),.c (.s [97,110,110]),.c (.s [98,111,98])]),z 45 (.dH 1 [none] [.c (.s []),.c (.s [112]),.c (.s [113])])]),([z 43 (.idx 1 (.t 40) (.t
 42)),zl 44 43],z 47 (.call 43 [.t 46,.c (.I 3)]),[z 30 (.dH 1 [none] [.c (.s []),.c (.s []),.c (.s [83,97,118,101]),.c (.s [114,101,100,32,99,97,114])]),z
 33 (.idx 1 (.t 30) (.t 32)),zl 34 33,z 35 (.dH 1 [none] [.c (.s []),.c (.s []),.c (.s [120]),.c (.s [83,97,118,101])]),z 38 (.idx 1 (.t 35) (.t 37)),zl 39 38,z 40
 (.dH 1 [none] [.c (.s []),.c (.s [97,110,110]),.c (.s [98,111,98])]),z 43 (.idx 1 (.t 40) (.t 42)),zl 44 43,z 45 (.dH 1 [none] [.c (.s []),.c (.s [112]),.c (.s
 [113])])]),([z 48 (.idx 1 (.t 45) (.t 47)),zl 49 48],z 51 (.call 43 [.t 50,.c (.I 50)]),[z 30 (.dH 1 [none] [.c (.s []),.c (.s []),.c (.s [83,97,118,101]),.c (.s
 [114,101,100,32,99,97,114])]),z 33 (.idx 1 (.t 30) (.t 32)),zl 34 33,z 35 (.dH 1 [none] [.c (.s []),.c (.s []),.c (.s [120]),.c (.s [83,97,118,101])]),z 38 (.idx
 1 (.t 35) (.t 37)),zl 39 38,z 40 (.dH 1 [none] [.c (.s []),.c (.s [97,110,110]),.c (.s [98,111,98])]),z 43 (.idx 1 (.t 40) (.t 42)),zl 44 43,z 45 (.dH 1 [none]
 [.c (.s []),.c (.s [112]),.c (.s [113])]),z 48 (.idx 1 (.t 45) (.t 47)),zl 49 48]),([],z 53 (.call 43 [.t 52,.c (.I 3)]),[z 30 (.dH 1 [none] [.c (.s []),.c (.s
 []),.c (.s [83,97,118,101]),.c (.s [114,101,100,32,99,97,114])]),z 33 (.idx 1 (.t 30) (.t 32)),zl 34 33,z 35 (.dH 1 [none] [.c (.s []),.c (.s []),.c (.s [120]),
 .c (.s [83,97,118,101])]),z 38 (.idx 1 (.t 35) (.t 37)),zl 39 38,z 40 (.dH 1 [none] [.c (.s []),.c (.s [97,110,110]),.c (.s [98,111,98])]),z 43 (.idx 1 (.t 40) (.t
 42)),zl 44 43,z 45 (.dH 1 [none] [.c (.s []),.c (.s [112]),.c (.s [113])]),z 48 (.idx 1 (.t 45) (.t 47)),zl 49 48])] [z 54 (.bin .add (.c (.I 1)) (.t 53))] [] [z 55
 (.build [.nil,.nil,.s [],.s [],.s [],.s [],.I 0,.I 0] [(0,1,.t 28),(1,1,.t 29),(2,1,.t 34),(3,1,.t 39),(4,1,.t 44),(5,1,.t 49),(6,1,.t 51),(7,
 1,.t 54)]),zs (.store 8 [some 3,some 3,none,none,none,none,none,none] (.t 2) (.t 55))]) (.ret))))))⟩
def c41:dY prog f41=some p41:=by kernel_rfl
end Go.Proofs.Tryz
