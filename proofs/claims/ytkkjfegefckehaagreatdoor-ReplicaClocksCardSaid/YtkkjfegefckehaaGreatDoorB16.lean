/- A part of the proof of the statement of the last text of this claim; its conditions stand there. -/
import Derived.Test.YtkkjfegefckehaaGreatDoorProg
import Derived.KernelRfl
import Derived.Test.YtkkjfegefckehaaGreatDoorB13
set_option linter.all false

namespace Go.Proofs.Tryz
open Go Go.Pm
set_option maxRecDepth 100000
def abY:=(⟨_,by conv=>lhs;cbv⟩:Nf (aP prog f165))
def C2:bw:=(⟨_,by conv=>lhs;cbv⟩:Nf (dW abY.1 0 [])).1
def adk:bT:=(fun b0=>(⟨_,by conv=>lhs;cbv⟩:Nf (bW abY.1 [b0])).1) C2
theorem aj8:aP prog f165=some adk:=by kernel_rfl
def abX:=(⟨_,by conv=>lhs;cbv⟩:Nf (aP prog f168))
def Ho:bw:=(⟨_,by conv=>lhs;cbv⟩:Nf (dW abX.1 0 [])).1
def adh:bT:=(fun b0=>(⟨_,by conv=>lhs;cbv⟩:Nf (bW abX.1 [b0])).1) Ho
theorem aj5:aP prog f168=some adh:=by kernel_rfl
def YD:=(⟨_,by conv=>lhs;cbv⟩:Nf (aP prog f207))
def CU:bw:=(⟨_,by conv=>lhs;cbv⟩:Nf (dW YD.1 0 [])).1
def Hc:bw:=(fun b0=>(⟨_,by conv=>lhs;cbv⟩:Nf (dW YD.1 1 [b0])).1) CU
def acQ:bT:=(fun b0 b1=>(⟨_,by conv=>lhs;cbv⟩:Nf (bW YD.1 [b0,b1])).1) CU Hc
theorem ajF:aP prog f207=some acQ:=by kernel_rfl
def YH:=(⟨_,by conv=>lhs;cbv⟩:Nf (aP prog f167))
def Hp:bw:=(⟨_,by conv=>lhs;cbv⟩:Nf (dW YH.1 0 [])).1
def C1:bw:=(⟨_,by conv=>lhs;cbv⟩:Nf (dW YH.1 1 [])).1
def adi:bT:=(fun b0 b1=>(⟨_,by conv=>lhs;cbv⟩:Nf (bW YH.1 [b0,b1])).1) Hp C1
theorem aj6:aP prog f167=some adi:=by kernel_rfl
def ack:=(⟨_,by conv=>lhs;cbv⟩:Nf (aP prog f104))
def HL:bw:=(⟨_,by conv=>lhs;cbv⟩:Nf (dW ack.1 0 [])).1
def ad3:bT:=(fun b0=>(⟨_,by conv=>lhs;cbv⟩:Nf (bW ack.1 [b0])).1) HL
theorem akO:aP prog f104=some ad3:=by kernel_rfl
def ad2:bT:=(⟨_,by conv=>lhs;cbv⟩:Nf (bW (aP prog f105) [])).1
theorem akN:aP prog f105=some ad2:=by kernel_rfl
def adj:bT:=(⟨_,by conv=>lhs;cbv⟩:Nf (bW (aP prog f166) [])).1
theorem aj7:aP prog f166=some adj:=by kernel_rfl
def abL:=(⟨_,by conv=>lhs;cbv⟩:Nf (aP prog f206))
def Hd:bw:=(⟨_,by conv=>lhs;cbv⟩:Nf (dW abL.1 0 [])).1
def acR:bT:=(fun b0=>(⟨_,by conv=>lhs;cbv⟩:Nf (bW abL.1 [b0])).1) Hd
theorem ajG:aP prog f206=some acR:=by kernel_rfl
def abW:=(⟨_,by conv=>lhs;cbv⟩:Nf (aP prog f169))
def Hn:bw:=(⟨_,by conv=>lhs;cbv⟩:Nf (dW abW.1 0 [])).1
def adg:bT:=(fun b0=>(⟨_,by conv=>lhs;cbv⟩:Nf (bW abW.1 [b0])).1) Hn
theorem aj4:aP prog f169=some adg:=by kernel_rfl
def p58:bT:=(⟨_,by conv=>lhs;cbv⟩:Nf (bW (aP prog f58) [])).1
theorem c58:aP prog f58=some p58:=by kernel_rfl
def adB:bT:=(⟨_,by conv=>lhs;cbv⟩:Nf (bW (aP prog f136) [])).1
theorem akq:aP prog f136=some adB:=by kernel_rfl
def p83:bT:=(⟨_,by conv=>lhs;cbv⟩:Nf (bW (aP prog f83) [])).1
theorem c83:aP prog f83=some p83:=by kernel_rfl
def adW:bT:=(⟨_,by conv=>lhs;cbv⟩:Nf (bW (aP prog f111) [])).1
theorem akI:aP prog f111=some adW:=by kernel_rfl
def adX:bT:=(⟨_,by conv=>lhs;cbv⟩:Nf (bW (aP prog f110) [])).1
theorem Fj:aP prog f110=some adX:=by kernel_rfl
def q60:=(⟨_,by conv=>lhs;cbv⟩:Nf (aP prog f60))
def NV:bw:=(⟨_,by conv=>lhs;cbv⟩:Nf (dW q60.1 0 [])).1
def p60:bT:=(fun b0=>(⟨_,by conv=>lhs;cbv⟩:Nf (bW q60.1 [b0])).1) NV
theorem wm:aP prog f60=some p60:=by kernel_rfl
def acH:bT:=(⟨_,by conv=>lhs;cbv⟩:Nf (bW (aP prog f219) [])).1
theorem ajw:aP prog f219=some acH:=by kernel_rfl
def acj:=(⟨_,by conv=>lhs;cbv⟩:Nf (aP prog f106))
def HK:bw:=(⟨_,by conv=>lhs;cbv⟩:Nf (dW acj.1 0 [])).1
def ad1:bT:=(fun b0=>(⟨_,by conv=>lhs;cbv⟩:Nf (bW acj.1 [b0])).1) HK
theorem akM:aP prog f106=some ad1:=by kernel_rfl
def ade:bT:=⟨123,[.t 4],.seq (.dq [] [z 3 (.box 76 (.t 1)),z 4 (.k6 (.c (.i .i64 0)))]) (.seq (.dq [13,14,15] [zf 9 0 3,zl 10 9,z 11 (.bin .neq (.t 10) (.c (.i .i64 1))),zm 12 11,
 ⟨some 13,[(12,true)],.tE 0 (.t 3)⟩,⟨some 14,[(12,true)],.load none (.t 13)⟩,⟨some 15,[(12,true)],.bin .neq (.t 14) (.c (.i .i64 5))⟩,z 16 (.pick (.t 12) (.t 15) (.c (.b
 false))),zm 5 16]) (.seq (.seq (.dq [] [zm 17 5]) (.ite (.t 17) (.seq (.kp [([zm 19 0,z 20 (.lF (.t 19)),zf 21 3 20,zl 22 21,zf 23 2 3,zl 24 23,z 25 (.look 0 (.agg [.i
 .i64 0,.s [],.i .i64 0]) true (.t 22) (.t 24)),zm 18 25,z 26 (.ext 0 (.t 18)),z 27 (.ext 1 (.t 18))],z 6 (.alloc 76 [.i .i64 0,.s [],.i .i64 0]),[z 20 (.lF (.t 19)),zf
 21 3 20,zl 22 21,zf 23 2 3,zl 24 23,z 25 (.look 0 (.agg [.i .i64 0,.s [],.i .i64 0]) true (.t 22) (.t 24))]),([],zs (.store 3 [none,none,none] (.t 6) (.t 26)),[])] [] []
 [zm 7 27]) (.seq (.kp [([zm 28 7,zm 29 28,⟨some 30,[(29,true)],.tE 0 (.t 3)⟩,⟨some 31,[(29,true)],.load none (.t 30)⟩,⟨some 32,[(29,true)],.bin .neq (.t 31) (.c (.i
 .i64 3))⟩,⟨some 33,[(29,true)],.k6 (.t 32)⟩,⟨some 34,[(29,true),(33,false)],.tE 0 (.t 6)⟩,⟨some 35,[(29,true),(33,false)],.load none (.t 34)⟩,⟨some 36,[(29,
 true),(33,false)],.bin .neq (.t 35) (.c (.i .i64 2))⟩,⟨some 37,[(29,true)],.pick (.t 33) (.c (.b true)) (.t 36)⟩,⟨some 38,[(29,true)],.k6 (.t 37)⟩,⟨some 39,[(29,
 true),(38,false)],.tE 1 (.t 6)⟩,⟨some 40,[(29,true),(38,false)],.load none (.t 39)⟩,⟨some 42,[(29,true),(38,false)],.tE 1 (.t 3)⟩,⟨some 43,[(29,true),(38,
 false)],.load none (.t 42)⟩],⟨some 41,[(29,true),(38,false)],.call 212 [.t 40]⟩,[⟨some 42,[(29,true),(38,false)],.tE 1 (.t 3)⟩,⟨some 43,[(29,true),(38,false)],
 .load none (.t 42)⟩])] [] [30,31,32,33,34,35,36,37,38,39,40,41,42,43,44,45] [⟨some 44,[(29,true),(38,false)],.bin .neq (.t 41) (.t 43)⟩,⟨some 45,[(29,true)],
 .pick (.t 38) (.c (.b true)) (.t 44)⟩,z 46 (.pick (.t 29) (.t 45) (.c (.b false)))]) (.ite (.t 46) (.seq (.dq [] [z 4 (.k6 (.c (.i .i64 7)))]) (.ret)) (.skip)))) (.skip))) (.seq
 (.dq [] [zm 47 0,z 48 (.lF (.t 47)),zf 49 0 48,zl 50 49,z 51 (.len false (.t 50)),zm 8 51]) (.seq (.seq (.dq [] [zm 52 0,z 53 (.lF (.t 52)),zf 54 1 53,zl 55 54,z 56
 (.len false (.t 55)),z 57 (.bin .gtr (.t 56) (.c (.i .i64 0)))]) (.ite (.t 57) (.dq [] [zm 58 8,z 59 (.bin .add (.t 58) (.c (.i .i64 1))),zm 8 59]) (.skip))) (.seq (.seq (.dq
 [64,65,66,67,68,69] [zf 60 0 3,zl 61 60,z 62 (.bin .neq (.t 61) (.c (.i .i64 1))),zm 63 62,⟨some 64,[(63,false)],.k6 (.t 0)⟩,⟨some 65,[(63,false)],.lF (.t 64)⟩,
 ⟨some 66,[(63,false)],.tE 1 (.t 65)⟩,⟨some 67,[(63,false)],.load none (.t 66)⟩,⟨some 68,[(63,false)],.len false (.t 67)⟩,⟨some 69,[(63,false)],.bin .eql (.t 68) (.c
 (.i .i64 0))⟩,z 70 (.pick (.t 63) (.c (.b true)) (.t 69))]) (.ite (.t 70) (.dq [] [zm 71 8,z 72 (.bin .add (.t 71) (.c (.i .i64 1))),zm 8 72]) (.skip))) (.seq (.seq (.dq [76,
 77,78,79,80,81] [zm 73 8,z 74 (.bin .gtr (.t 73) (.c (.i .i64 512))),zm 75 74,⟨some 76,[(75,false)],.k6 (.t 0)⟩,⟨some 77,[(75,false)],.lF (.t 76)⟩,⟨some 78,[(75,
 false)],.tE 2 (.t 77)⟩,⟨some 79,[(75,false)],.load none (.t 78)⟩,⟨some 80,[(75,false)],.bin .add (.t 79) (.c (.i .i64 1))⟩,⟨some 81,[(75,false)],.bin .gtr (.t 80) (.c
 (.i .i64 1024))⟩,z 82 (.pick (.t 75) (.c (.b true)) (.t 81))]) (.ite (.t 82) (.seq (.dq [] [z 4 (.k6 (.c (.i .i64 3)))]) (.ret)) (.skip))) (.seq (.dq [] [zm 83 0,z 84 (.lF
 (.t 83)),zf 85 2 84,zl 86 85,z 87 (.bin .add (.t 86) (.c (.i .i64 1))),z 88 (.lF (.t 83)),zf 89 2 88,zs (.store 1 [none] (.t 89) (.t 87))]) (.seq (.seq (.dq [] [zf 90 0 3,
 zl 91 90,z 92 (.bin .eql (.t 91) (.c (.i .i64 1)))]) (.ite (.t 92) (.seq (.kp [([zm 93 0,zm 94 0,z 95 (.lF (.t 94)),zf 96 1 95,zl 97 96,zf 98 1 3,zl 99 98],z 100 (.apps
 5 (.t 97) (.t 99)),[])] [] [] [z 101 (.lF (.t 93)),zf 102 1 101,zs (.store 1 [some 1] (.t 102) (.t 100))]) (.seq (.dq [] [z 4 (.k6 (.c (.i .i64 0)))]) (.ret))) (.skip)))
 (.seq (.seq (.dq [] [zm 103 5]) (.ite (.t 103) (.kp [] [zm 104 0,z 105 (.lF (.t 104)),zf 106 3 105,zl 107 106,zf 108 2 3,zl 109 108,zL 110 3 3] [] [zs (.Kj 0 [none,
 none,none] (.t 107) (.t 109) (.t 110))]) (.skip))) (.seq (.dq [] [zm 111 0,z 112 (.call 172 [.t 111])]) (.seq (.kp [([zm 113 0,zm 114 0,z 115 (.lF (.t 114)),zf 116 0 115,
 zl 117 116,zL 118 3 3,z 119 (.dj 3 [none,none,none] [.t 118])],z 120 (.app 76 3 32 (.t 117) (.t 119)),[])] [] [] [z 121 (.lF (.t 113)),zf 122 0 121,zs (.store 1 [some
 3] (.t 122) (.t 120))]) (.seq (.dq [] [z 4 (.k6 (.c (.i .i64 0)))]) (.ret)))))))))))))⟩
theorem aj1:aP prog f171=some ade:=by kernel_rfl
def adb:bT:=(⟨_,by conv=>lhs;cbv⟩:Nf (bW (aP prog f172) [])).1
theorem aj0:aP prog f172=some adb:=by kernel_rfl
def ab2:=(⟨_,by conv=>lhs;cbv⟩:Nf (aP prog f148))
def C3:bw:=(⟨_,by conv=>lhs;cbv⟩:Nf (dW ab2.1 0 [])).1
def adr:bT:=(fun b0=>(⟨_,by conv=>lhs;cbv⟩:Nf (bW ab2.1 [b0])).1) C3
theorem akg:aP prog f148=some adr:=by kernel_rfl
def p82:bT:=(⟨_,by conv=>lhs;cbv⟩:Nf (bW (aP prog f82) [])).1
theorem c82:aP prog f82=some p82:=by kernel_rfl
def ab5:=(⟨_,by conv=>lhs;cbv⟩:Nf (aP prog f134))
def Hv:bw:=(⟨_,by conv=>lhs;cbv⟩:Nf (dW ab5.1 0 [])).1
def adC:bT:=(fun b0=>(⟨_,by conv=>lhs;cbv⟩:Nf (bW ab5.1 [b0])).1) Hv
theorem akr:aP prog f134=some adC:=by kernel_rfl
def acG:bT:=(⟨_,by conv=>lhs;cbv⟩:Nf (bW (aP prog f220) [])).1
theorem ajv:aP prog f220=some acG:=by kernel_rfl
def YN:bT:=(⟨_,by conv=>lhs;cbv⟩:Nf (bW (aP prog f147) [])).1
theorem afo:aP prog f147=some YN:=by kernel_rfl
def YO:bT:=(⟨_,by conv=>lhs;cbv⟩:Nf (bW (aP prog f146) [])).1
theorem afp:aP prog f146=some YO:=by kernel_rfl
def ab1:=(⟨_,by conv=>lhs;cbv⟩:Nf (aP prog f149))
def Hs:bw:=(⟨_,by conv=>lhs;cbv⟩:Nf (dW ab1.1 0 [])).1
def adq:bT:=(fun b0=>(⟨_,by conv=>lhs;cbv⟩:Nf (bW ab1.1 [b0])).1) Hs
theorem akf:aP prog f149=some adq:=by kernel_rfl
def q97:=(⟨_,by conv=>lhs;cbv⟩:Nf (aP prog f97))
def NH:bw:=(⟨_,by conv=>lhs;cbv⟩:Nf (dW q97.1 0 [])).1
def p97:bT:=(fun b0=>(⟨_,by conv=>lhs;cbv⟩:Nf (bW q97.1 [b0])).1) NH
theorem c97:aP prog f97=some p97:=by kernel_rfl
def abR:=(⟨_,by conv=>lhs;cbv⟩:Nf (aP prog f184))
def CY:bw:=(⟨_,by conv=>lhs;cbv⟩:Nf (dW abR.1 0 [])).1
def ac3:bT:=(fun b0=>(⟨_,by conv=>lhs;cbv⟩:Nf (bW abR.1 [b0])).1) CY
theorem ajS:aP prog f184=some ac3:=by kernel_rfl
def acd:=(⟨_,by conv=>lhs;cbv⟩:Nf (aP prog f122))
def HE:bw:=(⟨_,by conv=>lhs;cbv⟩:Nf (dW acd.1 0 [])).1
def adN:bT:=(fun b0=>(⟨_,by conv=>lhs;cbv⟩:Nf (bW acd.1 [b0])).1) HE
theorem akB:aP prog f122=some adN:=by kernel_rfl
def q67:=(⟨_,by conv=>lhs;cbv⟩:Nf (aP prog f67))
def JW:bw:=(⟨_,by conv=>lhs;cbv⟩:Nf (dW q67.1 0 [])).1
def p67:bT:=(fun b0=>(⟨_,by conv=>lhs;cbv⟩:Nf (bW q67.1 [b0])).1) JW
theorem c67:aP prog f67=some p67:=by kernel_rfl
def p79:bT:=(⟨_,by conv=>lhs;cbv⟩:Nf (bW (aP prog f79) [])).1
theorem c79:aP prog f79=some p79:=by kernel_rfl
def adE:bT:=(⟨_,by conv=>lhs;cbv⟩:Nf (bW (aP prog f131) [])).1
theorem akt:aP prog f131=some adE:=by kernel_rfl
def q37:=(⟨_,by conv=>lhs;cbv⟩:Nf (aP prog f37))
def N0:bw:=(⟨_,by conv=>lhs;cbv⟩:Nf (dW q37.1 0 [])).1
def p37:bT:=(fun b0=>(⟨_,by conv=>lhs;cbv⟩:Nf (bW q37.1 [b0])).1) N0
theorem c37:aP prog f37=some p37:=by kernel_rfl
def p34:bT:=(⟨_,by conv=>lhs;cbv⟩:Nf (bW (aP prog f34) [])).1
theorem c34:aP prog f34=some p34:=by kernel_rfl
def p25:bT:=(⟨_,by conv=>lhs;cbv⟩:Nf (bW (aP prog f25) [])).1
theorem c25:aP prog f25=some p25:=by kernel_rfl
def p62:bT:=⟨54,[.t 4],.seq (.dq [] [z 2 (.box 29 (.t 0)),z 3 (.box 29 (.t 1)),z 4 (.k6 (.c (.i .i64 0)))]) (.seq (.both (.kp [([zf 12 0 2,zL 13 3 12,zf 14 0 3,zL 15 3 14],z 5
 (.alloc 24 [.i .i64 0,.i .i64 0,.i .i64 0]),[zf 12 0 2,zL 13 3 12,zf 14 0 3,zL 15 3 14]),([],z 6 (.alloc 24 [.i .i64 0,.i .i64 0,.i .i64 0]),[zf 12 0 2,zL 13 3 12,zf 14
 0 3,zL 15 3 14]),([],zs (.store 3 [none,none,none] (.t 5) (.t 13)),[zf 14 0 3,zL 15 3 14])] [] [] [zs (.store 3 [none,none,none] (.t 6) (.t 15))]) (.kp [([zf 12 0 2,zL
 13 3 12,zf 14 0 3,zL 15 3 14],z 6 (.alloc 24 [.i .i64 0,.i .i64 0,.i .i64 0]),[zf 12 0 2,zL 13 3 12,zf 14 0 3,zL 15 3 14]),([],z 5 (.alloc 24 [.i .i64 0,.i .i64 0,.i
 .i64 0]),[zf 12 0 2,zL 13 3 12,zf 14 0 3,zL 15 3 14]),([],zs (.store 3 [none,none,none] (.t 5) (.t 13)),[zf 14 0 3,zL 15 3 14])] [] [] [zs (.store 3 [none,none,none] (.t
 6) (.t 15))])) (.seq (.seq (.kp [([zf 16 1 5,zl 17 16,zf 18 1 6,zl 19 18,zf 21 2 5,zl 22 21,zf 23 2 6,zl 24 23,zf 26 0 5,zl 27 26,zf 28 0 6,zl 29 28,zf 31 3 2,zl 32
 31,zf 33 3 3,zl 34 33],z 20 (.call 102 [.t 17,.t 19]),[zf 21 2 5,zl 22 21,zf 23 2 6,zl 24 23,zf 26 0 5,zl 27 26,zf 28 0 6,zl 29 28,zf 31 3 2,zl 32 31,zf 33 3 3,zl 34
 33]),([],z 25 (.call 102 [.t 22,.t 24]),[zf 26 0 5,zl 27 26,zf 28 0 6,zl 29 28,zf 31 3 2,zl 32 31,zf 33 3 3,zl 34 33]),([],z 30 (.call 102 [.t 27,.t 29]),[zf 31 3 2,
 zl 32 31,zf 33 3 3,zl 34 33])] [] [] [z 35 (.call 102 [.t 32,.t 34]),z 36 (.dj 1 [none] [.t 20,.t 25,.t 30,.t 35]),z 37 (.call 101 [.t 36]),zm 7 37]) (.seq (.dq [] [zm
 38 7,z 39 (.bin .neq (.t 38) (.c (.i .i64 0)))]) (.ite (.t 39) (.seq (.dq [] [zm 40 7,zm 4 40]) (.ret)) (.skip)))) (.seq (.dq [] [zL 42 13 2,z 43 (.call 97 [.t 42]),zm 41 43,
 z 44 (.ext 0 (.t 41)),z 45 (.ext 1 (.t 41)),zm 8 44,zm 9 45]) (.seq (.dq [] [zL 47 13 3,z 48 (.call 97 [.t 47]),zm 46 48,z 49 (.ext 0 (.t 46)),z 50 (.ext 1 (.t 46)),zm 10
 49,zm 11 50]) (.seq (.dq [] [zm 51 8,zm 52 10,z 53 (.call 114 [.t 51,.t 52]),zm 4 53]) (.ret))))))⟩
theorem c62:aP prog f62=some p62:=by kernel_rfl
def ads:bT:=(⟨_,by conv=>lhs;cbv⟩:Nf (bW (aP prog f145) [])).1
theorem akh:aP prog f145=some ads:=by kernel_rfl
def q94:=(⟨_,by conv=>lhs;cbv⟩:Nf (aP prog f94))
def NI:bw:=(⟨_,by conv=>lhs;cbv⟩:Nf (dW q94.1 0 [])).1
def p94:bT:=(fun b0=>(⟨_,by conv=>lhs;cbv⟩:Nf (bW q94.1 [b0])).1) NI
theorem c94:aP prog f94=some p94:=by kernel_rfl
def p96:bT:=(⟨_,by conv=>lhs;cbv⟩:Nf (bW (aP prog f96) [])).1
theorem c96:aP prog f96=some p96:=by kernel_rfl
def p95:bT:=(⟨_,by conv=>lhs;cbv⟩:Nf (bW (aP prog f95) [])).1
theorem c95:aP prog f95=some p95:=by kernel_rfl
def q55:=(⟨_,by conv=>lhs;cbv⟩:Nf (aP prog f55))
def NW:bw:=(⟨_,by conv=>lhs;cbv⟩:Nf (dW q55.1 0 [])).1
def p55:bT:=(fun b0=>(⟨_,by conv=>lhs;cbv⟩:Nf (bW q55.1 [b0])).1) NW
theorem c55:aP prog f55=some p55:=by kernel_rfl
def p98:bT:=(⟨_,by conv=>lhs;cbv⟩:Nf (bW (aP prog f98) [])).1
theorem c98:aP prog f98=some p98:=by kernel_rfl
def acb:=(⟨_,by conv=>lhs;cbv⟩:Nf (aP prog f123))
def HD:bw:=(⟨_,by conv=>lhs;cbv⟩:Nf (dW acb.1 0 [])).1
def adM:bT:=(fun b0=>(⟨_,by conv=>lhs;cbv⟩:Nf (bW acb.1 [b0])).1) HD
theorem nJ:aP prog f123=some adM:=by kernel_rfl
def adv:bT:=(⟨_,by conv=>lhs;cbv⟩:Nf (bW (aP prog f142) [])).1
theorem akk:aP prog f142=some adv:=by kernel_rfl
def adw:bT:=(⟨_,by conv=>lhs;cbv⟩:Nf (bW (aP prog f141) [])).1
theorem akl:aP prog f141=some adw:=by kernel_rfl
def q90:=(⟨_,by conv=>lhs;cbv⟩:Nf (aP prog f90))
def NK:bw:=(⟨_,by conv=>lhs;cbv⟩:Nf (dW q90.1 0 [])).1
def p90:bT:=(fun b0=>(⟨_,by conv=>lhs;cbv⟩:Nf (bW q90.1 [b0])).1) NK
theorem c90:aP prog f90=some p90:=by kernel_rfl
def p13:bT:=(⟨_,by conv=>lhs;cbv⟩:Nf (bW (aP prog f13) [])).1
theorem c13:aP prog f13=some p13:=by kernel_rfl
def p57:bT:=(⟨_,by conv=>lhs;cbv⟩:Nf (bW (aP prog f57) [])).1
theorem c57:aP prog f57=some p57:=by kernel_rfl
def p61:bT:=(⟨_,by conv=>lhs;cbv⟩:Nf (bW (aP prog f61) [])).1
theorem c61:aP prog f61=some p61:=by kernel_rfl
def YP:bT:=(⟨_,by conv=>lhs;cbv⟩:Nf (bW (aP prog f113) [])).1
theorem afq:aP prog f113=some YP:=by kernel_rfl
def p63:bT:=(⟨_,by conv=>lhs;cbv⟩:Nf (bW (aP prog f63) [])).1
theorem c63:aP prog f63=some p63:=by kernel_rfl
def p59:bT:=(⟨_,by conv=>lhs;cbv⟩:Nf (bW (aP prog f59) [])).1
theorem c59:aP prog f59=some p59:=by kernel_rfl
def p17:bT:=(⟨_,by conv=>lhs;cbv⟩:Nf (bW (aP prog f17) [])).1
theorem c17:aP prog f17=some p17:=by kernel_rfl
def YL:bT:=(⟨_,by conv=>lhs;cbv⟩:Nf (bW (aP prog f19) [])).1
theorem c19:aP prog f19=some YL:=by kernel_rfl
def p15:bT:=(⟨_,by conv=>lhs;cbv⟩:Nf (bW (aP prog f15) [])).1
theorem c15:aP prog f15=some p15:=by kernel_rfl
def q16:=(⟨_,by conv=>lhs;cbv⟩:Nf (aP prog f16))
def J2:bw:=(⟨_,by conv=>lhs;cbv⟩:Nf (dW q16.1 0 [])).1
def p16:bT:=(fun b0=>(⟨_,by conv=>lhs;cbv⟩:Nf (bW q16.1 [b0])).1) J2
theorem c16:aP prog f16=some p16:=by kernel_rfl
def q23:=(⟨_,by conv=>lhs;cbv⟩:Nf (aP prog f23))
def J1:bw:=(⟨_,by conv=>lhs;cbv⟩:Nf (dW q23.1 0 [])).1
def J0:bw:=(⟨_,by conv=>lhs;cbv⟩:Nf (dW q23.1 1 [])).1
def N6:bw:=(fun b0=>(⟨_,by conv=>lhs;cbv⟩:Nf (dW q23.1 2 [b0])).1) J0
def p23:bT:=(fun b0 b1 b2=>(⟨_,by conv=>lhs;cbv⟩:Nf (bW q23.1 [b0,b1,b2])).1) J1 J0 N6
theorem c23:aP prog f23=some p23:=by kernel_rfl
def p24:bT:=(⟨_,by conv=>lhs;cbv⟩:Nf (bW (aP prog f24) [])).1
theorem c24:aP prog f24=some p24:=by kernel_rfl
def acg:=(⟨_,by conv=>lhs;cbv⟩:Nf (aP prog f112))
def C6:bw:=(⟨_,by conv=>lhs;cbv⟩:Nf (dW acg.1 0 [])).1
def adV:bT:=(fun b0=>(⟨_,by conv=>lhs;cbv⟩:Nf (bW acg.1 [b0])).1) C6
theorem akH:aP prog f112=some adV:=by kernel_rfl
def p52:bT:=(⟨_,by conv=>lhs;cbv⟩:Nf (bW (aP prog f52) [])).1
theorem c52:aP prog f52=some p52:=by kernel_rfl
def q91:=(⟨_,by conv=>lhs;cbv⟩:Nf (aP prog f91))
def NJ:bw:=(⟨_,by conv=>lhs;cbv⟩:Nf (dW q91.1 0 [])).1
def p91:bT:=(fun b0=>(⟨_,by conv=>lhs;cbv⟩:Nf (bW q91.1 [b0])).1) NJ
theorem c91:aP prog f91=some p91:=by kernel_rfl
def ab3:=(⟨_,by conv=>lhs;cbv⟩:Nf (aP prog f144))
def Ht:bw:=(⟨_,by conv=>lhs;cbv⟩:Nf (dW ab3.1 0 [])).1
def adt:bT:=(fun b0=>(⟨_,by conv=>lhs;cbv⟩:Nf (bW ab3.1 [b0])).1) Ht
theorem aki:aP prog f144=some adt:=by kernel_rfl
def ada:bT:=(⟨_,by conv=>lhs;cbv⟩:Nf (bW (aP prog f174) [])).1
theorem ajZ:aP prog f174=some ada:=by kernel_rfl
def adu:bT:=(⟨_,by conv=>lhs;cbv⟩:Nf (bW (aP prog f143) [])).1
theorem akj:aP prog f143=some adu:=by kernel_rfl
def adU:bT:=(⟨_,by conv=>lhs;cbv⟩:Nf (bW (aP prog f115) [])).1
theorem akG:aP prog f115=some adU:=by kernel_rfl
def p93:bT:=(⟨_,by conv=>lhs;cbv⟩:Nf (bW (aP prog f93) [])).1
theorem c93:aP prog f93=some p93:=by kernel_rfl
def q54:=(⟨_,by conv=>lhs;cbv⟩:Nf (aP prog f54))
def JY:bw:=(⟨_,by conv=>lhs;cbv⟩:Nf (dW q54.1 0 [])).1
def p54:bT:=(fun b0=>(⟨_,by conv=>lhs;cbv⟩:Nf (bW q54.1 [b0])).1) JY
theorem c54:aP prog f54=some p54:=by kernel_rfl
def p53:bT:=(⟨_,by conv=>lhs;cbv⟩:Nf (bW (aP prog f53) [])).1
theorem c53:aP prog f53=some p53:=by kernel_rfl
def YG:=(⟨_,by conv=>lhs;cbv⟩:Nf (aP prog f175))
def Hm:bw:=(⟨_,by conv=>lhs;cbv⟩:Nf (dW YG.1 0 [])).1
def Hl:bw:=(⟨_,by conv=>lhs;cbv⟩:Nf (dW YG.1 1 [])).1
def ac9:bT:=(fun b0 b1=>(⟨_,by conv=>lhs;cbv⟩:Nf (bW YG.1 [b0,b1])).1) Hm Hl
theorem ajY:aP prog f175=some ac9:=by kernel_rfl
def p18:bT:=(⟨_,by conv=>lhs;cbv⟩:Nf (bW (aP prog f18) [])).1
theorem c18:aP prog f18=some p18:=by kernel_rfl
def Q4:bT:=⟨82,[.t 0],.seq (.dq [] [z 0 (.k6 (.c (.b false)))]) (.seq (.dq [] [z 12 (.call 13 [.c (.i .i64 2)]),zm 11 12,z 13 (.ext 0 (.t 11)),z 14 (.ext 1 (.t 11)),z 1 (.alloc 36 [.i
 .i64 0,.i .i64 0,.nil,.nil,.i .i64 0,.b false]),zs (.store 6 [none,none,some 13,some 1,none,none] (.t 1) (.t 13)),zm 2 14]) (.seq (.M1 [(3,29,[.i .i64 0,.i .i64 0,
 .i .i64 0,.i .i64 0,.nil,.nil,.s [],.s [],.s [],.s [],.i .i64 0,.i .i64 0,.nil])] [([zL 16 6 1],z 17 (.call 18 [.c (.i .i64 0),.c (.i .i64 0)]),[zL 16 6 1]),([],z 18
 (.call 17 [.t 16,.t 17]),[])] [([zm 15 18,z 19 (.ext 0 (.t 15)),z 20 (.ext 1 (.t 15)),z 21 (.ext 2 (.t 15))],zs (.store 6 [none,none,some 13,some 1,none,none] (.t 1) (.t
 19)),[]),([],zs (.store 13 [none,none,none,none,some 3,some 3,none,none,none,none,none,none,some 1] (.t 3) (.t 20)),[])] [] [] [zm 4 21]) (.seq (.dq [] [z 23 (.call
 13 [.c (.i .i64 1)]),zm 22 23,z 24 (.ext 0 (.t 22)),z 25 (.ext 1 (.t 22)),z 5 (.alloc 36 [.i .i64 0,.i .i64 0,.nil,.nil,.i .i64 0,.b false]),zs (.store 6 [none,none,some
 13,some 1,none,none] (.t 5) (.t 24)),zm 6 25]) (.seq (.dq [] [zL 27 6 5,zL 28 13 3,z 29 (.call 19 [.t 27,.t 28]),zm 26 29,z 30 (.ext 0 (.t 26)),z 31 (.ext 1 (.t 26)),zs
 (.store 6 [none,none,some 13,some 1,none,none] (.t 5) (.t 30)),zm 7 31]) (.seq (.dq [] [zL 32 6 5,z 33 (.call 15 [.t 32,.c (.i .i64 0)]),z 8 (.alloc 36 [.i .i64 0,.i .i64
 0,.nil,.nil,.i .i64 0,.b false]),zs (.store 6 [none,none,some 13,some 1,none,none] (.t 8) (.t 33))]) (.seq (.dq [] [zL 35 6 8,z 36 (.call 16 [.t 35]),zm 34 36,z 37
 (.ext 0 (.t 34)),z 38 (.ext 1 (.t 34)),z 9 (.alloc 36 [.i .i64 0,.i .i64 0,.nil,.nil,.i .i64 0,.b false]),zs (.store 6 [none,none,some 13,some 1,none,none] (.t 9) (.t
 37)),zm 10 38]) (.seq (.kp [([zm 39 2,z 40 (.bin .eql (.t 39) (.c (.i .i64 0))),zm 41 40,⟨some 42,[(41,true)],.k6 (.t 4)⟩,⟨some 43,[(41,true)],.bin .eql (.t 42) (.c
 (.i .i64 0))⟩,z 44 (.pick (.t 41) (.t 43) (.c (.b false))),zm 45 44,⟨some 46,[(45,true)],.k6 (.t 7)⟩,⟨some 47,[(45,true)],.bin .eql (.t 46) (.c (.i .i64 0))⟩,z 48 (.pick
 (.t 45) (.t 47) (.c (.b false))),zm 49 48,⟨some 50,[(49,true)],.k6 (.t 10)⟩,⟨some 51,[(49,true)],.bin .eql (.t 50) (.c (.i .i64 0))⟩,z 52 (.pick (.t 49) (.t 51) (.c (.b
 false))),zm 53 52,⟨some 54,[(53,true)],.tE 0 (.t 3)⟩,⟨some 55,[(53,true)],.load (some 3) (.t 54)⟩,⟨some 56,[(53,true)],.build [.i .i64 0,.i .i64 0,.i .i64 0] [(0,1,
 .c (.i .i64 1)),(1,1,.c (.i .i64 2)),(2,1,.c (.i .i64 1))]⟩,⟨some 57,[(53,true)],.beq false [0,0,0] (.t 55) (.t 56)⟩,z 58 (.pick (.t 53) (.t 57) (.c (.b false))),zm 59
 58,⟨some 60,[(59,true)],.load (some 6) (.t 5)⟩,⟨some 62,[(59,true)],.load (some 6) (.t 1)⟩],⟨some 61,[(59,true)],.call 24 [.t 60]⟩,[⟨some 62,[(59,true)],.load (some
 6) (.t 1)⟩]),([],⟨some 63,[(59,true)],.call 24 [.t 62]⟩,[]),([],⟨some 64,[(59,true)],.call 37 [.t 61,.t 63]⟩,[]),([z 65 (.pick (.t 59) (.t 64) (.c (.b false))),zm 66
 65,⟨some 67,[(66,true)],.tE 5 (.t 8)⟩,⟨some 68,[(66,true)],.load none (.t 67)⟩,z 69 (.pick (.t 66) (.t 68) (.c (.b false))),zm 70 69,⟨some 71,[(70,true)],.load (some
 6) (.t 9)⟩],⟨some 72,[(70,true)],.call 24 [.t 71]⟩,[]),([⟨some 73,[(70,true)],.len false (.t 72)⟩,⟨some 74,[(70,true)],.bin .eql (.t 73) (.c (.i .i64 0))⟩,z 75 (.pick
 (.t 70) (.t 74) (.c (.b false))),zm 76 75,⟨some 77,[(76,true)],.load (some 6) (.t 5)⟩,⟨some 79,[(76,true)],.dj 1 [none] [.c (.i .i64 0),.c (.i .i64 0),.c (.i .i64
 1)]⟩],⟨some 78,[(76,true)],.call 23 [.t 77]⟩,[⟨some 79,[(76,true)],.dj 1 [none] [.c (.i .i64 0),.c (.i .i64 0),.c (.i .i64 1)]⟩])] [] [42,43,46,47,50,51,54,55,
 56,57,60,61,62,63,64,67,68,71,72,73,74,77,78,79,80] [⟨some 80,[(76,true)],.call 35 [.t 78,.t 79]⟩,z 81 (.pick (.t 76) (.t 80) (.c (.b false))),zm 0 81])
 (.ret))))))))⟩
theorem Re:aP prog f11=some Q4:=by kernel_rfl
def adT:bT:=(⟨_,by conv=>lhs;cbv⟩:Nf (bW (aP prog f116) [])).1
theorem Ld:aP prog f116=some adT:=by kernel_rfl
def p22:bT:=(⟨_,by conv=>lhs;cbv⟩:Nf (bW (aP prog f22) [])).1
theorem c22:aP prog f22=some p22:=by kernel_rfl
def p45:bT:=(⟨_,by conv=>lhs;cbv⟩:Nf (bW (aP prog f45) [])).1
theorem c45:aP prog f45=some p45:=by kernel_rfl
end Go.Proofs.Tryz
