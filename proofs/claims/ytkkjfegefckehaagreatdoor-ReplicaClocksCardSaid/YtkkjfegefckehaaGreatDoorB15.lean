/- A part of the proof of the statement of the last text of this claim; its conditions stand there. -/
import Derived.Test.YtkkjfegefckehaaGreatDoorProg
import Derived.KernelRfl
import Derived.Test.YtkkjfegefckehaaGreatDoorB13
set_option linter.all false

namespace Go.Proofs.Tryz
open Go Go.Pm
set_option maxRecDepth 100000
def adH:bT:=(⟨_,by conv=>lhs;cbv⟩:Nf (bW (aP prog f128) [])).1
theorem akw:aP prog f128=some adH:=by kernel_rfl
def p73:bT:=(⟨_,by conv=>lhs;cbv⟩:Nf (bW (aP prog f73) [])).1
theorem c73:aP prog f73=some p73:=by kernel_rfl
def p33:bT:=(⟨_,by conv=>lhs;cbv⟩:Nf (bW (aP prog f33) [])).1
theorem c33:aP prog f33=some p33:=by kernel_rfl
def adA:bT:=(⟨_,by conv=>lhs;cbv⟩:Nf (bW (aP prog f137) [])).1
theorem akp:aP prog f137=some adA:=by kernel_rfl
def adK:bT:=(⟨_,by conv=>lhs;cbv⟩:Nf (bW (aP prog f125) [])).1
theorem akz:aP prog f125=some adK:=by kernel_rfl
def p69:bT:=(⟨_,by conv=>lhs;cbv⟩:Nf (bW (aP prog f69) [])).1
theorem c69:aP prog f69=some p69:=by kernel_rfl
def adP:bT:=(⟨_,by conv=>lhs;cbv⟩:Nf (bW (aP prog f120) [])).1
theorem Nb:aP prog f120=some adP:=by kernel_rfl
def q65:=(⟨_,by conv=>lhs;cbv⟩:Nf (aP prog f65))
def JX:bw:=(⟨_,by conv=>lhs;cbv⟩:Nf (dW q65.1 0 [])).1
def NU:bw:=(fun b0=>(⟨_,by conv=>lhs;cbv⟩:Nf (dW q65.1 1 [b0])).1) JX
def p65:bT:=(fun b0 b1=>(⟨_,by conv=>lhs;cbv⟩:Nf (bW q65.1 [b0,b1])).1) JX NU
theorem c65:aP prog f65=some p65:=by kernel_rfl
def p84:bT:=(⟨_,by conv=>lhs;cbv⟩:Nf (bW (aP prog f84) [])).1
theorem c84:aP prog f84=some p84:=by kernel_rfl
def q85:=(⟨_,by conv=>lhs;cbv⟩:Nf (aP prog f85))
def NN:bw:=(⟨_,by conv=>lhs;cbv⟩:Nf (dW q85.1 0 [])).1
def p85:bT:=(fun b0=>(⟨_,by conv=>lhs;cbv⟩:Nf (bW q85.1 [b0])).1) NN
theorem c85:aP prog f85=some p85:=by kernel_rfl
def acW:bT:=(⟨_,by conv=>lhs;cbv⟩:Nf (bW (aP prog f193) [])).1
theorem ajL:aP prog f193=some acW:=by kernel_rfl
def p44:bT:=(⟨_,by conv=>lhs;cbv⟩:Nf (bW (aP prog f44) [])).1
theorem c44:aP prog f44=some p44:=by kernel_rfl
def q28:=(⟨_,by conv=>lhs;cbv⟩:Nf (aP prog f28))
def N4:bw:=(⟨_,by conv=>lhs;cbv⟩:Nf (dW q28.1 0 [])).1
def p28:bT:=(fun b0=>(⟨_,by conv=>lhs;cbv⟩:Nf (bW q28.1 [b0])).1) N4
theorem c28:aP prog f28=some p28:=by kernel_rfl
def p31:bT:=(⟨_,by conv=>lhs;cbv⟩:Nf (bW (aP prog f31) [])).1
theorem c31:aP prog f31=some p31:=by kernel_rfl
def YI:=(⟨_,by conv=>lhs;cbv⟩:Nf (aP prog f130))
def C4:bw:=(⟨_,by conv=>lhs;cbv⟩:Nf (dW YI.1 0 [])).1
def Hy:bw:=(fun b0=>(⟨_,by conv=>lhs;cbv⟩:Nf (dW YI.1 1 [b0])).1) C4
def adF:bT:=(fun b0 b1=>(⟨_,by conv=>lhs;cbv⟩:Nf (bW YI.1 [b0,b1])).1) C4 Hy
theorem aku:aP prog f130=some adF:=by kernel_rfl
def q77:=(⟨_,by conv=>lhs;cbv⟩:Nf (aP prog f77))
def JV:bw:=(⟨_,by conv=>lhs;cbv⟩:Nf (dW q77.1 0 [])).1
def p77:bT:=(fun b0=>(⟨_,by conv=>lhs;cbv⟩:Nf (bW q77.1 [b0])).1) JV
theorem c77:aP prog f77=some p77:=by kernel_rfl
def NT:bw:=.seq (.dq [] [z 40 (.bin .lss (.t 39) (.t 38))]) (.seq (.ite (.t 40) (.skip) (.exit 0)) (.seq (.block 1 (.seq (.dq [] [z 41 (.idx 1 (.t 37) (.t 39)),zl 42 41,zm 6 42]) (.seq
 (.dq [] [zm 43 6,z 44 (.bin .neq (.t 43) (.c (.i .i64 0)))]) (.ite (.t 44) (.seq (.dq [] [zm 45 6,zm 4 45]) (.ret)) (.skip))))) (.dq [] [z 46 (.bin .add (.t 39) (.c (.i .i64
 1))),zm 39 46])))
def p70:bT:=⟨67,[.t 4],.seq (.dq [] [z 2 (.box 29 (.t 0)),z 3 (.box 29 (.t 1)),z 4 (.k6 (.c (.i .i64 0)))]) (.seq (.seq (.kp [([zf 11 0 2,zf 12 1 11,zl 13 12,zf 14 0 3,zf 15 1 14,
 zl 16 15,zf 18 0 2,zf 19 2 18,zl 20 19,zf 21 0 3,zf 22 2 21,zl 23 22,zf 25 0 2,zf 26 0 25,zl 27 26,zf 28 0 3,zf 29 0 28,zl 30 29,zf 32 3 2,zl 33 32,zf 34 3 3,zl 35
 34,z 39 (.k6 (.c (.i .i64 0)))],z 17 (.call 125 [.t 13,.t 16]),[zf 18 0 2,zf 19 2 18,zl 20 19,zf 21 0 3,zf 22 2 21,zl 23 22,zf 25 0 2,zf 26 0 25,zl 27 26,zf 28 0 3,zf
 29 0 28,zl 30 29,zf 32 3 2,zl 33 32,zf 34 3 3,zl 35 34]),([],z 24 (.call 125 [.t 20,.t 23]),[zf 25 0 2,zf 26 0 25,zl 27 26,zf 28 0 3,zf 29 0 28,zl 30 29,zf 32 3 2,zl
 33 32,zf 34 3 3,zl 35 34]),([],z 31 (.call 125 [.t 27,.t 30]),[zf 32 3 2,zl 33 32,zf 34 3 3,zl 35 34]),([],z 36 (.call 125 [.t 33,.t 35]),[])] [z 37 (.dj 1 [none]
 [.t 17,.t 24,.t 31,.t 36]),z 38 (.len false (.t 37))] [] []) (.block 0 (.loop NT))) (.seq (.dq [] [zL 48 13 2,z 49 (.call 86 [.t 48]),zm 47 49,z 50 (.ext 0 (.t 47)),z 51
 (.ext 1 (.t 47)),zm 7 50,zm 8 51]) (.seq (.dq [] [zL 53 13 3,z 54 (.call 86 [.t 53]),zm 52 54,z 55 (.ext 0 (.t 52)),z 56 (.ext 1 (.t 52)),zm 9 55,zm 10 56]) (.seq (.seq
 (.dq [] [zm 57 7,z 58 (.ON (.t 57)),zm 59 9,z 60 (.ON (.t 59)),z 61 (.bin .lss (.t 58) (.t 60))]) (.ite (.t 61) (.seq (.dq [] [z 4 (.k6 (.c (.i .i64 (-1))))]) (.ret))
 (.skip))) (.seq (.seq (.dq [] [zm 62 7,z 63 (.ON (.t 62)),zm 64 9,z 65 (.ON (.t 64)),z 66 (.bin .gtr (.t 63) (.t 65))]) (.ite (.t 66) (.seq (.dq [] [z 4 (.k6 (.c (.i .i64
 1)))]) (.ret)) (.skip))) (.seq (.dq [] [z 4 (.k6 (.c (.i .i64 0)))]) (.ret)))))))⟩
theorem c70:aP prog f70=some p70:=by kernel_rfl
def p26:bT:=(⟨_,by conv=>lhs;cbv⟩:Nf (bW (aP prog f26) [])).1
theorem c26:aP prog f26=some p26:=by kernel_rfl
def ab4:=(⟨_,by conv=>lhs;cbv⟩:Nf (aP prog f138))
def Hu:bw:=(⟨_,by conv=>lhs;cbv⟩:Nf (dW ab4.1 0 [])).1
def adz:bT:=(fun b0=>(⟨_,by conv=>lhs;cbv⟩:Nf (bW ab4.1 [b0])).1) Hu
theorem ako:aP prog f138=some adz:=by kernel_rfl
def adx:bT:=(⟨_,by conv=>lhs;cbv⟩:Nf (bW (aP prog f140) [])).1
theorem akm:aP prog f140=some adx:=by kernel_rfl
def ady:bT:=(⟨_,by conv=>lhs;cbv⟩:Nf (bW (aP prog f139) [])).1
theorem akn:aP prog f139=some ady:=by kernel_rfl
def q86:=(⟨_,by conv=>lhs;cbv⟩:Nf (aP prog f86))
def NM:bw:=(⟨_,by conv=>lhs;cbv⟩:Nf (dW q86.1 0 [])).1
def p86:bT:=(fun b0=>(⟨_,by conv=>lhs;cbv⟩:Nf (bW q86.1 [b0])).1) NM
theorem c86:aP prog f86=some p86:=by kernel_rfl
def acD:bT:=(⟨_,by conv=>lhs;cbv⟩:Nf (bW (aP prog f226) [])).1
theorem ajs:aP prog f226=some acD:=by kernel_rfl
def abO:=(⟨_,by conv=>lhs;cbv⟩:Nf (aP prog f190))
def CW:bw:=(⟨_,by conv=>lhs;cbv⟩:Nf (dW abO.1 0 [])).1
def acZ:bT:=(fun b0=>(⟨_,by conv=>lhs;cbv⟩:Nf (bW abO.1 [b0])).1) CW
theorem ajO:aP prog f190=some acZ:=by kernel_rfl
def acX:bT:=(⟨_,by conv=>lhs;cbv⟩:Nf (bW (aP prog f192) [])).1
theorem ajM:aP prog f192=some acX:=by kernel_rfl
def abH:=(⟨_,by conv=>lhs;cbv⟩:Nf (aP prog f227))
def CQ:bw:=(⟨_,by conv=>lhs;cbv⟩:Nf (dW abH.1 0 [])).1
def acC:bT:=(fun b0=>(⟨_,by conv=>lhs;cbv⟩:Nf (bW abH.1 [b0])).1) CQ
theorem ajr:aP prog f227=some acC:=by kernel_rfl
def q75:=(⟨_,by conv=>lhs;cbv⟩:Nf (aP prog f75))
def NP:bw:=(⟨_,by conv=>lhs;cbv⟩:Nf (dW q75.1 0 [])).1
def p75:bT:=(fun b0=>(⟨_,by conv=>lhs;cbv⟩:Nf (bW q75.1 [b0])).1) NP
theorem c75:aP prog f75=some p75:=by kernel_rfl
def acJ:bT:=(⟨_,by conv=>lhs;cbv⟩:Nf (bW (aP prog f217) [])).1
theorem ajy:aP prog f217=some acJ:=by kernel_rfl
def abU:=(⟨_,by conv=>lhs;cbv⟩:Nf (aP prog f179))
def Hj:bw:=(⟨_,by conv=>lhs;cbv⟩:Nf (dW abU.1 0 [])).1
def ac7:bT:=(fun b0=>(⟨_,by conv=>lhs;cbv⟩:Nf (bW abU.1 [b0])).1) Hj
theorem ajW:aP prog f179=some ac7:=by kernel_rfl
def abI:=(⟨_,by conv=>lhs;cbv⟩:Nf (aP prog f224))
def Ha:bw:=(⟨_,by conv=>lhs;cbv⟩:Nf (dW abI.1 0 [])).1
def acF:bT:=(fun b0=>(⟨_,by conv=>lhs;cbv⟩:Nf (bW abI.1 [b0])).1) Ha
theorem aju:aP prog f224=some acF:=by kernel_rfl
def abP:=(⟨_,by conv=>lhs;cbv⟩:Nf (aP prog f188))
def Aj:bw:=(⟨_,by conv=>lhs;cbv⟩:Nf (dW abP.1 0 [])).1
def ac1:bT:=(fun b0=>(⟨_,by conv=>lhs;cbv⟩:Nf (bW abP.1 [b0])).1) Aj
theorem ajQ:aP prog f188=some ac1:=by kernel_rfl
def ab9:=(⟨_,by conv=>lhs;cbv⟩:Nf (aP prog f126))
def HB:bw:=(⟨_,by conv=>lhs;cbv⟩:Nf (dW ab9.1 0 [])).1
def adJ:bT:=(fun b0=>(⟨_,by conv=>lhs;cbv⟩:Nf (bW ab9.1 [b0])).1) HB
theorem aky:aP prog f126=some adJ:=by kernel_rfl
def abQ:=(⟨_,by conv=>lhs;cbv⟩:Nf (aP prog f187))
def Hg:bw:=(⟨_,by conv=>lhs;cbv⟩:Nf (dW abQ.1 0 [])).1
def ac2:bT:=(fun b0=>(⟨_,by conv=>lhs;cbv⟩:Nf (bW abQ.1 [b0])).1) Hg
theorem ajR:aP prog f187=some ac2:=by kernel_rfl
def abK:=(⟨_,by conv=>lhs;cbv⟩:Nf (aP prog f216))
def CT:bw:=(⟨_,by conv=>lhs;cbv⟩:Nf (dW abK.1 0 [])).1
def YK:bT:=(fun b0=>(⟨_,by conv=>lhs;cbv⟩:Nf (bW abK.1 [b0])).1) CT
theorem afm:aP prog f216=some YK:=by kernel_rfl
def YM:bT:=(⟨_,by conv=>lhs;cbv⟩:Nf (bW (aP prog f180) [])).1
theorem afn:aP prog f180=some YM:=by kernel_rfl
def q35:=(⟨_,by conv=>lhs;cbv⟩:Nf (aP prog f35))
def N2:bw:=(⟨_,by conv=>lhs;cbv⟩:Nf (dW q35.1 0 [])).1
def p35:bT:=(fun b0=>(⟨_,by conv=>lhs;cbv⟩:Nf (bW q35.1 [b0])).1) N2
theorem c35:aP prog f35=some p35:=by kernel_rfl
def abJ:=(⟨_,by conv=>lhs;cbv⟩:Nf (aP prog f218))
def Hb:bw:=(⟨_,by conv=>lhs;cbv⟩:Nf (dW abJ.1 0 [])).1
def acI:bT:=(fun b0=>(⟨_,by conv=>lhs;cbv⟩:Nf (bW abJ.1 [b0])).1) Hb
theorem ajx:aP prog f218=some acI:=by kernel_rfl
def abT:=(⟨_,by conv=>lhs;cbv⟩:Nf (aP prog f181))
def Hi:bw:=(⟨_,by conv=>lhs;cbv⟩:Nf (dW abT.1 0 [])).1
def ac6:bT:=(fun b0=>(⟨_,by conv=>lhs;cbv⟩:Nf (bW abT.1 [b0])).1) Hi
theorem ajV:aP prog f181=some ac6:=by kernel_rfl
def YF:=(⟨_,by conv=>lhs;cbv⟩:Nf (aP prog f183))
def C0:bw:=(⟨_,by conv=>lhs;cbv⟩:Nf (dW YF.1 0 [])).1
def CZ:bw:=(fun b0=>(⟨_,by conv=>lhs;cbv⟩:Nf (dW YF.1 1 [b0])).1) C0
def ac4:bT:=(fun b0 b1=>(⟨_,by conv=>lhs;cbv⟩:Nf (bW YF.1 [b0,b1])).1) C0 CZ
theorem ajT:aP prog f183=some ac4:=by kernel_rfl
def abS:=(⟨_,by conv=>lhs;cbv⟩:Nf (aP prog f182))
def Hh:bw:=(⟨_,by conv=>lhs;cbv⟩:Nf (dW abS.1 0 [])).1
def ac5:bT:=(fun b0=>(⟨_,by conv=>lhs;cbv⟩:Nf (bW abS.1 [b0])).1) Hh
theorem ajU:aP prog f182=some ac5:=by kernel_rfl
def adQ:bT:=(⟨_,by conv=>lhs;cbv⟩:Nf (bW (aP prog f119) [])).1
theorem akD:aP prog f119=some adQ:=by kernel_rfl
def acY:bT:=(⟨_,by conv=>lhs;cbv⟩:Nf (bW (aP prog f191) [])).1
theorem ajN:aP prog f191=some acY:=by kernel_rfl
def ab7:=(⟨_,by conv=>lhs;cbv⟩:Nf (aP prog f129))
def Hz:bw:=(⟨_,by conv=>lhs;cbv⟩:Nf (dW ab7.1 0 [])).1
def adG:bT:=(fun b0=>(⟨_,by conv=>lhs;cbv⟩:Nf (bW ab7.1 [b0])).1) Hz
theorem akv:aP prog f129=some adG:=by kernel_rfl
def q74:=(⟨_,by conv=>lhs;cbv⟩:Nf (aP prog f74))
def NQ:bw:=(⟨_,by conv=>lhs;cbv⟩:Nf (dW q74.1 0 [])).1
def p74:bT:=(fun b0=>(⟨_,by conv=>lhs;cbv⟩:Nf (bW q74.1 [b0])).1) NQ
theorem c74:aP prog f74=some p74:=by kernel_rfl
def YE:=(⟨_,by conv=>lhs;cbv⟩:Nf (aP prog f189))
def CX:bw:=(⟨_,by conv=>lhs;cbv⟩:Nf (dW YE.1 0 [])).1
def Hf:bw:=(⟨_,by conv=>lhs;cbv⟩:Nf (dW YE.1 1 [])).1
def ac0:bT:=(fun b0 b1=>(⟨_,by conv=>lhs;cbv⟩:Nf (bW YE.1 [b0,b1])).1) CX Hf
theorem ajP:aP prog f189=some ac0:=by kernel_rfl
def YC:=(⟨_,by conv=>lhs;cbv⟩:Nf (aP prog f225))
def G9:bw:=(⟨_,by conv=>lhs;cbv⟩:Nf (dW YC.1 0 [])).1
def CS:bw:=(⟨_,by conv=>lhs;cbv⟩:Nf (dW YC.1 1 [])).1
def acE:bT:=(fun b0 b1=>(⟨_,by conv=>lhs;cbv⟩:Nf (bW YC.1 [b0,b1])).1) G9 CS
theorem ajt:aP prog f225=some acE:=by kernel_rfl
def ab8:=(⟨_,by conv=>lhs;cbv⟩:Nf (aP prog f127))
def HA:bw:=(⟨_,by conv=>lhs;cbv⟩:Nf (dW ab8.1 0 [])).1
def adI:bT:=(fun b0=>(⟨_,by conv=>lhs;cbv⟩:Nf (bW ab8.1 [b0])).1) HA
theorem akx:aP prog f127=some adI:=by kernel_rfl
def p14:bT:=(⟨_,by conv=>lhs;cbv⟩:Nf (bW (aP prog f14) [])).1
theorem Yg:aP prog f14=some p14:=by kernel_rfl
def p51:bT:=(⟨_,by conv=>lhs;cbv⟩:Nf (bW (aP prog f51) [])).1
theorem c51:aP prog f51=some p51:=by kernel_rfl
def q76:=(⟨_,by conv=>lhs;cbv⟩:Nf (aP prog f76))
def NO:bw:=(⟨_,by conv=>lhs;cbv⟩:Nf (dW q76.1 0 [])).1
def p76:bT:=(fun b0=>(⟨_,by conv=>lhs;cbv⟩:Nf (bW q76.1 [b0])).1) NO
theorem c76:aP prog f76=some p76:=by kernel_rfl
def q88:=(⟨_,by conv=>lhs;cbv⟩:Nf (aP prog f88))
def NL:bw:=(⟨_,by conv=>lhs;cbv⟩:Nf (dW q88.1 0 [])).1
def p88:bT:=(fun b0=>(⟨_,by conv=>lhs;cbv⟩:Nf (bW q88.1 [b0])).1) NL
theorem c88:aP prog f88=some p88:=by kernel_rfl
def q36:=(⟨_,by conv=>lhs;cbv⟩:Nf (aP prog f36))
def JZ:bw:=(⟨_,by conv=>lhs;cbv⟩:Nf (dW q36.1 0 [])).1
def N1:bw:=(fun b0=>(⟨_,by conv=>lhs;cbv⟩:Nf (dW q36.1 1 [b0])).1) JZ
def p36:bT:=(fun b0 b1=>(⟨_,by conv=>lhs;cbv⟩:Nf (bW q36.1 [b0,b1])).1) JZ N1
theorem c36:aP prog f36=some p36:=by kernel_rfl
def ab6:=(⟨_,by conv=>lhs;cbv⟩:Nf (aP prog f133))
def Hw:bw:=(⟨_,by conv=>lhs;cbv⟩:Nf (dW ab6.1 0 [])).1
def adD:bT:=(fun b0=>(⟨_,by conv=>lhs;cbv⟩:Nf (bW ab6.1 [b0])).1) Hw
theorem aks:aP prog f133=some adD:=by kernel_rfl
def p81:bT:=⟨74,[.c 6 (some 6),.c 7 (some 13),.t 8],.seq (.dq [] [z 3 (.box 36 (.t 0)),z 5 (.box 27 (.t 2)),z 6 (.alloc 36 [.i .i64 0,.i .i64 0,.nil,.nil,.i .i64 0,.b false]),z 7
 (.alloc 29 [.i .i64 0,.i .i64 0,.i .i64 0,.i .i64 0,.nil,.nil,.s [],.s [],.s [],.s [],.i .i64 0,.i .i64 0,.nil]),z 8 (.k6 (.c (.i .i64 0)))]) (.seq (.dq [] [zL 14 6
 3,z 15 (.call 133 [.t 14]),z 16 (.bin .add (.t 15) (.c (.i .i64 1))),zm 9 16]) (.seq (.seq (.dq [20,21,22] [zm 17 9,z 18 (.bin .gtr (.t 17) (.c (.i .i64 128))),zm 19 18,
 ⟨some 20,[(19,false)],.tE 1 (.t 3)⟩,⟨some 21,[(19,false)],.load none (.t 20)⟩,⟨some 22,[(19,false)],.bin .geq (.t 21) (.c (.i .i64 1073741824))⟩,z 23 (.pick (.t 19) (.c
 (.b true)) (.t 22))]) (.ite (.t 23) (.seq (.dq [] [z 24 (.build [.i .i64 0,.i .i64 0,.nil,.nil,.i .i64 0,.b false] []),z 25 (.build [.i .i64 0,.i .i64 0,.i .i64 0,.i .i64
 0,.nil,.nil,.s [],.s [],.s [],.s [],.i .i64 0,.i .i64 0,.nil] []),zs (.store 6 [none,none,some 13,some 1,none,none] (.t 6) (.t 24)),zs (.store 13 [none,none,none,
 none,some 3,some 3,none,none,none,none,none,none,some 1] (.t 7) (.t 25)),z 8 (.k6 (.c (.i .i64 3)))]) (.ret)) (.skip))) (.seq (.M1 [(10,29,[.i .i64 0,.i .i64 0,.i
 .i64 0,.i .i64 0,.nil,.nil,.s [],.s [],.s [],.s [],.i .i64 0,.i .i64 0,.nil])] [([zf 26 1 3,zl 27 26,z 28 (.bin .add (.t 27) (.c (.i .i64 1))),zf 29 0 3,zl 30 29,zm
 31 9,z 32 (.build [.i .i64 0,.i .i64 0,.i .i64 0] [(0,1,.t 28),(1,1,.t 30),(2,1,.t 31)]),zm 33 1,zL 34 8 5,zL 35 6 3],z 36 (.call 36 [.t 35]),[zf 26 1 3,zl 27 26,
 zf 29 0 3,zl 30 29,z 32 (.build [.i .i64 0,.i .i64 0,.i .i64 0] [(0,1,.t 28),(1,1,.t 30),(2,1,.t 31)]),zL 34 8 5])] [] [z 37 (.build [.i .i64 0,.i .i64 0,.i .i64 0,
 .i .i64 0,.nil,.nil,.s [],.s [],.s [],.s [],.i .i64 0,.i .i64 0,.nil] [(0,3,.t 32),(3,1,.t 33),(4,8,.t 34),(12,1,.t 36)])] [] [zs (.store 13 [none,none,none,
 none,some 3,some 3,none,none,none,none,none,none,some 1] (.t 10) (.t 37))]) (.seq (.dq [] [zL 39 13 10,z 40 (.call 86 [.t 39]),zm 38 40,z 41 (.ext 0 (.t 38)),z 42
 (.ext 1 (.t 38)),zm 11 41,zm 12 42]) (.seq (.seq (.dq [] [zm 43 12,z 44 (.bin .neq (.t 43) (.c (.i .i64 0)))]) (.ite (.t 44) (.seq (.dq [] [z 45 (.build [.i .i64 0,.i .i64 0,
 .nil,.nil,.i .i64 0,.b false] []),z 46 (.build [.i .i64 0,.i .i64 0,.i .i64 0,.i .i64 0,.nil,.nil,.s [],.s [],.s [],.s [],.i .i64 0,.i .i64 0,.nil] []),zm 47 12,zs
 (.store 6 [none,none,some 13,some 1,none,none] (.t 6) (.t 45)),zs (.store 13 [none,none,none,none,some 3,some 3,none,none,none,none,none,none,some 1] (.t 7) (.t
 46)),zm 8 47]) (.ret)) (.skip))) (.seq (.dq [] [zf 49 3 3,zl 50 49,zm 51 11,z 52 (.call 87 [.t 50,.t 51]),zm 48 52,z 53 (.ext 0 (.t 48)),z 54 (.ext 1 (.t 48)),zm 13 53,zm
 12 54]) (.seq (.seq (.dq [] [zm 55 12,z 56 (.bin .neq (.t 55) (.c (.i .i64 0)))]) (.ite (.t 56) (.seq (.dq [] [z 57 (.build [.i .i64 0,.i .i64 0,.nil,.nil,.i .i64 0,.b
 false] []),z 58 (.build [.i .i64 0,.i .i64 0,.i .i64 0,.i .i64 0,.nil,.nil,.s [],.s [],.s [],.s [],.i .i64 0,.i .i64 0,.nil] []),zm 59 12,zs (.store 6 [none,none,
 some 13,some 1,none,none] (.t 6) (.t 57)),zs (.store 13 [none,none,none,none,some 3,some 3,none,none,none,none,none,none,some 1] (.t 7) (.t 58)),zm 8 59]) (.ret))
 (.skip))) (.seq (.kp [([zf 60 0 3,zl 61 60,zf 62 1 3,zl 63 62,z 64 (.bin .add (.t 63) (.c (.i .i64 1))),zf 65 2 3,zl 66 65,zL 67 13 10,zm 69 13,zm 70 13,z 71 (.len false
 (.t 70)),zL 73 13 10],z 68 (.call 88 [.t 66,.t 67]),[zf 60 0 3,zl 61 60,zf 62 1 3,zl 63 62,z 71 (.len false (.t 70)),zL 73 13 10]),([z 72 (.build [.i .i64 0,.i .i64 0,
 .nil,.nil,.i .i64 0,.b false] [(0,1,.t 61),(1,1,.t 64),(2,1,.t 68),(3,1,.t 69),(4,1,.t 71)])],zs (.store 6 [none,none,some 13,some 1,none,none] (.t 6) (.t
 72)),[zL 73 13 10])] [] [] [zs (.store 13 [none,none,none,none,some 3,some 3,none,none,none,none,none,none,some 1] (.t 7) (.t 73)),z 8 (.k6 (.c (.i .i64 0)))])
 (.ret)))))))))⟩
theorem c81:aP prog f81=some p81:=by kernel_rfl
def p43:bT:=(⟨_,by conv=>lhs;cbv⟩:Nf (bW (aP prog f43) [])).1
theorem c43:aP prog f43=some p43:=by kernel_rfl
def p46:bT:=(⟨_,by conv=>lhs;cbv⟩:Nf (bW (aP prog f46) [])).1
theorem c46:aP prog f46=some p46:=by kernel_rfl
def YJ:bT:=(⟨_,by conv=>lhs;cbv⟩:Nf (bW (aP prog f47) [])).1
theorem c47:aP prog f47=some YJ:=by kernel_rfl
def p48:bT:=(⟨_,by conv=>lhs;cbv⟩:Nf (bW (aP prog f48) [])).1
theorem c48:aP prog f48=some p48:=by kernel_rfl
def p49:bT:=(⟨_,by conv=>lhs;cbv⟩:Nf (bW (aP prog f49) [])).1
theorem c49:aP prog f49=some p49:=by kernel_rfl
def q50:=(⟨_,by conv=>lhs;cbv⟩:Nf (aP prog f50))
def NX:bw:=(⟨_,by conv=>lhs;cbv⟩:Nf (dW q50.1 0 [])).1
def p50:bT:=(fun b0=>(⟨_,by conv=>lhs;cbv⟩:Nf (bW q50.1 [b0])).1) NX
theorem c50:aP prog f50=some p50:=by kernel_rfl
def aca:=(⟨_,by conv=>lhs;cbv⟩:Nf (aP prog f124))
def HC:bw:=(⟨_,by conv=>lhs;cbv⟩:Nf (dW aca.1 0 [])).1
def adL:bT:=(fun b0=>(⟨_,by conv=>lhs;cbv⟩:Nf (bW aca.1 [b0])).1) HC
theorem akA:aP prog f124=some adL:=by kernel_rfl
def p87:bT:=(⟨_,by conv=>lhs;cbv⟩:Nf (bW (aP prog f87) [])).1
theorem c87:aP prog f87=some p87:=by kernel_rfl
def p68:bT:=(⟨_,by conv=>lhs;cbv⟩:Nf (bW (aP prog f68) [])).1
theorem c68:aP prog f68=some p68:=by kernel_rfl
def q27:=(⟨_,by conv=>lhs;cbv⟩:Nf (aP prog f27))
def N5:bw:=(⟨_,by conv=>lhs;cbv⟩:Nf (dW q27.1 0 [])).1
def p27:bT:=(fun b0=>(⟨_,by conv=>lhs;cbv⟩:Nf (bW q27.1 [b0])).1) N5
theorem c27:aP prog f27=some p27:=by kernel_rfl
def p89:bT:=(⟨_,by conv=>lhs;cbv⟩:Nf (bW (aP prog f89) [])).1
theorem c89:aP prog f89=some p89:=by kernel_rfl
end Go.Proofs.Tryz
