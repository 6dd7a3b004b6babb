/- A part of a proof; the claim's last text says of what. -/
import Derived.Test.YtfeddmfijllgmaaGreatDoorProg
import Derived.KernelRfl
import Derived.Test.YtfeddmfijllgmaaGreatDoorB8
set_option linter.all false
open Go.Proofs.Tryz renaming prog->κ

namespace Go.Proofs.Tryz
open Go Go.Pm
set_option maxRecDepth 100000
def p74:bl κ f74:=⟨_,by cbv⟩
def p31:bl κ f31:=⟨_,by cbv⟩
def p33:bl κ f33:=⟨_,by cbv⟩
def apn:bl κ f172:=⟨_,by cbv⟩
def aph:bl κ f178:=⟨_,by cbv⟩
def apY:bl κ f127:=⟨_,by cbv⟩
def apm:bl κ f173:=⟨_,by cbv⟩
def ajX:=(⟨_,by cbv⟩:Nf (gK κ f155))
def Jg:aJ:=(⟨_,by cbv⟩:Nf (gg ajX.1 0 [])).1
def O6:aJ:=(λa=>(⟨_,by cbv⟩:Nf (gg ajX.1 1 [a])).1) Jg
def apB:bl κ f155:=⟨(λa b=>(⟨_,by cbv⟩:Nf (gU ajX.1 [a,b])).1) Jg O6,by kernel_rfl⟩
def apC:bl κ f154:=⟨_,by cbv⟩
def aqn:bl κ f101:=⟨_,by cbv⟩
def DT:aJ:=(⟨_,by cbv⟩:Nf (sc κ f120 [1,1,1,0,1,0,0])).1
def WU:aJ:=(⟨_,by cbv⟩:Nf (sc κ f120 [1,0])).1
def RX:aJ:=(⟨_,by cbv⟩:Nf (sc κ f120 [1,1,0])).1
def I3:aJ:=(⟨_,by cbv⟩:Nf (sc κ f120 [1,1,1,0,0])).1
def MK:aJ:=(⟨_,by cbv⟩:Nf (sc κ f120 [1,1,1,1])).1
def Pn:aJ:=(⟨_,by conv=>lhs;simp only[DT]⟩:Nf (DT:aJ)).1
def ap5:bl κ f120:=⟨(⟨_,by conv=>lhs;simp only[WU,RX,I3,MK]⟩:Nf (⟨86,[.t 2],.seq (.ij [] [z 1 (.box 57 (.t 0)),z 2 (.nL (.c (.I 0)))]) (.seq (WU) (.seq (RX) (.seq (.seq (I3) (.block 0 (.loop Pn))) (MK))))⟩:nR)).1,by kernel_rfl⟩
def p68:bl κ f68:=⟨_,by cbv⟩
def p58:bl κ f58:=⟨_,by cbv⟩
def q26:=(⟨_,by cbv⟩:Nf (gK κ f26))
def Xp:aJ:=(⟨_,by cbv⟩:Nf (gg q26.1 0 [])).1
def p26:bl κ f26:=⟨(λa=>(⟨_,by cbv⟩:Nf (gU q26.1 [a])).1) Xp,by kernel_rfl⟩
def p69:bl κ f69:=⟨_,by cbv⟩
def q27:=(⟨_,by cbv⟩:Nf (gK κ f27))
def Sj:aJ:=(⟨_,by cbv⟩:Nf (gg q27.1 0 [])).1
def Xo:aJ:=(λa=>(⟨_,by cbv⟩:Nf (gg q27.1 1 [a])).1) Sj
def p27:bl κ f27:=⟨(λa b=>(⟨_,by cbv⟩:Nf (gU q27.1 [a,b])).1) Sj Xo,by kernel_rfl⟩
def q29:=(⟨_,by cbv⟩:Nf (gK κ f29))
def Si:aJ:=(⟨_,by cbv⟩:Nf (gg q29.1 0 [])).1
def p29:bl κ f29:=⟨(λa=>(⟨_,by cbv⟩:Nf (gU q29.1 [a])).1) Si,by kernel_rfl⟩
def I1:aJ:=(⟨_,by cbv⟩:Nf (sc κ f123 [1,0,1,0,0])).1
def ab1:aJ:=(⟨_,by cbv⟩:Nf (sc κ f123 [0])).1
def WS:aJ:=(⟨_,by cbv⟩:Nf (sc κ f123 [1,1])).1
def Pj:aJ:=(⟨_,by conv=>lhs;simp only[I1]⟩:Nf (I1:aJ)).1
def ap2:bl κ f123:=⟨(⟨_,by conv=>lhs;simp only[ab1,WS]⟩:Nf (⟨67,[.t 4],.seq (ab1) (.seq (.seq (.pO [([zf 11 0 2,zf 12 1 11,zl 13 12,zf 14 0 3,zf 15 1 14,zl 16 15,zf 18 0 2,zf 19 2 18,zl 20 19,zf 21 0 3,zf 22 2 21,zl 23 22,zf 25 0 2,zf 26 0 25,zl 27 26,zf 28 0 3,zf 29 0 28,zl 30 29,zf 32 3 2,zl 33 32,zf 34 3 3,zl 35 34,z 39 (.nL (.c (.I 0)))],z 17 (.call 178 [.t 13,.t 16]),[zf 18 0 2,zf 19 2 18,zl 20 19,zf 21 0 3,zf 22 2 21,zl 23 22,zf 25 0 2,zf 26 0 25,zl 27 26,zf 28 0 3,zf 29 0 28,zl 30 29,zf 32 3 2,zl 33 32,zf 34 3 3,zl 35 34]),([],z 24 (.call 178 [.t 20,.t 23]),[zf 25 0 2,zf 26 0 25,zl 27 26,zf 28 0 3,zf 29 0 28,zl 30 29,zf 32 3 2,zl 33 32,zf 34 3 3,zl 35 34]),([],z 31 (.call 178 [.t 27,.t 30]),[zf 32 3 2,zl 33 32,zf 34 3 3,zl 35 34]),([],z 36 (.call 178 [.t 33,.t 35]),[])] [z 37 (.gM 1 [none] [.t 17,.t 24,.t 31,.t 36]),z 38 (.len false (.t 37))] [] []) (.block 0 (.loop Pj))) (WS))⟩:nR)).1,by kernel_rfl⟩
def anK:=(⟨_,by cbv⟩:Nf (gK κ f174))
def O1:aJ:=(⟨_,by cbv⟩:Nf (gg anK.1 0 [])).1
def apl:bl κ f174:=⟨(λa=>(⟨_,by cbv⟩:Nf (gU anK.1 [a])).1) O1,by kernel_rfl⟩
def apj:bl κ f176:=⟨_,by cbv⟩
def apk:bl κ f175:=⟨_,by cbv⟩
def xK:aJ:=(⟨_,by cbv⟩:Nf (sc κ f121 [1,1,1,1,1,1,1,0,1,0,0])).1
def ab2:aJ:=(⟨_,by cbv⟩:Nf (sc κ f121 [0])).1
def WT:aJ:=(⟨_,by cbv⟩:Nf (sc κ f121 [1,0])).1
def RW:aJ:=(⟨_,by cbv⟩:Nf (sc κ f121 [1,1,0])).1
def MJ:aJ:=(⟨_,by cbv⟩:Nf (sc κ f121 [1,1,1,0])).1
def I2:aJ:=(⟨_,by cbv⟩:Nf (sc κ f121 [1,1,1,1,0])).1
def Gk:aJ:=(⟨_,by cbv⟩:Nf (sc κ f121 [1,1,1,1,1,0])).1
def DS:aJ:=(⟨_,by cbv⟩:Nf (sc κ f121 [1,1,1,1,1,1,0])).1
def Aq:aJ:=(⟨_,by cbv⟩:Nf (sc κ f121 [1,1,1,1,1,1,1,0,0])).1
def Cl:aJ:=(⟨_,by cbv⟩:Nf (sc κ f121 [1,1,1,1,1,1,1,1])).1
def Pk:aJ:=(⟨_,by conv=>lhs;simp only[xK]⟩:Nf (xK:aJ)).1
def ap4:bl κ f121:=⟨(⟨_,by conv=>lhs;simp only[ab2,WT,RW,MJ,I2,Gk,DS,Aq,Cl]⟩:Nf (⟨100,[.t 2,.t 3],.seq (ab2) (.seq (WT) (.seq (RW) (.seq (MJ) (.seq (I2) (.seq (Gk) (.seq (DS) (.seq (.seq (Aq) (.block 0 (.loop Pk))) (Cl))))))))⟩:nR)).1,by kernel_rfl⟩
end Go.Proofs.Tryz
