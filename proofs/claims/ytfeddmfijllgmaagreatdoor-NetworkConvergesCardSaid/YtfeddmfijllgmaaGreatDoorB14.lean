/- A part of a proof; the claim's last text says of what. -/
import Derived.Test.YtfeddmfijllgmaaGreatDoorProg
import Derived.KernelRfl
import Derived.Test.YtfeddmfijllgmaaGreatDoorB8
set_option linter.all false
open Go.Proofs.Tryz renaming prog->κ

namespace Go.Proofs.Tryz
open Go Go.Pm
set_option maxRecDepth 100000
def p81:bl κ f81:=⟨_,by cbv⟩
def p88:bl κ f88:=⟨_,by cbv⟩
def p85:bl κ f85:=⟨_,by cbv⟩
def p84:bl κ f84:=⟨_,by cbv⟩
def p41:bl κ f41:=⟨_,by cbv⟩
def q42:=(⟨_,by cbv⟩:Nf (gK κ f42))
def Xl:aJ:=(⟨_,by cbv⟩:Nf (gg q42.1 0 [])).1
def Xk:aJ:=(⟨_,by cbv⟩:Nf (gg q42.1 1 [])).1
def p42:bl κ f42:=⟨(λa b=>(⟨_,by cbv⟩:Nf (gU q42.1 [a,b])).1) Xl Xk,by kernel_rfl⟩
def q15:=(⟨_,by cbv⟩:Nf (gK κ f15))
def Xy:aJ:=(⟨_,by cbv⟩:Nf (gg q15.1 0 [])).1
def p15:bl κ f15:=⟨(λa=>(⟨_,by cbv⟩:Nf (gU q15.1 [a])).1) Xy,by kernel_rfl⟩
def p46:bl κ f46:=⟨_,by cbv⟩
def DO:aJ:=(⟨_,by cbv⟩:Nf (sc κ f43 [1,1,1,1,0,1,0,0])).1
def abX:aJ:=(⟨_,by cbv⟩:Nf (sc κ f43 [1,0])).1
def WL:aJ:=(⟨_,by cbv⟩:Nf (sc κ f43 [1,1,0])).1
def RP:aJ:=(⟨_,by cbv⟩:Nf (sc κ f43 [1,1,1,0])).1
def IW:aJ:=(⟨_,by cbv⟩:Nf (sc κ f43 [1,1,1,1,0,0])).1
def Xj:aJ:=(⟨_,by conv=>lhs;simp only[DO]⟩:Nf (DO:aJ)).1
def p43:bl κ f43:=⟨(⟨_,by conv=>lhs;simp only[abX,WL,RP,IW]⟩:Nf (⟨85,[.t 6],.seq (.ij [] [z 6 (.nL (.c (.I 0)))]) (.seq (abX) (.seq (WL) (.seq (RP) (.seq (.seq (IW) (.block 1 (.loop Xj))) (.seq (.ij [] [z 6 (.nL (.c (.I 0)))]) (.ret))))))⟩:nR)).1,by kernel_rfl⟩
def abW:aJ:=(⟨_,by cbv⟩:Nf (sc κ f45 [1,0])).1
def WK:aJ:=(⟨_,by cbv⟩:Nf (sc κ f45 [1,1,0])).1
def WJ:aJ:=(⟨_,by cbv⟩:Nf (sc κ f45 [1,1,1])).1
def p45:bl κ f45:=⟨(⟨_,by conv=>lhs;simp only[abW,WK,WJ]⟩:Nf (⟨65,[.t 4],.seq (.ij [] [z 3 (.box 38 (.t 1)),z 4 (.nL (.c (.I 0)))]) (.seq (abW) (.seq (WK) (WJ)))⟩:nR)).1,by kernel_rfl⟩
def p44:bl κ f44:=⟨_,by cbv⟩
def p90:bl κ f90:=⟨_,by cbv⟩
def p18:bl κ f18:=⟨_,by cbv⟩
def abS:aJ:=(⟨_,by cbv⟩:Nf (sc κ f60 [1,0])).1
def WD:aJ:=(⟨_,by cbv⟩:Nf (sc κ f60 [1,1,0])).1
def WC:aJ:=(⟨_,by cbv⟩:Nf (sc κ f60 [1,1,1])).1
def p60:bl κ f60:=⟨(⟨_,by conv=>lhs;simp only[abS,WD,WC]⟩:Nf (⟨41,[.t 4],.seq (.ij [] [z 3 (.box 76 (.t 1)),z 4 (.nL (.c (.I 0)))]) (.seq (abS) (.seq (WD) (WC)))⟩:nR)).1,by kernel_rfl⟩
def ap7:bl κ f119:=⟨_,by cbv⟩
def q61:=(⟨_,by cbv⟩:Nf (gK κ f61))
def Xe:aJ:=(⟨_,by cbv⟩:Nf (gg q61.1 0 [])).1
def p61:bl κ f61:=⟨(λa=>(⟨_,by cbv⟩:Nf (gU q61.1 [a])).1) Xe,by kernel_rfl⟩
def p66:bl κ f66:=⟨_,by cbv⟩
def q23:=(⟨_,by cbv⟩:Nf (gK κ f23))
def MT:aJ:=(⟨_,by cbv⟩:Nf (gg q23.1 0 [])).1
def p23:bl κ f23:=⟨(λa=>(⟨_,by cbv⟩:Nf (gU q23.1 [a])).1) MT,by kernel_rfl⟩
def q21:=(⟨_,by cbv⟩:Nf (gK κ f21))
def Xv:aJ:=(⟨_,by cbv⟩:Nf (gg q21.1 0 [])).1
def Xu:aJ:=(⟨_,by cbv⟩:Nf (gg q21.1 1 [])).1
def Sl:aJ:=(⟨_,by cbv⟩:Nf (gg q21.1 2 [])).1
def Xt:aJ:=(λa=>(⟨_,by cbv⟩:Nf (gg q21.1 3 [a])).1) Sl
def Xr:aJ:=(⟨_,by cbv⟩:Nf (gg q21.1 4 [])).1
def p21:bl κ f21:=⟨(λb a c d e=>(⟨_,by cbv⟩:Nf (gU q21.1 [b,a,c,d,e])).1) Xv Xu Sl Xt Xr,by kernel_rfl⟩
def IN:aJ:=(⟨_,by cbv⟩:Nf (sc κ f89 [1,1,1,0,0,0])).1
def aiV:aJ:=(⟨_,by cbv⟩:Nf (sc κ f89 [0])).1
def RG:aJ:=(⟨_,by cbv⟩:Nf (sc κ f89 [1,1,1,1])).1
def MR:aJ:=(⟨_,by conv=>lhs;simp only[IN]⟩:Nf (IN:aJ)).1
def p89:bl κ f89:=⟨(⟨_,by conv=>lhs;simp only[aiV,RG]⟩:Nf (⟨49,[.t 6,.t 7],.seq (aiV) (.seq (.ij [] [zm 12 0,z 13 (.len false (.t 12)),zm 8 13]) (.seq (.ij [] [zm 14 8,z 9 (.nL (.c (.I 0))),zm 10 14]) (.seq (.block 0 (.loop MR)) (RG))))⟩:nR)).1,by kernel_rfl⟩
def p94:bl κ f94:=⟨_,by cbv⟩
def apK:bl κ f143:=⟨_,by cbv⟩
def anC:=(⟨_,by cbv⟩:Nf (gK κ f191))
def OT:aJ:=(⟨_,by cbv⟩:Nf (gg anC.1 0 [])).1
def ao6:bl κ f191:=⟨(λa=>(⟨_,by cbv⟩:Nf (gU anC.1 [a])).1) OT,by kernel_rfl⟩
def aj0:=(⟨_,by cbv⟩:Nf (gK κ f118))
def Jo:aJ:=(⟨_,by cbv⟩:Nf (gg aj0.1 0 [])).1
def Po:aJ:=(λa=>(⟨_,by cbv⟩:Nf (gg aj0.1 1 [a])).1) Jo
def ap8:bl κ f118:=⟨(λa b=>(⟨_,by cbv⟩:Nf (gU aj0.1 [a,b])).1) Jo Po,by kernel_rfl⟩
def anY:=(⟨_,by cbv⟩:Nf (gK κ f124))
def Ph:aJ:=(⟨_,by cbv⟩:Nf (gg anY.1 0 [])).1
def ap1:bl κ f124:=⟨(λa=>(⟨_,by cbv⟩:Nf (gU anY.1 [a])).1) Ph,by kernel_rfl⟩
def ap0:bl κ f125:=⟨_,by cbv⟩
def p36:bl κ f36:=⟨_,by cbv⟩
def WW:aJ:=(⟨_,by cbv⟩:Nf (sc κ f10 [1,1,0])).1
def RZ:aJ:=(⟨_,by cbv⟩:Nf (sc κ f10 [1,1,1,0])).1
def MN:aJ:=(⟨_,by cbv⟩:Nf (sc κ f10 [1,1,1,1,0])).1
def MM:aJ:=(⟨_,by cbv⟩:Nf (sc κ f10 [1,1,1,1,1])).1
def p10:bl κ f10:=⟨(⟨_,by conv=>lhs;simp only[WW,RZ,MN,MM]⟩:Nf (⟨82,[.t 0],.seq (.ij [] [z 0 (.nL (.c (.b false)))]) (.seq (.ij [] [z 1 (.nL (.c (.fn 36 [])))]) (.seq (WW) (.seq (RZ) (.seq (MN) (MM)))))⟩:nR)).1,by kernel_rfl⟩
end Go.Proofs.Tryz
