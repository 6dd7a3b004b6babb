/- A part of a proof; the claim's last text says of what. -/
import Derived.Test.YtfeddmfijllgmaaGreatDoorProg
import Derived.KernelRfl
import Derived.Test.YtfeddmfijllgmaaGreatDoorB8
set_option linter.all false
open Go.Proofs.Tryz renaming prog->κ

namespace Go.Proofs.Tryz
open Go Go.Pm
set_option maxRecDepth 100000
def aoJ:bl κ f232:=⟨_,by cbv⟩
def anT:=(⟨_,by cbv⟩:Nf (gK κ f135))
def Jj:aJ:=(⟨_,by cbv⟩:Nf (gg anT.1 0 [])).1
def apR:bl κ f135:=⟨(λa=>(⟨_,by cbv⟩:Nf (gU anT.1 [a])).1) Jj,by kernel_rfl⟩
def p80:bl κ f80:=⟨_,by cbv⟩
def anQ:=(⟨_,by cbv⟩:Nf (gK κ f139))
def Jh:aJ:=(⟨_,by cbv⟩:Nf (gg anQ.1 0 [])).1
def apN:bl κ f139:=⟨(λa=>(⟨_,by cbv⟩:Nf (gU anQ.1 [a])).1) Jh,by kernel_rfl⟩
def q72:=(⟨_,by cbv⟩:Nf (gK κ f72))
def Xa:aJ:=(⟨_,by cbv⟩:Nf (gg q72.1 0 [])).1
def p72:bl κ f72:=⟨(λa=>(⟨_,by cbv⟩:Nf (gU q72.1 [a])).1) Xa,by kernel_rfl⟩
def apd:bl κ f182:=⟨_,by cbv⟩
def anG:=(⟨_,by cbv⟩:Nf (gK κ f183))
def OX:aJ:=(⟨_,by cbv⟩:Nf (gg anG.1 0 [])).1
def apc:bl κ f183:=⟨(λa=>(⟨_,by cbv⟩:Nf (gU anG.1 [a])).1) OX,by kernel_rfl⟩
def anH:=(⟨_,by cbv⟩:Nf (gK κ f181))
def OY:aJ:=(⟨_,by cbv⟩:Nf (gg anH.1 0 [])).1
def ape:bl κ f181:=⟨(λa=>(⟨_,by cbv⟩:Nf (gU anH.1 [a])).1) OY,by kernel_rfl⟩
def Gj:aJ:=(⟨_,by cbv⟩:Nf (sc κ f129 [1,1,0,1,0,0])).1
def WR:aJ:=(⟨_,by cbv⟩:Nf (sc κ f129 [1,0])).1
def MI:aJ:=(⟨_,by cbv⟩:Nf (sc κ f129 [1,1,0,0])).1
def Fa:aJ:=(⟨_,by conv=>lhs;simp only[Gj]⟩:Nf (Gj:aJ)).1
def apW:bl κ f129:=⟨(⟨_,by conv=>lhs;simp only[WR,MI]⟩:Nf (⟨114,[.t 4],.seq (.ij [] [z 3 (.box 70 (.t 1)),z 4 (.nL (.c (.I 0)))]) (.seq (WR) (.seq (.seq (MI) (.block 1 (.loop Fa))) (.seq (.ij [] [z 4 (.nL (.c (.I 0)))]) (.ret))))⟩:nR)).1,by kernel_rfl⟩
def q70:=(⟨_,by cbv⟩:Nf (gK κ f70))
def Xb:aJ:=(⟨_,by cbv⟩:Nf (gg q70.1 0 [])).1
def p70:bl κ f70:=⟨(λa=>(⟨_,by cbv⟩:Nf (gU q70.1 [a])).1) Xb,by kernel_rfl⟩
def anW:=(⟨_,by cbv⟩:Nf (gK κ f128))
def Pg:aJ:=(⟨_,by cbv⟩:Nf (gg anW.1 0 [])).1
def apX:bl κ f128:=⟨(λa=>(⟨_,by cbv⟩:Nf (gU anW.1 [a])).1) Pg,by kernel_rfl⟩
def anE:=(⟨_,by cbv⟩:Nf (gK κ f185))
def Jf:aJ:=(⟨_,by cbv⟩:Nf (gg anE.1 0 [])).1
def afZ:bl κ f185:=⟨(λa=>(⟨_,by cbv⟩:Nf (gU anE.1 [a])).1) Jf,by kernel_rfl⟩
def af2:bl κ f134:=⟨_,by cbv⟩
def an2:=(⟨_,by cbv⟩:Nf (gK κ f110))
def Pr:aJ:=(⟨_,by cbv⟩:Nf (gg an2.1 0 [])).1
def aqe:bl κ f110:=⟨(λa=>(⟨_,by cbv⟩:Nf (gU an2.1 [a])).1) Pr,by kernel_rfl⟩
def anF:=(⟨_,by cbv⟩:Nf (gK κ f184))
def OW:aJ:=(⟨_,by cbv⟩:Nf (gg anF.1 0 [])).1
def apb:bl κ f184:=⟨(λa=>(⟨_,by cbv⟩:Nf (gU anF.1 [a])).1) OW,by kernel_rfl⟩
def anV:=(⟨_,by cbv⟩:Nf (gK κ f130))
def Pf:aJ:=(⟨_,by cbv⟩:Nf (gg anV.1 0 [])).1
def apV:bl κ f130:=⟨(λa=>(⟨_,by cbv⟩:Nf (gU anV.1 [a])).1) Pf,by kernel_rfl⟩
def ajZ:=(⟨_,by cbv⟩:Nf (gK κ f132))
def Jm:aJ:=(⟨_,by cbv⟩:Nf (gg ajZ.1 0 [])).1
def Jl:aJ:=(λa=>(⟨_,by cbv⟩:Nf (gg ajZ.1 1 [a])).1) Jm
def apT:bl κ f132:=⟨(λa b=>(⟨_,by cbv⟩:Nf (gU ajZ.1 [a,b])).1) Jm Jl,by kernel_rfl⟩
def anU:=(⟨_,by cbv⟩:Nf (gK κ f131))
def Pe:aJ:=(⟨_,by cbv⟩:Nf (gg anU.1 0 [])).1
def apU:bl κ f131:=⟨(λa=>(⟨_,by cbv⟩:Nf (gU anU.1 [a])).1) Pe,by kernel_rfl⟩
def p71:bl κ f71:=⟨_,by cbv⟩
def ao9:bl κ f187:=⟨_,by cbv⟩
def anS:=(⟨_,by cbv⟩:Nf (gK κ f136))
def Pc:aJ:=(⟨_,by cbv⟩:Nf (gg anS.1 0 [])).1
def apQ:bl κ f136:=⟨(λa=>(⟨_,by cbv⟩:Nf (gU anS.1 [a])).1) Pc,by kernel_rfl⟩
def q77:=(⟨_,by cbv⟩:Nf (gK κ f77))
def W6:aJ:=(⟨_,by cbv⟩:Nf (gg q77.1 0 [])).1
def p77:bl κ f77:=⟨(λa=>(⟨_,by cbv⟩:Nf (gU q77.1 [a])).1) W6,by kernel_rfl⟩
def ajY:=(⟨_,by cbv⟩:Nf (gK κ f133))
def Jk:aJ:=(⟨_,by cbv⟩:Nf (gg ajY.1 0 [])).1
def Pd:aJ:=(⟨_,by cbv⟩:Nf (gg ajY.1 1 [])).1
def apS:bl κ f133:=⟨(λa b=>(⟨_,by cbv⟩:Nf (gU ajY.1 [a,b])).1) Jk Pd,by kernel_rfl⟩
def ajW:=(⟨_,by cbv⟩:Nf (gK κ f186))
def OV:aJ:=(⟨_,by cbv⟩:Nf (gg ajW.1 0 [])).1
def Je:aJ:=(⟨_,by cbv⟩:Nf (gg ajW.1 1 [])).1
def apa:bl κ f186:=⟨(λa b=>(⟨_,by cbv⟩:Nf (gU ajW.1 [a,b])).1) OV Je,by kernel_rfl⟩
def q73:=(⟨_,by cbv⟩:Nf (gK κ f73))
def W9:aJ:=(⟨_,by cbv⟩:Nf (gg q73.1 0 [])).1
def p73:bl κ f73:=⟨(λa=>(⟨_,by cbv⟩:Nf (gU q73.1 [a])).1) W9,by kernel_rfl⟩
end Go.Proofs.Tryz
