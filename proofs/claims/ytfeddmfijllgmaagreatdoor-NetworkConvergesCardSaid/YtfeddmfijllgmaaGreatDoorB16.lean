/- A part of a proof; the claim's last text says of what. -/
import Derived.Test.YtfeddmfijllgmaaGreatDoorProg
import Derived.KernelRfl
import Derived.Test.YtfeddmfijllgmaaGreatDoorB8
set_option linter.all false
open Go.Proofs.Tryz renaming prog->κ

namespace Go.Proofs.Tryz
open Go Go.Pm
set_option maxRecDepth 100000
def p40:bl κ f40:=⟨_,by cbv⟩
def q64:=(⟨_,by cbv⟩:Nf (gK κ f64))
def Xd:aJ:=(⟨_,by cbv⟩:Nf (gg q64.1 0 [])).1
def p64:bl κ f64:=⟨(λa=>(⟨_,by cbv⟩:Nf (gU q64.1 [a])).1) Xd,by kernel_rfl⟩
def q65:=(⟨_,by cbv⟩:Nf (gK κ f65))
def Xc:aJ:=(⟨_,by cbv⟩:Nf (gg q65.1 0 [])).1
def p65:bl κ f65:=⟨(λa=>(⟨_,by cbv⟩:Nf (gU q65.1 [a])).1) Xc,by kernel_rfl⟩
def aj1:=(⟨_,by cbv⟩:Nf (gK κ f104))
def Jp:aJ:=(⟨_,by cbv⟩:Nf (gg aj1.1 0 [])).1
def Pu:aJ:=(λa=>(⟨_,by cbv⟩:Nf (gg aj1.1 1 [a])).1) Jp
def aqk:bl κ f104:=⟨(λa b=>(⟨_,by cbv⟩:Nf (gU aj1.1 [a,b])).1) Jp Pu,by kernel_rfl⟩
def anO:=(⟨_,by cbv⟩:Nf (gK κ f153))
def O7:aJ:=(⟨_,by cbv⟩:Nf (gg anO.1 0 [])).1
def apD:bl κ f153:=⟨(λa=>(⟨_,by cbv⟩:Nf (gU anO.1 [a])).1) O7,by kernel_rfl⟩
def ab4:aJ:=(⟨_,by cbv⟩:Nf (sc κ f100 [0])).1
def WX:aJ:=(⟨_,by cbv⟩:Nf (sc κ f100 [1,0])).1
def R6:aJ:=(⟨_,by cbv⟩:Nf (sc κ f100 [1,1,0])).1
def MO:aJ:=(⟨_,by cbv⟩:Nf (sc κ f100 [1,1,1,0])).1
def I4:aJ:=(⟨_,by cbv⟩:Nf (sc κ f100 [1,1,1,1,0])).1
def Gl:aJ:=(⟨_,by cbv⟩:Nf (sc κ f100 [1,1,1,1,1,0])).1
def DV:aJ:=(⟨_,by cbv⟩:Nf (sc κ f100 [1,1,1,1,1,1,0])).1
def DU:aJ:=(⟨_,by cbv⟩:Nf (sc κ f100 [1,1,1,1,1,1,1])).1
def aqo:bl κ f100:=⟨(⟨_,by conv=>lhs;simp only[ab4,WX,R6,MO,I4,Gl,DV,DU]⟩:Nf (⟨74,[.c 6 (some 6),.c 7 (some 13),.t 8],.seq (ab4) (.seq (WX) (.seq (R6) (.seq (MO) (.seq (I4) (.seq (Gl) (.seq (DV) (DU)))))))⟩:nR)).1,by kernel_rfl⟩
def p49:bl κ f49:=⟨_,by cbv⟩
def p51:bl κ f51:=⟨_,by cbv⟩
def aiZ:aJ:=(⟨_,by cbv⟩:Nf (sc κ f63 [0])).1
def abR:aJ:=(⟨_,by cbv⟩:Nf (sc κ f63 [1,0])).1
def WB:aJ:=(⟨_,by cbv⟩:Nf (sc κ f63 [1,1,0])).1
def RJ:aJ:=(⟨_,by cbv⟩:Nf (sc κ f63 [1,1,1,0])).1
def ME:aJ:=(⟨_,by cbv⟩:Nf (sc κ f63 [1,1,1,1,0])).1
def IU:aJ:=(⟨_,by cbv⟩:Nf (sc κ f63 [1,1,1,1,1,0])).1
def IS:aJ:=(⟨_,by cbv⟩:Nf (sc κ f63 [1,1,1,1,1,1])).1
def p63:bl κ f63:=⟨(⟨_,by conv=>lhs;simp only[aiZ,abR,WB,RJ,ME,IU,IS]⟩:Nf (⟨88,[.c 4 (some 6),.t 5],.seq (aiZ) (.seq (abR) (.seq (WB) (.seq (RJ) (.seq (ME) (.seq (IU) (IS))))))⟩:nR)).1,by kernel_rfl⟩
def p54:bl κ f54:=⟨_,by cbv⟩
def p55:bl κ f55:=⟨_,by cbv⟩
def q56:=(⟨_,by cbv⟩:Nf (gK κ f56))
def Xg:aJ:=(⟨_,by cbv⟩:Nf (gg q56.1 0 [])).1
def p56:bl κ f56:=⟨(λa=>(⟨_,by cbv⟩:Nf (gU q56.1 [a])).1) Xg,by kernel_rfl⟩
def an5:=(⟨_,by cbv⟩:Nf (gK κ f103))
def Pv:aJ:=(⟨_,by cbv⟩:Nf (gg an5.1 0 [])).1
def aql:bl κ f103:=⟨(λa=>(⟨_,by cbv⟩:Nf (gU an5.1 [a])).1) Pv,by kernel_rfl⟩
def p30:bl κ f30:=⟨_,by cbv⟩
def anJ:=(⟨_,by cbv⟩:Nf (gK κ f177))
def O0:aJ:=(⟨_,by cbv⟩:Nf (gg anJ.1 0 [])).1
def api:bl κ f177:=⟨(λa=>(⟨_,by cbv⟩:Nf (gU anJ.1 [a])).1) O0,by kernel_rfl⟩
def ap3:bl κ f122:=⟨_,by cbv⟩
def apA:bl κ f156:=⟨_,by cbv⟩
def an4:=(⟨_,by cbv⟩:Nf (gK κ f108))
def Pt:aJ:=(⟨_,by cbv⟩:Nf (gg an4.1 0 [])).1
def aqg:bl κ f108:=⟨(λa=>(⟨_,by cbv⟩:Nf (gU an4.1 [a])).1) Pt,by kernel_rfl⟩
def aqh:bl κ f107:=⟨_,by cbv⟩
def aoV:bl κ f204:=⟨_,by cbv⟩
def anM:=(⟨_,by cbv⟩:Nf (gK κ f161))
def O4:aJ:=(⟨_,by cbv⟩:Nf (gg anM.1 0 [])).1
def apv:bl κ f161:=⟨(λa=>(⟨_,by cbv⟩:Nf (gU anM.1 [a])).1) O4,by kernel_rfl⟩
def apt:bl κ f163:=⟨_,by cbv⟩
def apu:bl κ f162:=⟨_,by cbv⟩
def an0:=(⟨_,by cbv⟩:Nf (gK κ f113))
def Pp:aJ:=(⟨_,by cbv⟩:Nf (gg an0.1 0 [])).1
def aqb:bl κ f113:=⟨(λa=>(⟨_,by cbv⟩:Nf (gU an0.1 [a])).1) Pp,by kernel_rfl⟩
def apr:bl κ f165:=⟨_,by cbv⟩
def anN:=(⟨_,by cbv⟩:Nf (gK κ f157))
def O5:aJ:=(⟨_,by cbv⟩:Nf (gg anN.1 0 [])).1
def apz:bl κ f157:=⟨(λa=>(⟨_,by cbv⟩:Nf (gU anN.1 [a])).1) O5,by kernel_rfl⟩
def apx:bl κ f159:=⟨_,by cbv⟩
def apy:bl κ f158:=⟨_,by cbv⟩
def an3:=(⟨_,by cbv⟩:Nf (gK κ f109))
def Ps:aJ:=(⟨_,by cbv⟩:Nf (gg an3.1 0 [])).1
def aqf:bl κ f109:=⟨(λa=>(⟨_,by cbv⟩:Nf (gU an3.1 [a])).1) Ps,by kernel_rfl⟩
end Go.Proofs.Tryz
