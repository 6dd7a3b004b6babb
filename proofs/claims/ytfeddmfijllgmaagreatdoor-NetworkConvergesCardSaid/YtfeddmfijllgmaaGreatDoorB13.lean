/- A part of a proof; the claim's last text says of what. -/
import Derived.Test.YtfeddmfijllgmaaGreatDoorProg
import Derived.KernelRfl
import Derived.Test.YtfeddmfijllgmaaGreatDoorB8
set_option linter.all false
open Go.Proofs.Tryz renaming prog->κ

namespace Go.Proofs.Tryz
open Go Go.Pm
set_option maxRecDepth 100000
def p39:bl κ f39:=⟨_,by cbv⟩
def aqa:bl κ f115:=⟨_,by cbv⟩
def af0:bl κ f169:=⟨_,by cbv⟩
def afW:bl κ f224:=⟨_,by cbv⟩
def apo:bl κ f170:=⟨_,by cbv⟩
def af1:bl κ f150:=⟨_,by cbv⟩
def p96:bl κ f96:=⟨_,by cbv⟩
def Y4:bl κ f116:=⟨_,by cbv⟩
def p98:bl κ f98:=⟨_,by cbv⟩
def q59:=(⟨_,by cbv⟩:Nf (gK κ f59))
def Xf:aJ:=(⟨_,by cbv⟩:Nf (gg q59.1 0 [])).1
def p59:bl κ f59:=⟨(λa=>(⟨_,by cbv⟩:Nf (gU q59.1 [a])).1) Xf,by kernel_rfl⟩
def q87:=(⟨_,by cbv⟩:Nf (gK κ f87))
def Sh:aJ:=(⟨_,by cbv⟩:Nf (gg q87.1 0 [])).1
def Sg:aJ:=(⟨_,by cbv⟩:Nf (gg q87.1 1 [])).1
def W3:aJ:=(λa=>(⟨_,by cbv⟩:Nf (gg q87.1 2 [a])).1) Sg
def p87:bl κ f87:=⟨(λa c b=>(⟨_,by cbv⟩:Nf (gU q87.1 [a,c,b])).1) Sh Sg W3,by kernel_rfl⟩
def p67:bl κ f67:=⟨_,by cbv⟩
def anq:=(⟨_,by cbv⟩:Nf (gK κ f223))
def Jc:aJ:=(⟨_,by cbv⟩:Nf (gg anq.1 0 [])).1
def aoO:bl κ f223:=⟨(λa=>(⟨_,by cbv⟩:Nf (gU anq.1 [a])).1) Jc,by kernel_rfl⟩
def p83:bl κ f83:=⟨_,by cbv⟩
def anP:=(⟨_,by cbv⟩:Nf (gK κ f140))
def O8:aJ:=(⟨_,by cbv⟩:Nf (gg anP.1 0 [])).1
def apM:bl κ f140:=⟨(λa=>(⟨_,by cbv⟩:Nf (gU anP.1 [a])).1) O8,by kernel_rfl⟩
def anu:=(⟨_,by cbv⟩:Nf (gK κ f203))
def OM:aJ:=(⟨_,by cbv⟩:Nf (gg anu.1 0 [])).1
def aoW:bl κ f203:=⟨(λa=>(⟨_,by cbv⟩:Nf (gU anu.1 [a])).1) OM,by kernel_rfl⟩
def aov:bl κ f255:=⟨_,by cbv⟩
def aoX:bl κ f202:=⟨⟨25,[.t 2],.seq (.ij [] [z 2 (.nL (.c (.i .u32 0)))]) (.seq (.pO [] [zm 3 0,z 4 (.idx 1 (.t 3) (.c (.I 0))),zl 5 4,z 6 (.cvi .u32 (.t 5)),z 7 (.bin .shl (.t 6) (.c (.i .u64 24))),zm 8 0,z 9 (.idx 1 (.t 8) (.c (.I 1))),zl 10 9,z 11 (.cvi .u32 (.t 10)),z 12 (.bin .shl (.t 11) (.c (.i .u64 16))),z 13 (.bin .or (.t 7) (.t 12)),zm 14 0,z 15 (.idx 1 (.t 14) (.c (.I 2))),zl 16 15,z 17 (.cvi .u32 (.t 16)),z 18 (.bin .shl (.t 17) (.c (.i .u64 8))),z 19 (.bin .or (.t 13) (.t 18)),zm 20 0,z 21 (.idx 1 (.t 20) (.c (.I 3))),zl 22 21,z 23 (.cvi .u32 (.t 22))] [] [z 24 (.bin .or (.t 19) (.t 23)),zm 2 24]) (.ret))⟩,by kernel_rfl⟩
def aoN:bl κ f225:=⟨_,by cbv⟩
def apw:bl κ f160:=⟨_,by cbv⟩
def an1:=(⟨_,by cbv⟩:Nf (gK κ f112))
def Pq:aJ:=(⟨_,by cbv⟩:Nf (gg an1.1 0 [])).1
def aqc:bl κ f112:=⟨(λa=>(⟨_,by cbv⟩:Nf (gU an1.1 [a])).1) Pq,by kernel_rfl⟩
def aqd:bl κ f111:=⟨_,by cbv⟩
def ajU:=(⟨_,by cbv⟩:Nf (gK κ f256))
def OE:aJ:=(⟨_,by cbv⟩:Nf (gg ajU.1 0 [])).1
def OD:aJ:=(⟨_,by cbv⟩:Nf (gg ajU.1 1 [])).1
def aou:bl κ f256:=⟨(λa b=>(⟨_,by cbv⟩:Nf (gU ajU.1 [a,b])).1) OE OD,by kernel_rfl⟩
def aoM:bl κ f226:=⟨_,by cbv⟩
def p62:bl κ f62:=⟨_,by cbv⟩
def p97:bl κ f97:=⟨_,by cbv⟩
def q86:=(⟨_,by cbv⟩:Nf (gK κ f86))
def W4:aJ:=(⟨_,by cbv⟩:Nf (gg q86.1 0 [])).1
def p86:bl κ f86:=⟨(λa=>(⟨_,by cbv⟩:Nf (gU q86.1 [a])).1) W4,by kernel_rfl⟩
end Go.Proofs.Tryz
