/- A part of a proof; the claim's last text says of what. -/
import Derived.Test.YtfeddmfijllgmaaGreatDoorProg
import Derived.KernelRfl
import Derived.Test.YtfeddmfijllgmaaGreatDoorB8
set_option linter.all false
open Go.Proofs.Tryz renaming prog->κ

namespace Go.Proofs.Tryz
open Go Go.Pm
set_option maxRecDepth 100000
def anl:=(⟨_,by cbv⟩:Nf (gK κ f240))
def Ja:aJ:=(⟨_,by cbv⟩:Nf (gg anl.1 0 [])).1
def aoD:bl κ f240:=⟨(λa=>(⟨_,by cbv⟩:Nf (gU anl.1 [a])).1) Ja,by kernel_rfl⟩
def ank:=(⟨_,by cbv⟩:Nf (gK κ f243))
def OF:aJ:=(⟨_,by cbv⟩:Nf (gg ank.1 0 [])).1
def aoA:bl κ f243:=⟨(λa=>(⟨_,by cbv⟩:Nf (gU ank.1 [a])).1) OF,by kernel_rfl⟩
def ajT:=(⟨_,by cbv⟩:Nf (gK κ f268))
def I7:aJ:=(⟨_,by cbv⟩:Nf (gg ajT.1 0 [])).1
def OA:aJ:=(λa=>(⟨_,by cbv⟩:Nf (gg ajT.1 1 [a])).1) I7
def aon:bl κ f268:=⟨(λa b=>(⟨_,by cbv⟩:Nf (gU ajT.1 [a,b])).1) I7 OA,by kernel_rfl⟩
def ajV:=(⟨_,by cbv⟩:Nf (gK κ f242))
def OG:aJ:=(⟨_,by cbv⟩:Nf (gg ajV.1 0 [])).1
def I9:aJ:=(⟨_,by cbv⟩:Nf (gg ajV.1 1 [])).1
def aoB:bl κ f242:=⟨(λa b=>(⟨_,by cbv⟩:Nf (gU ajV.1 [a,b])).1) OG I9,by kernel_rfl⟩
def anz:=(⟨_,by cbv⟩:Nf (gK κ f196))
def OQ:aJ:=(⟨_,by cbv⟩:Nf (gg anz.1 0 [])).1
def ao2:bl κ f196:=⟨(λa=>(⟨_,by cbv⟩:Nf (gU anz.1 [a])).1) OQ,by kernel_rfl⟩
def apg:bl κ f179:=⟨_,by cbv⟩
def aoC:bl κ f241:=⟨_,by cbv⟩
def anh:=(⟨_,by cbv⟩:Nf (gK κ f267))
def OB:aJ:=(⟨_,by cbv⟩:Nf (gg anh.1 0 [])).1
def aoo:bl κ f267:=⟨(λa=>(⟨_,by cbv⟩:Nf (gU anh.1 [a])).1) OB,by kernel_rfl⟩
def anp:=(⟨_,by cbv⟩:Nf (gK κ f228))
def OJ:aJ:=(⟨_,by cbv⟩:Nf (gg anp.1 0 [])).1
def aoL:bl κ f228:=⟨(λa=>(⟨_,by cbv⟩:Nf (gU anp.1 [a])).1) OJ,by kernel_rfl⟩
def apG:bl κ f149:=⟨_,by cbv⟩
def aoY:bl κ f201:=⟨_,by cbv⟩
def apE:bl κ f152:=⟨_,by cbv⟩
def aoP:bl κ f222:=⟨_,by cbv⟩
def aoQ:bl κ f221:=⟨_,by cbv⟩
def DR:aJ:=(⟨_,by cbv⟩:Nf (sc κ f168 [1,1,1,0,1,0,0])).1
def WQ:aJ:=(⟨_,by cbv⟩:Nf (sc κ f168 [1,0])).1
def RV:aJ:=(⟨_,by cbv⟩:Nf (sc κ f168 [1,1,0])).1
def IZ:aJ:=(⟨_,by cbv⟩:Nf (sc κ f168 [1,1,1,0,0])).1
def MH:aJ:=(⟨_,by cbv⟩:Nf (sc κ f168 [1,1,1,1])).1
def O2:aJ:=(⟨_,by conv=>lhs;simp only[DR]⟩:Nf (DR:aJ)).1
def apq:bl κ f168:=⟨(⟨_,by conv=>lhs;simp only[WQ,RV,IZ,MH]⟩:Nf (⟨62,[.t 2],.seq (.ij [] [z 1 (.box 57 (.t 0)),z 2 (.nL (.c (.I 0)))]) (.seq (WQ) (.seq (RV) (.seq (.seq (IZ) (.block 0 (.loop O2))) (MH))))⟩:nR)).1,by kernel_rfl⟩
def aot:bl κ f259:=⟨_,by cbv⟩
def anx:=(⟨_,by cbv⟩:Nf (gK κ f197))
def OP:aJ:=(⟨_,by cbv⟩:Nf (gg anx.1 0 [])).1
def ao1:bl κ f197:=⟨(λa=>(⟨_,by cbv⟩:Nf (gU anx.1 [a])).1) OP,by kernel_rfl⟩
def WN:aJ:=(⟨_,by cbv⟩:Nf (sc κ f245 [1,0])).1
def Gh:aJ:=(⟨_,by cbv⟩:Nf (sc κ f245 [1,1,0,1,0,0])).1
def Gg:aJ:=(⟨_,by cbv⟩:Nf (sc κ f245 [1,1,0,1,0,1])).1
def RT:aJ:=(⟨_,by cbv⟩:Nf (sc κ f245 [1,1,1])).1
def aoy:bl κ f245:=⟨(⟨_,by conv=>lhs;simp only[WN,Gh,Gg,RT]⟩:Nf (⟨123,[.t 4],.seq (.ij [] [z 3 (.box 70 (.t 1)),z 4 (.nL (.c (.I 0)))]) (.seq (WN) (.seq (.seq (.ij [] [zm 17 5]) (.ite (.t 17) (.seq (Gh) (Gg)) (.skip))) (RT)))⟩:nR)).1,by kernel_rfl⟩
def aox:bl κ f246:=⟨_,by cbv⟩
def ant:=(⟨_,by cbv⟩:Nf (gK κ f207))
def Jd:aJ:=(⟨_,by cbv⟩:Nf (gg ant.1 0 [])).1
def aoU:bl κ f207:=⟨(λa=>(⟨_,by cbv⟩:Nf (gU ant.1 [a])).1) Jd,by kernel_rfl⟩
def apF:bl κ f151:=⟨_,by cbv⟩
def anv:=(⟨_,by cbv⟩:Nf (gK κ f199))
def ON:aJ:=(⟨_,by cbv⟩:Nf (gg anv.1 0 [])).1
def aoZ:bl κ f199:=⟨(λa=>(⟨_,by cbv⟩:Nf (gU anv.1 [a])).1) ON,by kernel_rfl⟩
end Go.Proofs.Tryz
