/- A part of a proof; the claim's last text says of what. -/
import Derived.KernelRfl
import Derived.Test.YtfeddmfijllgmaaGreatDoorB1
import Derived.Test.YtfeddmfijllgmaaGreatDoorB8
set_option linter.all false
open Go.Proofs.Tryz renaming prog->κ

namespace Go.Proofs.Tryz
open Go Go.Pm
set_option maxRecDepth 100000
def aor:bl κ f264:=⟨_,by cbv⟩
def ann:=(⟨_,by cbv⟩:Nf (gK κ f236))
def OI:aJ:=(⟨_,by cbv⟩:Nf (gg ann.1 0 [])).1
def aoH:bl κ f236:=⟨(λa=>(⟨_,by cbv⟩:Nf (gU ann.1 [a])).1) OI,by kernel_rfl⟩
def aoF:bl κ f238:=⟨_,by cbv⟩
def aop:bl κ f266:=⟨_,by cbv⟩
def ani:=(⟨_,by cbv⟩:Nf (gK κ f265))
def OC:aJ:=(⟨_,by cbv⟩:Nf (gg ani.1 0 [])).1
def aoq:bl κ f265:=⟨(λa=>(⟨_,by cbv⟩:Nf (gU ani.1 [a])).1) OC,by kernel_rfl⟩
def aoG:bl κ f237:=⟨_,by cbv⟩
def anm:=(⟨_,by cbv⟩:Nf (gK κ f239))
def OH:aJ:=(⟨_,by cbv⟩:Nf (gg anm.1 0 [])).1
def aoE:bl κ f239:=⟨(λa=>(⟨_,by cbv⟩:Nf (gU anm.1 [a])).1) OH,by kernel_rfl⟩
def anA:=(⟨_,by cbv⟩:Nf (gK κ f195))
def OR:aJ:=(⟨_,by cbv⟩:Nf (gg anA.1 0 [])).1
def ao3:bl κ f195:=⟨(λa=>(⟨_,by cbv⟩:Nf (gU anA.1 [a])).1) OR,by kernel_rfl⟩
def anw:=(⟨_,by cbv⟩:Nf (gK κ f198))
def OO:aJ:=(⟨_,by cbv⟩:Nf (gg anw.1 0 [])).1
def ao0:bl κ f198:=⟨(λa=>(⟨_,by cbv⟩:Nf (gU anw.1 [a])).1) OO,by kernel_rfl⟩
def aoe:bl κ f283:=⟨_,by cbv⟩
def aoS:bl κ f219:=⟨_,by cbv⟩
def ao5:bl κ f192:=⟨_,by cbv⟩
def aoh:bl κ f278:=⟨_,by cbv⟩
def apJ:bl κ f144:=⟨_,by cbv⟩
def anB:=(⟨_,by cbv⟩:Nf (gK κ f193))
def OS:aJ:=(⟨_,by cbv⟩:Nf (gg anB.1 0 [])).1
def ao4:bl κ f193:=⟨(λa=>(⟨_,by cbv⟩:Nf (gU anB.1 [a])).1) OS,by kernel_rfl⟩
def apI:bl κ f145:=⟨_,by cbv⟩
def p92:bl κ f92:=⟨_,by cbv⟩
def apH:bl κ f146:=⟨_,by cbv⟩
def q91:=(⟨_,by cbv⟩:Nf (gK κ f91))
def WZ:aJ:=(⟨_,by cbv⟩:Nf (gg q91.1 0 [])).1
def p91:bl κ f91:=⟨(λa=>(⟨_,by cbv⟩:Nf (gU q91.1 [a])).1) WZ,by kernel_rfl⟩
def anr:=(⟨_,by cbv⟩:Nf (gK κ f220))
def OK:aJ:=(⟨_,by cbv⟩:Nf (gg anr.1 0 [])).1
def aoR:bl κ f220:=⟨(λa=>(⟨_,by cbv⟩:Nf (gU anr.1 [a])).1) OK,by kernel_rfl⟩
def aog:bl κ f281:=⟨_,by cbv⟩
def aol:bl κ f270:=⟨_,by cbv⟩
def aod:bl κ f285:=⟨_,by cbv⟩
def aoc:bl κ f286:=⟨_,by cbv⟩
def aoa:bl κ f299:=⟨_,by cbv⟩
def an9:bl κ f301:=⟨_,by cbv⟩
def an8:bl κ f302:=⟨_,by cbv⟩
def aoi:bl κ f273:=⟨_,by cbv⟩
def aof:bl κ f282:=⟨_,by cbv⟩
def aom:bl κ f269:=⟨_,by cbv⟩
def ang:=(⟨_,by cbv⟩:Nf (gK κ f287))
def Oz:aJ:=(⟨_,by cbv⟩:Nf (gg ang.1 0 [])).1
def aob:bl κ f287:=⟨(λa=>(⟨_,by cbv⟩:Nf (gU ang.1 [a])).1) Oz,by kernel_rfl⟩
def aoj:bl κ f272:=⟨_,by cbv⟩
def anj:=(⟨_,by cbv⟩:Nf (gK κ f249))
def I8:aJ:=(⟨_,by cbv⟩:Nf (gg anj.1 0 [])).1
def aow:bl κ f249:=⟨(λa=>(⟨_,by cbv⟩:Nf (gU anj.1 [a])).1) I8,by kernel_rfl⟩
def aok:bl κ f271:=⟨_,by cbv⟩
def aoz:bl κ f244:=⟨_,by cbv⟩
end Go.Proofs.Tryz
