/- Part of a proof. -/
import Derived.KernelRfl
import Derived.Test.YtfeddmfijllgmaaGreatDoorZ1
import Derived.Test.YtfeddmfijllgmaaGreatDoorZ6
set_option linter.all false
open Go.Proofs.Tryz renaming prog->A
namespace Go.Proofs.Tryz
open Go Go.Pm
set_option maxRecDepth 100000
def ams:bm A f264:=⟨_,by cbv⟩
def alp:=(⟨_,by cbv⟩:Nf (gd A f236))
def LO:bK:=(⟨_,by cbv⟩:Nf (fC alp.1 0 [])).1
def amI:bm A f236:=⟨(λa=>(⟨_,by cbv⟩:Nf (gn alp.1 [a])).1) LO,by kernel_rfl⟩
def amG:bm A f238:=⟨_,by cbv⟩
def amq:bm A f266:=⟨_,by cbv⟩
def alj:=(⟨_,by cbv⟩:Nf (gd A f265))
def LI:bK:=(⟨_,by cbv⟩:Nf (fC alj.1 0 [])).1
def amr:bm A f265:=⟨(λa=>(⟨_,by cbv⟩:Nf (gn alj.1 [a])).1) LI,by kernel_rfl⟩
def amH:bm A f237:=⟨_,by cbv⟩
def alo:=(⟨_,by cbv⟩:Nf (gd A f239))
def LN:bK:=(⟨_,by cbv⟩:Nf (fC alo.1 0 [])).1
def amF:bm A f239:=⟨(λa=>(⟨_,by cbv⟩:Nf (gn alo.1 [a])).1) LN,by kernel_rfl⟩
def alC:=(⟨_,by cbv⟩:Nf (gd A f195))
def LZ:bK:=(⟨_,by cbv⟩:Nf (fC alC.1 0 [])).1
def am4:bm A f195:=⟨(λa=>(⟨_,by cbv⟩:Nf (gn alC.1 [a])).1) LZ,by kernel_rfl⟩
def alz:=(⟨_,by cbv⟩:Nf (gd A f198))
def LV:bK:=(⟨_,by cbv⟩:Nf (fC alz.1 0 [])).1
def am1:bm A f198:=⟨(λa=>(⟨_,by cbv⟩:Nf (gn alz.1 [a])).1) LV,by kernel_rfl⟩
def amf:bm A f283:=⟨_,by cbv⟩
def amT:bm A f219:=⟨_,by cbv⟩
def am6:bm A f192:=⟨_,by cbv⟩
def ami:bm A f278:=⟨_,by cbv⟩
def anL:bm A f144:=⟨_,by cbv⟩
def alD:=(⟨_,by cbv⟩:Nf (gd A f193))
def L0:bK:=(⟨_,by cbv⟩:Nf (fC alD.1 0 [])).1
def am5:bm A f193:=⟨(λa=>(⟨_,by cbv⟩:Nf (gn alD.1 [a])).1) L0,by kernel_rfl⟩
def anK:bm A f145:=⟨_,by cbv⟩
def p92:bm A f92:=⟨_,by cbv⟩
def anJ:bm A f146:=⟨_,by cbv⟩
def q91:=(⟨_,by cbv⟩:Nf (gd A f91))
def Uq:bK:=(⟨_,by cbv⟩:Nf (fC q91.1 0 [])).1
def p91:bm A f91:=⟨(λa=>(⟨_,by cbv⟩:Nf (gn q91.1 [a])).1) Uq,by kernel_rfl⟩
def alu:=(⟨_,by cbv⟩:Nf (gd A f220))
def LQ:bK:=(⟨_,by cbv⟩:Nf (fC alu.1 0 [])).1
def amS:bm A f220:=⟨(λa=>(⟨_,by cbv⟩:Nf (gn alu.1 [a])).1) LQ,by kernel_rfl⟩
def amh:bm A f281:=⟨_,by cbv⟩
def amm:bm A f270:=⟨_,by cbv⟩
def ame:bm A f285:=⟨_,by cbv⟩
def amd:bm A f286:=⟨_,by cbv⟩
def amb:bm A f299:=⟨_,by cbv⟩
def ama:bm A f301:=⟨_,by cbv⟩
def al9:bm A f302:=⟨_,by cbv⟩
def amj:bm A f273:=⟨_,by cbv⟩
def amg:bm A f282:=⟨_,by cbv⟩
def amn:bm A f269:=⟨_,by cbv⟩
def alh:=(⟨_,by cbv⟩:Nf (gd A f287))
def LF:bK:=(⟨_,by cbv⟩:Nf (fC alh.1 0 [])).1
def amc:bm A f287:=⟨(λa=>(⟨_,by cbv⟩:Nf (gn alh.1 [a])).1) LF,by kernel_rfl⟩
def amk:bm A f272:=⟨_,by cbv⟩
def alk:=(⟨_,by cbv⟩:Nf (gd A f249))
def F5:bK:=(⟨_,by cbv⟩:Nf (fC alk.1 0 [])).1
def amx:bm A f249:=⟨(λa=>(⟨_,by cbv⟩:Nf (gn alk.1 [a])).1) F5,by kernel_rfl⟩
def aml:bm A f271:=⟨_,by cbv⟩
def amA:bm A f244:=⟨_,by cbv⟩
