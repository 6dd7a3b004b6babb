/- A part of a proof; the claim's last text says of what. -/
import Derived.KernelRfl
import Derived.Test.YtlakkaamfadipaaGreatDoorB1
import Derived.Test.YtlakkaamfadipaaGreatDoorB10
set_option linter.all false

namespace Go.Proofs.Tryz
open Go Go.Pm
set_option maxRecDepth 100000
def al1:bj prog f153:=⟨_,by cbv⟩
def q95:=(⟨_,by cbv⟩:Nf (dY prog f95))
def U1:bK:=(⟨_,by cbv⟩:Nf (dV q95.1 0 [])).1
def p95:bj prog f95:=⟨(λa=>(⟨_,by cbv⟩:Nf (eL q95.1 [a])).1) U1,by kernel_rfl⟩
def p97:bj prog f97:=⟨_,by cbv⟩
def alZ:bj prog f155:=⟨_,by cbv⟩
def akA:=(⟨_,by cbv⟩:Nf (dY prog f154))
def NZ:bK:=(⟨_,by cbv⟩:Nf (dV akA.1 0 [])).1
def al0:bj prog f154:=⟨(λa=>(⟨_,by cbv⟩:Nf (eL akA.1 [a])).1) NZ,by kernel_rfl⟩
def p96:bj prog f96:=⟨_,by cbv⟩
def q98:=(⟨_,by cbv⟩:Nf (dY prog f98))
def U0:bK:=(⟨_,by cbv⟩:Nf (dV q98.1 0 [])).1
def p98:bj prog f98:=⟨(λa=>(⟨_,by cbv⟩:Nf (eL q98.1 [a])).1) U0,by kernel_rfl⟩
def q44:=(⟨_,by cbv⟩:Nf (dY prog f44))
def Vh:bK:=(⟨_,by cbv⟩:Nf (dV q44.1 0 [])).1
def p44:bj prog f44:=⟨(λa=>(⟨_,by cbv⟩:Nf (eL q44.1 [a])).1) Vh,by kernel_rfl⟩
def akF:=(⟨_,by cbv⟩:Nf (dY prog f117))
def N6:bK:=(⟨_,by cbv⟩:Nf (dV akF.1 0 [])).1
def amm:bj prog f117:=⟨(λa=>(⟨_,by cbv⟩:Nf (eL akF.1 [a])).1) N6,by kernel_rfl⟩
def alQ:bj prog f168:=⟨_,by cbv⟩
def amf:bj prog f127:=⟨_,by cbv⟩
def q62:=(⟨_,by cbv⟩:Nf (dY prog f62))
def Vd:bK:=(⟨_,by cbv⟩:Nf (dV q62.1 0 [])).1
def p62:bj prog f62:=⟨(λa=>(⟨_,by cbv⟩:Nf (eL q62.1 [a])).1) Vd,by kernel_rfl⟩
def alp:bj prog f206:=⟨_,by cbv⟩
def alX:bj prog f157:=⟨_,by cbv⟩
def aln:bj prog f209:=⟨_,by cbv⟩
def alm:bj prog f210:=⟨_,by cbv⟩
def ak4:bj prog f246:=⟨_,by cbv⟩
def ak3:bj prog f248:=⟨_,by cbv⟩
def ak2:bj prog f249:=⟨_,by cbv⟩
def alU:bj prog f160:=⟨_,by cbv⟩
def alo:bj prog f207:=⟨_,by cbv⟩
def alY:bj prog f156:=⟨_,by cbv⟩
def akp:=(⟨_,by cbv⟩:Nf (dY prog f211))
def NL:bK:=(⟨_,by cbv⟩:Nf (dV akp.1 0 [])).1
def alk:bj prog f211:=⟨(λa=>(⟨_,by cbv⟩:Nf (eL akp.1 [a])).1) NL,by kernel_rfl⟩
def alV:bj prog f159:=⟨_,by cbv⟩
def akm:=(⟨_,by cbv⟩:Nf (dY prog f241))
def I3:bK:=(⟨_,by cbv⟩:Nf (dV akm.1 0 [])).1
def ak6:bj prog f241:=⟨(λa=>(⟨_,by cbv⟩:Nf (eL akm.1 [a])).1) I3,by kernel_rfl⟩
def alW:bj prog f158:=⟨_,by cbv⟩
def p99:bj prog f99:=⟨_,by cbv⟩
end Go.Proofs.Tryz
