/- Part of a proof. -/
import Derived.Test.YtfeddmfijllgmaaGreatDoorProg
import Derived.KernelRfl
import Derived.Test.YtfeddmfijllgmaaGreatDoorZ6
set_option linter.all false
open Go.Proofs.Tryz renaming prog->A
namespace Go.Proofs.Tryz
open Go Go.Pm
set_option maxRecDepth 100000
def p74:bm A f74:=⟨_,by cbv⟩
def p31:bm A f31:=⟨_,by cbv⟩
def p33:bm A f33:=⟨_,by cbv⟩
def anp:bm A f172:=⟨_,by cbv⟩
def anj:bm A f178:=⟨_,by cbv⟩
def an0:bm A f127:=⟨_,by cbv⟩
def ano:bm A f173:=⟨_,by cbv⟩
def ah5:=(⟨_,by cbv⟩:Nf (gd A f155))
def Gd:bK:=(⟨_,by cbv⟩:Nf (fC ah5.1 0 [])).1
def Mf:bK:=(λa=>(⟨_,by cbv⟩:Nf (fC ah5.1 1 [a])).1) Gd
def anD:bm A f155:=⟨(λa b=>(⟨_,by cbv⟩:Nf (gn ah5.1 [a,b])).1) Gd Mf,by kernel_rfl⟩
def anE:bm A f154:=⟨_,by cbv⟩
def aoo:bm A f101:=⟨_,by cbv⟩
def AY:=ck A f120 [1,1,1,0,1,0,0] ⟨_,by cbv⟩
def Uk:=ck A f120 [1,0] ⟨_,by cbv⟩
def Pc:=ck A f120 [1,1,0] ⟨_,by cbv⟩
def FY:=ck A f120 [1,1,1,0,0] ⟨_,by cbv⟩
def JP:=ck A f120 [1,1,1,1] ⟨_,by cbv⟩
def Ms:bK:=(⟨_,by conv=>lhs;simp only[ck,AY]⟩:Nf (AY:bK)).1
def an7:bm A f120:=⟨(⟨_,by conv=>lhs;simp only[ck,Uk,Pc,FY,JP]⟩:Nf (⟨86,[.t 2],.seq (.pF [] [z 1 (.box 57 (.t 0)),z 2 (.yk (.c (.I 0)))]) (.seq (Uk) (.seq (Pc) (.seq (.seq (FY) (.block 0 (.loop Ms))) (JP))))⟩:pK)).1,by kernel_rfl⟩
def p68:bm A f68:=⟨_,by cbv⟩
def p58:bm A f58:=⟨_,by cbv⟩
def q26:=(⟨_,by cbv⟩:Nf (gd A f26))
def UM:bK:=(⟨_,by cbv⟩:Nf (fC q26.1 0 [])).1
def p26:bm A f26:=⟨(λa=>(⟨_,by cbv⟩:Nf (gn q26.1 [a])).1) UM,by kernel_rfl⟩
def p69:bm A f69:=⟨_,by cbv⟩
def q27:=(⟨_,by cbv⟩:Nf (gd A f27))
def Pv:bK:=(⟨_,by cbv⟩:Nf (fC q27.1 0 [])).1
def UL:bK:=(λa=>(⟨_,by cbv⟩:Nf (fC q27.1 1 [a])).1) Pv
def p27:bm A f27:=⟨(λa b=>(⟨_,by cbv⟩:Nf (gn q27.1 [a,b])).1) Pv UL,by kernel_rfl⟩
def q29:=(⟨_,by cbv⟩:Nf (gd A f29))
def Pu:bK:=(⟨_,by cbv⟩:Nf (fC q29.1 0 [])).1
def p29:bm A f29:=⟨(λa=>(⟨_,by cbv⟩:Nf (gn q29.1 [a])).1) Pu,by kernel_rfl⟩
def FW:=ck A f123 [1,0,1,0,0] ⟨_,by cbv⟩
def ZR:=ck A f123 [0] ⟨_,by cbv⟩
def Ui:=ck A f123 [1,1] ⟨_,by cbv⟩
def Mq:bK:=(⟨_,by conv=>lhs;simp only[ck,FW]⟩:Nf (FW:bK)).1
def an4:bm A f123:=⟨(⟨_,by conv=>lhs;simp only[ck,ZR,Ui]⟩:Nf (⟨67,[.t 4],.seq (ZR) (.seq (.seq (.tQ [([zf 11 0 2,zf 12 1 11,zl 13 12,zf 14 0 3,zf 15 1 14,zl 16 15,zf 18 0 2,zf 19 2 18,zl 20 19,zf 21 0 3,zf 22 2 21,zl 23 22,zf 25 0 2,zf 26 0 25,zl 27 26,zf 28 0 3,zf 29 0 28,zl 30 29,zf 32 3 2,zl 33 32,zf 34 3 3,zl 35 34,z 39 (.yk (.c (.I 0)))],z 17 (.call 178 [.t 13,.t 16]),[zf 18 0 2,zf 19 2 18,zl 20 19,zf 21 0 3,zf 22 2 21,zl 23 22,zf 25 0 2,zf 26 0 25,zl 27 26,zf 28 0 3,zf 29 0 28,zl 30 29,zf 32 3 2,zl 33 32,zf 34 3 3,zl 35 34]),([],z 24 (.call 178 [.t 20,.t 23]),[zf 25 0 2,zf 26 0 25,zl 27 26,zf 28 0 3,zf 29 0 28,zl 30 29,zf 32 3 2,zl 33 32,zf 34 3 3,zl 35 34]),([],z 31 (.call 178 [.t 27,.t 30]),[zf 32 3 2,zl 33 32,zf 34 3 3,zl 35 34]),([],z 36 (.call 178 [.t 33,.t 35]),[])] [z 37 (.fT 1 [none] [.t 17,.t 24,.t 31,.t 36]),z 38 (.len false (.t 37))] [] []) (.block 0 (.loop Mq))) (Ui))⟩:pK)).1,by kernel_rfl⟩
def p78:bm A f78:=⟨_,by cbv⟩
def alM:=(⟨_,by cbv⟩:Nf (gd A f174))
def Ma:bK:=(⟨_,by cbv⟩:Nf (fC alM.1 0 [])).1
def ann:bm A f174:=⟨(λa=>(⟨_,by cbv⟩:Nf (gn alM.1 [a])).1) Ma,by kernel_rfl⟩
def anl:bm A f176:=⟨_,by cbv⟩
def anm:bm A f175:=⟨_,by cbv⟩
def uy:=ck A f121 [1,1,1,1,1,1,1,0,1,0,0] ⟨_,by cbv⟩
def ZS:=ck A f121 [0] ⟨_,by cbv⟩
def Uj:=ck A f121 [1,0] ⟨_,by cbv⟩
def Pb:=ck A f121 [1,1,0] ⟨_,by cbv⟩
def JO:=ck A f121 [1,1,1,0] ⟨_,by cbv⟩
def FX:=ck A f121 [1,1,1,1,0] ⟨_,by cbv⟩
def Dd:=ck A f121 [1,1,1,1,1,0] ⟨_,by cbv⟩
def AX:=ck A f121 [1,1,1,1,1,1,0] ⟨_,by cbv⟩
def wX:=ck A f121 [1,1,1,1,1,1,1,0,0] ⟨_,by cbv⟩
def zj:=ck A f121 [1,1,1,1,1,1,1,1] ⟨_,by cbv⟩
def Mr:bK:=(⟨_,by conv=>lhs;simp only[ck,uy]⟩:Nf (uy:bK)).1
def an6:bm A f121:=⟨(⟨_,by conv=>lhs;simp only[ck,ZS,Uj,Pb,JO,FX,Dd,AX,wX,zj]⟩:Nf (⟨100,[.t 2,.t 3],.seq (ZS) (.seq (Uj) (.seq (Pb) (.seq (JO) (.seq (FX) (.seq (Dd) (.seq (AX) (.seq (.seq (wX) (.block 0 (.loop Mr))) (zj))))))))⟩:pK)).1,by kernel_rfl⟩
def p40:bm A f40:=⟨_,by cbv⟩
def p35:bm A f35:=⟨_,by cbv⟩
def q64:=(⟨_,by cbv⟩:Nf (gd A f64))
def UA:bK:=(⟨_,by cbv⟩:Nf (fC q64.1 0 [])).1
def p64:bm A f64:=⟨(λa=>(⟨_,by cbv⟩:Nf (gn q64.1 [a])).1) UA,by kernel_rfl⟩
def q65:=(⟨_,by cbv⟩:Nf (gd A f65))
def Uz:bK:=(⟨_,by cbv⟩:Nf (fC q65.1 0 [])).1
def p65:bm A f65:=⟨(λa=>(⟨_,by cbv⟩:Nf (gn q65.1 [a])).1) Uz,by kernel_rfl⟩
def ah9:=(⟨_,by cbv⟩:Nf (gd A f104))
def Gm:bK:=(⟨_,by cbv⟩:Nf (fC ah9.1 0 [])).1
def MA:bK:=(λa=>(⟨_,by cbv⟩:Nf (fC ah9.1 1 [a])).1) Gm
def aol:bm A f104:=⟨(λa b=>(⟨_,by cbv⟩:Nf (gn ah9.1 [a,b])).1) Gm MA,by kernel_rfl⟩
def alQ:=(⟨_,by cbv⟩:Nf (gd A f153))
def Mg:bK:=(⟨_,by cbv⟩:Nf (fC alQ.1 0 [])).1
def anF:bm A f153:=⟨(λa=>(⟨_,by cbv⟩:Nf (gn alQ.1 [a])).1) Mg,by kernel_rfl⟩
def ZU:=ck A f100 [0] ⟨_,by cbv⟩
def Un:=ck A f100 [1,0] ⟨_,by cbv⟩
def Pf:=ck A f100 [1,1,0] ⟨_,by cbv⟩
def JT:=ck A f100 [1,1,1,0] ⟨_,by cbv⟩
def FZ:=ck A f100 [1,1,1,1,0] ⟨_,by cbv⟩
def De:=ck A f100 [1,1,1,1,1,0] ⟨_,by cbv⟩
def A1:=ck A f100 [1,1,1,1,1,1,0] ⟨_,by cbv⟩
def AZ:=ck A f100 [1,1,1,1,1,1,1] ⟨_,by cbv⟩
def aop:bm A f100:=⟨(⟨_,by conv=>lhs;simp only[ck,ZU,Un,Pf,JT,FZ,De,A1,AZ]⟩:Nf (⟨74,[.c 6 (some 6),.c 7 (some 13),.t 8],.seq (ZU) (.seq (Un) (.seq (Pf) (.seq (JT) (.seq (FZ) (.seq (De) (.seq (A1) (AZ)))))))⟩:pK)).1,by kernel_rfl⟩
def p49:bm A f49:=⟨_,by cbv⟩
def p51:bm A f51:=⟨_,by cbv⟩
def ag3:=ck A f63 [0] ⟨_,by cbv⟩
def ZH:=ck A f63 [1,0] ⟨_,by cbv⟩
def T5:=ck A f63 [1,1,0] ⟨_,by cbv⟩
def OZ:=ck A f63 [1,1,1,0] ⟨_,by cbv⟩
def JI:=ck A f63 [1,1,1,1,0] ⟨_,by cbv⟩
def FK:=ck A f63 [1,1,1,1,1,0] ⟨_,by cbv⟩
def FJ:=ck A f63 [1,1,1,1,1,1] ⟨_,by cbv⟩
def p63:bm A f63:=⟨(⟨_,by conv=>lhs;simp only[ck,ag3,ZH,T5,OZ,JI,FK,FJ]⟩:Nf (⟨88,[.c 4 (some 6),.t 5],.seq (ag3) (.seq (ZH) (.seq (T5) (.seq (OZ) (.seq (JI) (.seq (FK) (FJ))))))⟩:pK)).1,by kernel_rfl⟩
def p54:bm A f54:=⟨_,by cbv⟩
def p55:bm A f55:=⟨_,by cbv⟩
def q56:=(⟨_,by cbv⟩:Nf (gd A f56))
def UD:bK:=(⟨_,by cbv⟩:Nf (fC q56.1 0 [])).1
def p56:bm A f56:=⟨(λa=>(⟨_,by cbv⟩:Nf (gn q56.1 [a])).1) UD,by kernel_rfl⟩
def al6:=(⟨_,by cbv⟩:Nf (gd A f103))
def MB:bK:=(⟨_,by cbv⟩:Nf (fC al6.1 0 [])).1
def aom:bm A f103:=⟨(λa=>(⟨_,by cbv⟩:Nf (gn al6.1 [a])).1) MB,by kernel_rfl⟩
def p30:bm A f30:=⟨_,by cbv⟩
def alL:=(⟨_,by cbv⟩:Nf (gd A f177))
def L9:bK:=(⟨_,by cbv⟩:Nf (fC alL.1 0 [])).1
def ank:bm A f177:=⟨(λa=>(⟨_,by cbv⟩:Nf (gn alL.1 [a])).1) L9,by kernel_rfl⟩
def an5:bm A f122:=⟨_,by cbv⟩
def anC:bm A f156:=⟨_,by cbv⟩
def al5:=(⟨_,by cbv⟩:Nf (gd A f108))
def Mz:bK:=(⟨_,by cbv⟩:Nf (fC al5.1 0 [])).1
def aoh:bm A f108:=⟨(λa=>(⟨_,by cbv⟩:Nf (gn al5.1 [a])).1) Mz,by kernel_rfl⟩
def aoi:bm A f107:=⟨_,by cbv⟩
def amW:bm A f204:=⟨_,by cbv⟩
def alO:=(⟨_,by cbv⟩:Nf (gd A f161))
def Md:bK:=(⟨_,by cbv⟩:Nf (fC alO.1 0 [])).1
def anw:bm A f161:=⟨(λa=>(⟨_,by cbv⟩:Nf (gn alO.1 [a])).1) Md,by kernel_rfl⟩
def anu:bm A f163:=⟨_,by cbv⟩
def anv:bm A f162:=⟨_,by cbv⟩
def al1:=(⟨_,by cbv⟩:Nf (gd A f113))
def Mu:bK:=(⟨_,by cbv⟩:Nf (fC al1.1 0 [])).1
def aoc:bm A f113:=⟨(λa=>(⟨_,by cbv⟩:Nf (gn al1.1 [a])).1) Mu,by kernel_rfl⟩
def ans:bm A f165:=⟨_,by cbv⟩
def alP:=(⟨_,by cbv⟩:Nf (gd A f157))
def Me:bK:=(⟨_,by cbv⟩:Nf (fC alP.1 0 [])).1
def anB:bm A f157:=⟨(λa=>(⟨_,by cbv⟩:Nf (gn alP.1 [a])).1) Me,by kernel_rfl⟩
def anz:bm A f159:=⟨_,by cbv⟩
def anA:bm A f158:=⟨_,by cbv⟩
def al4:=(⟨_,by cbv⟩:Nf (gd A f109))
def My:bK:=(⟨_,by cbv⟩:Nf (fC al4.1 0 [])).1
def aog:bm A f109:=⟨(λa=>(⟨_,by cbv⟩:Nf (gn al4.1 [a])).1) My,by kernel_rfl⟩
