/- Part of a proof. -/
import Derived.Test.YtfeddmfijllgmaaGreatDoorProg
import Derived.KernelRfl
import Derived.Test.YtfeddmfijllgmaaGreatDoorZ6
set_option linter.all false
open Go.Proofs.Tryz renaming prog->A
namespace Go.Proofs.Tryz
open Go Go.Pm
set_option maxRecDepth 100000
def alA:=(⟨_,by cbv⟩:Nf (gd A f197))
def LX:bK:=(⟨_,by cbv⟩:Nf (fC alA.1 0 [])).1
def am2:bm A f197:=⟨(λa=>(⟨_,by cbv⟩:Nf (gn alA.1 [a])).1) LX,by kernel_rfl⟩
def Ue:=ck A f245 [1,0] ⟨_,by cbv⟩
def C9:=ck A f245 [1,1,0,1,0,0] ⟨_,by cbv⟩
def C8:=ck A f245 [1,1,0,1,0,1] ⟨_,by cbv⟩
def O6:=ck A f245 [1,1,1] ⟨_,by cbv⟩
def amz:bm A f245:=⟨(⟨_,by conv=>lhs;simp only[ck,Ue,C9,C8,O6]⟩:Nf (⟨123,[.t 4],.seq (.pF [] [z 3 (.box 70 (.t 1)),z 4 (.yk (.c (.I 0)))]) (.seq (Ue) (.seq (.seq (.pF [] [zm 17 5]) (.ite (.t 17) (.seq (C9) (C8)) (.skip))) (O6)))⟩:pK)).1,by kernel_rfl⟩
def amy:bm A f246:=⟨_,by cbv⟩
def alw:=(⟨_,by cbv⟩:Nf (gd A f207))
def Ga:bK:=(⟨_,by cbv⟩:Nf (fC alw.1 0 [])).1
def amV:bm A f207:=⟨(λa=>(⟨_,by cbv⟩:Nf (gn alw.1 [a])).1) Ga,by kernel_rfl⟩
def anH:bm A f151:=⟨_,by cbv⟩
def aly:=(⟨_,by cbv⟩:Nf (gd A f199))
def LU:bK:=(⟨_,by cbv⟩:Nf (fC aly.1 0 [])).1
def am0:bm A f199:=⟨(λa=>(⟨_,by cbv⟩:Nf (gn aly.1 [a])).1) LU,by kernel_rfl⟩
def p39:bm A f39:=⟨_,by cbv⟩
def aob:bm A f115:=⟨_,by cbv⟩
def ad7:bm A f169:=⟨_,by cbv⟩
def ad3:bm A f224:=⟨_,by cbv⟩
def anq:bm A f170:=⟨_,by cbv⟩
def ad8:bm A f150:=⟨_,by cbv⟩
def p96:bm A f96:=⟨_,by cbv⟩
def WR:bm A f116:=⟨_,by cbv⟩
def p98:bm A f98:=⟨_,by cbv⟩
def q59:=(⟨_,by cbv⟩:Nf (gd A f59))
def UC:bK:=(⟨_,by cbv⟩:Nf (fC q59.1 0 [])).1
def p59:bm A f59:=⟨(λa=>(⟨_,by cbv⟩:Nf (gn q59.1 [a])).1) UC,by kernel_rfl⟩
def q87:=(⟨_,by cbv⟩:Nf (gd A f87))
def Pt:bK:=(⟨_,by cbv⟩:Nf (fC q87.1 0 [])).1
def Ps:bK:=(⟨_,by cbv⟩:Nf (fC q87.1 1 [])).1
def Ur:bK:=(λa=>(⟨_,by cbv⟩:Nf (fC q87.1 2 [a])).1) Ps
def p87:bm A f87:=⟨(λa c b=>(⟨_,by cbv⟩:Nf (gn q87.1 [a,c,b])).1) Pt Ps Ur,by kernel_rfl⟩
def p67:bm A f67:=⟨_,by cbv⟩
def als:=(⟨_,by cbv⟩:Nf (gd A f223))
def F9:bK:=(⟨_,by cbv⟩:Nf (fC als.1 0 [])).1
def amP:bm A f223:=⟨(λa=>(⟨_,by cbv⟩:Nf (gn als.1 [a])).1) F9,by kernel_rfl⟩
def p83:bm A f83:=⟨_,by cbv⟩
def alR:=(⟨_,by cbv⟩:Nf (gd A f140))
def Mh:bK:=(⟨_,by cbv⟩:Nf (fC alR.1 0 [])).1
def anO:bm A f140:=⟨(λa=>(⟨_,by cbv⟩:Nf (gn alR.1 [a])).1) Mh,by kernel_rfl⟩
def alx:=(⟨_,by cbv⟩:Nf (gd A f203))
def LS:bK:=(⟨_,by cbv⟩:Nf (fC alx.1 0 [])).1
def amX:bm A f203:=⟨(λa=>(⟨_,by cbv⟩:Nf (gn alx.1 [a])).1) LS,by kernel_rfl⟩
def amw:bm A f255:=⟨_,by cbv⟩
def amY:bm A f202:=⟨⟨25,[.t 2],.seq (.pF [] [z 2 (.yk (.c (.i .u32 0)))]) (.seq (.tQ [] [zm 3 0,z 4 (.idx 1 (.t 3) (.c (.I 0))),zl 5 4,z 6 (.cvi .u32 (.t 5)),z 7 (.bin .shl (.t 6) (.c (.i .u64 24))),zm 8 0,z 9 (.idx 1 (.t 8) (.c (.I 1))),zl 10 9,z 11 (.cvi .u32 (.t 10)),z 12 (.bin .shl (.t 11) (.c (.i .u64 16))),z 13 (.bin .or (.t 7) (.t 12)),zm 14 0,z 15 (.idx 1 (.t 14) (.c (.I 2))),zl 16 15,z 17 (.cvi .u32 (.t 16)),z 18 (.bin .shl (.t 17) (.c (.i .u64 8))),z 19 (.bin .or (.t 13) (.t 18)),zm 20 0,z 21 (.idx 1 (.t 20) (.c (.I 3))),zl 22 21,z 23 (.cvi .u32 (.t 22))] [] [z 24 (.bin .or (.t 19) (.t 23)),zm 2 24]) (.ret))⟩,by kernel_rfl⟩
def amO:bm A f225:=⟨_,by cbv⟩
def anx:bm A f160:=⟨_,by cbv⟩
def al2:=(⟨_,by cbv⟩:Nf (gd A f112))
def Mw:bK:=(⟨_,by cbv⟩:Nf (fC al2.1 0 [])).1
def aod:bm A f112:=⟨(λa=>(⟨_,by cbv⟩:Nf (gn al2.1 [a])).1) Mw,by kernel_rfl⟩
def aoe:bm A f111:=⟨_,by cbv⟩
def ah2:=(⟨_,by cbv⟩:Nf (gd A f256))
def LK:bK:=(⟨_,by cbv⟩:Nf (fC ah2.1 0 [])).1
def LJ:bK:=(⟨_,by cbv⟩:Nf (fC ah2.1 1 [])).1
def amv:bm A f256:=⟨(λa b=>(⟨_,by cbv⟩:Nf (gn ah2.1 [a,b])).1) LK LJ,by kernel_rfl⟩
def amN:bm A f226:=⟨_,by cbv⟩
def p62:bm A f62:=⟨_,by cbv⟩
def p97:bm A f97:=⟨_,by cbv⟩
def q86:=(⟨_,by cbv⟩:Nf (gd A f86))
def Us:bK:=(⟨_,by cbv⟩:Nf (fC q86.1 0 [])).1
def p86:bm A f86:=⟨(λa=>(⟨_,by cbv⟩:Nf (gn q86.1 [a])).1) Us,by kernel_rfl⟩
def p81:bm A f81:=⟨_,by cbv⟩
def p88:bm A f88:=⟨_,by cbv⟩
def p85:bm A f85:=⟨_,by cbv⟩
def p84:bm A f84:=⟨_,by cbv⟩
def p41:bm A f41:=⟨_,by cbv⟩
def q42:=(⟨_,by cbv⟩:Nf (gd A f42))
def UJ:bK:=(⟨_,by cbv⟩:Nf (fC q42.1 0 [])).1
def UI:bK:=(⟨_,by cbv⟩:Nf (fC q42.1 1 [])).1
def p42:bm A f42:=⟨(λa b=>(⟨_,by cbv⟩:Nf (gn q42.1 [a,b])).1) UJ UI,by kernel_rfl⟩
def q15:=(⟨_,by cbv⟩:Nf (gd A f15))
def U2:bK:=(⟨_,by cbv⟩:Nf (fC q15.1 0 [])).1
def p15:bm A f15:=⟨(λa=>(⟨_,by cbv⟩:Nf (gn q15.1 [a])).1) U2,by kernel_rfl⟩
def p46:bm A f46:=⟨_,by cbv⟩
def AQ:=ck A f43 [1,1,1,1,0,1,0,0] ⟨_,by cbv⟩
def ZL:=ck A f43 [1,0] ⟨_,by cbv⟩
def Uc:=ck A f43 [1,1,0] ⟨_,by cbv⟩
def O3:=ck A f43 [1,1,1,0] ⟨_,by cbv⟩
def FM:=ck A f43 [1,1,1,1,0,0] ⟨_,by cbv⟩
def UH:bK:=(⟨_,by conv=>lhs;simp only[ck,AQ]⟩:Nf (AQ:bK)).1
def p43:bm A f43:=⟨(⟨_,by conv=>lhs;simp only[ck,ZL,Uc,O3,FM]⟩:Nf (⟨85,[.t 6],.seq (.pF [] [z 6 (.yk (.c (.I 0)))]) (.seq (ZL) (.seq (Uc) (.seq (O3) (.seq (.seq (FM) (.block 1 (.loop UH))) (.seq (.pF [] [z 6 (.yk (.c (.I 0)))]) (.ret))))))⟩:pK)).1,by kernel_rfl⟩
def ZK:=ck A f45 [1,0] ⟨_,by cbv⟩
def Ub:=ck A f45 [1,1,0] ⟨_,by cbv⟩
def Ua:=ck A f45 [1,1,1] ⟨_,by cbv⟩
def p45:bm A f45:=⟨(⟨_,by conv=>lhs;simp only[ck,ZK,Ub,Ua]⟩:Nf (⟨65,[.t 4],.seq (.pF [] [z 3 (.box 38 (.t 1)),z 4 (.yk (.c (.I 0)))]) (.seq (ZK) (.seq (Ub) (Ua)))⟩:pK)).1,by kernel_rfl⟩
def p44:bm A f44:=⟨_,by cbv⟩
def p90:bm A f90:=⟨_,by cbv⟩
def p18:bm A f18:=⟨_,by cbv⟩
def ZI:=ck A f60 [1,0] ⟨_,by cbv⟩
def T7:=ck A f60 [1,1,0] ⟨_,by cbv⟩
def T6:=ck A f60 [1,1,1] ⟨_,by cbv⟩
def p60:bm A f60:=⟨(⟨_,by conv=>lhs;simp only[ck,ZI,T7,T6]⟩:Nf (⟨41,[.t 4],.seq (.pF [] [z 3 (.box 76 (.t 1)),z 4 (.yk (.c (.I 0)))]) (.seq (ZI) (.seq (T7) (T6)))⟩:pK)).1,by kernel_rfl⟩
def an8:bm A f119:=⟨_,by cbv⟩
def q61:=(⟨_,by cbv⟩:Nf (gd A f61))
def UB:bK:=(⟨_,by cbv⟩:Nf (fC q61.1 0 [])).1
def p61:bm A f61:=⟨(λa=>(⟨_,by cbv⟩:Nf (gn q61.1 [a])).1) UB,by kernel_rfl⟩
def p66:bm A f66:=⟨_,by cbv⟩
def q23:=(⟨_,by cbv⟩:Nf (gd A f23))
def JY:bK:=(⟨_,by cbv⟩:Nf (fC q23.1 0 [])).1
def p23:bm A f23:=⟨(λa=>(⟨_,by cbv⟩:Nf (gn q23.1 [a])).1) JY,by kernel_rfl⟩
def q21:=(⟨_,by cbv⟩:Nf (gd A f21))
def UX:bK:=(⟨_,by cbv⟩:Nf (fC q21.1 0 [])).1
def UW:bK:=(⟨_,by cbv⟩:Nf (fC q21.1 1 [])).1
def Pw:bK:=(⟨_,by cbv⟩:Nf (fC q21.1 2 [])).1
def UU:bK:=(λa=>(⟨_,by cbv⟩:Nf (fC q21.1 3 [a])).1) Pw
def UT:bK:=(⟨_,by cbv⟩:Nf (fC q21.1 4 [])).1
def p21:bm A f21:=⟨(λe c b d a=>(⟨_,by cbv⟩:Nf (gn q21.1 [e,c,b,d,a])).1) UX UW Pw UU UT,by kernel_rfl⟩
def FH:=ck A f89 [1,1,1,0,0,0] ⟨_,by cbv⟩
def ag0:=ck A f89 [0] ⟨_,by cbv⟩
def OX:=ck A f89 [1,1,1,1] ⟨_,by cbv⟩
def JW:bK:=(⟨_,by conv=>lhs;simp only[ck,FH]⟩:Nf (FH:bK)).1
def p89:bm A f89:=⟨(⟨_,by conv=>lhs;simp only[ck,ag0,OX]⟩:Nf (⟨49,[.t 6,.t 7],.seq (ag0) (.seq (.pF [] [zm 12 0,z 13 (.len false (.t 12)),zm 8 13]) (.seq (.pF [] [zm 14 8,z 9 (.yk (.c (.I 0))),zm 10 14]) (.seq (.block 0 (.loop JW)) (OX))))⟩:pK)).1,by kernel_rfl⟩
def p94:bm A f94:=⟨_,by cbv⟩
def anM:bm A f143:=⟨_,by cbv⟩
def alE:=(⟨_,by cbv⟩:Nf (gd A f191))
def L2:bK:=(⟨_,by cbv⟩:Nf (fC alE.1 0 [])).1
def am7:bm A f191:=⟨(λa=>(⟨_,by cbv⟩:Nf (gn alE.1 [a])).1) L2,by kernel_rfl⟩
def ah8:=(⟨_,by cbv⟩:Nf (gd A f118))
def Gl:bK:=(⟨_,by cbv⟩:Nf (fC ah8.1 0 [])).1
def Mt:bK:=(λa=>(⟨_,by cbv⟩:Nf (fC ah8.1 1 [a])).1) Gl
def an9:bm A f118:=⟨(λa b=>(⟨_,by cbv⟩:Nf (gn ah8.1 [a,b])).1) Gl Mt,by kernel_rfl⟩
def al0:=(⟨_,by cbv⟩:Nf (gd A f124))
def Mp:bK:=(⟨_,by cbv⟩:Nf (fC al0.1 0 [])).1
def an3:bm A f124:=⟨(λa=>(⟨_,by cbv⟩:Nf (gn al0.1 [a])).1) Mp,by kernel_rfl⟩
def an2:bm A f125:=⟨_,by cbv⟩
def p36:bm A f36:=⟨_,by cbv⟩
def Um:=ck A f10 [1,1,0] ⟨_,by cbv⟩
def Pe:=ck A f10 [1,1,1,0] ⟨_,by cbv⟩
def JS:=ck A f10 [1,1,1,1,0] ⟨_,by cbv⟩
def JR:=ck A f10 [1,1,1,1,1] ⟨_,by cbv⟩
def p10:bm A f10:=⟨(⟨_,by conv=>lhs;simp only[ck,Um,Pe,JS,JR]⟩:Nf (⟨82,[.t 0],.seq (.pF [] [z 0 (.yk (.c (.b false)))]) (.seq (.pF [] [z 1 (.yk (.c (.fn 36 [])))]) (.seq (Um) (.seq (Pe) (.seq (JS) (JR)))))⟩:pK)).1,by kernel_rfl⟩
