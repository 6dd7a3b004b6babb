/- Part of a proof. -/
import Derived.Test.YtfeddmfijllgmaaGreatDoorProg
import Derived.KernelRfl
import Derived.Test.YtfeddmfijllgmaaGreatDoorZ6
set_option linter.all false
open Option renaming some->S,none->Y
open Bool renaming false->Z
open Go.Proofs.Tryz renaming prog->A
namespace Go.Proofs.Tryz
open Go Go.Pm
set_option maxRecDepth 100000
def q16:=(⟨_,by cbv⟩:Nf (gd A f16))
def U1:bK:=(⟨_,by cbv⟩:Nf (fC q16.1 0 [])).1
def p16:bm A f16:=⟨(λa=>(⟨_,by cbv⟩:Nf (gn q16.1 [a])).1) U1,by kernel_rfl⟩
def FT:=ck A f20 [1,1,0,1,0,0] ⟨_,by cbv⟩
def uv:=ck A f20 [1,1,1,0,1,0,0,1,1,0,0,0] ⟨_,by cbv⟩
def sY:=ck A f20 [1,1,1,0,1,0,0,1,1,0,0,1,1] ⟨_,by cbv⟩
def AT:=ck A f20 [1,1,1,1,0,1,0,0] ⟨_,by cbv⟩
def ag7:=ck A f20 [0] ⟨_,by cbv⟩
def ZP:=ck A f20 [1,0] ⟨_,by cbv⟩
def O7:=ck A f20 [1,1,0,0] ⟨_,by cbv⟩
def JL:=ck A f20 [1,1,1,0,0] ⟨_,by cbv⟩
def FQ:=ck A f20 [1,1,1,1,0,0] ⟨_,by cbv⟩
def U0:bK:=(⟨_,by conv=>lhs;simp only[ck,FT]⟩:Nf (FT:bK)).1
def UZ:bK:=(⟨_,by conv=>lhs;simp only[ck,uv,sY]⟩:Nf (.seq (.pF [] [z 57 (.bin .lss (.t 56) (.t 55))]) (.seq (.ite (.t 57) (.skip) (.exit 2)) (.seq (.block 3 (.seq (uv) (.seq (.tQ [] [zf 61 0 7,zl 62 61,zf 63 1 3,zl 64 63,zm 65 6,z 66 (.idx 15 (.t 64) (.t 65)),zf 67 0 66,zl 68 67,z 69 (.bin .neq (.t 62) (.t 68)),zm 70 69,⟨S 71,[(70,Z)],.Qp 1 (.t 7)⟩,⟨S 72,[(70,Z)],.load Y (.t 71)⟩,⟨S 73,[(70,Z)],.Qp 1 (.t 3)⟩,⟨S 74,[(70,Z)],.load Y (.t 73)⟩,⟨S 75,[(70,Z)],.yk (.t 6)⟩,⟨S 76,[(70,Z)],.idx 15 (.t 74) (.t 75)⟩,⟨S 77,[(70,Z)],.Qp 1 (.t 76)⟩,⟨S 78,[(70,Z)],.load Y (.t 77)⟩,⟨S 79,[(70,Z)],.bin .neq (.t 72) (.t 78)⟩,z 80 (.pick (.t 70) (.c (.b true)) (.t 79)),zm 81 80,⟨S 82,[(81,Z)],.Qp 2 (.t 7)⟩,⟨S 83,[(81,Z)],.load (S 13) (.t 82)⟩,⟨S 84,[(81,Z)],.Qp 1 (.t 3)⟩,⟨S 85,[(81,Z)],.load Y (.t 84)⟩,⟨S 86,[(81,Z)],.yk (.t 6)⟩,⟨S 87,[(81,Z)],.idx 15 (.t 85) (.t 86)⟩,⟨S 88,[(81,Z)],.Qp 2 (.t 87)⟩,⟨S 89,[(81,Z)],.load (S 13) (.t 88)⟩] [71,72,73,74,75,76,77,78,79,82,83,84,85,86,87,88,89,90,91] [⟨S 90,[(81,Z)],.call 58 [.t 83,.t 89]⟩,⟨S 91,[(81,Z)],.un .not (.t 90)⟩,z 92 (.pick (.t 81) (.c (.b true)) (.t 91))]) (sY)))) (.pF [] [z 93 (.bin .add (.t 56) (.c (.I 1))),zm 56 93]))):bK)).1
def UY:bK:=(⟨_,by conv=>lhs;simp only[ck,AT]⟩:Nf (AT:bK)).1
def p20:bm A f20:=⟨(⟨_,by conv=>lhs;simp only[ck,ag7,ZP,O7,JL,FQ]⟩:Nf (⟨112,[.t 4],.seq (ag7) (.seq (ZP) (.seq (.seq (O7) (.block 0 (.loop U0))) (.seq (.seq (JL) (.block 2 (.loop UZ))) (.seq (.seq (FQ) (.block 4 (.loop UY))) (.seq (.pF [] [z 4 (.yk (.c (.b true)))]) (.ret))))))⟩:pK)).1,by kernel_rfl⟩
def p48:bm A f48:=⟨_,by cbv⟩
def aok:bm A f105:=⟨_,by cbv⟩
def al7:=(⟨_,by cbv⟩:Nf (gd A f102))
def MC:bK:=(⟨_,by cbv⟩:Nf (fC al7.1 0 [])).1
def aon:bm A f102:=⟨(λa=>(⟨_,by cbv⟩:Nf (gn al7.1 [a])).1) MC,by kernel_rfl⟩
def aoj:bm A f106:=⟨_,by cbv⟩
def p99:bm A f99:=⟨_,by cbv⟩
def p47:bm A f47:=⟨_,by cbv⟩
def p50:bm A f50:=⟨_,by cbv⟩
def q52:=(⟨_,by cbv⟩:Nf (gd A f52))
def JX:bK:=(⟨_,by cbv⟩:Nf (fC q52.1 0 [])).1
def p52:bm A f52:=⟨(λa=>(⟨_,by cbv⟩:Nf (gn q52.1 [a])).1) JX,by kernel_rfl⟩
def wO:=ck A f53 [1,0,1,0,1,1,0,1,0,0] ⟨_,by cbv⟩
def AO:=ck A f53 [1,1,1,1,1,0,0,0] ⟨_,by cbv⟩
def ag5:=ck A f53 [0] ⟨_,by cbv⟩
def JJ:=ck A f53 [1,0,1,0,0] ⟨_,by cbv⟩
def AP:=ck A f53 [1,0,1,0,1,1,0,0] ⟨_,by cbv⟩
def C5:=ck A f53 [1,0,1,0,1,1,1] ⟨_,by cbv⟩
def T9:=ck A f53 [1,1,0] ⟨_,by cbv⟩
def O2:=ck A f53 [1,1,1,0] ⟨_,by cbv⟩
def FL:=ck A f53 [1,1,1,1,1,1] ⟨_,by cbv⟩
def UG:bK:=(⟨_,by conv=>lhs;simp only[ck,wO]⟩:Nf (wO:bK)).1
def UF:bK:=(⟨_,by conv=>lhs;simp only[ck,AO]⟩:Nf (AO:bK)).1
def p53:bm A f53:=⟨(⟨_,by conv=>lhs;simp only[ck,ag5,JJ,AP,C5,T9,O2,FL]⟩:Nf (⟨86,[.c 8 (S 3),.t 9],.seq (ag5) (.seq (.seq (.pF [] [zm 14 3]) (.ite (.t 14) (.seq (JJ) (.seq (.pF [] [z 10 (.yk (.c .nil))]) (.seq (.seq (AP) (.block 0 (.loop UG))) (C5)))) (.skip))) (.seq (T9) (.seq (O2) (.seq (.pF [] [z 13 (.yk (.c (.I 0)))]) (.seq (.block 2 (.loop UF)) (FL))))))⟩:pK)).1,by kernel_rfl⟩
def ag4:=ck A f57 [0] ⟨_,by cbv⟩
def ZJ:=ck A f57 [1,0] ⟨_,by cbv⟩
def T8:=ck A f57 [1,1,0] ⟨_,by cbv⟩
def O1:=ck A f57 [1,1,1,0] ⟨_,by cbv⟩
def O0:=ck A f57 [1,1,1,1] ⟨_,by cbv⟩
def p57:bm A f57:=⟨(⟨_,by conv=>lhs;simp only[ck,ag4,ZJ,T8,O1,O0]⟩:Nf (⟨76,[.c 4 (S 3),.t 5],.seq (ag4) (.seq (ZJ) (.seq (T8) (.seq (O1) (O0))))⟩:pK)).1,by kernel_rfl⟩
def ag8:=ck A f19 [0] ⟨_,by cbv⟩
def ZQ:=ck A f19 [1,0] ⟨_,by cbv⟩
def Uf:=ck A f19 [1,1,0] ⟨_,by cbv⟩
def zg:=ck A f19 [1,1,1,0,1,0,1,0,1] ⟨_,by cbv⟩
def vR:=ck A f19 [1,1,1,0,1,0,1,1,1,0,1] ⟨_,by cbv⟩
def uw:=ck A f19 [1,1,1,0,1,0,1,1,1,1,1,0] ⟨_,by cbv⟩
def sZ:=ck A f19 [1,1,1,0,1,0,1,1,1,1,1,1,0] ⟨_,by cbv⟩
def sd:=ck A f19 [1,1,1,0,1,0,1,1,1,1,1,1,1,0] ⟨_,by cbv⟩
def qA:=ck A f19 [1,1,1,0,1,0,1,1,1,1,1,1,1,1,1,0] ⟨_,by cbv⟩
def pg:=ck A f19 [1,1,1,0,1,0,1,1,1,1,1,1,1,1,1,1,1,0] ⟨_,by cbv⟩
def nV:=ck A f19 [1,1,1,0,1,0,1,1,1,1,1,1,1,1,1,1,1,1,1,0] ⟨_,by cbv⟩
def O8:=ck A f19 [1,1,1,1] ⟨_,by cbv⟩
def Yx:bm A f19:=⟨(⟨_,by conv=>lhs;simp only[ck,ag8,ZQ,Uf,zg,vR,uw,sZ,sd,qA,pg,nV,O8]⟩:Nf (⟨165,[.c 4 (S 3),.t 5],.seq (ag8) (.seq (ZQ) (.seq (Uf) (.seq (.seq (.pF [] [zf 23 0 3,zl 24 23]) (.block 0 (.seq (.pF [] [z 26 (.bin .eql (.t 24) (.c (.I 1))),zm 25 26]) (.ite (.t 25) (.seq (.YI [(7,61,[.I 0,.I 0,.nil,.nil,.I 0,.b Z]),(8,57,[.I 0,.I 0,.I 0,.I 0,.nil,.nil,.s [],.s [],.s [],.s [],.I 0,.I 0,.nil])] [([zf 28 0 6,zl 29 28,zf 30 1 3,zl 31 30,z 32 (.idx 6 (.t 29) (.t 31)),zL 33 6 32,zf 34 4 3,zL 35 8 34],z 36 (.call 49 [.t 33,.t 35]),[])] [([zm 27 36,z 37 (.ext 0 (.t 27)),z 38 (.ext 1 (.t 27)),z 39 (.ext 2 (.t 27))],zs (.store 6 [Y,Y,S 13,S 1,Y,Y] (.t 7) (.t 37)),[]),([],zs (.store 13 [Y,Y,Y,Y,S 3,S 3,Y,Y,Y,Y,Y,Y,S 1] (.t 8) (.t 38)),[])] [] [] [zm 9 39]) (zg)) (.seq (.pF [] [z 49 (.bin .eql (.t 24) (.c (.I 2))),zm 48 49]) (.ite (.t 48) (.seq (.YI [(10,61,[.I 0,.I 0,.nil,.nil,.I 0,.b Z]),(11,57,[.I 0,.I 0,.I 0,.I 0,.nil,.nil,.s [],.s [],.s [],.s [],.I 0,.I 0,.nil])] [([zf 51 0 6,zl 52 51,zf 53 1 3,zl 54 53,z 55 (.idx 6 (.t 52) (.t 54)),zL 56 6 55,zf 57 4 3,zL 58 8 57],z 59 (.call 51 [.t 56,.t 58]),[])] [([zm 50 59,z 60 (.ext 0 (.t 50)),z 61 (.ext 1 (.t 50)),z 62 (.ext 2 (.t 50))],zs (.store 6 [Y,Y,S 13,S 1,Y,Y] (.t 10) (.t 60)),[]),([],zs (.store 13 [Y,Y,Y,Y,S 3,S 3,Y,Y,Y,Y,Y,Y,S 1] (.t 11) (.t 61)),[])] [] [] [zm 12 62]) (vR)) (.seq (.pF [] [z 72 (.bin .eql (.t 24) (.c (.I 3))),zm 71 72]) (.ite (.t 71) (uw) (.seq (sZ) (.ite (.t 81) (sd) (.seq (.pF [] [z 96 (.bin .eql (.t 24) (.c (.I 9))),zm 95 96]) (.ite (.t 95) (qA) (.seq (.pF [] [z 116 (.bin .eql (.t 24) (.c (.I 10))),zm 115 116]) (.ite (.t 115) (pg) (.seq (.pF [] [z 141 (.bin .eql (.t 24) (.c (.I 11))),zm 140 141]) (.ite (.t 140) (nV) (.skip))))))))))))))))) (O8))))⟩:pK)).1,by kernel_rfl⟩
def Da:=ck A f22 [1,1,1,0,1,0,0] ⟨_,by cbv⟩
def AS:=ck A f22 [1,1,1,1,0,1,0,0] ⟨_,by cbv⟩
def oP:=ck A f22 [1,1,1,1,1,1,1,0,1,0,0,1,1,0,0,1,1,0,0] ⟨_,by cbv⟩
def qz:=ck A f22 [1,1,1,1,1,1,1,0,1,0,0,1,1,0,0,0] ⟨_,by cbv⟩
def pP:=ck A f22 [1,1,1,1,1,1,1,0,1,0,0,1,1,0,0,1,0] ⟨_,by cbv⟩
def nM:=ck A f22 [1,1,1,1,1,1,1,1,0,1,0,0,1,1,0,0,1,0,1,0,0] ⟨_,by cbv⟩
def oO:=ck A f22 [1,1,1,1,1,1,1,1,0,1,0,0,1,1,0,0,1,0,0] ⟨_,by cbv⟩
def pe:=ck A f22 [1,1,1,1,1,1,1,1,0,1,0,0,1,1,0,0,1,1] ⟨_,by cbv⟩
def ZO:=ck A f22 [1,0] ⟨_,by cbv⟩
def JK:=ck A f22 [1,1,1,0,0] ⟨_,by cbv⟩
def FP:=ck A f22 [1,1,1,1,0,0] ⟨_,by cbv⟩
def ze:=ck A f22 [1,1,1,1,1,1,1,0,0] ⟨_,by cbv⟩
def wV:=ck A f22 [1,1,1,1,1,1,1,1,0,0] ⟨_,by cbv⟩
def zd:=ck A f22 [1,1,1,1,1,1,1,1,1] ⟨_,by cbv⟩
def US:bK:=(⟨_,by conv=>lhs;simp only[ck,Da]⟩:Nf (Da:bK)).1
def UR:bK:=(⟨_,by conv=>lhs;simp only[ck,AS]⟩:Nf (AS:bK)).1
def UQ:bK:=(⟨_,by conv=>lhs;simp only[ck,oP]⟩:Nf (oP:bK)).1
def UP:bK:=(⟨_,by conv=>lhs;simp only[ck,qz,pP]⟩:Nf (.seq (.pF [] [z 94 (.bin .lss (.t 93) (.t 92))]) (.seq (.ite (.t 94) (.skip) (.exit 4)) (.seq (.block 5 (.seq (qz) (.seq (pP) (.block 6 (.loop UQ))))) (.pF [] [z 121 (.bin .add (.t 93) (.c (.I 1))),zm 93 121]))):bK)).1
def UO:bK:=(⟨_,by conv=>lhs;simp only[ck,nM]⟩:Nf (nM:bK)).1
def UN:bK:=(⟨_,by conv=>lhs;simp only[ck,oO,pe]⟩:Nf (.seq (.pF [] [z 126 (.bin .lss (.t 125) (.t 124))]) (.seq (.ite (.t 126) (.skip) (.exit 8)) (.seq (.block 9 (.seq (.pF [] [zm 127 125,zm 19 127]) (.seq (.seq (oO) (.block 10 (.loop UO))) (pe)))) (.pF [] [z 168 (.bin .add (.t 125) (.c (.I 1))),zm 125 168]))):bK)).1
def p22:bm A f22:=⟨(⟨_,by conv=>lhs;simp only[ck,ZO,JK,FP,ze,wV,zd]⟩:Nf (⟨170,[.c 2 (S 3)],.seq (.pF [] [z 1 (.box 29 (.t 0)),z 2 (.alloc 29 [.nil,.nil,.nil])]) (.seq (ZO) (.seq (.pF [] [zf 28 2 3,zs (.store 1 [S 2] (.t 28) (.c .nil))]) (.seq (.seq (JK) (.block 0 (.loop US))) (.seq (.seq (FP) (.block 2 (.loop UR))) (.seq (.pF [] [zf 89 1 3,zs (.store 1 [S 15] (.t 89) (.c .nil))]) (.seq (.pF [] [z 12 (.yk (.c .nil))]) (.seq (.seq (ze) (.block 4 (.loop UP))) (.seq (.seq (wV) (.block 8 (.loop UN))) (zd)))))))))⟩:pK)).1,by kernel_rfl⟩
def p32:bm A f32:=⟨_,by cbv⟩
def q75:=(⟨_,by cbv⟩:Nf (gd A f75))
def Uv:bK:=(⟨_,by cbv⟩:Nf (fC q75.1 0 [])).1
def p75:bm A f75:=⟨(λa=>(⟨_,by cbv⟩:Nf (gn q75.1 [a])).1) Uv,by kernel_rfl⟩
def q76:=(⟨_,by cbv⟩:Nf (gd A f76))
def Uu:bK:=(⟨_,by cbv⟩:Nf (fC q76.1 0 [])).1
def p76:bm A f76:=⟨(λa=>(⟨_,by cbv⟩:Nf (gn q76.1 [a])).1) Uu,by kernel_rfl⟩
def ag6:=ck A f38 [0] ⟨_,by cbv⟩
def ZN:=ck A f38 [1,0] ⟨_,by cbv⟩
def Ud:=ck A f38 [1,1,1] ⟨_,by cbv⟩
def p38:bm A f38:=⟨(⟨_,by conv=>lhs;simp only[ck,ag6,ZN,Ud]⟩:Nf (⟨61,[.c 4 (S 12)],.seq (ag6) (.seq (ZN) (.seq (.YI [(6,38,[.I 0,.I 0,.I 0,.I 0,.nil,.nil,.s [],.s [],.s [],.s [],.I 0,.I 0])] [([z 12 (.fT 1 [Y] [.c (.I 1),.c (.I 1),.c (.I 1),.c (.I 2),.c (.I 3),.c (.I 3),.c (.I 3),.c (.I 4),.c (.I 4),.c (.I 4),.c (.I 5),.c (.I 6),.c (.I 7),.c (.I 8),.c (.I 9),.c (.I 10),.c (.I 11),.c (.I 11)]),zm 13 0,zm 17 0,zm 18 5,zm 20 0,zm 21 5,zm 23 0,zf 24 1 3,zl 25 24,z 26 (.len Z (.t 25)),z 27 (.max2 (.c (.I 1)) (.t 26))],z 14 (.call 37 [.t 13,.c (.I 18)]),[z 12 (.fT 1 [Y] [.c (.I 1),.c (.I 1),.c (.I 1),.c (.I 2),.c (.I 3),.c (.I 3),.c (.I 3),.c (.I 4),.c (.I 4),.c (.I 4),.c (.I 5),.c (.I 6),.c (.I 7),.c (.I 8),.c (.I 9),.c (.I 10),.c (.I 11),.c (.I 11)]),zf 24 1 3,zl 25 24,z 26 (.len Z (.t 25))]),([z 15 (.idx 1 (.t 12) (.t 14)),zl 16 15],z 19 (.call 37 [.t 17,.t 18]),[z 12 (.fT 1 [Y] [.c (.I 1),.c (.I 1),.c (.I 1),.c (.I 2),.c (.I 3),.c (.I 3),.c (.I 3),.c (.I 4),.c (.I 4),.c (.I 4),.c (.I 5),.c (.I 6),.c (.I 7),.c (.I 8),.c (.I 9),.c (.I 10),.c (.I 11),.c (.I 11)]),z 15 (.idx 1 (.t 12) (.t 14)),zl 16 15,zf 24 1 3,zl 25 24,z 26 (.len Z (.t 25))]),([],z 22 (.call 37 [.t 20,.t 21]),[z 12 (.fT 1 [Y] [.c (.I 1),.c (.I 1),.c (.I 1),.c (.I 2),.c (.I 3),.c (.I 3),.c (.I 3),.c (.I 4),.c (.I 4),.c (.I 4),.c (.I 5),.c (.I 6),.c (.I 7),.c (.I 8),.c (.I 9),.c (.I 10),.c (.I 11),.c (.I 11)]),z 15 (.idx 1 (.t 12) (.t 14)),zl 16 15,zf 24 1 3,zl 25 24,z 26 (.len Z (.t 25))]),([],z 28 (.call 37 [.t 23,.t 27]),[z 12 (.fT 1 [Y] [.c (.I 1),.c (.I 1),.c (.I 1),.c (.I 2),.c (.I 3),.c (.I 3),.c (.I 3),.c (.I 4),.c (.I 4),.c (.I 4),.c (.I 5),.c (.I 6),.c (.I 7),.c (.I 8),.c (.I 9),.c (.I 10),.c (.I 11),.c (.I 11)]),z 15 (.idx 1 (.t 12) (.t 14)),zl 16 15])] [] [z 29 (.build [.I 0,.I 0,.I 0,.I 0,.nil,.nil,.s [],.s [],.s [],.s [],.I 0,.I 0] [(0,1,.t 16),(1,1,.t 19),(2,1,.t 22),(3,1,.t 28)])] [] [zs (.store 12 [Y,Y,Y,Y,S 3,S 3,Y,Y,Y,Y,Y,Y] (.t 6) (.t 29))]) (Ud)))⟩:pK)).1,by kernel_rfl⟩
def q13:=(⟨_,by cbv⟩:Nf (gd A f13))
def U3:bK:=(⟨_,by cbv⟩:Nf (fC q13.1 0 [])).1
def p13:bm A f13:=⟨(λa=>(⟨_,by cbv⟩:Nf (gn q13.1 [a])).1) U3,by kernel_rfl⟩
def q12:=(⟨_,by cbv⟩:Nf (gd A f12))
def Px:bK:=(⟨_,by cbv⟩:Nf (fC q12.1 0 [])).1
def p12:bm A f12:=⟨(λa=>(⟨_,by cbv⟩:Nf (gn q12.1 [a])).1) Px,by kernel_rfl⟩
def q11:=(⟨_,by cbv⟩:Nf (gd A f11))
def U4:bK:=(⟨_,by cbv⟩:Nf (fC q11.1 0 [])).1
def Yy:bm A f11:=⟨(λa=>(⟨_,by cbv⟩:Nf (gn q11.1 [a])).1) U4,by kernel_rfl⟩
def uo:=ck A f7 [1,1,1,1,1,1,1,1,1,0,1,0,0] ⟨_,by cbv⟩
def ag1:=ck A f7 [1,0] ⟨_,by cbv⟩
def ZF:=ck A f7 [1,1,0] ⟨_,by cbv⟩
def T3:=ck A f7 [1,1,1,0] ⟨_,by cbv⟩
def OY:=ck A f7 [1,1,1,1,0] ⟨_,by cbv⟩
def JG:=ck A f7 [1,1,1,1,1,0] ⟨_,by cbv⟩
def FI:=ck A f7 [1,1,1,1,1,1,0] ⟨_,by cbv⟩
def C4:=ck A f7 [1,1,1,1,1,1,1,0] ⟨_,by cbv⟩
def AN:=ck A f7 [1,1,1,1,1,1,1,1,0] ⟨_,by cbv⟩
def wN:=ck A f7 [1,1,1,1,1,1,1,1,1,0,0] ⟨_,by cbv⟩
def ad2:bK:=(⟨_,by conv=>lhs;simp only[ck,uo]⟩:Nf (uo:bK)).1
def p7:bm A f7:=⟨(⟨_,by conv=>lhs;simp only[ck,ag1,ZF,T3,OY,JG,FI,C4,AN,wN]⟩:Nf (⟨89,[.t 6],.seq (.pF [] [z 5 (.box 36 (.t 2)),z 6 (.yk (.c (.b Z)))]) (.seq (ag1) (.seq (ZF) (.seq (T3) (.seq (OY) (.seq (JG) (.seq (FI) (.seq (C4) (.seq (AN) (.seq (.seq (wN) (.block 0 (.loop ad2))) (.seq (.pF [] [z 88 (.call 10 []),zm 6 88]) (.ret)))))))))))⟩:pK)).1,by kernel_rfl⟩
