/- A part of a proof; the claim's last text says of what. -/
import Derived.Test.YtfeddmfijllgmaaGreatDoorProg
import Derived.KernelRfl
import Derived.Test.YtfeddmfijllgmaaGreatDoorB8
set_option linter.all false
open Option renaming some->S,none->Z
open Go.Proofs.Tryz renaming prog->κ

namespace Go.Proofs.Tryz
open Go Go.Pm
set_option maxRecDepth 100000
def q16:=(⟨_,by cbv⟩:Nf (gK κ f16))
def Xx:aJ:=(⟨_,by cbv⟩:Nf (gg q16.1 0 [])).1
def p16:bl κ f16:=⟨(λa=>(⟨_,by cbv⟩:Nf (gU q16.1 [a])).1) Xx,by kernel_rfl⟩
def p48:bl κ f48:=⟨_,by cbv⟩
def aqj:bl κ f105:=⟨_,by cbv⟩
def an6:=(⟨_,by cbv⟩:Nf (gK κ f102))
def Pw:aJ:=(⟨_,by cbv⟩:Nf (gg an6.1 0 [])).1
def aqm:bl κ f102:=⟨(λa=>(⟨_,by cbv⟩:Nf (gU an6.1 [a])).1) Pw,by kernel_rfl⟩
def aqi:bl κ f106:=⟨_,by cbv⟩
def p99:bl κ f99:=⟨_,by cbv⟩
def p47:bl κ f47:=⟨_,by cbv⟩
def p50:bl κ f50:=⟨_,by cbv⟩
def q52:=(⟨_,by cbv⟩:Nf (gK κ f52))
def MS:aJ:=(⟨_,by cbv⟩:Nf (gg q52.1 0 [])).1
def p52:bl κ f52:=⟨(λa=>(⟨_,by cbv⟩:Nf (gU q52.1 [a])).1) MS,by kernel_rfl⟩
def Ai:aJ:=(⟨_,by cbv⟩:Nf (sc κ f53 [1,0,1,0,1,1,0,1,0,0])).1
def DL:aJ:=(⟨_,by cbv⟩:Nf (sc κ f53 [1,1,1,1,1,0,0,0])).1
def ai2:aJ:=(⟨_,by cbv⟩:Nf (sc κ f53 [0])).1
def MF:aJ:=(⟨_,by cbv⟩:Nf (sc κ f53 [1,0,1,0,0])).1
def DM:aJ:=(⟨_,by cbv⟩:Nf (sc κ f53 [1,0,1,0,1,1,0,0])).1
def Gc:aJ:=(⟨_,by cbv⟩:Nf (sc κ f53 [1,0,1,0,1,1,1])).1
def WH:aJ:=(⟨_,by cbv⟩:Nf (sc κ f53 [1,1,0])).1
def RN:aJ:=(⟨_,by cbv⟩:Nf (sc κ f53 [1,1,1,0])).1
def IV:aJ:=(⟨_,by cbv⟩:Nf (sc κ f53 [1,1,1,1,1,1])).1
def Xi:aJ:=(⟨_,by conv=>lhs;simp only[Ai]⟩:Nf (Ai:aJ)).1
def Xh:aJ:=(⟨_,by conv=>lhs;simp only[DL]⟩:Nf (DL:aJ)).1
def p53:bl κ f53:=⟨(⟨_,by conv=>lhs;simp only[ai2,MF,DM,Gc,WH,RN,IV]⟩:Nf (⟨86,[.c 8 (S 3),.t 9],.seq (ai2) (.seq (.seq (.ij [] [zm 14 3]) (.ite (.t 14) (.seq (MF) (.seq (.ij [] [z 10 (.nL (.c .nil))]) (.seq (.seq (DM) (.block 0 (.loop Xi))) (Gc)))) (.skip))) (.seq (WH) (.seq (RN) (.seq (.ij [] [z 13 (.nL (.c (.I 0)))]) (.seq (.block 2 (.loop Xh)) (IV))))))⟩:nR)).1,by kernel_rfl⟩
def ai1:aJ:=(⟨_,by cbv⟩:Nf (sc κ f57 [0])).1
def abU:aJ:=(⟨_,by cbv⟩:Nf (sc κ f57 [1,0])).1
def WG:aJ:=(⟨_,by cbv⟩:Nf (sc κ f57 [1,1,0])).1
def RM:aJ:=(⟨_,by cbv⟩:Nf (sc κ f57 [1,1,1,0])).1
def RL:aJ:=(⟨_,by cbv⟩:Nf (sc κ f57 [1,1,1,1])).1
def p57:bl κ f57:=⟨(⟨_,by conv=>lhs;simp only[ai1,abU,WG,RM,RL]⟩:Nf (⟨76,[.c 4 (S 3),.t 5],.seq (ai1) (.seq (abU) (.seq (WG) (.seq (RM) (RL))))⟩:nR)).1,by kernel_rfl⟩
def ai5:aJ:=(⟨_,by cbv⟩:Nf (sc κ f19 [0])).1
def ab0:aJ:=(⟨_,by cbv⟩:Nf (sc κ f19 [1,0])).1
def WO:aJ:=(⟨_,by cbv⟩:Nf (sc κ f19 [1,1,0])).1
def Ci:aJ:=(⟨_,by cbv⟩:Nf (sc κ f19 [1,1,1,0,1,0,1,0,1])).1
def zp:aJ:=(⟨_,by cbv⟩:Nf (sc κ f19 [1,1,1,0,1,0,1,1,1,0,1])).1
def xH:aJ:=(⟨_,by cbv⟩:Nf (sc κ f19 [1,1,1,0,1,0,1,1,1,1,1,0])).1
def wB:aJ:=(⟨_,by cbv⟩:Nf (sc κ f19 [1,1,1,0,1,0,1,1,1,1,1,1,0])).1
def vv:aJ:=(⟨_,by cbv⟩:Nf (sc κ f19 [1,1,1,0,1,0,1,1,1,1,1,1,1,0])).1
def tJ:aJ:=(⟨_,by cbv⟩:Nf (sc κ f19 [1,1,1,0,1,0,1,1,1,1,1,1,1,1,1,0])).1
def rG:aJ:=(⟨_,by cbv⟩:Nf (sc κ f19 [1,1,1,0,1,0,1,1,1,1,1,1,1,1,1,1,1,0])).1
def qh:aJ:=(⟨_,by cbv⟩:Nf (sc κ f19 [1,1,1,0,1,0,1,1,1,1,1,1,1,1,1,1,1,1,1,0])).1
def RU:aJ:=(⟨_,by cbv⟩:Nf (sc κ f19 [1,1,1,1])).1
def p19:bl κ f19:=⟨(⟨_,by conv=>lhs;simp only[ai5,ab0,WO,Ci,zp,xH,wB,vv,tJ,rG,qh,RU]⟩:Nf (⟨165,[.c 4 (S 3),.t 5],.seq (ai5) (.seq (ab0) (.seq (WO) (.seq (.seq (.ij [] [zf 23 0 3,zl 24 23]) (.block 0 (.seq (.ij [] [z 26 (.bin .eql (.t 24) (.c (.I 1))),zm 25 26]) (.ite (.t 25) (.seq (.dfl [(7,61,[.I 0,.I 0,.nil,.nil,.I 0,.b false]),(8,57,[.I 0,.I 0,.I 0,.I 0,.nil,.nil,.s [],.s [],.s [],.s [],.I 0,.I 0,.nil])] [([zf 28 0 6,zl 29 28,zf 30 1 3,zl 31 30,z 32 (.idx 6 (.t 29) (.t 31)),zL 33 6 32,zf 34 4 3,zL 35 8 34],z 36 (.call 49 [.t 33,.t 35]),[])] [([zm 27 36,z 37 (.ext 0 (.t 27)),z 38 (.ext 1 (.t 27)),z 39 (.ext 2 (.t 27))],zs (.store 6 [Z,Z,S 13,S 1,Z,Z] (.t 7) (.t 37)),[]),([],zs (.store 13 [Z,Z,Z,Z,S 3,S 3,Z,Z,Z,Z,Z,Z,S 1] (.t 8) (.t 38)),[])] [] [] [zm 9 39]) (Ci)) (.seq (.ij [] [z 49 (.bin .eql (.t 24) (.c (.I 2))),zm 48 49]) (.ite (.t 48) (.seq (.dfl [(10,61,[.I 0,.I 0,.nil,.nil,.I 0,.b false]),(11,57,[.I 0,.I 0,.I 0,.I 0,.nil,.nil,.s [],.s [],.s [],.s [],.I 0,.I 0,.nil])] [([zf 51 0 6,zl 52 51,zf 53 1 3,zl 54 53,z 55 (.idx 6 (.t 52) (.t 54)),zL 56 6 55,zf 57 4 3,zL 58 8 57],z 59 (.call 51 [.t 56,.t 58]),[])] [([zm 50 59,z 60 (.ext 0 (.t 50)),z 61 (.ext 1 (.t 50)),z 62 (.ext 2 (.t 50))],zs (.store 6 [Z,Z,S 13,S 1,Z,Z] (.t 10) (.t 60)),[]),([],zs (.store 13 [Z,Z,Z,Z,S 3,S 3,Z,Z,Z,Z,Z,Z,S 1] (.t 11) (.t 61)),[])] [] [] [zm 12 62]) (zp)) (.seq (.ij [] [z 72 (.bin .eql (.t 24) (.c (.I 3))),zm 71 72]) (.ite (.t 71) (xH) (.seq (wB) (.ite (.t 81) (vv) (.seq (.ij [] [z 96 (.bin .eql (.t 24) (.c (.I 9))),zm 95 96]) (.ite (.t 95) (tJ) (.seq (.ij [] [z 116 (.bin .eql (.t 24) (.c (.I 10))),zm 115 116]) (.ite (.t 115) (rG) (.seq (.ij [] [z 141 (.bin .eql (.t 24) (.c (.I 11))),zm 140 141]) (.ite (.t 140) (qh) (.skip))))))))))))))))) (RU))))⟩:nR)).1,by kernel_rfl⟩
def p32:bl κ f32:=⟨_,by cbv⟩
def q75:=(⟨_,by cbv⟩:Nf (gK κ f75))
def W8:aJ:=(⟨_,by cbv⟩:Nf (gg q75.1 0 [])).1
def p75:bl κ f75:=⟨(λa=>(⟨_,by cbv⟩:Nf (gU q75.1 [a])).1) W8,by kernel_rfl⟩
def q76:=(⟨_,by cbv⟩:Nf (gK κ f76))
def W7:aJ:=(⟨_,by cbv⟩:Nf (gg q76.1 0 [])).1
def p76:bl κ f76:=⟨(λa=>(⟨_,by cbv⟩:Nf (gU q76.1 [a])).1) W7,by kernel_rfl⟩
def ai4:aJ:=(⟨_,by cbv⟩:Nf (sc κ f38 [0])).1
def abZ:aJ:=(⟨_,by cbv⟩:Nf (sc κ f38 [1,0])).1
def WM:aJ:=(⟨_,by cbv⟩:Nf (sc κ f38 [1,1,1])).1
def p38:bl κ f38:=⟨(⟨_,by conv=>lhs;simp only[ai4,abZ,WM]⟩:Nf (⟨61,[.c 4 (S 12)],.seq (ai4) (.seq (abZ) (.seq (.dfl [(6,38,[.I 0,.I 0,.I 0,.I 0,.nil,.nil,.s [],.s [],.s [],.s [],.I 0,.I 0])] [([z 12 (.gM 1 [Z] [.c (.I 1),.c (.I 1),.c (.I 1),.c (.I 2),.c (.I 3),.c (.I 3),.c (.I 3),.c (.I 4),.c (.I 4),.c (.I 4),.c (.I 5),.c (.I 6),.c (.I 7),.c (.I 8),.c (.I 9),.c (.I 10),.c (.I 11),.c (.I 11)]),zm 13 0,zm 17 0,zm 18 5,zm 20 0,zm 21 5,zm 23 0,zf 24 1 3,zl 25 24,z 26 (.len false (.t 25)),z 27 (.max2 (.c (.I 1)) (.t 26))],z 14 (.call 37 [.t 13,.c (.I 18)]),[z 12 (.gM 1 [Z] [.c (.I 1),.c (.I 1),.c (.I 1),.c (.I 2),.c (.I 3),.c (.I 3),.c (.I 3),.c (.I 4),.c (.I 4),.c (.I 4),.c (.I 5),.c (.I 6),.c (.I 7),.c (.I 8),.c (.I 9),.c (.I 10),.c (.I 11),.c (.I 11)]),zf 24 1 3,zl 25 24,z 26 (.len false (.t 25))]),([z 15 (.idx 1 (.t 12) (.t 14)),zl 16 15],z 19 (.call 37 [.t 17,.t 18]),[z 12 (.gM 1 [Z] [.c (.I 1),.c (.I 1),.c (.I 1),.c (.I 2),.c (.I 3),.c (.I 3),.c (.I 3),.c (.I 4),.c (.I 4),.c (.I 4),.c (.I 5),.c (.I 6),.c (.I 7),.c (.I 8),.c (.I 9),.c (.I 10),.c (.I 11),.c (.I 11)]),z 15 (.idx 1 (.t 12) (.t 14)),zl 16 15,zf 24 1 3,zl 25 24,z 26 (.len false (.t 25))]),([],z 22 (.call 37 [.t 20,.t 21]),[z 12 (.gM 1 [Z] [.c (.I 1),.c (.I 1),.c (.I 1),.c (.I 2),.c (.I 3),.c (.I 3),.c (.I 3),.c (.I 4),.c (.I 4),.c (.I 4),.c (.I 5),.c (.I 6),.c (.I 7),.c (.I 8),.c (.I 9),.c (.I 10),.c (.I 11),.c (.I 11)]),z 15 (.idx 1 (.t 12) (.t 14)),zl 16 15,zf 24 1 3,zl 25 24,z 26 (.len false (.t 25))]),([],z 28 (.call 37 [.t 23,.t 27]),[z 12 (.gM 1 [Z] [.c (.I 1),.c (.I 1),.c (.I 1),.c (.I 2),.c (.I 3),.c (.I 3),.c (.I 3),.c (.I 4),.c (.I 4),.c (.I 4),.c (.I 5),.c (.I 6),.c (.I 7),.c (.I 8),.c (.I 9),.c (.I 10),.c (.I 11),.c (.I 11)]),z 15 (.idx 1 (.t 12) (.t 14)),zl 16 15])] [] [z 29 (.build [.I 0,.I 0,.I 0,.I 0,.nil,.nil,.s [],.s [],.s [],.s [],.I 0,.I 0] [(0,1,.t 16),(1,1,.t 19),(2,1,.t 22),(3,1,.t 28)])] [] [zs (.store 12 [Z,Z,Z,Z,S 3,S 3,Z,Z,Z,Z,Z,Z] (.t 6) (.t 29))]) (WM)))⟩:nR)).1,by kernel_rfl⟩
def q13:=(⟨_,by cbv⟩:Nf (gK κ f13))
def Xz:aJ:=(⟨_,by cbv⟩:Nf (gg q13.1 0 [])).1
def p13:bl κ f13:=⟨(λa=>(⟨_,by cbv⟩:Nf (gU q13.1 [a])).1) Xz,by kernel_rfl⟩
def q11:=(⟨_,by cbv⟩:Nf (gK κ f11))
def qi:aJ:=(⟨_,by cbv⟩:Nf (gg q11.1 0 [])).1
def K7:bl κ f11:=⟨(λa=>(⟨_,by cbv⟩:Nf (gU q11.1 [a])).1) qi,by kernel_rfl⟩
end Go.Proofs.Tryz
