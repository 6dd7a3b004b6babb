/- A part of a proof; the claim's last text says of what. -/
import Derived.Test.YtfeddmfijllgmaaGreatDoorProg
import Derived.KernelRfl
import Derived.Test.YtfeddmfijllgmaaGreatDoorB8
set_option linter.all false
open Option renaming none->Z
open Go.Proofs.Tryz renaming prog->κ

namespace Go.Proofs.Tryz
open Go Go.Pm
set_option maxRecDepth 100000
def aos:bl κ f260:=⟨_,by cbv⟩
def afX:bl κ f206:=⟨_,by cbv⟩
def afY:bl κ f205:=⟨_,by cbv⟩
def ans:=(⟨_,by cbv⟩:Nf (gK κ f208))
def OL:aJ:=(⟨_,by cbv⟩:Nf (gg ans.1 0 [])).1
def aoT:bl κ f208:=⟨(λa=>(⟨_,by cbv⟩:Nf (gU ans.1 [a])).1) OL,by kernel_rfl⟩
def anL:=(⟨_,by cbv⟩:Nf (gK κ f164))
def O3:aJ:=(⟨_,by cbv⟩:Nf (gg anL.1 0 [])).1
def aps:bl κ f164:=⟨(λa=>(⟨_,by cbv⟩:Nf (gU anL.1 [a])).1) O3,by kernel_rfl⟩
def ano:=(⟨_,by cbv⟩:Nf (gK κ f229))
def Jb:aJ:=(⟨_,by cbv⟩:Nf (gg ano.1 0 [])).1
def aoK:bl κ f229:=⟨(λa=>(⟨_,by cbv⟩:Nf (gU ano.1 [a])).1) Jb,by kernel_rfl⟩
def anI:=(⟨_,by cbv⟩:Nf (gK κ f180))
def OZ:aJ:=(⟨_,by cbv⟩:Nf (gg anI.1 0 [])).1
def apf:bl κ f180:=⟨(λa=>(⟨_,by cbv⟩:Nf (gU anI.1 [a])).1) OZ,by kernel_rfl⟩
def anX:=(⟨_,by cbv⟩:Nf (gK κ f126))
def Jn:aJ:=(⟨_,by cbv⟩:Nf (gg anX.1 0 [])).1
def apZ:bl κ f126:=⟨(λa=>(⟨_,by cbv⟩:Nf (gU anX.1 [a])).1) Jn,by kernel_rfl⟩
def apL:bl κ f142:=⟨_,by cbv⟩
def ao7:bl κ f189:=⟨_,by cbv⟩
def q28:=(⟨_,by cbv⟩:Nf (gK κ f28))
def Xn:aJ:=(⟨_,by cbv⟩:Nf (gg q28.1 0 [])).1
def p28:bl κ f28:=⟨(λa=>(⟨_,by cbv⟩:Nf (gU q28.1 [a])).1) Xn,by kernel_rfl⟩
def p34:bl κ f34:=⟨_,by cbv⟩
def p17:bl κ f17:=⟨_,by cbv⟩
def ab3:aJ:=(⟨_,by cbv⟩:Nf (sc κ f117 [0])).1
def WV:aJ:=(⟨_,by cbv⟩:Nf (sc κ f117 [1,0])).1
def ML:aJ:=(⟨_,by cbv⟩:Nf (sc κ f117 [1,1,0,1])).1
def RY:aJ:=(⟨_,by cbv⟩:Nf (sc κ f117 [1,1,1])).1
def ap9:bl κ f117:=⟨(⟨_,by conv=>lhs;simp only[ab3,WV,ML,RY]⟩:Nf (⟨54,[.t 4],.seq (ab3) (.seq (WV) (.seq (.seq (.pO [([zf 16 1 5,zl 17 16,zf 18 1 6,zl 19 18,zf 21 2 5,zl 22 21,zf 23 2 6,zl 24 23,zf 26 0 5,zl 27 26,zf 28 0 6,zl 29 28,zf 31 3 2,zl 32 31,zf 33 3 3,zl 34 33],z 20 (.call 92 [.t 17,.t 19]),[zf 21 2 5,zl 22 21,zf 23 2 6,zl 24 23,zf 26 0 5,zl 27 26,zf 28 0 6,zl 29 28,zf 31 3 2,zl 32 31,zf 33 3 3,zl 34 33]),([],z 25 (.call 92 [.t 22,.t 24]),[zf 26 0 5,zl 27 26,zf 28 0 6,zl 29 28,zf 31 3 2,zl 32 31,zf 33 3 3,zl 34 33]),([],z 30 (.call 92 [.t 27,.t 29]),[zf 31 3 2,zl 32 31,zf 33 3 3,zl 34 33])] [] [] [z 35 (.call 92 [.t 32,.t 34]),z 36 (.gM 1 [Z] [.t 20,.t 25,.t 30,.t 35]),z 37 (.call 91 [.t 36]),zm 7 37]) (ML)) (RY)))⟩:nR)).1,by kernel_rfl⟩
def p37:bl κ f37:=⟨_,by cbv⟩
def aoI:bl κ f233:=⟨_,by cbv⟩
def anD:=(⟨_,by cbv⟩:Nf (gK κ f188))
def OU:aJ:=(⟨_,by cbv⟩:Nf (gg anD.1 0 [])).1
def ao8:bl κ f188:=⟨(λa=>(⟨_,by cbv⟩:Nf (gU anD.1 [a])).1) OU,by kernel_rfl⟩
def Ck:aJ:=(⟨_,by cbv⟩:Nf (sc κ f137 [1,1,1,0,1,0,0,0])).1
def xJ:aJ:=(⟨_,by cbv⟩:Nf (sc κ f137 [1,1,1,0,1,0,0,1,0,0,0])).1
def tK:aJ:=(⟨_,by cbv⟩:Nf (sc κ f137 [1,1,1,0,1,0,0,1,0,0,1,0,1,0,0])).1
def sD:aJ:=(⟨_,by cbv⟩:Nf (sc κ f137 [1,1,1,0,1,0,0,1,0,0,1,0,1,0,1,0])).1
def q7:aJ:=(⟨_,by cbv⟩:Nf (sc κ f137 [1,1,1,0,1,0,0,1,0,0,1,0,1,0,1,1,1,0])).1
def qZ:aJ:=(⟨_,by cbv⟩:Nf (sc κ f137 [1,1,1,0,1,0,0,1,0,0,1,0,1,0,1,1,1,1])).1
def wC:aJ:=(⟨_,by cbv⟩:Nf (sc κ f137 [1,1,1,0,1,0,0,1,0,0,1,1])).1
def Ap:aJ:=(⟨_,by cbv⟩:Nf (sc κ f137 [1,1,1,0,1,0,0,1,1])).1
def Cj:aJ:=(⟨_,by cbv⟩:Nf (sc κ f137 [1,1,1,1,0,1,0,0])).1
def I0:aJ:=(⟨_,by cbv⟩:Nf (sc κ f137 [1,1,1,0,0])).1
def Gi:aJ:=(⟨_,by cbv⟩:Nf (sc κ f137 [1,1,1,1,0,0])).1
def Pb:aJ:=(⟨_,by conv=>lhs;simp only[Ck,xJ,tK,sD,q7,qZ,wC,Ap]⟩:Nf (.seq (Ck) (.seq (.block 1 (.seq (xJ) (.seq (.seq (.ij [] [zm 27 0,z 28 (.call 37 [.t 27,.c (.I 8)])]) (.block 2 (.seq (tK) (.ite (.t 29) (sD) (.seq (.ij [] [z 39 (.bin .eql (.t 28) (.c (.I 2))),zm 38 39]) (.ite (.t 38) (q7) (qZ))))))) (wC)))) (Ap)):aJ)).1
def O9:aJ:=(⟨_,by conv=>lhs;simp only[Cj]⟩:Nf (Cj:aJ)).1
def apP:bl κ f137:=⟨(⟨_,by conv=>lhs;simp only[I0,Gi]⟩:Nf (⟨141,[.t 8],.seq (.ij [] [z 8 (.nL (.c .nil))]) (.seq (.ij [] [z 9 (.nL (.c .nil)),z 10 (.nL (.c .nil))]) (.seq (.ij [] [z 11 (.nL (.c (.I 0)))]) (.seq (.seq (I0) (.block 0 (.loop Pb))) (.seq (.seq (Gi) (.block 3 (.loop O9))) (.seq (.ij [] [zm 140 9,zm 8 140]) (.ret))))))⟩:nR)).1,by kernel_rfl⟩
def anR:=(⟨_,by cbv⟩:Nf (gK κ f138))
def Ji:aJ:=(⟨_,by cbv⟩:Nf (gg anR.1 0 [])).1
def apO:bl κ f138:=⟨(λa=>(⟨_,by cbv⟩:Nf (gU anR.1 [a])).1) Ji,by kernel_rfl⟩
def aiX:aJ:=(⟨_,by cbv⟩:Nf (sc κ f79 [0])).1
def abP:aJ:=(⟨_,by cbv⟩:Nf (sc κ f79 [1,0])).1
def WA:aJ:=(⟨_,by cbv⟩:Nf (sc κ f79 [1,1,0])).1
def MB:aJ:=(⟨_,by cbv⟩:Nf (sc κ f79 [1,1,1,1,0])).1
def p79:bl κ f79:=⟨(⟨_,by conv=>lhs;simp only[aiX,abP,WA,MB]⟩:Nf (⟨56,[.c 2 (some 8)],.seq (aiX) (.seq (abP) (.seq (WA) (.seq (.ij [] [zm 19 0,zm 20 3,z 21 (.call 138 [.t 19,.t 20]),zm 4 21]) (.seq (MB) (.seq (.pO [([zm 28 5,zm 29 6,z 30 (.gM 1 [Z] [.c (.s []),.c (.s []),.c (.s [83,97,118,101]),.c (.s [114,101,100,32,99,97,114])]),zm 31 0,z 35 (.gM 1 [Z] [.c (.s []),.c (.s []),.c (.s [120]),.c (.s [83,97,118,101])]),zm 36 0,z 40 (.gM 1 [Z] [.c (.s []),.c (.s [97,110,110]),.c (.s [98,111,98])]),zm 41 0,z 45 (.gM 1 [Z] [.c (.s []),.c (.s [112]),.c (.s [113])]),zm 46 0,zm 50 0,zm 52 0],z 32 (.call 37 [.t 31,.c (.I 4)]),[z 30 (.gM 1 [Z] [.c (.s []),.c (.s []),.c (.s [83,97,118,101]),.c (.s [114,101,100,32,99,97,114])]),z 35 (.gM 1 [Z] [.c (.s []),.c (.s []),.c (.s [120]),.c (.s [83,97,118,101])]),z 40 (.gM 1 [Z] [.c (.s []),.c (.s [97,110,110]),.c (.s [98,111,98])]),z 45 (.gM 1 [Z] [.c (.s []),.c (.s [112]),.c (.s [113])])]),([z 33 (.idx 1 (.t 30) (.t 32)),zl 34 33],z 37 (.call 37 [.t 36,.c (.I 4)]),[z 30 (.gM 1 [Z] [.c (.s []),.c (.s []),.c (.s [83,97,118,101]),.c (.s [114,101,100,32,99,97,114])]),z 33 (.idx 1 (.t 30) (.t 32)),zl 34 33,z 35 (.gM 1 [Z] [.c (.s []),.c (.s []),.c (.s [120]),.c (.s [83,97,118,101])]),z 40 (.gM 1 [Z] [.c (.s []),.c (.s [97,110,110]),.c (.s [98,111,98])]),z 45 (.gM 1 [Z] [.c (.s []),.c (.s [112]),.c (.s [113])])]),([z 38 (.idx 1 (.t 35) (.t 37)),zl 39 38],z 42 (.call 37 [.t 41,.c (.I 3)]),[z 30 (.gM 1 [Z] [.c (.s []),.c (.s []),.c (.s [83,97,118,101]),.c (.s [114,101,100,32,99,97,114])]),z 33 (.idx 1 (.t 30) (.t 32)),zl 34 33,z 35 (.gM 1 [Z] [.c (.s []),.c (.s []),.c (.s [120]),.c (.s [83,97,118,101])]),z 38 (.idx 1 (.t 35) (.t 37)),zl 39 38,z 40 (.gM 1 [Z] [.c (.s []),.c (.s [97,110,110]),.c (.s [98,111,98])]),z 45 (.gM 1 [Z] [.c (.s []),.c (.s [112]),.c (.s [113])])]),([z 43 (.idx 1 (.t 40) (.t 42)),zl 44 43],z 47 (.call 37 [.t 46,.c (.I 3)]),[z 30 (.gM 1 [Z] [.c (.s []),.c (.s []),.c (.s [83,97,118,101]),.c (.s [114,101,100,32,99,97,114])]),z 33 (.idx 1 (.t 30) (.t 32)),zl 34 33,z 35 (.gM 1 [Z] [.c (.s []),.c (.s []),.c (.s [120]),.c (.s [83,97,118,101])]),z 38 (.idx 1 (.t 35) (.t 37)),zl 39 38,z 40 (.gM 1 [Z] [.c (.s []),.c (.s [97,110,110]),.c (.s [98,111,98])]),z 43 (.idx 1 (.t 40) (.t 42)),zl 44 43,z 45 (.gM 1 [Z] [.c (.s []),.c (.s [112]),.c (.s [113])])]),([z 48 (.idx 1 (.t 45) (.t 47)),zl 49 48],z 51 (.call 37 [.t 50,.c (.I 50)]),[z 30 (.gM 1 [Z] [.c (.s []),.c (.s []),.c (.s [83,97,118,101]),.c (.s [114,101,100,32,99,97,114])]),z 33 (.idx 1 (.t 30) (.t 32)),zl 34 33,z 35 (.gM 1 [Z] [.c (.s []),.c (.s []),.c (.s [120]),.c (.s [83,97,118,101])]),z 38 (.idx 1 (.t 35) (.t 37)),zl 39 38,z 40 (.gM 1 [Z] [.c (.s []),.c (.s [97,110,110]),.c (.s [98,111,98])]),z 43 (.idx 1 (.t 40) (.t 42)),zl 44 43,z 45 (.gM 1 [Z] [.c (.s []),.c (.s [112]),.c (.s [113])]),z 48 (.idx 1 (.t 45) (.t 47)),zl 49 48]),([],z 53 (.call 37 [.t 52,.c (.I 3)]),[z 30 (.gM 1 [Z] [.c (.s []),.c (.s []),.c (.s [83,97,118,101]),.c (.s [114,101,100,32,99,97,114])]),z 33 (.idx 1 (.t 30) (.t 32)),zl 34 33,z 35 (.gM 1 [Z] [.c (.s []),.c (.s []),.c (.s [120]),.c (.s [83,97,118,101])]),z 38 (.idx 1 (.t 35) (.t 37)),zl 39 38,z 40 (.gM 1 [Z] [.c (.s []),.c (.s [97,110,110]),.c (.s [98,111,98])]),z 43 (.idx 1 (.t 40) (.t 42)),zl 44 43,z 45 (.gM 1 [Z] [.c (.s []),.c (.s [112]),.c (.s [113])]),z 48 (.idx 1 (.t 45) (.t 47)),zl 49 48])] [z 54 (.bin .add (.c (.I 1)) (.t 53))] [] [z 55 (.build [.nil,.nil,.s [],.s [],.s [],.s [],.I 0,.I 0] [(0,1,.t 28),(1,1,.t 29),(2,1,.t 34),(3,1,.t 39),(4,1,.t 44),(5,1,.t 49),(6,1,.t 51),(7,1,.t 54)]),zs (.store 8 [some 3,some 3,Z,Z,Z,Z,Z,Z] (.t 2) (.t 55))]) (.ret))))))⟩:nR)).1,by kernel_rfl⟩
def p14:bl κ f14:=⟨_,by cbv⟩
def q9:=(⟨_,by cbv⟩:Nf (gK κ f9))
def afR:aJ:=(⟨_,by cbv⟩:Nf (gg q9.1 0 [])).1
def p9:bl κ f9:=⟨(λa=>(⟨_,by cbv⟩:Nf (gU q9.1 [a])).1) afR,by kernel_rfl⟩
end Go.Proofs.Tryz
