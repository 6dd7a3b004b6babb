/- Part of a proof. -/
import Derived.Test.YtfeddmfijllgmaaGreatDoorProg
import Derived.KernelRfl
import Derived.Test.YtfeddmfijllgmaaGreatDoorZ6
set_option linter.all false
open Option renaming none->Y
open Go.Proofs.Tryz renaming prog->A
namespace Go.Proofs.Tryz
open Go Go.Pm
set_option maxRecDepth 100000
def amt:bm A f260:=⟨_,by cbv⟩
def ad4:bm A f206:=⟨_,by cbv⟩
def ad5:bm A f205:=⟨_,by cbv⟩
def alv:=(⟨_,by cbv⟩:Nf (gd A f208))
def LR:bK:=(⟨_,by cbv⟩:Nf (fC alv.1 0 [])).1
def amU:bm A f208:=⟨(λa=>(⟨_,by cbv⟩:Nf (gn alv.1 [a])).1) LR,by kernel_rfl⟩
def alN:=(⟨_,by cbv⟩:Nf (gd A f164))
def Mc:bK:=(⟨_,by cbv⟩:Nf (fC alN.1 0 [])).1
def ant:bm A f164:=⟨(λa=>(⟨_,by cbv⟩:Nf (gn alN.1 [a])).1) Mc,by kernel_rfl⟩
def alq:=(⟨_,by cbv⟩:Nf (gd A f229))
def F8:bK:=(⟨_,by cbv⟩:Nf (fC alq.1 0 [])).1
def amL:bm A f229:=⟨(λa=>(⟨_,by cbv⟩:Nf (gn alq.1 [a])).1) F8,by kernel_rfl⟩
def alK:=(⟨_,by cbv⟩:Nf (gd A f180))
def L8:bK:=(⟨_,by cbv⟩:Nf (fC alK.1 0 [])).1
def anh:bm A f180:=⟨(λa=>(⟨_,by cbv⟩:Nf (gn alK.1 [a])).1) L8,by kernel_rfl⟩
def alZ:=(⟨_,by cbv⟩:Nf (gd A f126))
def Gk:bK:=(⟨_,by cbv⟩:Nf (fC alZ.1 0 [])).1
def an1:bm A f126:=⟨(λa=>(⟨_,by cbv⟩:Nf (gn alZ.1 [a])).1) Gk,by kernel_rfl⟩
def anN:bm A f142:=⟨_,by cbv⟩
def am8:bm A f189:=⟨_,by cbv⟩
def q28:=(⟨_,by cbv⟩:Nf (gd A f28))
def UK:bK:=(⟨_,by cbv⟩:Nf (fC q28.1 0 [])).1
def p28:bm A f28:=⟨(λa=>(⟨_,by cbv⟩:Nf (gn q28.1 [a])).1) UK,by kernel_rfl⟩
def p34:bm A f34:=⟨_,by cbv⟩
def p17:bm A f17:=⟨_,by cbv⟩
def ZT:=ck A f117 [0] ⟨_,by cbv⟩
def Ul:=ck A f117 [1,0] ⟨_,by cbv⟩
def JQ:=ck A f117 [1,1,0,1] ⟨_,by cbv⟩
def Pd:=ck A f117 [1,1,1] ⟨_,by cbv⟩
def aoa:bm A f117:=⟨(⟨_,by conv=>lhs;simp only[ck,ZT,Ul,JQ,Pd]⟩:Nf (⟨54,[.t 4],.seq (ZT) (.seq (Ul) (.seq (.seq (.tQ [([zf 16 1 5,zl 17 16,zf 18 1 6,zl 19 18,zf 21 2 5,zl 22 21,zf 23 2 6,zl 24 23,zf 26 0 5,zl 27 26,zf 28 0 6,zl 29 28,zf 31 3 2,zl 32 31,zf 33 3 3,zl 34 33],z 20 (.call 92 [.t 17,.t 19]),[zf 21 2 5,zl 22 21,zf 23 2 6,zl 24 23,zf 26 0 5,zl 27 26,zf 28 0 6,zl 29 28,zf 31 3 2,zl 32 31,zf 33 3 3,zl 34 33]),([],z 25 (.call 92 [.t 22,.t 24]),[zf 26 0 5,zl 27 26,zf 28 0 6,zl 29 28,zf 31 3 2,zl 32 31,zf 33 3 3,zl 34 33]),([],z 30 (.call 92 [.t 27,.t 29]),[zf 31 3 2,zl 32 31,zf 33 3 3,zl 34 33])] [] [] [z 35 (.call 92 [.t 32,.t 34]),z 36 (.fT 1 [Y] [.t 20,.t 25,.t 30,.t 35]),z 37 (.call 91 [.t 36]),zm 7 37]) (JQ)) (Pd)))⟩:pK)).1,by kernel_rfl⟩
def p37:bm A f37:=⟨_,by cbv⟩
def amJ:bm A f233:=⟨_,by cbv⟩
def alF:=(⟨_,by cbv⟩:Nf (gd A f188))
def L3:bK:=(⟨_,by cbv⟩:Nf (fC alF.1 0 [])).1
def am9:bm A f188:=⟨(λa=>(⟨_,by cbv⟩:Nf (gn alF.1 [a])).1) L3,by kernel_rfl⟩
def zi:=ck A f137 [1,1,1,0,1,0,0,0] ⟨_,by cbv⟩
def ux:=ck A f137 [1,1,1,0,1,0,0,1,0,0,0] ⟨_,by cbv⟩
def qB:=ck A f137 [1,1,1,0,1,0,0,1,0,0,1,0,1,0,0] ⟨_,by cbv⟩
def pQ:=ck A f137 [1,1,1,0,1,0,0,1,0,0,1,0,1,0,1,0] ⟨_,by cbv⟩
def oS:=ck A f137 [1,1,1,0,1,0,0,1,0,0,1,0,1,0,1,1,1,0] ⟨_,by cbv⟩
def oR:=ck A f137 [1,1,1,0,1,0,0,1,0,0,1,0,1,0,1,1,1,1] ⟨_,by cbv⟩
def s4:=ck A f137 [1,1,1,0,1,0,0,1,0,0,1,1] ⟨_,by cbv⟩
def wW:=ck A f137 [1,1,1,0,1,0,0,1,1] ⟨_,by cbv⟩
def zh:=ck A f137 [1,1,1,1,0,1,0,0] ⟨_,by cbv⟩
def FV:=ck A f137 [1,1,1,0,0] ⟨_,by cbv⟩
def Db:=ck A f137 [1,1,1,1,0,0] ⟨_,by cbv⟩
def Mj:bK:=(⟨_,by conv=>lhs;simp only[ck,zi,ux,qB,pQ,oS,oR,s4,wW]⟩:Nf (.seq (zi) (.seq (.block 1 (.seq (ux) (.seq (.seq (.pF [] [zm 27 0,z 28 (.call 37 [.t 27,.c (.I 8)])]) (.block 2 (.seq (qB) (.ite (.t 29) (pQ) (.seq (.pF [] [z 39 (.bin .eql (.t 28) (.c (.I 2))),zm 38 39]) (.ite (.t 38) (oS) (oR))))))) (s4)))) (wW)):bK)).1
def Mi:bK:=(⟨_,by conv=>lhs;simp only[ck,zh]⟩:Nf (zh:bK)).1
def anR:bm A f137:=⟨(⟨_,by conv=>lhs;simp only[ck,FV,Db]⟩:Nf (⟨141,[.t 8],.seq (.pF [] [z 8 (.yk (.c .nil))]) (.seq (.pF [] [z 9 (.yk (.c .nil)),z 10 (.yk (.c .nil))]) (.seq (.pF [] [z 11 (.yk (.c (.I 0)))]) (.seq (.seq (FV) (.block 0 (.loop Mj))) (.seq (.seq (Db) (.block 3 (.loop Mi))) (.seq (.pF [] [zm 140 9,zm 8 140]) (.ret))))))⟩:pK)).1,by kernel_rfl⟩
def alT:=(⟨_,by cbv⟩:Nf (gd A f138))
def Gf:bK:=(⟨_,by cbv⟩:Nf (fC alT.1 0 [])).1
def anQ:bm A f138:=⟨(λa=>(⟨_,by cbv⟩:Nf (gn alT.1 [a])).1) Gf,by kernel_rfl⟩
def ag2:=ck A f79 [0] ⟨_,by cbv⟩
def ZG:=ck A f79 [1,0] ⟨_,by cbv⟩
def T4:=ck A f79 [1,1,0] ⟨_,by cbv⟩
def JH:=ck A f79 [1,1,1,1,0] ⟨_,by cbv⟩
def p79:bm A f79:=⟨(⟨_,by conv=>lhs;simp only[ck,ag2,ZG,T4,JH]⟩:Nf (⟨56,[.c 2 (some 8)],.seq (ag2) (.seq (ZG) (.seq (T4) (.seq (.pF [] [zm 19 0,zm 20 3,z 21 (.call 138 [.t 19,.t 20]),zm 4 21]) (.seq (JH) (.seq (.tQ [([zm 28 5,zm 29 6,z 30 (.fT 1 [Y] [.c (.s []),.c (.s []),.c (.s [83,97,118,101]),.c (.s [114,101,100,32,99,97,114])]),zm 31 0,z 35 (.fT 1 [Y] [.c (.s []),.c (.s []),.c (.s [120]),.c (.s [83,97,118,101])]),zm 36 0,z 40 (.fT 1 [Y] [.c (.s []),.c (.s [97,110,110]),.c (.s [98,111,98])]),zm 41 0,z 45 (.fT 1 [Y] [.c (.s []),.c (.s [112]),.c (.s [113])]),zm 46 0,zm 50 0,zm 52 0],z 32 (.call 37 [.t 31,.c (.I 4)]),[z 30 (.fT 1 [Y] [.c (.s []),.c (.s []),.c (.s [83,97,118,101]),.c (.s [114,101,100,32,99,97,114])]),z 35 (.fT 1 [Y] [.c (.s []),.c (.s []),.c (.s [120]),.c (.s [83,97,118,101])]),z 40 (.fT 1 [Y] [.c (.s []),.c (.s [97,110,110]),.c (.s [98,111,98])]),z 45 (.fT 1 [Y] [.c (.s []),.c (.s [112]),.c (.s [113])])]),([z 33 (.idx 1 (.t 30) (.t 32)),zl 34 33],z 37 (.call 37 [.t 36,.c (.I 4)]),[z 30 (.fT 1 [Y] [.c (.s []),.c (.s []),.c (.s [83,97,118,101]),.c (.s [114,101,100,32,99,97,114])]),z 33 (.idx 1 (.t 30) (.t 32)),zl 34 33,z 35 (.fT 1 [Y] [.c (.s []),.c (.s []),.c (.s [120]),.c (.s [83,97,118,101])]),z 40 (.fT 1 [Y] [.c (.s []),.c (.s [97,110,110]),.c (.s [98,111,98])]),z 45 (.fT 1 [Y] [.c (.s []),.c (.s [112]),.c (.s [113])])]),([z 38 (.idx 1 (.t 35) (.t 37)),zl 39 38],z 42 (.call 37 [.t 41,.c (.I 3)]),[z 30 (.fT 1 [Y] [.c (.s []),.c (.s []),.c (.s [83,97,118,101]),.c (.s [114,101,100,32,99,97,114])]),z 33 (.idx 1 (.t 30) (.t 32)),zl 34 33,z 35 (.fT 1 [Y] [.c (.s []),.c (.s []),.c (.s [120]),.c (.s [83,97,118,101])]),z 38 (.idx 1 (.t 35) (.t 37)),zl 39 38,z 40 (.fT 1 [Y] [.c (.s []),.c (.s [97,110,110]),.c (.s [98,111,98])]),z 45 (.fT 1 [Y] [.c (.s []),.c (.s [112]),.c (.s [113])])]),([z 43 (.idx 1 (.t 40) (.t 42)),zl 44 43],z 47 (.call 37 [.t 46,.c (.I 3)]),[z 30 (.fT 1 [Y] [.c (.s []),.c (.s []),.c (.s [83,97,118,101]),.c (.s [114,101,100,32,99,97,114])]),z 33 (.idx 1 (.t 30) (.t 32)),zl 34 33,z 35 (.fT 1 [Y] [.c (.s []),.c (.s []),.c (.s [120]),.c (.s [83,97,118,101])]),z 38 (.idx 1 (.t 35) (.t 37)),zl 39 38,z 40 (.fT 1 [Y] [.c (.s []),.c (.s [97,110,110]),.c (.s [98,111,98])]),z 43 (.idx 1 (.t 40) (.t 42)),zl 44 43,z 45 (.fT 1 [Y] [.c (.s []),.c (.s [112]),.c (.s [113])])]),([z 48 (.idx 1 (.t 45) (.t 47)),zl 49 48],z 51 (.call 37 [.t 50,.c (.I 50)]),[z 30 (.fT 1 [Y] [.c (.s []),.c (.s []),.c (.s [83,97,118,101]),.c (.s [114,101,100,32,99,97,114])]),z 33 (.idx 1 (.t 30) (.t 32)),zl 34 33,z 35 (.fT 1 [Y] [.c (.s []),.c (.s []),.c (.s [120]),.c (.s [83,97,118,101])]),z 38 (.idx 1 (.t 35) (.t 37)),zl 39 38,z 40 (.fT 1 [Y] [.c (.s []),.c (.s [97,110,110]),.c (.s [98,111,98])]),z 43 (.idx 1 (.t 40) (.t 42)),zl 44 43,z 45 (.fT 1 [Y] [.c (.s []),.c (.s [112]),.c (.s [113])]),z 48 (.idx 1 (.t 45) (.t 47)),zl 49 48]),([],z 53 (.call 37 [.t 52,.c (.I 3)]),[z 30 (.fT 1 [Y] [.c (.s []),.c (.s []),.c (.s [83,97,118,101]),.c (.s [114,101,100,32,99,97,114])]),z 33 (.idx 1 (.t 30) (.t 32)),zl 34 33,z 35 (.fT 1 [Y] [.c (.s []),.c (.s []),.c (.s [120]),.c (.s [83,97,118,101])]),z 38 (.idx 1 (.t 35) (.t 37)),zl 39 38,z 40 (.fT 1 [Y] [.c (.s []),.c (.s [97,110,110]),.c (.s [98,111,98])]),z 43 (.idx 1 (.t 40) (.t 42)),zl 44 43,z 45 (.fT 1 [Y] [.c (.s []),.c (.s [112]),.c (.s [113])]),z 48 (.idx 1 (.t 45) (.t 47)),zl 49 48])] [z 54 (.bin .add (.c (.I 1)) (.t 53))] [] [z 55 (.build [.nil,.nil,.s [],.s [],.s [],.s [],.I 0,.I 0] [(0,1,.t 28),(1,1,.t 29),(2,1,.t 34),(3,1,.t 39),(4,1,.t 44),(5,1,.t 49),(6,1,.t 51),(7,1,.t 54)]),zs (.store 8 [some 3,some 3,Y,Y,Y,Y,Y,Y] (.t 2) (.t 55))]) (.ret))))))⟩:pK)).1,by kernel_rfl⟩
def p14:bm A f14:=⟨_,by cbv⟩
def q9:=(⟨_,by cbv⟩:Nf (gd A f9))
def ad1:bK:=(⟨_,by cbv⟩:Nf (fC q9.1 0 [])).1
def p9:bm A f9:=⟨(λa=>(⟨_,by cbv⟩:Nf (gn q9.1 [a])).1) ad1,by kernel_rfl⟩
def amK:bm A f232:=⟨_,by cbv⟩
def alV:=(⟨_,by cbv⟩:Nf (gd A f135))
def Gg:bK:=(⟨_,by cbv⟩:Nf (fC alV.1 0 [])).1
def anT:bm A f135:=⟨(λa=>(⟨_,by cbv⟩:Nf (gn alV.1 [a])).1) Gg,by kernel_rfl⟩
def p80:bm A f80:=⟨_,by cbv⟩
def alS:=(⟨_,by cbv⟩:Nf (gd A f139))
def Ge:bK:=(⟨_,by cbv⟩:Nf (fC alS.1 0 [])).1
def anP:bm A f139:=⟨(λa=>(⟨_,by cbv⟩:Nf (gn alS.1 [a])).1) Ge,by kernel_rfl⟩
def q72:=(⟨_,by cbv⟩:Nf (gd A f72))
def Ux:bK:=(⟨_,by cbv⟩:Nf (fC q72.1 0 [])).1
def p72:bm A f72:=⟨(λa=>(⟨_,by cbv⟩:Nf (gn q72.1 [a])).1) Ux,by kernel_rfl⟩
def anf:bm A f182:=⟨_,by cbv⟩
def alI:=(⟨_,by cbv⟩:Nf (gd A f183))
def L6:bK:=(⟨_,by cbv⟩:Nf (fC alI.1 0 [])).1
def ane:bm A f183:=⟨(λa=>(⟨_,by cbv⟩:Nf (gn alI.1 [a])).1) L6,by kernel_rfl⟩
def alJ:=(⟨_,by cbv⟩:Nf (gd A f181))
def L7:bK:=(⟨_,by cbv⟩:Nf (fC alJ.1 0 [])).1
def ang:bm A f181:=⟨(λa=>(⟨_,by cbv⟩:Nf (gn alJ.1 [a])).1) L7,by kernel_rfl⟩
def Dc:=ck A f129 [1,1,0,1,0,0] ⟨_,by cbv⟩
def Uh:=ck A f129 [1,0] ⟨_,by cbv⟩
def JN:=ck A f129 [1,1,0,0] ⟨_,by cbv⟩
def B5:bK:=(⟨_,by conv=>lhs;simp only[ck,Dc]⟩:Nf (Dc:bK)).1
def anY:bm A f129:=⟨(⟨_,by conv=>lhs;simp only[ck,Uh,JN]⟩:Nf (⟨114,[.t 4],.seq (.pF [] [z 3 (.box 70 (.t 1)),z 4 (.yk (.c (.I 0)))]) (.seq (Uh) (.seq (.seq (JN) (.block 1 (.loop B5))) (.seq (.pF [] [z 4 (.yk (.c (.I 0)))]) (.ret))))⟩:pK)).1,by kernel_rfl⟩
def q70:=(⟨_,by cbv⟩:Nf (gd A f70))
def Uy:bK:=(⟨_,by cbv⟩:Nf (fC q70.1 0 [])).1
def p70:bm A f70:=⟨(λa=>(⟨_,by cbv⟩:Nf (gn q70.1 [a])).1) Uy,by kernel_rfl⟩
def alY:=(⟨_,by cbv⟩:Nf (gd A f128))
def Mo:bK:=(⟨_,by cbv⟩:Nf (fC alY.1 0 [])).1
def anZ:bm A f128:=⟨(λa=>(⟨_,by cbv⟩:Nf (gn alY.1 [a])).1) Mo,by kernel_rfl⟩
def alG:=(⟨_,by cbv⟩:Nf (gd A f185))
def Gc:bK:=(⟨_,by cbv⟩:Nf (fC alG.1 0 [])).1
def ad6:bm A f185:=⟨(λa=>(⟨_,by cbv⟩:Nf (gn alG.1 [a])).1) Gc,by kernel_rfl⟩
def ad9:bm A f134:=⟨_,by cbv⟩
def al3:=(⟨_,by cbv⟩:Nf (gd A f110))
def Mx:bK:=(⟨_,by cbv⟩:Nf (fC al3.1 0 [])).1
def aof:bm A f110:=⟨(λa=>(⟨_,by cbv⟩:Nf (gn al3.1 [a])).1) Mx,by kernel_rfl⟩
def alH:=(⟨_,by cbv⟩:Nf (gd A f184))
def L5:bK:=(⟨_,by cbv⟩:Nf (fC alH.1 0 [])).1
def anc:bm A f184:=⟨(λa=>(⟨_,by cbv⟩:Nf (gn alH.1 [a])).1) L5,by kernel_rfl⟩
def alX:=(⟨_,by cbv⟩:Nf (gd A f130))
def Mn:bK:=(⟨_,by cbv⟩:Nf (fC alX.1 0 [])).1
def anX:bm A f130:=⟨(λa=>(⟨_,by cbv⟩:Nf (gn alX.1 [a])).1) Mn,by kernel_rfl⟩
def ah7:=(⟨_,by cbv⟩:Nf (gd A f132))
def Gj:bK:=(⟨_,by cbv⟩:Nf (fC ah7.1 0 [])).1
def Gi:bK:=(λa=>(⟨_,by cbv⟩:Nf (fC ah7.1 1 [a])).1) Gj
def anV:bm A f132:=⟨(λa b=>(⟨_,by cbv⟩:Nf (gn ah7.1 [a,b])).1) Gj Gi,by kernel_rfl⟩
def alW:=(⟨_,by cbv⟩:Nf (gd A f131))
def Mm:bK:=(⟨_,by cbv⟩:Nf (fC alW.1 0 [])).1
def anW:bm A f131:=⟨(λa=>(⟨_,by cbv⟩:Nf (gn alW.1 [a])).1) Mm,by kernel_rfl⟩
def p71:bm A f71:=⟨_,by cbv⟩
def ana:bm A f187:=⟨_,by cbv⟩
def alU:=(⟨_,by cbv⟩:Nf (gd A f136))
def Mk:bK:=(⟨_,by cbv⟩:Nf (fC alU.1 0 [])).1
def anS:bm A f136:=⟨(λa=>(⟨_,by cbv⟩:Nf (gn alU.1 [a])).1) Mk,by kernel_rfl⟩
def q77:=(⟨_,by cbv⟩:Nf (gd A f77))
def Ut:bK:=(⟨_,by cbv⟩:Nf (fC q77.1 0 [])).1
def p77:bm A f77:=⟨(λa=>(⟨_,by cbv⟩:Nf (gn q77.1 [a])).1) Ut,by kernel_rfl⟩
def ah6:=(⟨_,by cbv⟩:Nf (gd A f133))
def Gh:bK:=(⟨_,by cbv⟩:Nf (fC ah6.1 0 [])).1
def Ml:bK:=(⟨_,by cbv⟩:Nf (fC ah6.1 1 [])).1
def anU:bm A f133:=⟨(λa b=>(⟨_,by cbv⟩:Nf (gn ah6.1 [a,b])).1) Gh Ml,by kernel_rfl⟩
def ah4:=(⟨_,by cbv⟩:Nf (gd A f186))
def L4:bK:=(⟨_,by cbv⟩:Nf (fC ah4.1 0 [])).1
def Gb:bK:=(⟨_,by cbv⟩:Nf (fC ah4.1 1 [])).1
def anb:bm A f186:=⟨(λa b=>(⟨_,by cbv⟩:Nf (gn ah4.1 [a,b])).1) L4 Gb,by kernel_rfl⟩
def q73:=(⟨_,by cbv⟩:Nf (gd A f73))
def Uw:bK:=(⟨_,by cbv⟩:Nf (fC q73.1 0 [])).1
def p73:bm A f73:=⟨(λa=>(⟨_,by cbv⟩:Nf (gn q73.1 [a])).1) Uw,by kernel_rfl⟩
def aln:=(⟨_,by cbv⟩:Nf (gd A f240))
def F7:bK:=(⟨_,by cbv⟩:Nf (fC aln.1 0 [])).1
def amE:bm A f240:=⟨(λa=>(⟨_,by cbv⟩:Nf (gn aln.1 [a])).1) F7,by kernel_rfl⟩
def alm:=(⟨_,by cbv⟩:Nf (gd A f243))
def LL:bK:=(⟨_,by cbv⟩:Nf (fC alm.1 0 [])).1
def amB:bm A f243:=⟨(λa=>(⟨_,by cbv⟩:Nf (gn alm.1 [a])).1) LL,by kernel_rfl⟩
def ah1:=(⟨_,by cbv⟩:Nf (gd A f268))
def F4:bK:=(⟨_,by cbv⟩:Nf (fC ah1.1 0 [])).1
def LG:bK:=(λa=>(⟨_,by cbv⟩:Nf (fC ah1.1 1 [a])).1) F4
def amo:bm A f268:=⟨(λa b=>(⟨_,by cbv⟩:Nf (gn ah1.1 [a,b])).1) F4 LG,by kernel_rfl⟩
def ah3:=(⟨_,by cbv⟩:Nf (gd A f242))
def LM:bK:=(⟨_,by cbv⟩:Nf (fC ah3.1 0 [])).1
def F6:bK:=(⟨_,by cbv⟩:Nf (fC ah3.1 1 [])).1
def amC:bm A f242:=⟨(λa b=>(⟨_,by cbv⟩:Nf (gn ah3.1 [a,b])).1) LM F6,by kernel_rfl⟩
def alB:=(⟨_,by cbv⟩:Nf (gd A f196))
def LY:bK:=(⟨_,by cbv⟩:Nf (fC alB.1 0 [])).1
def am3:bm A f196:=⟨(λa=>(⟨_,by cbv⟩:Nf (gn alB.1 [a])).1) LY,by kernel_rfl⟩
def ani:bm A f179:=⟨_,by cbv⟩
def amD:bm A f241:=⟨_,by cbv⟩
def ali:=(⟨_,by cbv⟩:Nf (gd A f267))
def LH:bK:=(⟨_,by cbv⟩:Nf (fC ali.1 0 [])).1
def amp:bm A f267:=⟨(λa=>(⟨_,by cbv⟩:Nf (gn ali.1 [a])).1) LH,by kernel_rfl⟩
def alr:=(⟨_,by cbv⟩:Nf (gd A f228))
def LP:bK:=(⟨_,by cbv⟩:Nf (fC alr.1 0 [])).1
def amM:bm A f228:=⟨(λa=>(⟨_,by cbv⟩:Nf (gn alr.1 [a])).1) LP,by kernel_rfl⟩
def anI:bm A f149:=⟨_,by cbv⟩
def amZ:bm A f201:=⟨_,by cbv⟩
def anG:bm A f152:=⟨_,by cbv⟩
def amQ:bm A f222:=⟨_,by cbv⟩
def amR:bm A f221:=⟨_,by cbv⟩
def AW:=ck A f168 [1,1,1,0,1,0,0] ⟨_,by cbv⟩
def Ug:=ck A f168 [1,0] ⟨_,by cbv⟩
def O9:=ck A f168 [1,1,0] ⟨_,by cbv⟩
def FU:=ck A f168 [1,1,1,0,0] ⟨_,by cbv⟩
def JM:=ck A f168 [1,1,1,1] ⟨_,by cbv⟩
def Mb:bK:=(⟨_,by conv=>lhs;simp only[ck,AW]⟩:Nf (AW:bK)).1
def anr:bm A f168:=⟨(⟨_,by conv=>lhs;simp only[ck,Ug,O9,FU,JM]⟩:Nf (⟨62,[.t 2],.seq (.pF [] [z 1 (.box 57 (.t 0)),z 2 (.yk (.c (.I 0)))]) (.seq (Ug) (.seq (O9) (.seq (.seq (FU) (.block 0 (.loop Mb))) (JM))))⟩:pK)).1,by kernel_rfl⟩
def amu:bm A f259:=⟨_,by cbv⟩
