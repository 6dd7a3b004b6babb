/- A part of the proof of the statement of the last text of this claim; its conditions stand there. -/
import Derived.Test.YtkkjfegefckehaaGreatDoorB15
set_option linter.all false

namespace Go.Proofs.Tryz
open Go Go.Pm
set_option maxRecDepth 100000
def p42:bT:=(⟨_,by conv=>lhs;cbv⟩:Nf (bW (aP prog f42) [])).1
theorem c42:aP prog f42=some p42:=by kernel_rfl
def acK:bT:=(⟨_,by conv=>lhs;cbv⟩:Nf (bW (aP prog f215) [])).1
theorem ajz:aP prog f215=some acK:=by kernel_rfl
def abV:=(⟨_,by conv=>lhs;cbv⟩:Nf (aP prog f178))
def Hk:bw:=(⟨_,by conv=>lhs;cbv⟩:Nf (dW abV.1 0 [])).1
def ac8:bT:=(fun b0=>(⟨_,by conv=>lhs;cbv⟩:Nf (bW abV.1 [b0])).1) Hk
theorem ajX:aP prog f178=some ac8:=by kernel_rfl
def HH:bw:=.seq (.seq (.dq [] [zm 20 12,z 21 (.bin .gtr (.t 20) (.c (.i .i64 0)))]) (.ite (.t 21) (.skip) (.exit 0))) (.seq (.block 1 (.seq (.dq [] [zm 24 0,z 25 (.call 178 [.t 24,.c (.i
 .i64 3)]),z 26 (.build [.i .i64 0,.s [],.i .i64 0] [(0,1,.c (.i .i64 1)),(1,1,.t 25)]),z 13 (.alloc 76 [.i .i64 0,.s [],.i .i64 0]),zs (.store 3 [none,none,none] (.t
 13) (.t 26))]) (.seq (.seq (.dq [] [zm 27 0,z 28 (.call 42 [.t 27,.c (.i .i64 8)])]) (.block 2 (.seq (.seq (.dq [] [z 30 (.bin .eql (.t 28) (.c (.i .i64 0))),zm 29 30]) (.ite
 (.t 29) (.skip) (.dq [] [z 31 (.bin .eql (.t 28) (.c (.i .i64 1))),zm 29 31]))) (.ite (.t 29) (.dq [] [z 32 (.dj 1 [none] [.c (.s [110]),.c (.s [110,97,109,101]),.c (.s
 [120,49])]),zm 33 0,z 34 (.call 42 [.t 33,.c (.i .i64 3)]),z 35 (.idx 1 (.t 32) (.t 34)),zl 36 35,z 37 (.build [.i .i64 0,.s [],.i .i64 0] [(0,1,.c (.i .i64 5)),(1,1,
 .t 36)]),zs (.store 3 [none,none,none] (.t 13) (.t 37))]) (.seq (.dq [] [z 39 (.bin .eql (.t 28) (.c (.i .i64 2))),zm 38 39]) (.ite (.t 38) (.seq (.dq [] [zm 40 2]) (.ite (.t
 40) (.seq (.dq [] [zm 41 11,z 42 (.bin .add (.t 41) (.c (.i .i64 1))),zm 11 42]) (.dq [] [z 43 (.dj 1 [none] [.c (.s [98,114]),.c (.s [105,109,103,32,97])]),zm 44 0,
 z 45 (.call 42 [.t 44,.c (.i .i64 2)]),z 46 (.idx 1 (.t 43) (.t 45)),zl 47 46,zm 48 11,z 49 (.build [.i .i64 0,.s [],.i .i64 0] [(0,1,.c (.i .i64 4)),(1,1,.t 47),(2,1,
 .t 48)]),zs (.store 3 [none,none,none] (.t 13) (.t 49))])) (.skip))) (.seq (.seq (.dq [] [z 51 (.bin .eql (.t 28) (.c (.i .i64 3))),zm 50 51]) (.ite (.t 50) (.skip) (.dq [] [z
 52 (.bin .eql (.t 28) (.c (.i .i64 4))),zm 50 52]))) (.ite (.t 50) (.seq (.dq [] [zm 53 2]) (.ite (.t 53) (.seq (.dq [] [zm 54 11,z 55 (.bin .add (.t 54) (.c (.i .i64 1))),zm
 11 55]) (.seq (.dq [] [z 56 (.dj 1 [none] [.c (.s [98]),.c (.s [105]),.c (.s [97,32,104,61,49])]),zm 57 0,z 58 (.call 42 [.t 57,.c (.i .i64 3)]),z 59 (.idx 1 (.t 56)
 (.t 58)),zl 60 59,zm 61 11,z 62 (.build [.i .i64 0,.s [],.i .i64 0] [(0,1,.c (.i .i64 2)),(1,1,.t 60),(2,1,.t 61)]),zs (.store 3 [none,none,none] (.t 13) (.t 62))])
 (.dq [] [zm 63 10,zL 64 3 13,z 65 (.dj 3 [none,none,none] [.t 64]),z 66 (.app 76 3 32 (.t 63) (.t 65)),zm 10 66]))) (.skip))) (.seq (.seq (.dq [] [z 68 (.bin .eql (.t
 28) (.c (.i .i64 5))),zm 67 68]) (.ite (.t 67) (.skip) (.dq [] [z 69 (.bin .eql (.t 28) (.c (.i .i64 6))),zm 67 69]))) (.ite (.t 67) (.seq (.dq [] [zm 70 10,z 71 (.len false
 (.t 70)),z 72 (.bin .sub (.t 71) (.c (.i .i64 1))),zm 14 72]) (.seq (.dq [] [zm 73 14,z 74 (.bin .geq (.t 73) (.c (.i .i64 0)))]) (.ite (.t 74) (.seq (.seq (.dq [] [zm 75 3,z
 76 (.un .not (.t 75))]) (.ite (.t 76) (.dq [] [zm 77 0,zm 78 14,z 79 (.bin .add (.t 78) (.c (.i .i64 1))),z 80 (.call 42 [.t 77,.t 79]),zm 14 80]) (.skip))) (.seq (.kp [([zm
 81 10,zm 82 14,z 83 (.idx 3 (.t 81) (.t 82)),zf 84 1 83,zl 85 84,zm 87 10,zm 88 14,z 89 (.idx 3 (.t 87) (.t 88)),zf 90 2 89,zl 91 90],z 86 (.call 179 [.t 85]),[z 89 (.idx
 3 (.t 87) (.t 88)),zf 90 2 89,zl 91 90])] [] [] [z 92 (.build [.i .i64 0,.s [],.i .i64 0] [(0,1,.c (.i .i64 3)),(1,1,.t 86),(2,1,.t 91)]),zs (.store 3 [none,none,
 none] (.t 13) (.t 92))]) (.kp [([zm 93 10,zm 94 14,z 95 (.slice 3 (.t 93) none (some (.t 94))),zm 97 10,zm 98 14,z 99 (.bin .add (.t 98) (.c (.i .i64 1))),z 100 (.slice 3
 (.t 97) (some (.t 99)) none)],z 96 (.app 76 3 32 (.c .nil) (.t 95)),[z 100 (.slice 3 (.t 97) (some (.t 99)) none)])] [] [] [z 101 (.app 76 3 32 (.t 96) (.t 100)),zm 10 101])))
 (.seq (.dq [104,105] [zm 102 2,zm 103 102,⟨some 104,[(103,true)],.k6 (.t 3)⟩,⟨some 105,[(103,true)],.un .not (.t 104)⟩,z 106 (.pick (.t 103) (.t 105) (.c (.b false)))])
 (.ite (.t 106) (.seq (.dq [] [zm 107 11,z 108 (.bin .add (.t 107) (.c (.i .i64 1))),zm 11 108]) (.dq [] [zm 109 11,z 110 (.build [.i .i64 0,.s [],.i .i64 0] [(0,1,.c (.i
 .i64 3)),(1,1,.c (.s [98])),(2,1,.t 109)]),zs (.store 3 [none,none,none] (.t 13) (.t 110))])) (.skip)))))) (.skip))))))))))) (.dq [] [zm 111 9,zL 112 3 13,z 113 (.dj
 3 [none,none,none] [.t 112]),z 114 (.call 180 [.t 111,.t 113]),zm 9 114])))) (.dq [] [zm 22 12,z 23 (.bin .sub (.t 22) (.c (.i .i64 1))),zm 12 23]))
def HG:bw:=.seq (.seq (.dq [121] [zm 118 15,z 119 (.bin .geq (.t 118) (.c (.i .i64 0))),zm 120 119,⟨some 121,[(120,true)],.k6 (.t 3)⟩,z 122 (.pick (.t 120) (.t 121) (.c (.b false)))])
 (.ite (.t 122) (.skip) (.exit 3))) (.seq (.block 4 (.kp [([zm 125 9,zm 126 10,zm 127 15,z 128 (.idx 3 (.t 126) (.t 127)),zf 129 1 128,zl 130 129,zm 132 10,zm 133 15,z 134
 (.idx 3 (.t 132) (.t 133)),zf 135 2 134,zl 136 135],z 131 (.call 179 [.t 130]),[z 134 (.idx 3 (.t 132) (.t 133)),zf 135 2 134,zl 136 135])] [z 137 (.build [.i .i64 0,.s [],
 .i .i64 0] [(0,1,.c (.i .i64 3)),(1,1,.t 131),(2,1,.t 136)]),z 138 (.dj 3 [none,none,none] [.t 137])] [] [z 139 (.app 76 3 32 (.t 125) (.t 138)),zm 9 139])) (.dq []
 [zm 123 15,z 124 (.bin .sub (.t 123) (.c (.i .i64 1))),zm 15 124]))
def adS:bT:=⟨141,[.t 8],.seq (.dq [] [z 8 (.k6 (.c .nil))]) (.seq (.dq [] [z 9 (.k6 (.c .nil)),z 10 (.k6 (.c .nil))]) (.seq (.dq [] [z 11 (.k6 (.c (.i .i64 0)))]) (.seq (.seq (.dq []
 [zm 16 0,zm 17 1,z 18 (.bin .add (.t 17) (.c (.i .i64 1))),z 19 (.call 42 [.t 16,.t 18]),zm 12 19]) (.block 0 (.loop HH))) (.seq (.seq (.dq [] [zm 115 10,z 116 (.len
 false (.t 115)),z 117 (.bin .sub (.t 116) (.c (.i .i64 1))),zm 15 117]) (.block 3 (.loop HG))) (.seq (.dq [] [zm 140 9,zm 8 140]) (.ret))))))⟩
theorem akF:aP prog f117=some adS:=by kernel_rfl
def acf:=(⟨_,by conv=>lhs;cbv⟩:Nf (aP prog f118))
def C5:bw:=(⟨_,by conv=>lhs;cbv⟩:Nf (dW acf.1 0 [])).1
def adR:bT:=(fun b0=>(⟨_,by conv=>lhs;cbv⟩:Nf (bW acf.1 [b0])).1) C5
theorem akE:aP prog f118=some adR:=by kernel_rfl
def p64:bT:=⟨56,[.c 2 (some 8)],.seq (.dq [] [z 2 (.alloc 27 [.nil,.nil,.s [],.s [],.s [],.s [],.i .i64 0,.i .i64 0])]) (.seq (.dq [] [zm 7 0,z 8 (.call 117 [.t 7,.c (.i .i64 4),
 .c (.b true),.c (.b true)]),zm 3 8]) (.seq (.seq (.dq [] [zm 9 3,z 10 (.len false (.t 9)),z 11 (.bin .eql (.t 10) (.c (.i .i64 0)))]) (.ite (.t 11) (.dq [] [z 12 (.dj 1
 [none] [.c (.s [83,97,118,101]),.c (.s [114,101,100,32,99,97,114]),.c (.s [82,101,100,32,99,97,114,115])]),zm 13 0,z 14 (.call 42 [.t 13,.c (.i .i64 3)]),z 15
 (.idx 1 (.t 12) (.t 14)),zl 16 15,z 17 (.build [.i .i64 0,.s [],.i .i64 0] [(0,1,.c (.i .i64 1)),(1,1,.t 16)]),z 18 (.dj 3 [none,none,none] [.t 17]),zm 3 18])
 (.skip))) (.seq (.dq [] [zm 19 0,zm 20 3,z 21 (.call 118 [.t 19,.t 20]),zm 4 21]) (.seq (.dq [] [zm 23 3,zm 24 4,z 25 (.call 119 [.t 23,.t 24]),zm 22 25,z 26 (.ext 0 (.t
 22)),z 27 (.ext 1 (.t 22)),zm 5 26,zm 6 27]) (.seq (.kp [([zm 28 5,zm 29 6,z 30 (.dj 1 [none] [.c (.s []),.c (.s []),.c (.s [83,97,118,101]),.c (.s [114,101,100,
 32,99,97,114])]),zm 31 0,z 35 (.dj 1 [none] [.c (.s []),.c (.s []),.c (.s [120]),.c (.s [83,97,118,101])]),zm 36 0,z 40 (.dj 1 [none] [.c (.s []),.c (.s [97,
 110,110]),.c (.s [98,111,98])]),zm 41 0,z 45 (.dj 1 [none] [.c (.s []),.c (.s [112]),.c (.s [113])]),zm 46 0,zm 50 0,zm 52 0],z 32 (.call 42 [.t 31,.c (.i .i64
 4)]),[z 30 (.dj 1 [none] [.c (.s []),.c (.s []),.c (.s [83,97,118,101]),.c (.s [114,101,100,32,99,97,114])]),z 35 (.dj 1 [none] [.c (.s []),.c (.s []),.c (.s
 [120]),.c (.s [83,97,118,101])]),z 40 (.dj 1 [none] [.c (.s []),.c (.s [97,110,110]),.c (.s [98,111,98])]),z 45 (.dj 1 [none] [.c (.s []),.c (.s [112]),.c (.s
 [113])])]),([z 33 (.idx 1 (.t 30) (.t 32)),zl 34 33],z 37 (.call 42 [.t 36,.c (.i .i64 4)]),[z 30 (.dj 1 [none] [.c (.s []),.c (.s []),.c (.s [83,97,118,101]),.c (.s
 [114,101,100,32,99,97,114])]),z 33 (.idx 1 (.t 30) (.t 32)),zl 34 33,z 35 (.dj 1 [none] [.c (.s []),.c (.s []),.c (.s [120]),.c (.s [83,97,118,101])]),z 40
 (.dj 1 [none] [.c (.s []),.c (.s [97,110,110]),.c (.s [98,111,98])]),z 45 (.dj 1 [none] [.c (.s []),.c (.s [112]),.c (.s [113])])]),([z 38 (.idx 1 (.t 35) (.t
 37)),zl 39 38],z 42 (.call 42 [.t 41,.c (.i .i64 3)]),[z 30 (.dj 1 [none] [.c (.s []),.c (.s []),.c (.s [83,97,118,101]),.c (.s [114,101,100,32,99,97,114])]),z
 33 (.idx 1 (.t 30) (.t 32)),zl 34 33,z 35 (.dj 1 [none] [.c (.s []),.c (.s []),.c (.s [120]),.c (.s [83,97,118,101])]),z 38 (.idx 1 (.t 35) (.t 37)),zl 39 38,z 40
 (.dj 1 [none] [.c (.s []),.c (.s [97,110,110]),.c (.s [98,111,98])]),z 45 (.dj 1 [none] [.c (.s []),.c (.s [112]),.c (.s [113])])]),([z 43 (.idx 1 (.t 40) (.t
 42)),zl 44 43],z 47 (.call 42 [.t 46,.c (.i .i64 3)]),[z 30 (.dj 1 [none] [.c (.s []),.c (.s []),.c (.s [83,97,118,101]),.c (.s [114,101,100,32,99,97,114])]),z
 33 (.idx 1 (.t 30) (.t 32)),zl 34 33,z 35 (.dj 1 [none] [.c (.s []),.c (.s []),.c (.s [120]),.c (.s [83,97,118,101])]),z 38 (.idx 1 (.t 35) (.t 37)),zl 39 38,z 40
 (.dj 1 [none] [.c (.s []),.c (.s [97,110,110]),.c (.s [98,111,98])]),z 43 (.idx 1 (.t 40) (.t 42)),zl 44 43,z 45 (.dj 1 [none] [.c (.s []),.c (.s [112]),.c (.s
 [113])])]),([z 48 (.idx 1 (.t 45) (.t 47)),zl 49 48],z 51 (.call 42 [.t 50,.c (.i .i64 50)]),[z 30 (.dj 1 [none] [.c (.s []),.c (.s []),.c (.s [83,97,118,101]),.c (.s
 [114,101,100,32,99,97,114])]),z 33 (.idx 1 (.t 30) (.t 32)),zl 34 33,z 35 (.dj 1 [none] [.c (.s []),.c (.s []),.c (.s [120]),.c (.s [83,97,118,101])]),z 38 (.idx
 1 (.t 35) (.t 37)),zl 39 38,z 40 (.dj 1 [none] [.c (.s []),.c (.s [97,110,110]),.c (.s [98,111,98])]),z 43 (.idx 1 (.t 40) (.t 42)),zl 44 43,z 45 (.dj 1 [none]
 [.c (.s []),.c (.s [112]),.c (.s [113])]),z 48 (.idx 1 (.t 45) (.t 47)),zl 49 48]),([],z 53 (.call 42 [.t 52,.c (.i .i64 3)]),[z 30 (.dj 1 [none] [.c (.s []),.c (.s
 []),.c (.s [83,97,118,101]),.c (.s [114,101,100,32,99,97,114])]),z 33 (.idx 1 (.t 30) (.t 32)),zl 34 33,z 35 (.dj 1 [none] [.c (.s []),.c (.s []),.c (.s [120]),
 .c (.s [83,97,118,101])]),z 38 (.idx 1 (.t 35) (.t 37)),zl 39 38,z 40 (.dj 1 [none] [.c (.s []),.c (.s [97,110,110]),.c (.s [98,111,98])]),z 43 (.idx 1 (.t 40) (.t
 42)),zl 44 43,z 45 (.dj 1 [none] [.c (.s []),.c (.s [112]),.c (.s [113])]),z 48 (.idx 1 (.t 45) (.t 47)),zl 49 48])] [z 54 (.bin .add (.c (.i .i64 1)) (.t 53))] [] [z 55
 (.build [.nil,.nil,.s [],.s [],.s [],.s [],.i .i64 0,.i .i64 0] [(0,1,.t 28),(1,1,.t 29),(2,1,.t 34),(3,1,.t 39),(4,1,.t 44),(5,1,.t 49),(6,1,.t 51),(7,
 1,.t 54)]),zs (.store 8 [some 3,some 3,none,none,none,none,none,none] (.t 2) (.t 55))]) (.ret))))))⟩
theorem c64:aP prog f64=some p64:=by kernel_rfl
def p20:bT:=(⟨_,by conv=>lhs;cbv⟩:Nf (bW (aP prog f20) [])).1
theorem c20:aP prog f20=some p20:=by kernel_rfl
def p21:bT:=(⟨_,by conv=>lhs;cbv⟩:Nf (bW (aP prog f21) [])).1
theorem c21:aP prog f21=some p21:=by kernel_rfl
def q9:=(⟨_,by conv=>lhs;cbv⟩:Nf (aP prog f9))
def Va:bw:=(⟨_,by conv=>lhs;cbv⟩:Nf (dW q9.1 0 [])).1
def p9:bT:=(fun b0=>(⟨_,by conv=>lhs;cbv⟩:Nf (bW q9.1 [b0])).1) Va
theorem c9:aP prog f9=some p9:=by kernel_rfl
def p32:bT:=(⟨_,by conv=>lhs;cbv⟩:Nf (bW (aP prog f32) [])).1
theorem c32:aP prog f32=some p32:=by kernel_rfl
def q71:=(⟨_,by conv=>lhs;cbv⟩:Nf (aP prog f71))
def NS:bw:=(⟨_,by conv=>lhs;cbv⟩:Nf (dW q71.1 0 [])).1
def p71:bT:=(fun b0=>(⟨_,by conv=>lhs;cbv⟩:Nf (bW q71.1 [b0])).1) NS
theorem c71:aP prog f71=some p71:=by kernel_rfl
def q72:=(⟨_,by conv=>lhs;cbv⟩:Nf (aP prog f72))
def NR:bw:=(⟨_,by conv=>lhs;cbv⟩:Nf (dW q72.1 0 [])).1
def p72:bT:=(fun b0=>(⟨_,by conv=>lhs;cbv⟩:Nf (bW q72.1 [b0])).1) NR
theorem c72:aP prog f72=some p72:=by kernel_rfl
def J3:bw:=.seq (.seq (.dq [] [zm 61 6,z 62 (.lF (.t 61)),zf 63 1 62,zl 64 63,zm 65 0,z 66 (.len false (.t 65)),z 67 (.bin .lss (.t 64) (.t 66))]) (.ite (.t 67) (.skip) (.exit 0)))
 (.block 1 (.seq (.seq (.dq [] [zm 68 6,z 69 (.call 42 [.t 68,.c (.i .i64 9)])]) (.block 2 (.seq (.seq (.dq [] [z 89 (.bin .eql (.t 69) (.c (.i .i64 0))),zm 88 89]) (.ite (.t
 88) (.skip) (.seq (.dq [] [z 90 (.bin .eql (.t 69) (.c (.i .i64 1))),zm 88 90]) (.ite (.t 88) (.skip) (.dq [] [z 91 (.bin .eql (.t 69) (.c (.i .i64 2))),zm 88 91]))))) (.ite (.t
 88) (.seq (.dq [] [zm 92 6,z 93 (.call 42 [.t 92,.c (.i .i64 3)]),zm 94 6,z 95 (.call 42 [.t 94,.c (.i .i64 4)]),z 96 (.call 18 [.t 93,.t 95]),z 12 (.alloc 27 [.nil,.nil,
 .s [],.s [],.s [],.s [],.i .i64 0,.i .i64 0]),zs (.store 8 [some 3,some 3,none,none,none,none,none,none] (.t 12) (.t 96))]) (.seq (.dq [] [zL 98 6 8,zL 99 8 12,z 100
 (.call 17 [.t 98,.t 99]),zm 97 100,z 101 (.ext 0 (.t 97)),z 102 (.ext 1 (.t 97)),z 103 (.ext 2 (.t 97)),z 13 (.alloc 36 [.i .i64 0,.i .i64 0,.nil,.nil,.i .i64 0,.b
 false]),z 14 (.alloc 29 [.i .i64 0,.i .i64 0,.i .i64 0,.i .i64 0,.nil,.nil,.s [],.s [],.s [],.s [],.i .i64 0,.i .i64 0,.nil]),zs (.store 6 [none,none,some 13,some
 1,none,none] (.t 13) (.t 101)),zs (.store 13 [none,none,none,none,some 3,some 3,none,none,none,none,none,none,some 1] (.t 14) (.t 102)),zm 15 103]) (.seq (.dq []
 [zL 105 6 10,zL 106 8 12,z 107 (.call 43 [.t 105,.t 106]),zm 104 107,z 108 (.ext 0 (.t 104)),z 109 (.ext 1 (.t 104)),z 110 (.ext 2 (.t 104)),z 16 (.alloc 36 [.i .i64 0,.i
 .i64 0,.nil,.nil,.i .i64 0,.b false]),z 17 (.alloc 29 [.i .i64 0,.i .i64 0,.i .i64 0,.i .i64 0,.nil,.nil,.s [],.s [],.s [],.s [],.i .i64 0,.i .i64 0,.nil]),zs
 (.store 6 [none,none,some 13,some 1,none,none] (.t 16) (.t 108)),zs (.store 13 [none,none,none,none,some 3,some 3,none,none,none,none,none,none,some 1] (.t 17) (.t
 109)),zm 18 110]) (.seq (.seq (.dq [115,116,117,118] [zm 111 15,zm 112 18,z 113 (.bin .neq (.t 111) (.t 112)),zm 114 113,⟨some 115,[(114,false)],.load (some 13) (.t
 14)⟩,⟨some 116,[(114,false)],.load (some 13) (.t 17)⟩,⟨some 117,[(114,false)],.call 44 [.t 115,.t 116]⟩,⟨some 118,[(114,false)],.un .not (.t 117)⟩,z 119 (.pick (.t
 114) (.c (.b true)) (.t 118))]) (.ite (.t 119) (.seq (.dq [] [zL 120 6 8,zs (.store 6 [none,none,some 13,some 1,none,none] (.t 4) (.t 120)),z 5 (.k6 (.c (.b false)))])
 (.ret)) (.skip))) (.seq (.dq [] [zm 121 15,z 122 (.bin .eql (.t 121) (.c (.i .i64 0)))]) (.ite (.t 122) (.kp [([zL 123 6 13,zL 124 6 16],zs (.store 6 [none,none,some 13,
 some 1,none,none] (.t 8) (.t 123)),[zL 124 6 16])] [] [] [zs (.store 6 [none,none,some 13,some 1,none,none] (.t 10) (.t 124))]) (.skip))))))) (.seq (.dq [] [z 126 (.bin
 .eql (.t 69) (.c (.i .i64 3))),zm 125 126]) (.ite (.t 125) (.seq (.dq [] [zm 127 6,z 128 (.call 42 [.t 127,.c (.i .i64 3)]),zm 129 6,z 130 (.call 42 [.t 129,.c (.i .i64 4)]),
 z 131 (.call 18 [.t 128,.t 130]),z 19 (.alloc 27 [.nil,.nil,.s [],.s [],.s [],.s [],.i .i64 0,.i .i64 0]),zs (.store 8 [some 3,some 3,none,none,none,none,none,none]
 (.t 19) (.t 131))]) (.seq (.dq [] [zL 133 6 8,zL 134 8 19,z 135 (.call 45 [.t 133,.t 134]),zm 132 135,z 136 (.ext 0 (.t 132)),z 137 (.ext 1 (.t 132)),z 138 (.ext 2 (.t
 132)),z 20 (.alloc 36 [.i .i64 0,.i .i64 0,.nil,.nil,.i .i64 0,.b false]),z 21 (.alloc 29 [.i .i64 0,.i .i64 0,.i .i64 0,.i .i64 0,.nil,.nil,.s [],.s [],.s [],.s [],
 .i .i64 0,.i .i64 0,.nil]),zs (.store 6 [none,none,some 13,some 1,none,none] (.t 20) (.t 136)),zs (.store 13 [none,none,none,none,some 3,some 3,none,none,none,
 none,none,none,some 1] (.t 21) (.t 137)),zm 22 138]) (.seq (.dq [] [zL 140 6 10,zL 141 8 19,z 142 (.call 46 [.t 140,.t 141]),zm 139 142,z 143 (.ext 0 (.t 139)),z 144
 (.ext 1 (.t 139)),z 145 (.ext 2 (.t 139)),z 23 (.alloc 36 [.i .i64 0,.i .i64 0,.nil,.nil,.i .i64 0,.b false]),z 24 (.alloc 29 [.i .i64 0,.i .i64 0,.i .i64 0,.i .i64 0,
 .nil,.nil,.s [],.s [],.s [],.s [],.i .i64 0,.i .i64 0,.nil]),zs (.store 6 [none,none,some 13,some 1,none,none] (.t 23) (.t 143)),zs (.store 13 [none,none,none,
 none,some 3,some 3,none,none,none,none,none,none,some 1] (.t 24) (.t 144)),zm 25 145]) (.seq (.seq (.dq [150,151,152,153] [zm 146 22,zm 147 25,z 148 (.bin .neq (.t
 146) (.t 147)),zm 149 148,⟨some 150,[(149,false)],.load (some 13) (.t 21)⟩,⟨some 151,[(149,false)],.load (some 13) (.t 24)⟩,⟨some 152,[(149,false)],.call 44 [.t 150,.t
 151]⟩,⟨some 153,[(149,false)],.un .not (.t 152)⟩,z 154 (.pick (.t 149) (.c (.b true)) (.t 153))]) (.ite (.t 154) (.seq (.dq [] [zL 155 6 8,zs (.store 6 [none,none,some 13,
 some 1,none,none] (.t 4) (.t 155)),z 5 (.k6 (.c (.b false)))]) (.ret)) (.skip))) (.seq (.dq [] [zm 156 22,z 157 (.bin .eql (.t 156) (.c (.i .i64 0)))]) (.ite (.t 157) (.kp
 [([zL 158 6 20,zL 159 6 23],zs (.store 6 [none,none,some 13,some 1,none,none] (.t 8) (.t 158)),[zL 159 6 23])] [] [] [zs (.store 6 [none,none,some 13,some 1,none,none]
 (.t 10) (.t 159))]) (.skip))))))) (.seq (.seq (.dq [] [z 161 (.bin .eql (.t 69) (.c (.i .i64 4))),zm 160 161]) (.ite (.t 160) (.skip) (.dq [] [z 162 (.bin .eql (.t 69) (.c (.i
 .i64 5))),zm 160 162]))) (.ite (.t 160) (.seq (.dq [] [zm 163 6,z 164 (.call 20 [.t 163]),z 26 (.alloc 29 [.i .i64 0,.i .i64 0,.i .i64 0,.i .i64 0,.nil,.nil,.s [],.s [],
 .s [],.s [],.i .i64 0,.i .i64 0,.nil]),zs (.store 13 [none,none,none,none,some 3,some 3,none,none,none,none,none,none,some 1] (.t 26) (.t 164))]) (.seq (.seq (.dq
 [] [zm 165 6,z 166 (.call 42 [.t 165,.c (.i .i64 9)]),z 167 (.bin .eql (.t 166) (.c (.i .i64 0)))]) (.ite (.t 167) (.dq [] [zL 168 13 3,zs (.store 13 [none,none,none,none,
 some 3,some 3,none,none,none,none,none,none,some 1] (.t 26) (.t 168))]) (.skip))) (.seq (.dq [] [zL 170 6 8,zL 171 13 26,z 172 (.call 19 [.t 170,.t 171]),zm 169 172,z
 173 (.ext 0 (.t 169)),z 174 (.ext 1 (.t 169)),z 27 (.alloc 36 [.i .i64 0,.i .i64 0,.nil,.nil,.i .i64 0,.b false]),zs (.store 6 [none,none,some 13,some 1,none,none] (.t
 27) (.t 173)),zm 28 174]) (.seq (.dq [] [zL 176 6 10,zL 177 13 26,z 178 (.call 47 [.t 176,.t 177]),zm 175 178,z 179 (.ext 0 (.t 175)),z 180 (.ext 1 (.t 175)),z 29 (.alloc
 36 [.i .i64 0,.i .i64 0,.nil,.nil,.i .i64 0,.b false]),zs (.store 6 [none,none,some 13,some 1,none,none] (.t 29) (.t 179)),zm 30 180]) (.seq (.seq (.dq [] [zm 181 28,
 zm 182 30,z 183 (.bin .neq (.t 181) (.t 182))]) (.ite (.t 183) (.seq (.dq [] [zL 184 6 8,zs (.store 6 [none,none,some 13,some 1,none,none] (.t 4) (.t 184)),z 5 (.k6 (.c
 (.b false)))]) (.ret)) (.skip))) (.seq (.dq [] [zm 185 28,z 186 (.bin .eql (.t 185) (.c (.i .i64 0)))]) (.ite (.t 186) (.kp [([zL 187 6 27,zL 188 6 29],zs (.store 6 [none,
 none,some 13,some 1,none,none] (.t 8) (.t 187)),[zL 188 6 29])] [] [] [zs (.store 6 [none,none,some 13,some 1,none,none] (.t 10) (.t 188))]) (.skip)))))))) (.seq (.dq []
 [z 190 (.bin .eql (.t 69) (.c (.i .i64 6))),zm 189 190]) (.ite (.t 189) (.seq (.dq [] [zL 192 6 8,z 193 (.call 22 [.t 192]),zm 191 193,z 194 (.ext 0 (.t 191)),z 195 (.ext 1
 (.t 191)),z 31 (.alloc 36 [.i .i64 0,.i .i64 0,.nil,.nil,.i .i64 0,.b false]),zs (.store 6 [none,none,some 13,some 1,none,none] (.t 31) (.t 194)),zm 32 195]) (.seq
 (.dq [] [zL 197 6 10,z 198 (.call 48 [.t 197]),zm 196 198,z 199 (.ext 0 (.t 196)),z 200 (.ext 1 (.t 196)),z 33 (.alloc 36 [.i .i64 0,.i .i64 0,.nil,.nil,.i .i64 0,.b
 false]),zs (.store 6 [none,none,some 13,some 1,none,none] (.t 33) (.t 199)),zm 34 200]) (.seq (.seq (.dq [] [zm 201 32,zm 202 34,z 203 (.bin .neq (.t 201) (.t 202))])
 (.ite (.t 203) (.seq (.dq [] [zL 204 6 8,zs (.store 6 [none,none,some 13,some 1,none,none] (.t 4) (.t 204)),z 5 (.k6 (.c (.b false)))]) (.ret)) (.skip))) (.seq (.dq [] [zm
 205 32,z 206 (.bin .eql (.t 205) (.c (.i .i64 0)))]) (.ite (.t 206) (.kp [([zL 207 6 31,zL 208 6 33],zs (.store 6 [none,none,some 13,some 1,none,none] (.t 8) (.t 207)),
 [zL 208 6 33])] [] [] [zs (.store 6 [none,none,some 13,some 1,none,none] (.t 10) (.t 208))]) (.skip)))))) (.seq (.dq [] [z 210 (.bin .eql (.t 69) (.c (.i .i64 7))),zm 209
 210]) (.ite (.t 209) (.seq (.dq [] [zm 211 6,z 212 (.call 42 [.t 211,.c (.i .i64 300)]),z 213 (.bin .sub (.t 212) (.c (.i .i64 20))),zm 35 213]) (.kp [([zL 214 6 8,zm 215
 35,zL 217 6 10,zm 218 35],z 216 (.call 15 [.t 214,.t 215]),[zL 217 6 10])] [] [] [z 219 (.call 49 [.t 217,.t 218]),zs (.store 6 [none,none,some 13,some 1,none,none] (.t
 8) (.t 216)),zs (.store 6 [none,none,some 13,some 1,none,none] (.t 10) (.t 219))])) (.seq (.dq [] [zL 71 6 8,z 72 (.call 16 [.t 71]),zm 70 72,z 73 (.ext 0 (.t 70)),z 74
 (.ext 1 (.t 70)),z 36 (.alloc 36 [.i .i64 0,.i .i64 0,.nil,.nil,.i .i64 0,.b false]),zs (.store 6 [none,none,some 13,some 1,none,none] (.t 36) (.t 73)),zm 37 74]) (.seq
 (.dq [] [zL 76 6 10,z 77 (.call 50 [.t 76]),zm 75 77,z 78 (.ext 0 (.t 75)),z 79 (.ext 1 (.t 75)),z 38 (.alloc 36 [.i .i64 0,.i .i64 0,.nil,.nil,.i .i64 0,.b false]),zs
 (.store 6 [none,none,some 13,some 1,none,none] (.t 38) (.t 78)),zm 39 79]) (.seq (.seq (.dq [] [zm 80 37,zm 81 39,z 82 (.bin .neq (.t 80) (.t 81))]) (.ite (.t 82) (.seq
 (.dq [] [zL 83 6 8,zs (.store 6 [none,none,some 13,some 1,none,none] (.t 4) (.t 83)),z 5 (.k6 (.c (.b false)))]) (.ret)) (.skip))) (.seq (.dq [] [zm 84 37,z 85 (.bin .eql
 (.t 84) (.c (.i .i64 0)))]) (.ite (.t 85) (.kp [([zL 86 6 36,zL 87 6 38],zs (.store 6 [none,none,some 13,some 1,none,none] (.t 8) (.t 86)),[zL 87 6 38])] [] [] [zs (.store
 6 [none,none,some 13,some 1,none,none] (.t 10) (.t 87))]) (.skip)))))))))))))))))) (.seq (.dq [] [zL 220 6 8,zL 221 6 10,z 222 (.call 51 [.t 220,.t 221]),z 223 (.un .not
 (.t 222))]) (.ite (.t 223) (.seq (.dq [] [zL 224 6 8,zs (.store 6 [none,none,some 13,some 1,none,none] (.t 4) (.t 224)),z 5 (.k6 (.c (.b false)))]) (.ret)) (.skip)))))
def p12:bT:=⟨226,[.c 4 (some 6),.t 5],.seq (.dq [] [z 3 (.box 29 (.t 1)),z 4 (.alloc 36 [.i .i64 0,.i .i64 0,.nil,.nil,.i .i64 0,.b false]),z 5 (.k6 (.c (.b false)))]) (.seq (.dq
 [] [zm 40 0,z 41 (.call 21 [.t 40]),zm 6 41]) (.seq (.dq [] [zm 42 6,z 43 (.call 42 [.t 42,.c (.i .i64 3)]),zm 7 43]) (.seq (.dq [] [zm 45 7,z 46 (.call 13 [.t 45]),zm 44
 46,z 47 (.ext 0 (.t 44)),z 48 (.ext 1 (.t 44)),z 8 (.alloc 36 [.i .i64 0,.i .i64 0,.nil,.nil,.i .i64 0,.b false]),zs (.store 6 [none,none,some 13,some 1,none,none] (.t
 8) (.t 47)),zm 9 48]) (.seq (.dq [] [zm 50 7,z 51 (.call 14 [.t 50]),zm 49 51,z 52 (.ext 0 (.t 49)),z 53 (.ext 1 (.t 49)),z 10 (.alloc 36 [.i .i64 0,.i .i64 0,.nil,.nil,
 .i .i64 0,.b false]),zs (.store 6 [none,none,some 13,some 1,none,none] (.t 10) (.t 52)),zm 11 53]) (.seq (.seq (.dq [57,58] [zm 54 9,z 55 (.bin .neq (.t 54) (.c (.i .i64
 0))),zm 56 55,⟨some 57,[(56,false)],.k6 (.t 11)⟩,⟨some 58,[(56,false)],.bin .neq (.t 57) (.c (.i .i64 0))⟩,z 59 (.pick (.t 56) (.c (.b true)) (.t 58))]) (.ite (.t 59)
 (.seq (.dq [] [zL 60 6 8,zs (.store 6 [none,none,some 13,some 1,none,none] (.t 4) (.t 60)),z 5 (.k6 (.c (.b false)))]) (.ret)) (.skip))) (.seq (.block 0 (.loop J3))
 (.seq (.dq [] [zL 225 6 8,zs (.store 6 [none,none,some 13,some 1,none,none] (.t 4) (.t 225)),z 5 (.k6 (.c (.b true)))]) (.ret))))))))⟩
theorem Rc:aP prog f12=some p12:=by kernel_rfl
theorem tI:Ti prog 3 1 8:=nR (by kernel_rfl)
end Go.Proofs.Tryz
