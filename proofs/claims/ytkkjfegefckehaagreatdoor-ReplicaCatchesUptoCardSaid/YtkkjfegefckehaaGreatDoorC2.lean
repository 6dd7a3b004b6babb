/- A part of the proof of the statement of the last text of this claim; its conditions stand there. -/
import Derived.Test.YtkkjfegefckehaaGreatDoorB16
import Derived.Test.YtkkjfegefckehaaGreatDoorB17
set_option linter.all false

namespace Go.Proofs.Tryz
open Go Go.Pm
set_option maxRecDepth 100000
def q39:=(⟨_,by conv=>lhs;cbv⟩:Nf (aP prog f39))
def yQ:bw:=(⟨_,by conv=>lhs;cbv⟩:Nf (dW q39.1 0 [])).1
def p39:bT:=(fun b0=>(⟨_,by conv=>lhs;cbv⟩:Nf (bW q39.1 [b0])).1) yQ
theorem c39:aP prog f39=some p39:=by kernel_rfl
def Vc:bw:=.seq (.dq [] [z 34 (.bin .lss (.t 33) (.t 32))]) (.seq (.ite (.t 34) (.skip) (.exit 0)) (.seq (.block 1 (.seq (.dq [] [z 35 (.idx 1 (.t 31) (.t 33)),zl 36 35,zm 10 36]) (.seq
 (.M1 [(11,36,[.i .i64 0,.i .i64 0,.nil,.nil,.i .i64 0,.b false]),(12,29,[.i .i64 0,.i .i64 0,.i .i64 0,.i .i64 0,.nil,.nil,.s [],.s [],.s [],.s [],.i .i64 0,.i
 .i64 0,.nil])] [([zL 38 6 7,zm 39 10,zm 40 10,z 41 (.bin .quo (.t 40) (.c (.i .i64 3)))],z 42 (.call 18 [.t 39,.t 41]),[zL 38 6 7]),([],z 43 (.call 17 [.t 38,.t 42]),[])]
 [([zm 37 43,z 44 (.ext 0 (.t 37)),z 45 (.ext 1 (.t 37)),z 46 (.ext 2 (.t 37))],zs (.store 6 [none,none,some 13,some 1,none,none] (.t 11) (.t 44)),[]),([],zs (.store 13
 [none,none,none,none,some 3,some 3,none,none,none,none,none,none,some 1] (.t 12) (.t 45)),[])] [] [] [zm 13 46]) (.seq (.dq [50,51,52,53] [zm 47 13,z 48 (.bin .eql
 (.t 47) (.c (.i .i64 0))),zm 49 48,⟨some 50,[(49,true)],.tE 2 (.t 7)⟩,⟨some 51,[(49,true)],.load none (.t 50)⟩,⟨some 52,[(49,true)],.len false (.t 51)⟩,⟨some 53,
 [(49,true)],.bin .lss (.t 52) (.c (.i .i64 8))⟩,z 54 (.pick (.t 49) (.t 53) (.c (.b false)))]) (.ite (.t 54) (.dq [] [zL 55 6 11,zs (.store 6 [none,none,some 13,some 1,
 none,none] (.t 7) (.t 55))]) (.skip)))))) (.dq [] [z 56 (.bin .add (.t 33) (.c (.i .i64 1))),zm 33 56])))
def Vb:bw:=.seq (.dq [] [z 81 (.bin .lss (.t 80) (.t 79))]) (.seq (.ite (.t 81) (.skip) (.exit 2)) (.seq (.block 3 (.seq (.dq [] [z 82 (.idx 13 (.t 78) (.t 80)),zL 83 13 82,z 19 (.alloc 29
 [.i .i64 0,.i .i64 0,.i .i64 0,.i .i64 0,.nil,.nil,.s [],.s [],.s [],.s [],.i .i64 0,.i .i64 0,.nil]),zs (.store 13 [none,none,none,none,some 3,some 3,none,none,
 none,none,none,none,some 1] (.t 19) (.t 83))]) (.seq (.dq [] [zL 85 6 7,zL 86 13 19,z 87 (.call 19 [.t 85,.t 86]),zm 84 87,z 88 (.ext 0 (.t 84)),z 89 (.ext 1 (.t 84)),z
 20 (.alloc 36 [.i .i64 0,.i .i64 0,.nil,.nil,.i .i64 0,.b false]),zs (.store 6 [none,none,some 13,some 1,none,none] (.t 20) (.t 88)),zm 21 89]) (.seq (.seq (.dq [] [zm
 90 21,z 91 (.bin .neq (.t 90) (.c (.i .i64 0)))]) (.ite (.t 91) (.seq (.dq [] [z 6 (.k6 (.c (.b false)))]) (.ret)) (.skip))) (.dq [] [zL 92 6 20,zs (.store 6 [none,none,some
 13,some 1,none,none] (.t 7) (.t 92))]))))) (.dq [] [z 93 (.bin .add (.t 80) (.c (.i .i64 1))),zm 80 93])))
def p8:bT:=⟨102,[.t 6],.seq (.dq [] [z 6 (.k6 (.c (.b false)))]) (.seq (.seq (.dq [] [zm 22 0,zm 23 1,z 24 (.dj 1 [some 1] [.t 22,.t 23]),z 25 (.call 9 [.t 24])]) (.ite (.t 25)
 (.seq (.dq [] [z 26 (.call 11 []),zm 6 26]) (.ret)) (.skip))) (.seq (.dq [] [z 28 (.call 13 [.c (.i .i64 3)]),zm 27 28,z 29 (.ext 0 (.t 27)),z 30 (.ext 1 (.t 27)),z 7 (.alloc
 36 [.i .i64 0,.i .i64 0,.nil,.nil,.i .i64 0,.b false]),zs (.store 6 [none,none,some 13,some 1,none,none] (.t 7) (.t 29)),zm 8 30]) (.seq (.seq (.dq [] [zm 31 1,z 32
 (.len false (.t 31)),z 33 (.k6 (.c (.i .i64 0)))]) (.block 0 (.loop Vc))) (.seq (.dq [] [zm 58 0,z 59 (.build [.i .i64 0,.i .i64 0,.i .i64 0,.i .i64 0,.nil,.nil,.s [],
 .s [],.s [],.s [],.i .i64 0,.i .i64 0,.nil] []),z 60 (.call 12 [.t 58,.t 59]),zm 57 60,z 61 (.ext 0 (.t 57)),z 62 (.ext 1 (.t 57)),z 14 (.alloc 36 [.i .i64 0,.i .i64 0,
 .nil,.nil,.i .i64 0,.b false]),zs (.store 6 [none,none,some 13,some 1,none,none] (.t 14) (.t 61)),zm 15 62]) (.seq (.seq (.dq [] [zm 63 15,z 64 (.un .not (.t 63))])
 (.ite (.t 64) (.seq (.dq [] [z 6 (.k6 (.c (.b false)))]) (.ret)) (.skip))) (.seq (.seq (.dq [] [zL 66 6 14,zm 67 2,z 68 (.call 15 [.t 66,.t 67]),z 69 (.call 16 [.t 68]),zm
 65 69,z 70 (.ext 0 (.t 65)),z 71 (.ext 1 (.t 65)),z 16 (.alloc 36 [.i .i64 0,.i .i64 0,.nil,.nil,.i .i64 0,.b false]),zs (.store 6 [none,none,some 13,some 1,none,none]
 (.t 16) (.t 70)),zm 17 71]) (.seq (.dq [] [zm 72 17,z 73 (.bin .eql (.t 72) (.c (.i .i64 0)))]) (.ite (.t 73) (.dq [] [zL 74 6 16,zs (.store 6 [none,none,some 13,some 1,
 none,none] (.t 14) (.t 74))]) (.skip)))) (.seq (.seq (.kp [([zL 75 6 14,zL 76 6 7,z 80 (.k6 (.c (.i .i64 0)))],z 77 (.call 23 [.t 76]),[zL 75 6 14]),([],z 78 (.call 39 [.t
 75,.t 77]),[])] [z 79 (.len false (.t 78))] [] []) (.block 2 (.loop Vb))) (.seq (.kp [([zL 94 6 7,zL 96 6 14],z 95 (.call 23 [.t 94]),[zL 96 6 14])] [] [100] [z 97 (.call
 23 [.t 96]),z 98 (.call 41 [.t 95,.t 97]),zm 99 98,⟨some 100,[(99,true)],.call 11 []⟩,z 101 (.pick (.t 99) (.t 100) (.c (.b false))),zm 6 101]) (.ret)))))))))⟩
theorem c8:aP prog f8=some p8:=by kernel_rfl
end Go.Proofs.Tryz
