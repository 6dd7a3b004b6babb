/- A part of the proof of the statement of the last text of this claim; its conditions stand there. -/
import Derived.Test.YtkkjfegefckehaaGreatDoorB17
set_option linter.all false

namespace Go.Proofs.Tryz
open Go Go.Pm
def p4:bT:=⟨106,[.t 4],.seq (.dq [] [z 4 (.k6 (.c (.b false)))]) (.seq (.seq (.dq [] [zm 21 1,z 22 (.dj 1 [some 1] [.t 21]),z 23 (.call 9 [.t 22])]) (.ite (.t 23) (.seq (.dq [] [z
 24 (.call 11 []),zm 4 24]) (.ret)) (.skip))) (.seq (.dq [] [zm 26 0,z 27 (.call 13 [.t 26]),zm 25 27,z 28 (.ext 0 (.t 25)),z 29 (.ext 1 (.t 25)),z 5 (.alloc 36 [.i .i64 0,.i
 .i64 0,.nil,.nil,.i .i64 0,.b false]),zs (.store 6 [none,none,some 13,some 1,none,none] (.t 5) (.t 28)),zm 6 29]) (.seq (.dq [] [zm 31 0,z 32 (.call 14 [.t 31]),zm 30
 32,z 33 (.ext 0 (.t 30)),z 34 (.ext 1 (.t 30)),z 7 (.alloc 36 [.i .i64 0,.i .i64 0,.nil,.nil,.i .i64 0,.b false]),zs (.store 6 [none,none,some 13,some 1,none,none] (.t
 7) (.t 33)),zm 8 34]) (.seq (.dq [] [zm 36 1,z 37 (.build [.i .i64 0,.i .i64 0,.i .i64 0,.i .i64 0,.nil,.nil,.s [],.s [],.s [],.s [],.i .i64 0,.i .i64 0,.nil] []),z
 38 (.call 12 [.t 36,.t 37]),zm 35 38,z 39 (.ext 0 (.t 35)),z 40 (.ext 1 (.t 35)),z 9 (.alloc 36 [.i .i64 0,.i .i64 0,.nil,.nil,.i .i64 0,.b false]),zs (.store 6 [none,
 none,some 13,some 1,none,none] (.t 9) (.t 39)),zm 10 40]) (.seq (.dq [] [zL 41 6 9,z 42 (.call 15 [.t 41,.c (.i .i64 0)]),z 11 (.alloc 36 [.i .i64 0,.i .i64 0,.nil,.nil,
 .i .i64 0,.b false]),zs (.store 6 [none,none,some 13,some 1,none,none] (.t 11) (.t 42))]) (.seq (.dq [] [zL 44 6 9,z 45 (.call 16 [.t 44]),zm 43 45,z 46 (.ext 0 (.t 43)),
 z 47 (.ext 1 (.t 43)),z 12 (.alloc 36 [.i .i64 0,.i .i64 0,.nil,.nil,.i .i64 0,.b false]),zs (.store 6 [none,none,some 13,some 1,none,none] (.t 12) (.t 46)),zm 13 47])
 (.seq (.M1 [(14,36,[.i .i64 0,.i .i64 0,.nil,.nil,.i .i64 0,.b false]),(15,29,[.i .i64 0,.i .i64 0,.i .i64 0,.i .i64 0,.nil,.nil,.s [],.s [],.s [],.s [],.i .i64
 0,.i .i64 0,.nil])] [([zL 49 6 11],z 50 (.call 18 [.c (.i .i64 0),.c (.i .i64 0)]),[zL 49 6 11]),([],z 51 (.call 17 [.t 49,.t 50]),[])] [([zm 48 51,z 52 (.ext 0 (.t 48)),
 z 53 (.ext 1 (.t 48)),z 54 (.ext 2 (.t 48))],zs (.store 6 [none,none,some 13,some 1,none,none] (.t 14) (.t 52)),[]),([],zs (.store 13 [none,none,none,none,some 3,some
 3,none,none,none,none,none,none,some 1] (.t 15) (.t 53)),[])] [] [] [zm 16 54]) (.seq (.M1 [(17,36,[.i .i64 0,.i .i64 0,.nil,.nil,.i .i64 0,.b false])] [([zL 56 6
 11,zm 57 1],z 58 (.call 21 [.t 57]),[zL 56 6 11]),([],z 59 (.call 20 [.t 58]),[zL 56 6 11]),([],z 60 (.call 19 [.t 56,.t 59]),[])] [([zm 55 60,z 61 (.ext 0 (.t 55)),z 62
 (.ext 1 (.t 55))],zs (.store 6 [none,none,some 13,some 1,none,none] (.t 17) (.t 61)),[])] [] [] [zm 18 62]) (.seq (.dq [] [zL 64 6 11,z 65 (.call 22 [.t 64]),zm 63 65,z
 66 (.ext 0 (.t 63)),z 67 (.ext 1 (.t 63)),z 19 (.alloc 36 [.i .i64 0,.i .i64 0,.nil,.nil,.i .i64 0,.b false]),zs (.store 6 [none,none,some 13,some 1,none,none] (.t 19)
 (.t 66)),zm 20 67]) (.seq (.kp [([zm 68 6,zm 69 8,z 70 (.bin .eql (.t 68) (.t 69)),zm 71 70,⟨some 72,[(71,true)],.k6 (.t 10)⟩,z 73 (.pick (.t 71) (.t 72) (.c (.b
 false))),zm 74 73,⟨some 75,[(74,true)],.k6 (.t 13)⟩,⟨some 76,[(74,true)],.bin .eql (.t 75) (.c (.i .i64 0))⟩,⟨some 77,[(74,true)],.tE 5 (.t 9)⟩,⟨some 78,[(74,
 true)],.load none (.t 77)⟩,⟨some 79,[(74,true)],.XA false (.t 76) (.t 78)⟩,z 80 (.pick (.t 74) (.t 79) (.c (.b false))),zm 81 80,⟨some 82,[(81,true)],.k6 (.t 16)⟩,
 ⟨some 83,[(81,true)],.bin .eql (.t 82) (.c (.i .i64 15))⟩,z 84 (.pick (.t 81) (.t 83) (.c (.b false))),zm 85 84,⟨some 86,[(85,true)],.k6 (.t 18)⟩,⟨some 87,[(85,true)],
 .bin .eql (.t 86) (.c (.i .i64 15))⟩,z 88 (.pick (.t 85) (.t 87) (.c (.b false))),zm 89 88,⟨some 90,[(89,true)],.k6 (.t 20)⟩,⟨some 91,[(89,true)],.bin .eql (.t 90) (.c
 (.i .i64 15))⟩,z 92 (.pick (.t 89) (.t 91) (.c (.b false))),zm 93 92,⟨some 94,[(93,true)],.load (some 6) (.t 11)⟩,⟨some 97,[(93,true)],.load (some 6) (.t 11)⟩],⟨some 95,
 [(93,true)],.call 23 [.t 94]⟩,[⟨some 97,[(93,true)],.load (some 6) (.t 11)⟩]),([⟨some 96,[(93,true)],.len false (.t 95)⟩],⟨some 98,[(93,true)],.call 24 [.t 97]⟩,
 [⟨some 96,[(93,true)],.len false (.t 95)⟩])] [⟨some 99,[(93,true)],.len false (.t 98)⟩] [72,75,76,77,78,79,82,83,86,87,90,91,94,95,96,97,98,99,100,101,104]
 [⟨some 100,[(93,true)],.bin .add (.t 96) (.t 99)⟩,⟨some 101,[(93,true)],.bin .eql (.t 100) (.c (.i .i64 0))⟩,z 102 (.pick (.t 93) (.t 101) (.c (.b false))),zm 103 102,
 ⟨some 104,[(103,true)],.call 11 []⟩,z 105 (.pick (.t 103) (.t 104) (.c (.b false))),zm 4 105]) (.ret)))))))))))⟩
theorem c4:aP prog f4=some p4:=by kernel_rfl
end Go.Proofs.Tryz
