/- A part of the proof of the statement of the last text of this claim; its conditions stand there. -/
import Derived.Test.YtkkjfegefckehaaGreatDoorB17
set_option linter.all false

namespace Go.Proofs.Tryz
open Go Go.Pm
def Vf:bw:=.seq (.dq [] [z 35 (.bin .lss (.t 34) (.t 33))]) (.seq (.ite (.t 35) (.skip) (.exit 0)) (.seq (.block 1 (.seq (.dq [] [z 36 (.idx 13 (.t 32) (.t 34)),zL 37 13 36,z 11 (.alloc 29
 [.i .i64 0,.i .i64 0,.i .i64 0,.i .i64 0,.nil,.nil,.s [],.s [],.s [],.s [],.i .i64 0,.i .i64 0,.nil]),zs (.store 13 [none,none,none,none,some 3,some 3,none,none,
 none,none,none,none,some 1] (.t 11) (.t 37))]) (.seq (.dq [] [zf 38 0 11,zf 39 1 38,zl 40 39,zf 41 0 7,zl 42 41,z 43 (.bin .eql (.t 40) (.t 42))]) (.ite (.t 43) (.seq
 (.dq [] [zm 44 9,z 45 (.bin .add (.t 44) (.c (.i .i64 1))),zm 9 45]) (.seq (.dq [52,53,54,55,56,57,58,59] [zf 46 0 11,zf 47 2 46,zl 48 47,zm 49 9,z 50 (.bin .neq (.t
 48) (.t 49)),zm 51 50,⟨some 52,[(51,false)],.tE 12 (.t 11)⟩,⟨some 53,[(51,false)],.load none (.t 52)⟩,⟨some 54,[(51,false)],.tE 0 (.t 7)⟩,⟨some 55,[(51,false)],
 .load none (.t 54)⟩,⟨some 56,[(51,false)],.call 30 [.t 53,.t 55]⟩,⟨some 57,[(51,false)],.k6 (.t 9)⟩,⟨some 58,[(51,false)],.bin .sub (.t 57) (.c (.i .i64 1))⟩,⟨some
 59,[(51,false)],.bin .neq (.t 56) (.t 58)⟩,z 60 (.pick (.t 51) (.c (.b true)) (.t 59))]) (.ite (.t 60) (.seq (.dq [] [z 6 (.k6 (.c (.b false)))]) (.ret)) (.skip))))
 (.skip))))) (.dq [] [z 61 (.bin .add (.t 34) (.c (.i .i64 1))),zm 34 61])))
def Ve:bw:=.seq (.dq [] [z 95 (.bin .lss (.t 94) (.t 93))]) (.seq (.ite (.t 95) (.skip) (.exit 2)) (.seq (.block 3 (.seq (.dq [] [z 96 (.idx 13 (.t 92) (.t 94)),zL 97 13 96,z 16 (.alloc 29
 [.i .i64 0,.i .i64 0,.i .i64 0,.i .i64 0,.nil,.nil,.s [],.s [],.s [],.s [],.i .i64 0,.i .i64 0,.nil]),zs (.store 13 [none,none,none,none,some 3,some 3,none,none,
 none,none,none,none,some 1] (.t 16) (.t 97))]) (.seq (.dq [106,107,108,109] [zf 98 0 16,zf 99 0 98,zl 100 99,zf 101 0 13,zf 102 0 101,zl 103 102,z 104 (.bin .geq (.t
 100) (.t 103)),zm 105 104,⟨some 106,[(105,false)],.load (some 13) (.t 13)⟩,⟨some 107,[(105,false)],.load (some 13) (.t 16)⟩,⟨some 108,[(105,false)],.call 31 [.t 106,.t
 107]⟩,⟨some 109,[(105,false)],.un .not (.t 108)⟩,z 110 (.pick (.t 105) (.c (.b true)) (.t 109))]) (.ite (.t 110) (.seq (.dq [] [z 6 (.k6 (.c (.b false)))]) (.ret))
 (.skip))))) (.dq [] [z 111 (.bin .add (.t 94) (.c (.i .i64 1))),zm 94 111])))
def p6:bT:=⟨135,[.t 6],.seq (.dq [] [z 6 (.k6 (.c (.b false)))]) (.seq (.seq (.dq [] [zm 19 0,z 20 (.dj 1 [some 1] [.t 19]),z 21 (.call 9 [.t 20])]) (.ite (.t 21) (.seq (.dq [] [z
 22 (.call 11 []),zm 6 22]) (.ret)) (.skip))) (.seq (.dq [] [zm 24 0,z 25 (.build [.i .i64 0,.i .i64 0,.i .i64 0,.i .i64 0,.nil,.nil,.s [],.s [],.s [],.s [],.i .i64 0,
 .i .i64 0,.nil] []),z 26 (.call 12 [.t 24,.t 25]),zm 23 26,z 27 (.ext 0 (.t 23)),z 28 (.ext 1 (.t 23)),z 7 (.alloc 36 [.i .i64 0,.i .i64 0,.nil,.nil,.i .i64 0,.b
 false]),zs (.store 6 [none,none,some 13,some 1,none,none] (.t 7) (.t 27)),zm 8 28]) (.seq (.seq (.dq [] [zm 29 8,z 30 (.un .not (.t 29))]) (.ite (.t 30) (.seq (.dq [] [z 6
 (.k6 (.c (.b false)))]) (.ret)) (.skip))) (.seq (.dq [] [z 9 (.k6 (.c (.i .i64 0)))]) (.seq (.seq (.dq [] [zf 31 2 7,zl 32 31,z 33 (.len false (.t 32)),z 34 (.k6 (.c (.i
 .i64 0)))]) (.block 0 (.loop Vf))) (.seq (.M1 [(12,36,[.i .i64 0,.i .i64 0,.nil,.nil,.i .i64 0,.b false]),(13,29,[.i .i64 0,.i .i64 0,.i .i64 0,.i .i64 0,.nil,
 .nil,.s [],.s [],.s [],.s [],.i .i64 0,.i .i64 0,.nil])] [([zL 63 6 7,zm 64 1,zm 65 2],z 66 (.call 18 [.t 64,.t 65]),[zL 63 6 7]),([],z 67 (.call 17 [.t 63,.t 66]),
 [])] [([zm 62 67,z 68 (.ext 0 (.t 62)),z 69 (.ext 1 (.t 62)),z 70 (.ext 2 (.t 62))],zs (.store 6 [none,none,some 13,some 1,none,none] (.t 12) (.t 68)),[]),([],zs (.store
 13 [none,none,none,none,some 3,some 3,none,none,none,none,none,none,some 1] (.t 13) (.t 69)),[])] [] [] [zm 14 70]) (.seq (.seq (.dq [] [zm 71 14,z 72 (.bin .neq (.t
 71) (.c (.i .i64 0)))]) (.ite (.t 72) (.seq (.dq [76,77,80,81,82,83,84,85,86,89] [zf 73 5 7,zl 74 73,zm 75 74,⟨some 76,[(75,true)],.k6 (.t 14)⟩,⟨some 77,[(75,
 true)],.bin .eql (.t 76) (.c (.i .i64 15))⟩,z 78 (.pick (.t 75) (.t 77) (.c (.b false))),zm 79 78,⟨some 80,[(79,false)],.tE 5 (.t 7)⟩,⟨some 81,[(79,false)],.load none
 (.t 80)⟩,⟨some 82,[(79,false)],.un .not (.t 81)⟩,⟨some 83,[(79,false)],.k6 (.t 82)⟩,⟨some 84,[(79,false),(83,true)],.k6 (.t 14)⟩,⟨some 85,[(79,false),(83,
 true)],.bin .eql (.t 84) (.c (.i .i64 3))⟩,⟨some 86,[(79,false)],.pick (.t 83) (.t 85) (.c (.b false))⟩,z 87 (.pick (.t 79) (.c (.b true)) (.t 86)),zm 88 87,⟨some 89,[(88,
 true)],.call 11 []⟩,z 90 (.pick (.t 88) (.t 89) (.c (.b false))),zm 6 90]) (.ret)) (.skip))) (.seq (.seq (.dq [] [zf 91 2 7,zl 92 91,z 93 (.len false (.t 92)),z 94 (.k6 (.c
 (.i .i64 0)))]) (.block 2 (.loop Ve))) (.seq (.dq [] [zL 112 6 12,z 113 (.call 24 [.t 112]),zm 17 113]) (.seq (.dq [] [zm 114 17,zm 115 1,zm 116 2,z 117 (.call 18 [.t 115,
 .t 116]),z 118 (.call 33 [.t 117]),z 119 (.call 32 [.t 114,.t 118]),zm 18 119]) (.seq (.kp [([zm 120 18,z 121 (.bin .geq (.t 120) (.c (.i .i64 0))),zm 122 121,⟨some 123,
 [(122,true)],.k6 (.t 17)⟩,⟨some 124,[(122,true)],.k6 (.t 18)⟩,⟨some 125,[(122,true)],.idx 8 (.t 123) (.t 124)⟩,⟨some 126,[(122,true)],.load (some 8) (.t 125)⟩,⟨some
 127,[(122,true)],.k6 (.t 1)⟩,⟨some 128,[(122,true)],.k6 (.t 2)⟩],⟨some 129,[(122,true)],.call 18 [.t 127,.t 128]⟩,[⟨some 125,[(122,true)],.idx 8 (.t 123) (.t
 124)⟩,⟨some 126,[(122,true)],.load (some 8) (.t 125)⟩])] [] [123,124,125,126,127,128,129,130,133] [⟨some 130,[(122,true)],.call 34 [.t 126,.t 129]⟩,z 131 (.pick (.t
 122) (.t 130) (.c (.b false))),zm 132 131,⟨some 133,[(132,true)],.call 11 []⟩,z 134 (.pick (.t 132) (.t 133) (.c (.b false))),zm 6 134]) (.ret))))))))))))⟩
theorem c6:aP prog f6=some p6:=by kernel_rfl
end Go.Proofs.Tryz
