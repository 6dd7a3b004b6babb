/- A part of the proof of the statement of the last text of this claim; its conditions stand there. -/
import Derived.Test.YtkkjfegefckehaaGreatDoorB17
set_option linter.all false

namespace Go.Proofs.Tryz
open Go Go.Pm
set_option maxRecDepth 100000
def q29:=(⟨_,by conv=>lhs;cbv⟩:Nf (aP prog f29))
def N3:bw:=(⟨_,by conv=>lhs;cbv⟩:Nf (dW q29.1 0 [])).1
def p29:bT:=(fun b0=>(⟨_,by conv=>lhs;cbv⟩:Nf (bW q29.1 [b0])).1) N3
theorem c29:aP prog f29=some p29:=by kernel_rfl
def Vg:bw:=.seq (.dq [] [z 108 (.bin .lss (.t 107) (.t 106))]) (.seq (.ite (.t 108) (.skip) (.exit 0)) (.seq (.block 1 (.seq (.dq [] [z 109 (.idx 13 (.t 105) (.t 107)),zL 110 13 109,z 14
 (.alloc 29 [.i .i64 0,.i .i64 0,.i .i64 0,.i .i64 0,.nil,.nil,.s [],.s [],.s [],.s [],.i .i64 0,.i .i64 0,.nil]),zs (.store 13 [none,none,none,none,some 3,some 3,
 none,none,none,none,none,none,some 1] (.t 14) (.t 110))]) (.seq (.kp [([zf 111 0 14,zf 112 1 111,zl 113 112,zf 114 0 5,zl 115 114,z 116 (.bin .eql (.t 113) (.t 115)),
 zm 117 116,⟨some 118,[(117,true)],.tE 2 (.t 7)⟩,⟨some 119,[(117,true)],.load none (.t 118)⟩,⟨some 120,[(117,true)],.tE 0 (.t 14)⟩,⟨some 121,[(117,true)],.load
 (some 3) (.t 120)⟩,⟨some 123,[(117,true)],.load (some 13) (.t 14)⟩,⟨some 124,[(117,true)],.dj 13 [none,none,none,none,some 3,some 3,none,none,none,none,none,
 none,some 1] [.t 123]⟩],⟨some 122,[(117,true)],.call 29 [.t 119,.t 121]⟩,[⟨some 123,[(117,true)],.load (some 13) (.t 14)⟩,⟨some 124,[(117,true)],.dj 13 [none,
 none,none,none,some 3,some 3,none,none,none,none,none,none,some 1] [.t 123]⟩])] [] [118,119,120,121,122,123,124,125,126] [⟨some 125,[(117,true)],.call 28 [.t
 122,.t 124]⟩,⟨some 126,[(117,true)],.un .not (.t 125)⟩,z 127 (.pick (.t 117) (.t 126) (.c (.b false)))]) (.ite (.t 127) (.seq (.dq [] [z 4 (.k6 (.c (.b false)))]) (.ret))
 (.skip))))) (.dq [] [z 128 (.bin .add (.t 107) (.c (.i .i64 1))),zm 107 128])))
def p5:bT:=⟨130,[.t 4],.seq (.dq [] [z 4 (.k6 (.c (.b false)))]) (.seq (.seq (.dq [] [zm 15 0,z 16 (.dj 1 [some 1] [.t 15]),z 17 (.call 9 [.t 16])]) (.ite (.t 17) (.seq (.dq [] [z
 18 (.call 11 []),zm 4 18]) (.ret)) (.skip))) (.seq (.dq [] [zm 20 0,z 21 (.build [.i .i64 0,.i .i64 0,.i .i64 0,.i .i64 0,.nil,.nil,.s [],.s [],.s [],.s [],.i .i64 0,
 .i .i64 0,.nil] []),z 22 (.call 12 [.t 20,.t 21]),zm 19 22,z 23 (.ext 0 (.t 19)),z 24 (.ext 1 (.t 19)),z 5 (.alloc 36 [.i .i64 0,.i .i64 0,.nil,.nil,.i .i64 0,.b
 false]),zs (.store 6 [none,none,some 13,some 1,none,none] (.t 5) (.t 23)),zm 6 24]) (.seq (.seq (.dq [28,29] [zm 25 6,z 26 (.un .not (.t 25)),zm 27 26,⟨some 28,[(27,
 false)],.tE 5 (.t 5)⟩,⟨some 29,[(27,false)],.load none (.t 28)⟩,z 30 (.pick (.t 27) (.c (.b true)) (.t 29))]) (.ite (.t 30) (.seq (.dq [33] [zm 31 6,zm 32 31,⟨some 33,
 [(32,true)],.call 11 []⟩,z 34 (.pick (.t 32) (.t 33) (.c (.b false))),zm 4 34]) (.ret)) (.skip))) (.seq (.dq [] [zm 35 1,z 36 (.call 25 [.t 35,.c (.i .i64 400)]),z 37 (.bin
 .sub (.t 36) (.c (.i .i64 10))),zm 1 37]) (.seq (.dq [] [zL 39 6 5,zm 40 1,z 41 (.call 15 [.t 39,.t 40]),z 42 (.call 16 [.t 41]),zm 38 42,z 43 (.ext 0 (.t 38)),z 44 (.ext 1
 (.t 38)),z 7 (.alloc 36 [.i .i64 0,.i .i64 0,.nil,.nil,.i .i64 0,.b false]),zs (.store 6 [none,none,some 13,some 1,none,none] (.t 7) (.t 43)),zm 8 44]) (.seq (.seq
 (.kp [([zm 45 8,z 46 (.bin .neq (.t 45) (.c (.i .i64 0))),zm 47 46,⟨some 48,[(47,false)],.tE 3 (.t 7)⟩,⟨some 49,[(47,false)],.load none (.t 48)⟩,⟨some 50,[(47,
 false)],.len false (.t 49)⟩,⟨some 51,[(47,false)],.tE 3 (.t 5)⟩,⟨some 52,[(47,false)],.load none (.t 51)⟩,⟨some 53,[(47,false)],.len false (.t 52)⟩,⟨some 54,[(47,
 false)],.bin .gtr (.t 50) (.t 53)⟩,z 55 (.pick (.t 47) (.c (.b true)) (.t 54)),zm 56 55,⟨some 57,[(56,false)],.tE 3 (.t 7)⟩,⟨some 58,[(56,false)],.load none (.t 57)⟩,
 ⟨some 59,[(56,false)],.tE 3 (.t 5)⟩,⟨some 60,[(56,false)],.load none (.t 59)⟩,⟨some 61,[(56,false)],.tE 3 (.t 7)⟩,⟨some 62,[(56,false)],.load none (.t 61)⟩,⟨some
 63,[(56,false)],.len false (.t 62)⟩,⟨some 64,[(56,false)],.slice 1 (.t 60) none (some (.t 63))⟩],⟨some 65,[(56,false)],.call 26 [.t 58,.t 64]⟩,[])] [⟨some 66,[(56,
 false)],.un .not (.t 65)⟩,z 67 (.pick (.t 56) (.c (.b true)) (.t 66)),zm 68 67,⟨some 69,[(68,false)],.tE 4 (.t 7)⟩,⟨some 70,[(68,false)],.load none (.t 69)⟩,⟨some 71,
 [(68,false)],.tE 3 (.t 7)⟩,⟨some 72,[(68,false)],.load none (.t 71)⟩,⟨some 73,[(68,false)],.len false (.t 72)⟩] [48,49,50,51,52,53,54,57,58,59,60,61,62,63,
 64,65,66,69,70,71,72,73,74] [⟨some 74,[(68,false)],.bin .neq (.t 70) (.t 73)⟩,z 75 (.pick (.t 68) (.c (.b true)) (.t 74))]) (.ite (.t 75) (.seq (.dq [] [z 4 (.k6 (.c
 (.b false)))]) (.ret)) (.skip))) (.seq (.dq [] [zf 77 3 5,zl 78 77,zf 79 4 5,zl 80 79,z 81 (.slice 1 (.t 78) none (some (.t 80))),z 82 (.call 27 [.t 81]),zm 76 82,z 83 (.ext
 0 (.t 76)),z 84 (.ext 1 (.t 76)),zm 9 83,zm 10 84]) (.seq (.dq [] [zf 86 3 7,zl 87 86,z 88 (.call 27 [.t 87]),zm 85 88,z 89 (.ext 0 (.t 85)),z 90 (.ext 1 (.t 85)),zm 11
 89,zm 12 90]) (.seq (.seq (.dq [97,98,99,100,101,102] [zm 91 11,z 92 (.len false (.t 91)),zm 93 9,z 94 (.len false (.t 93)),z 95 (.bin .lss (.t 92) (.t 94)),zm 96 95,
 ⟨some 97,[(96,false)],.k6 (.t 11)⟩,⟨some 98,[(96,false)],.len false (.t 97)⟩,⟨some 99,[(96,false)],.tE 2 (.t 7)⟩,⟨some 100,[(96,false)],.load none (.t 99)⟩,⟨some
 101,[(96,false)],.len false (.t 100)⟩,⟨some 102,[(96,false)],.bin .neq (.t 98) (.t 101)⟩,z 103 (.pick (.t 96) (.c (.b true)) (.t 102))]) (.ite (.t 103) (.seq (.dq [] [z 4
 (.k6 (.c (.b false)))]) (.ret)) (.skip))) (.seq (.seq (.dq [] [zf 104 2 5,zl 105 104,z 106 (.len false (.t 105)),z 107 (.k6 (.c (.i .i64 0)))]) (.block 0 (.loop Vg))) (.seq
 (.dq [] [z 129 (.call 11 []),zm 4 129]) (.ret))))))))))))⟩
theorem c5:aP prog f5=some p5:=by kernel_rfl
end Go.Proofs.Tryz
