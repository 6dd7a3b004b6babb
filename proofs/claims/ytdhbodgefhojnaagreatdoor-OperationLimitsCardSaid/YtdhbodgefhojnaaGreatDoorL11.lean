/- A part of the proof of the statement of the last text of this claim: for every input the law returns true and leaves its argument as it was. -/
import Derived.Test.YtdhbodgefhojnaaGreatDoorProg
import Derived.KernelRfl
import Derived.Test.YtdhbodgefhojnaaGreatDoorL9
set_option linter.unusedSectionVars false
set_option linter.unusedVariables false
set_option linter.unusedSimpArgs false
set_option linter.constructorNameAsVariable false

namespace Go.Proofs.Tryz
open Go Go.Pm

def p28 : PFun := ⟨23, [.t 4],
 .seq (.reg [] [⟨some 2, [], .box 33 (.t 0)⟩,
   ⟨some 3, [], .box 33 (.t 1)⟩,
   ⟨some 4, [], .mov (.c (.b false))⟩])
 (.seq (.reg [] [⟨some 6, [], .fld 0 (.t 2)⟩,
    ⟨some 7, [], .load (some 3) (.t 6)⟩,
    ⟨some 8, [], .fld 0 (.t 3)⟩,
    ⟨some 9, [], .load (some 3) (.t 8)⟩,
    ⟨some 10, [], .call 70 [.t 7, .t 9]⟩,
    ⟨some 5, [], .mov (.t 10)⟩])
  (.seq (.reg [14, 15, 16, 17, 18, 19, 20, 21] [⟨some 11, [], .mov (.t 5)⟩,
     ⟨some 12, [], .bin .gtr (.t 11) (.c (.i .i64 0))⟩,
     ⟨some 13, [], .mov (.t 12)⟩,
     ⟨some 14, [(13, false)], .mov (.t 5)⟩,
     ⟨some 15, [(13, false)], .bin .eql (.t 14) (.c (.i .i64 0))⟩,
     ⟨some 16, [(13, false)], .mov (.t 15)⟩,
     ⟨some 17, [(13, false), (16, true)], .load (some 13) (.t 2)⟩,
     ⟨some 18, [(13, false), (16, true)], .load (some 13) (.t 3)⟩,
     ⟨some 19, [(13, false), (16, true)], .call 26 [.t 17, .t 18]⟩,
     ⟨some 20, [(13, false), (16, true)], .bin .gtr (.t 19) (.c (.i .i64 0))⟩,
     ⟨some 21, [(13, false)], .pick (.t 16) (.t 20) (.c (.b false))⟩,
     ⟨some 22, [], .pick (.t 13) (.c (.b true)) (.t 21)⟩,
     ⟨some 4, [], .mov (.t 22)⟩])
   (.ret)))⟩
theorem c28 : cFun Tryz.prog Tryz.f28 = some p28 := by kernel_rfl

def p30 : PFun := ⟨40, [.t 4],
 .seq (.reg [] [⟨some 2, [], .box 33 (.t 0)⟩,
   ⟨some 3, [], .box 33 (.t 1)⟩,
   ⟨some 4, [], .mov (.c (.b false))⟩])
 (.seq (.reg [14, 15, 16, 17, 18, 19, 20] [⟨some 6, [], .fld 0 (.t 2)⟩,
    ⟨some 7, [], .fld 1 (.t 6)⟩,
    ⟨some 8, [], .load none (.t 7)⟩,
    ⟨some 9, [], .fld 0 (.t 3)⟩,
    ⟨some 10, [], .fld 1 (.t 9)⟩,
    ⟨some 11, [], .load none (.t 10)⟩,
    ⟨some 12, [], .bin .eql (.t 8) (.t 11)⟩,
    ⟨some 13, [], .mov (.t 12)⟩,
    ⟨some 14, [(13, true)], .fld 0 (.t 2)⟩,
    ⟨some 15, [(13, true)], .fld 2 (.t 14)⟩,
    ⟨some 16, [(13, true)], .load none (.t 15)⟩,
    ⟨some 17, [(13, true)], .fld 0 (.t 3)⟩,
    ⟨some 18, [(13, true)], .fld 2 (.t 17)⟩,
    ⟨some 19, [(13, true)], .load none (.t 18)⟩,
    ⟨some 20, [(13, true)], .bin .eql (.t 16) (.t 19)⟩,
    ⟨some 21, [], .pick (.t 13) (.t 20) (.c (.b false))⟩,
    ⟨some 5, [], .mov (.t 21)⟩])
  (.seq (.reg [25, 26, 27, 28, 29, 30, 33, 34, 35, 36, 37, 38] [⟨some 22, [], .mov (.t 5)⟩,
     ⟨some 23, [], .un .not (.t 22)⟩,
     ⟨some 24, [], .mov (.t 23)⟩,
     ⟨some 25, [(24, true)], .fld 12 (.t 2)⟩,
     ⟨some 26, [(24, true)], .load none (.t 25)⟩,
     ⟨some 27, [(24, true)], .fld 0 (.t 3)⟩,
     ⟨some 28, [(24, true)], .load (some 3) (.t 27)⟩,
     ⟨some 29, [(24, true)], .call 72 [.t 26, .t 28]⟩,
     ⟨some 30, [(24, true)], .un .not (.t 29)⟩,
     ⟨some 31, [], .pick (.t 24) (.t 30) (.c (.b false))⟩,
     ⟨some 32, [], .mov (.t 31)⟩,
     ⟨some 33, [(32, true)], .fld 12 (.t 3)⟩,
     ⟨some 34, [(32, true)], .load none (.t 33)⟩,
     ⟨some 35, [(32, true)], .fld 0 (.t 2)⟩,
     ⟨some 36, [(32, true)], .load (some 3) (.t 35)⟩,
     ⟨some 37, [(32, true)], .call 72 [.t 34, .t 36]⟩,
     ⟨some 38, [(32, true)], .un .not (.t 37)⟩,
     ⟨some 39, [], .pick (.t 32) (.t 38) (.c (.b false))⟩,
     ⟨some 4, [], .mov (.t 39)⟩])
   (.ret)))⟩
theorem c30 : cFun Tryz.prog Tryz.f30 = some p30 := by kernel_rfl

def p78 : PFun := ⟨13, [.t 4],
 .seq (.reg [] [⟨some 4, [], .mov (.c .nil)⟩])
 (.seq (.reg [] [⟨some 5, [], .mov (.t 0)⟩,
    ⟨some 6, [], .mov (.t 1)⟩,
    ⟨some 7, [], .bin .shr (.t 6) (.c (.i .u64 8))⟩,
    ⟨some 8, [], .cvi .u8 (.t 7)⟩,
    ⟨some 9, [], .mov (.t 1)⟩,
    ⟨some 10, [], .cvi .u8 (.t 9)⟩,
    ⟨some 11, [], .bslice 1 [none] [.t 8, .t 10]⟩,
    ⟨some 12, [], .app 5 1 1 (.t 5) (.t 11)⟩,
    ⟨some 4, [], .mov (.t 12)⟩])
  (.ret))⟩
theorem c78 : cFun Tryz.prog Tryz.f78 = some p78 := by kernel_rfl

def p77 : PFun := ⟨11, [.t 4],
 .seq (.reg [] [⟨some 4, [], .mov (.c .nil)⟩])
 (.seq (.reg [] [⟨some 5, [], .mov (.t 0)⟩,
    ⟨some 6, [], .mov (.t 1)⟩,
    ⟨some 7, [], .bin .shr (.t 6) (.c (.i .u64 16))⟩,
    ⟨some 8, [], .call 78 [.t 5, .t 7]⟩,
    ⟨some 9, [], .mov (.t 1)⟩,
    ⟨some 10, [], .call 78 [.t 8, .t 9]⟩,
    ⟨some 4, [], .mov (.t 10)⟩])
  (.ret))⟩
theorem c77 : cFun Tryz.prog Tryz.f77 = some p77 := by kernel_rfl

def p80_0 : PCode := .seq (.reg [] [⟨some 10, [], .bin .lss (.t 9) (.t 8)⟩])
 (.seq (.ite (.t 10) (.skip)
   (.exit 0))
  (.seq (.block 1 (.seq (.reg [] [⟨some 11, [], .idx 1 (.t 7) (.t 9)⟩,
       ⟨some 12, [], .load none (.t 11)⟩,
       ⟨some 6, [], .mov (.t 12)⟩])
     (.reg [] [⟨some 13, [], .mov (.t 0)⟩,
       ⟨some 14, [], .mov (.t 6)⟩,
       ⟨some 15, [], .len true (.t 14)⟩,
       ⟨some 16, [], .call 77 [.t 13, .t 15]⟩,
       ⟨some 17, [], .mov (.t 6)⟩,
       ⟨some 18, [], .apps 5 (.t 16) (.t 17)⟩,
       ⟨some 0, [], .mov (.t 18)⟩])))
   (.reg [] [⟨some 19, [], .bin .add (.t 9) (.c (.i .i64 1))⟩,
     ⟨some 9, [], .mov (.t 19)⟩])))
def p80 : PFun := ⟨21, [.t 4],
 .seq (.reg [] [⟨some 4, [], .mov (.c .nil)⟩])
 (.seq (.seq (.reg [] [⟨some 7, [], .mov (.t 1)⟩,
     ⟨some 8, [], .len false (.t 7)⟩,
     ⟨some 9, [], .mov (.c (.i .i64 0))⟩])
   (.block 0 (.loop p80_0)))
  (.seq (.reg [] [⟨some 20, [], .mov (.t 0)⟩,
     ⟨some 4, [], .mov (.t 20)⟩])
   (.ret)))⟩
theorem c80 : cFun Tryz.prog Tryz.f80 = some p80 := by kernel_rfl

def p39_0 : PCode := .seq (.reg [] [⟨some 49, [], .bin .lss (.t 48) (.t 47)⟩])
 (.seq (.ite (.t 49) (.skip)
   (.exit 0))
  (.seq (.block 1 (.seq (.reg [] [⟨some 50, [], .idx 1 (.t 46) (.t 48)⟩,
       ⟨some 51, [], .load none (.t 50)⟩,
       ⟨some 7, [], .mov (.t 51)⟩])
     (.reg [] [⟨some 52, [], .mov (.t 5)⟩,
       ⟨some 53, [], .mov (.t 7)⟩,
       ⟨some 54, [], .call 78 [.t 52, .t 53]⟩,
       ⟨some 5, [], .mov (.t 54)⟩])))
   (.reg [] [⟨some 55, [], .bin .add (.t 48) (.c (.i .i64 1))⟩,
     ⟨some 48, [], .mov (.t 55)⟩])))
def p39 : PFun := ⟨99, [.t 2, .t 3],
 .seq (.reg [] [⟨some 1, [], .box 33 (.t 0)⟩,
   ⟨some 2, [], .mov (.c .nil)⟩,
   ⟨some 3, [], .mov (.c (.i .i64 0))⟩])
 (.seq (.seq (.reg [] [⟨some 13, [], .load (some 13) (.t 1)⟩,
     ⟨some 14, [], .call 21 [.t 13]⟩,
     ⟨some 4, [], .mov (.t 14)⟩])
   (.seq (.reg [] [⟨some 15, [], .mov (.t 4)⟩,
      ⟨some 16, [], .bin .neq (.t 15) (.c (.i .i64 0))⟩])
    (.ite (.t 16) (.seq (.reg [] [⟨some 17, [], .mov (.t 4)⟩,
        ⟨some 2, [], .mov (.c .nil)⟩,
        ⟨some 3, [], .mov (.t 17)⟩])
      (.ret))
     (.skip))))
  (.seq (.reg [] [⟨some 18, [], .fld 3 (.t 1)⟩,
     ⟨some 19, [], .load none (.t 18)⟩,
     ⟨some 20, [], .cvi .u8 (.t 19)⟩,
     ⟨some 21, [], .bslice 1 [none] [.c (.i .u8 1), .t 20]⟩,
     ⟨some 22, [], .fld 0 (.t 1)⟩,
     ⟨some 23, [], .fld 0 (.t 22)⟩,
     ⟨some 24, [], .load none (.t 23)⟩,
     ⟨some 25, [], .call 77 [.t 21, .t 24]⟩,
     ⟨some 5, [], .mov (.t 25)⟩])
   (.seq (.reg [] [⟨some 26, [], .mov (.t 5)⟩,
      ⟨some 27, [], .fld 0 (.t 1)⟩,
      ⟨some 28, [], .fld 1 (.t 27)⟩,
      ⟨some 29, [], .load none (.t 28)⟩,
      ⟨some 30, [], .cvi .u8 (.t 29)⟩,
      ⟨some 31, [], .bslice 1 [none] [.t 30]⟩,
      ⟨some 32, [], .app 5 1 1 (.t 26) (.t 31)⟩,
      ⟨some 5, [], .mov (.t 32)⟩])
    (.seq (.reg [] [⟨some 33, [], .mov (.t 5)⟩,
       ⟨some 34, [], .fld 0 (.t 1)⟩,
       ⟨some 35, [], .fld 2 (.t 34)⟩,
       ⟨some 36, [], .load none (.t 35)⟩,
       ⟨some 37, [], .call 78 [.t 33, .t 36]⟩,
       ⟨some 5, [], .mov (.t 37)⟩])
     (.seq (.reg [] [⟨some 38, [], .mov (.t 5)⟩,
        ⟨some 39, [], .fld 12 (.t 1)⟩,
        ⟨some 40, [], .load none (.t 39)⟩,
        ⟨some 41, [], .len false (.t 40)⟩,
        ⟨some 42, [], .cvi .u8 (.t 41)⟩,
        ⟨some 43, [], .bslice 1 [none] [.t 42]⟩,
        ⟨some 44, [], .app 5 1 1 (.t 38) (.t 43)⟩,
        ⟨some 5, [], .mov (.t 44)⟩])
      (.seq (.seq (.reg [] [⟨some 45, [], .fld 12 (.t 1)⟩,
          ⟨some 46, [], .load none (.t 45)⟩,
          ⟨some 47, [], .len false (.t 46)⟩,
          ⟨some 48, [], .mov (.c (.i .i64 0))⟩])
        (.block 0 (.loop p39_0)))
       (.seq (.reg [] [⟨some 56, [], .fld 4 (.t 1)⟩,
          ⟨some 57, [], .load (some 8) (.t 56)⟩,
          ⟨some 8, [], .alloc 26 [.nil, .nil, .s [], .s [], .s [], .s [], .i .i64 0, .i .i64 0]⟩,
          ⟨none, [], .store 8 [some 3, some 3, none, none, none, none, none, none] (.t 8) (.t 57)⟩])
        (.seq (.reg [] [⟨some 59, [], .fld 0 (.t 8)⟩,
           ⟨some 60, [], .load none (.t 59)⟩,
           ⟨some 61, [], .call 79 [.t 60]⟩,
           ⟨some 58, [], .mov (.t 61)⟩,
           ⟨some 62, [], .ext 0 (.t 58)⟩,
           ⟨some 63, [], .ext 1 (.t 58)⟩,
           ⟨some 9, [], .mov (.t 62)⟩,
           ⟨some 10, [], .mov (.t 63)⟩])
         (.seq (.reg [] [⟨some 64, [], .mov (.t 5)⟩,
            ⟨some 65, [], .mov (.t 9)⟩,
            ⟨some 66, [], .fld 2 (.t 8)⟩,
            ⟨some 67, [], .load none (.t 66)⟩,
            ⟨some 68, [], .fld 3 (.t 8)⟩,
            ⟨some 69, [], .load none (.t 68)⟩,
            ⟨some 70, [], .bslice 1 [none] [.t 65, .t 67, .t 69]⟩,
            ⟨some 71, [], .call 80 [.t 64, .t 70]⟩,
            ⟨some 5, [], .mov (.t 71)⟩])
          (.seq (.seq (.reg [] [⟨some 72, [], .fld 3 (.t 1)⟩,
              ⟨some 73, [], .load none (.t 72)⟩,
              ⟨some 74, [], .bin .eql (.t 73) (.c (.i .i64 1))⟩])
            (.ite (.t 74) (.seq (.reg [] [⟨some 76, [], .fld 1 (.t 8)⟩,
                ⟨some 77, [], .load none (.t 76)⟩,
                ⟨some 78, [], .call 79 [.t 77]⟩,
                ⟨some 75, [], .mov (.t 78)⟩,
                ⟨some 79, [], .ext 0 (.t 75)⟩,
                ⟨some 80, [], .ext 1 (.t 75)⟩,
                ⟨some 11, [], .mov (.t 79)⟩,
                ⟨some 12, [], .mov (.t 80)⟩])
              (.seq (.reg [] [⟨some 81, [], .mov (.t 5)⟩,
                 ⟨some 82, [], .mov (.t 11)⟩,
                 ⟨some 83, [], .fld 4 (.t 8)⟩,
                 ⟨some 84, [], .load none (.t 83)⟩,
                 ⟨some 85, [], .fld 5 (.t 8)⟩,
                 ⟨some 86, [], .load none (.t 85)⟩,
                 ⟨some 87, [], .bslice 1 [none] [.t 82, .t 84, .t 86]⟩,
                 ⟨some 88, [], .call 80 [.t 81, .t 87]⟩,
                 ⟨some 5, [], .mov (.t 88)⟩])
               (.dreg [([⟨some 89, [], .mov (.t 5)⟩,
                 ⟨some 90, [], .fld 6 (.t 8)⟩,
                 ⟨some 91, [], .load none (.t 90)⟩,
                 ⟨some 93, [], .fld 7 (.t 8)⟩,
                 ⟨some 94, [], .load none (.t 93)⟩,
                 ⟨some 95, [], .cvi .u8 (.t 94)⟩,
                 ⟨some 96, [], .bslice 1 [none] [.t 95]⟩],
                 ⟨some 92, [], .call 77 [.t 89, .t 91]⟩,
                 [⟨some 93, [], .fld 7 (.t 8)⟩,
                 ⟨some 94, [], .load none (.t 93)⟩,
                 ⟨some 96, [], .bslice 1 [none] [.t 95]⟩])] [] [] [⟨some 97, [], .app 5 1 1 (.t 92) (.t 96)⟩,
                 ⟨some 5, [], .mov (.t 97)⟩])))
             (.skip)))
           (.seq (.reg [] [⟨some 98, [], .mov (.t 5)⟩,
              ⟨some 2, [], .mov (.t 98)⟩,
              ⟨some 3, [], .mov (.c (.i .i64 0))⟩])
            (.ret))))))))))))⟩
theorem c39 : cFun Tryz.prog Tryz.f39 = some p39 := by kernel_rfl

def p44_0 : PCode := .seq (.reg [] [⟨some 17, [], .bin .lss (.t 16) (.t 15)⟩])
 (.seq (.ite (.t 17) (.skip)
   (.exit 0))
  (.seq (.block 1 (.seq (.reg [] [⟨some 18, [], .idx 13 (.t 14) (.t 16)⟩,
       ⟨some 19, [], .load (some 13) (.t 18)⟩,
       ⟨some 5, [], .alloc 33 [.i .i64 0, .i .i64 0, .i .i64 0, .i .i64 0, .nil, .nil, .s [], .s [], .s [], .s [], .i .i64 0, .i .i64 0, .nil]⟩,
       ⟨none, [], .store 13 [none, none, none, none, some 3, some 3, none, none, none, none, none, none, some 1] (.t 5) (.t 19)⟩])
     (.seq (.reg [] [⟨some 20, [], .load (some 13) (.t 5)⟩,
        ⟨some 21, [], .call 23 [.t 20]⟩,
        ⟨some 6, [], .mov (.t 21)⟩])
      (.seq (.seq (.reg [] [⟨some 22, [], .mov (.t 6)⟩,
          ⟨some 23, [], .bin .eql (.t 22) (.c (.s []))⟩])
        (.ite (.t 23) (.exit 1)
         (.skip)))
       (.seq (.reg [] [⟨some 25, [], .mov (.t 3)⟩,
          ⟨some 26, [], .mov (.t 6)⟩,
          ⟨some 27, [], .look 1 (.agg [.i .i64 0, .i .i64 0, .i .i64 0, .i .i64 0, .sl 3 [], .sl 3 [], .s [], .s [], .s [], .s [], .i .i64 0, .i .i64 0, .sl 1 []]) true (.t 25) (.t 26)⟩,
          ⟨some 24, [], .mov (.t 27)⟩,
          ⟨some 28, [], .ext 0 (.t 24)⟩,
          ⟨some 29, [], .ext 1 (.t 24)⟩,
          ⟨some 7, [], .alloc 33 [.i .i64 0, .i .i64 0, .i .i64 0, .i .i64 0, .nil, .nil, .s [], .s [], .s [], .s [], .i .i64 0, .i .i64 0, .nil]⟩,
          ⟨none, [], .store 13 [none, none, none, none, some 3, some 3, none, none, none, none, none, none, some 1] (.t 7) (.t 28)⟩,
          ⟨some 8, [], .mov (.t 29)⟩])
        (.seq (.reg [33, 34, 35] [⟨some 30, [], .mov (.t 8)⟩,
           ⟨some 31, [], .un .not (.t 30)⟩,
           ⟨some 32, [], .mov (.t 31)⟩,
           ⟨some 33, [(32, false)], .load (some 13) (.t 5)⟩,
           ⟨some 34, [(32, false)], .load (some 13) (.t 7)⟩,
           ⟨some 35, [(32, false)], .call 28 [.t 33, .t 34]⟩,
           ⟨some 36, [], .pick (.t 32) (.c (.b true)) (.t 35)⟩])
         (.ite (.t 36) (.reg [] [⟨some 37, [], .mov (.t 3)⟩,
            ⟨some 38, [], .mov (.t 6)⟩,
            ⟨some 39, [], .load (some 13) (.t 5)⟩,
            ⟨none, [], .mupd 1 [none, none, none, none, some 3, some 3, none, none, none, none, none, none, some 1] (.t 37) (.t 38) (.t 39)⟩])
          (.skip))))))))
   (.reg [] [⟨some 40, [], .bin .add (.t 16) (.c (.i .i64 1))⟩,
     ⟨some 16, [], .mov (.t 40)⟩])))
def p44 : PFun := ⟨42, [.t 2],
 .seq (.reg [] [⟨some 2, [], .mov (.c .nilmap)⟩])
 (.seq (.reg [] [⟨some 9, [], .mkmap 9 33⟩,
    ⟨some 3, [], .mov (.t 9)⟩])
  (.seq (.seq (.reg [] [⟨some 10, [], .mov (.t 0)⟩,
      ⟨some 11, [], .len false (.t 10)⟩,
      ⟨some 12, [], .bin .gtr (.t 11) (.c (.i .i64 1024))⟩])
    (.ite (.t 12) (.seq (.reg [] [⟨some 13, [], .mov (.t 3)⟩,
        ⟨some 2, [], .mov (.t 13)⟩])
      (.ret))
     (.skip)))
   (.seq (.seq (.reg [] [⟨some 14, [], .mov (.t 0)⟩,
       ⟨some 15, [], .len false (.t 14)⟩,
       ⟨some 16, [], .mov (.c (.i .i64 0))⟩])
     (.block 0 (.loop p44_0)))
    (.seq (.reg [] [⟨some 41, [], .mov (.t 3)⟩,
       ⟨some 2, [], .mov (.t 41)⟩])
     (.ret)))))⟩
theorem c44 : cFun Tryz.prog Tryz.f44 = some p44 := by kernel_rfl

def p13_0 : PCode := .seq (.reg [] [⟨some 14, [], .bin .lss (.t 13) (.t 12)⟩])
 (.seq (.ite (.t 14) (.skip)
   (.exit 0))
  (.seq (.block 1 (.seq (.reg [] [⟨some 15, [], .idx 1 (.t 11) (.t 13)⟩,
       ⟨some 16, [], .load none (.t 15)⟩,
       ⟨some 6, [], .mov (.t 16)⟩])
     (.reg [] [⟨some 17, [], .mov (.t 4)⟩,
       ⟨some 18, [], .mov (.t 3)⟩,
       ⟨some 19, [], .mov (.t 6)⟩,
       ⟨some 20, [], .look 1 (.agg [.i .i64 0, .i .i64 0, .i .i64 0, .i .i64 0, .sl 3 [], .sl 3 [], .s [], .s [], .s [], .s [], .i .i64 0, .i .i64 0, .sl 1 []]) false (.t 18) (.t 19)⟩,
       ⟨some 21, [], .call 47 [.t 20]⟩,
       ⟨some 22, [], .bslice 13 [none, none, none, none, some 3, some 3, none, none, none, none, none, none, some 1] [.t 21]⟩,
       ⟨some 23, [], .app 33 13 184 (.t 17) (.t 22)⟩,
       ⟨some 4, [], .mov (.t 23)⟩])))
   (.reg [] [⟨some 24, [], .bin .add (.t 13) (.c (.i .i64 1))⟩,
     ⟨some 13, [], .mov (.t 24)⟩])))
def p13 : PFun := ⟨26, [.t 2],
 .seq (.reg [] [⟨some 2, [], .mov (.c .nil)⟩])
 (.seq (.reg [] [⟨some 7, [], .mov (.t 0)⟩,
    ⟨some 8, [], .call 44 [.t 7]⟩,
    ⟨some 3, [], .mov (.t 8)⟩])
  (.seq (.reg [] [⟨some 4, [], .mov (.c .nil)⟩])
   (.seq (.seq (.reg [] [⟨some 9, [], .mov (.t 3)⟩,
       ⟨some 10, [], .call 46 [.t 9]⟩,
       ⟨some 11, [], .call 45 [.t 10]⟩,
       ⟨some 12, [], .len false (.t 11)⟩,
       ⟨some 13, [], .mov (.c (.i .i64 0))⟩])
     (.block 0 (.loop p13_0)))
    (.seq (.reg [] [⟨some 25, [], .mov (.t 4)⟩,
       ⟨some 2, [], .mov (.t 25)⟩])
     (.ret)))))⟩
theorem c13 : cFun Tryz.prog Tryz.f13 = some p13 := by kernel_rfl

def p14_0 : PCode := .seq (.reg [] [⟨some 10, [], .bin .lss (.t 9) (.t 8)⟩])
 (.seq (.ite (.t 10) (.skip)
   (.exit 0))
  (.seq (.block 1 (.seq (.reg [] [⟨some 11, [], .idx 13 (.t 7) (.t 9)⟩,
       ⟨some 12, [], .load (some 13) (.t 11)⟩,
       ⟨some 5, [], .alloc 33 [.i .i64 0, .i .i64 0, .i .i64 0, .i .i64 0, .nil, .nil, .s [], .s [], .s [], .s [], .i .i64 0, .i .i64 0, .nil]⟩,
       ⟨none, [], .store 13 [none, none, none, none, some 3, some 3, none, none, none, none, none, none, some 1] (.t 5) (.t 12)⟩])
     (.seq (.reg [] [⟨some 13, [], .fld 3 (.t 5)⟩,
        ⟨some 14, [], .load none (.t 13)⟩,
        ⟨some 15, [], .bin .eql (.t 14) (.c (.i .i64 1))⟩])
      (.ite (.t 15) (.reg [] [⟨some 16, [], .mov (.t 3)⟩,
         ⟨some 17, [], .fld 4 (.t 5)⟩,
         ⟨some 18, [], .load (some 8) (.t 17)⟩,
         ⟨some 19, [], .bslice 8 [some 3, some 3, none, none, none, none, none, none] [.t 18]⟩,
         ⟨some 20, [], .app 26 8 128 (.t 16) (.t 19)⟩,
         ⟨some 3, [], .mov (.t 20)⟩])
       (.skip)))))
   (.reg [] [⟨some 21, [], .bin .add (.t 9) (.c (.i .i64 1))⟩,
     ⟨some 9, [], .mov (.t 21)⟩])))
def p14 : PFun := ⟨23, [.t 2],
 .seq (.reg [] [⟨some 2, [], .mov (.c .nil)⟩])
 (.seq (.reg [] [⟨some 3, [], .mov (.c .nil)⟩])
  (.seq (.seq (.reg [] [⟨some 6, [], .mov (.t 0)⟩,
      ⟨some 7, [], .call 13 [.t 6]⟩,
      ⟨some 8, [], .len false (.t 7)⟩,
      ⟨some 9, [], .mov (.c (.i .i64 0))⟩])
    (.block 0 (.loop p14_0)))
   (.seq (.reg [] [⟨some 22, [], .mov (.t 3)⟩,
      ⟨some 2, [], .mov (.t 22)⟩])
    (.ret))))⟩
theorem c14 : cFun Tryz.prog Tryz.f14 = some p14 := by kernel_rfl

def p47 : PFun := ⟨12, [.c 2 (some 13)],
 .seq (.reg [] [⟨some 1, [], .box 33 (.t 0)⟩,
   ⟨some 2, [], .alloc 33 [.i .i64 0, .i .i64 0, .i .i64 0, .i .i64 0, .nil, .nil, .s [], .s [], .s [], .s [], .i .i64 0, .i .i64 0, .nil]⟩])
 (.seq (.dreg [([⟨some 3, [], .fld 4 (.t 1)⟩,
    ⟨some 4, [], .load (some 8) (.t 3)⟩,
    ⟨some 6, [], .fld 12 (.t 1)⟩,
    ⟨some 7, [], .load none (.t 6)⟩],
    ⟨some 5, [], .call 94 [.t 4]⟩,
    [⟨some 6, [], .fld 12 (.t 1)⟩,
    ⟨some 7, [], .load none (.t 6)⟩]),
    ([⟨some 9, [], .fld 4 (.t 1)⟩],
    ⟨some 8, [], .call 95 [.t 7]⟩,
    [⟨some 9, [], .fld 4 (.t 1)⟩])] [] [] [⟨none, [], .store 8 [some 3, some 3, none, none, none, none, none, none] (.t 9) (.t 5)⟩,
    ⟨some 10, [], .fld 12 (.t 1)⟩,
    ⟨none, [], .store 1 [some 1] (.t 10) (.t 8)⟩])
  (.seq (.reg [] [⟨some 11, [], .load (some 13) (.t 1)⟩,
     ⟨none, [], .store 13 [none, none, none, none, some 3, some 3, none, none, none, none, none, none, some 1] (.t 2) (.t 11)⟩])
   (.ret)))⟩
theorem c47 : cFun Tryz.prog Tryz.f47 = some p47 := by kernel_rfl

def p94 : PFun := ⟨12, [.c 2 (some 8)],
 .seq (.reg [] [⟨some 1, [], .box 26 (.t 0)⟩,
   ⟨some 2, [], .alloc 26 [.nil, .nil, .s [], .s [], .s [], .s [], .i .i64 0, .i .i64 0]⟩])
 (.seq (.dreg [([⟨some 3, [], .fld 0 (.t 1)⟩,
    ⟨some 4, [], .load none (.t 3)⟩,
    ⟨some 6, [], .fld 1 (.t 1)⟩,
    ⟨some 7, [], .load none (.t 6)⟩],
    ⟨some 5, [], .call 120 [.t 4]⟩,
    [⟨some 6, [], .fld 1 (.t 1)⟩,
    ⟨some 7, [], .load none (.t 6)⟩]),
    ([⟨some 9, [], .fld 0 (.t 1)⟩],
    ⟨some 8, [], .call 120 [.t 7]⟩,
    [⟨some 9, [], .fld 0 (.t 1)⟩])] [] [] [⟨none, [], .store 1 [some 3] (.t 9) (.t 5)⟩,
    ⟨some 10, [], .fld 1 (.t 1)⟩,
    ⟨none, [], .store 1 [some 3] (.t 10) (.t 8)⟩])
  (.seq (.reg [] [⟨some 11, [], .load (some 8) (.t 1)⟩,
     ⟨none, [], .store 8 [some 3, some 3, none, none, none, none, none, none] (.t 2) (.t 11)⟩])
   (.ret)))⟩
theorem c94 : cFun Tryz.prog Tryz.f94 = some p94 := by kernel_rfl

def p16_0 : PCode := .seq (.reg [] [⟨some 14, [], .bin .lss (.t 13) (.t 12)⟩])
 (.seq (.ite (.t 14) (.skip)
   (.exit 0))
  (.seq (.block 1 (.seq (.reg [] [⟨some 15, [], .mov (.t 13)⟩,
       ⟨some 5, [], .mov (.t 15)⟩])
     (.seq (.dreg [] [⟨some 16, [], .mov (.t 0)⟩,
        ⟨some 17, [], .mov (.t 5)⟩,
        ⟨some 18, [], .idx 8 (.t 16) (.t 17)⟩,
        ⟨some 19, [], .load (some 8) (.t 18)⟩,
        ⟨some 20, [], .mov (.t 1)⟩,
        ⟨some 21, [], .mov (.t 5)⟩,
        ⟨some 22, [], .idx 8 (.t 20) (.t 21)⟩,
        ⟨some 23, [], .load (some 8) (.t 22)⟩] [] [⟨some 24, [], .call 38 [.t 19, .t 23]⟩,
        ⟨some 25, [], .un .not (.t 24)⟩])
      (.ite (.t 25) (.seq (.reg [] [⟨some 4, [], .mov (.c (.b false))⟩])
        (.ret))
       (.skip)))))
   (.reg [] [⟨some 26, [], .bin .add (.t 13) (.c (.i .i64 1))⟩,
     ⟨some 13, [], .mov (.t 26)⟩])))
def p16 : PFun := ⟨27, [.t 4],
 .seq (.reg [] [⟨some 4, [], .mov (.c (.b false))⟩])
 (.seq (.seq (.reg [] [⟨some 6, [], .mov (.t 0)⟩,
     ⟨some 7, [], .len false (.t 6)⟩,
     ⟨some 8, [], .mov (.t 1)⟩,
     ⟨some 9, [], .len false (.t 8)⟩,
     ⟨some 10, [], .bin .neq (.t 7) (.t 9)⟩])
   (.ite (.t 10) (.seq (.reg [] [⟨some 4, [], .mov (.c (.b false))⟩])
     (.ret))
    (.skip)))
  (.seq (.seq (.reg [] [⟨some 11, [], .mov (.t 0)⟩,
      ⟨some 12, [], .len false (.t 11)⟩,
      ⟨some 13, [], .mov (.c (.i .i64 0))⟩])
    (.block 0 (.loop p16_0)))
   (.seq (.reg [] [⟨some 4, [], .mov (.c (.b true))⟩])
    (.ret))))⟩
theorem c16 : cFun Tryz.prog Tryz.f16 = some p16 := by kernel_rfl

def p38 : PFun := ⟨59, [.t 4],
 .seq (.reg [] [⟨some 2, [], .box 26 (.t 0)⟩,
   ⟨some 3, [], .box 26 (.t 1)⟩,
   ⟨some 4, [], .mov (.c (.b false))⟩])
 (.seq (.reg [11, 12, 13, 14, 15, 18, 19, 20, 21, 22, 25, 26, 27, 28, 29, 32, 33, 34, 35, 36, 39, 40, 41, 42, 43, 46, 47, 48, 49, 50, 53, 54, 55, 56, 57] [⟨some 5, [], .fld 0 (.t 2)⟩,
    ⟨some 6, [], .load none (.t 5)⟩,
    ⟨some 7, [], .fld 0 (.t 3)⟩,
    ⟨some 8, [], .load none (.t 7)⟩,
    ⟨some 9, [], .call 76 [.t 6, .t 8]⟩,
    ⟨some 10, [], .mov (.t 9)⟩,
    ⟨some 11, [(10, true)], .fld 1 (.t 2)⟩,
    ⟨some 12, [(10, true)], .load none (.t 11)⟩,
    ⟨some 13, [(10, true)], .fld 1 (.t 3)⟩,
    ⟨some 14, [(10, true)], .load none (.t 13)⟩,
    ⟨some 15, [(10, true)], .call 76 [.t 12, .t 14]⟩,
    ⟨some 16, [], .pick (.t 10) (.t 15) (.c (.b false))⟩,
    ⟨some 17, [], .mov (.t 16)⟩,
    ⟨some 18, [(17, true)], .fld 2 (.t 2)⟩,
    ⟨some 19, [(17, true)], .load none (.t 18)⟩,
    ⟨some 20, [(17, true)], .fld 2 (.t 3)⟩,
    ⟨some 21, [(17, true)], .load none (.t 20)⟩,
    ⟨some 22, [(17, true)], .bin .eql (.t 19) (.t 21)⟩,
    ⟨some 23, [], .pick (.t 17) (.t 22) (.c (.b false))⟩,
    ⟨some 24, [], .mov (.t 23)⟩,
    ⟨some 25, [(24, true)], .fld 3 (.t 2)⟩,
    ⟨some 26, [(24, true)], .load none (.t 25)⟩,
    ⟨some 27, [(24, true)], .fld 3 (.t 3)⟩,
    ⟨some 28, [(24, true)], .load none (.t 27)⟩,
    ⟨some 29, [(24, true)], .bin .eql (.t 26) (.t 28)⟩,
    ⟨some 30, [], .pick (.t 24) (.t 29) (.c (.b false))⟩,
    ⟨some 31, [], .mov (.t 30)⟩,
    ⟨some 32, [(31, true)], .fld 4 (.t 2)⟩,
    ⟨some 33, [(31, true)], .load none (.t 32)⟩,
    ⟨some 34, [(31, true)], .fld 4 (.t 3)⟩,
    ⟨some 35, [(31, true)], .load none (.t 34)⟩,
    ⟨some 36, [(31, true)], .bin .eql (.t 33) (.t 35)⟩,
    ⟨some 37, [], .pick (.t 31) (.t 36) (.c (.b false))⟩,
    ⟨some 38, [], .mov (.t 37)⟩,
    ⟨some 39, [(38, true)], .fld 5 (.t 2)⟩,
    ⟨some 40, [(38, true)], .load none (.t 39)⟩,
    ⟨some 41, [(38, true)], .fld 5 (.t 3)⟩,
    ⟨some 42, [(38, true)], .load none (.t 41)⟩,
    ⟨some 43, [(38, true)], .bin .eql (.t 40) (.t 42)⟩,
    ⟨some 44, [], .pick (.t 38) (.t 43) (.c (.b false))⟩,
    ⟨some 45, [], .mov (.t 44)⟩,
    ⟨some 46, [(45, true)], .fld 6 (.t 2)⟩,
    ⟨some 47, [(45, true)], .load none (.t 46)⟩,
    ⟨some 48, [(45, true)], .fld 6 (.t 3)⟩,
    ⟨some 49, [(45, true)], .load none (.t 48)⟩,
    ⟨some 50, [(45, true)], .bin .eql (.t 47) (.t 49)⟩,
    ⟨some 51, [], .pick (.t 45) (.t 50) (.c (.b false))⟩,
    ⟨some 52, [], .mov (.t 51)⟩,
    ⟨some 53, [(52, true)], .fld 7 (.t 2)⟩,
    ⟨some 54, [(52, true)], .load none (.t 53)⟩,
    ⟨some 55, [(52, true)], .fld 7 (.t 3)⟩,
    ⟨some 56, [(52, true)], .load none (.t 55)⟩,
    ⟨some 57, [(52, true)], .bin .eql (.t 54) (.t 56)⟩,
    ⟨some 58, [], .pick (.t 52) (.t 57) (.c (.b false))⟩,
    ⟨some 4, [], .mov (.t 58)⟩])
  (.ret))⟩
theorem c38 : cFun Tryz.prog Tryz.f38 = some p38 := by kernel_rfl

def p12 : PFun := ⟨14, [.t 4],
 .seq (.reg [] [⟨some 4, [], .mov (.c (.i .i64 0))⟩])
 (.seq (.reg [] [⟨some 5, [], .mov (.t 0)⟩,
    ⟨some 6, [], .mov (.t 1)⟩,
    ⟨some 7, [], .bin .rem (.t 5) (.t 6)⟩,
    ⟨some 0, [], .mov (.t 7)⟩])
  (.seq (.seq (.reg [] [⟨some 8, [], .mov (.t 0)⟩,
      ⟨some 9, [], .bin .lss (.t 8) (.c (.i .i64 0))⟩])
    (.ite (.t 9) (.reg [] [⟨some 10, [], .mov (.t 0)⟩,
       ⟨some 11, [], .mov (.t 1)⟩,
       ⟨some 12, [], .bin .add (.t 10) (.t 11)⟩,
       ⟨some 0, [], .mov (.t 12)⟩])
     (.skip)))
   (.seq (.reg [] [⟨some 13, [], .mov (.t 0)⟩,
      ⟨some 4, [], .mov (.t 13)⟩])
    (.ret))))⟩
theorem c12 : cFun Tryz.prog Tryz.f12 = some p12 := by kernel_rfl

def p15 : PFun := ⟨75, [.t 0],
 .seq (.reg [] [⟨some 0, [], .mov (.c (.b false))⟩])
 (.seq (.reg [] [⟨some 6, [], .build [.i .i64 0, .s [], .i .i64 0] [(0, 1, .c (.i .i64 1)), (1, 1, .c (.s [97]))]⟩,
    ⟨some 7, [], .bslice 3 [none, none, none] [.t 6]⟩,
    ⟨some 8, [], .build [.i .i64 0, .s [], .i .i64 0] [(0, 1, .c (.i .i64 1)), (1, 1, .c (.s [98]))]⟩,
    ⟨some 9, [], .bslice 3 [none, none, none] [.t 8]⟩,
    ⟨some 10, [], .build [.nil, .nil, .s [], .s [], .s [], .s [], .i .i64 0, .i .i64 0] [(0, 1, .t 7), (1, 1, .t 9), (7, 1, .c (.i .i64 1))]⟩,
    ⟨some 1, [], .alloc 26 [.nil, .nil, .s [], .s [], .s [], .s [], .i .i64 0, .i .i64 0]⟩,
    ⟨none, [], .store 8 [some 3, some 3, none, none, none, none, none, none] (.t 1) (.t 10)⟩])
  (.seq (.reg [] [⟨some 11, [], .build [.i .i64 0, .i .i64 0, .i .i64 0] [(0, 1, .c (.i .i64 4)), (2, 1, .c (.i .i64 1))]⟩,
     ⟨some 12, [], .load (some 8) (.t 1)⟩,
     ⟨some 13, [], .build [.i .i64 0, .i .i64 0, .i .i64 0, .i .i64 0, .nil, .nil, .s [], .s [], .s [], .s [], .i .i64 0, .i .i64 0, .nil] [(0, 3, .t 11), (3, 1, .c (.i .i64 1)), (4, 8, .t 12)]⟩,
     ⟨some 2, [], .alloc 33 [.i .i64 0, .i .i64 0, .i .i64 0, .i .i64 0, .nil, .nil, .s [], .s [], .s [], .s [], .i .i64 0, .i .i64 0, .nil]⟩,
     ⟨none, [], .store 13 [none, none, none, none, some 3, some 3, none, none, none, none, none, none, some 1] (.t 2) (.t 13)⟩])
   (.seq (.reg [] [⟨some 14, [], .build [.i .i64 0, .i .i64 0, .i .i64 0] [(0, 1, .c (.i .i64 5)), (1, 1, .c (.i .i64 1)), (2, 1, .c (.i .i64 1))]⟩,
      ⟨some 15, [], .fld 0 (.t 1)⟩,
      ⟨some 16, [], .load none (.t 15)⟩,
      ⟨some 17, [], .build [.nil, .nil, .s [], .s [], .s [], .s [], .i .i64 0, .i .i64 0] [(0, 1, .t 16)]⟩,
      ⟨some 18, [], .bslice 1 [none] [.c (.i .i64 1)]⟩,
      ⟨some 19, [], .build [.i .i64 0, .i .i64 0, .i .i64 0, .i .i64 0, .nil, .nil, .s [], .s [], .s [], .s [], .i .i64 0, .i .i64 0, .nil] [(0, 3, .t 14), (3, 1, .c (.i .i64 2)), (4, 8, .t 17), (12, 1, .t 18)]⟩,
      ⟨some 3, [], .alloc 33 [.i .i64 0, .i .i64 0, .i .i64 0, .i .i64 0, .nil, .nil, .s [], .s [], .s [], .s [], .i .i64 0, .i .i64 0, .nil]⟩,
      ⟨none, [], .store 13 [none, none, none, none, some 3, some 3, none, none, none, none, none, none, some 1] (.t 3) (.t 19)⟩])
    (.seq (.reg [] [⟨some 21, [], .load (some 13) (.t 3)⟩,
       ⟨some 22, [], .call 39 [.t 21]⟩,
       ⟨some 20, [], .mov (.t 22)⟩,
       ⟨some 23, [], .ext 0 (.t 20)⟩,
       ⟨some 24, [], .ext 1 (.t 20)⟩,
       ⟨some 4, [], .mov (.t 23)⟩,
       ⟨some 5, [], .mov (.t 24)⟩])
     (.seq (.dreg [([⟨some 25, [], .load (some 13) (.t 2)⟩],
        ⟨some 26, [], .call 21 [.t 25]⟩,
        []),
        ([⟨some 27, [], .bin .eql (.t 26) (.c (.i .i64 0))⟩,
        ⟨some 28, [], .mov (.t 27)⟩,
        ⟨some 29, [(28, true)], .load (some 13) (.t 3)⟩],
        ⟨some 30, [(28, true)], .call 21 [.t 29]⟩,
        []),
        ([⟨some 31, [(28, true)], .bin .eql (.t 30) (.c (.i .i64 0))⟩,
        ⟨some 32, [], .pick (.t 28) (.t 31) (.c (.b false))⟩,
        ⟨some 33, [], .mov (.t 32)⟩,
        ⟨some 34, [(33, true)], .load (some 13) (.t 3)⟩,
        ⟨some 35, [(33, true)], .load (some 13) (.t 2)⟩],
        ⟨some 36, [(33, true)], .call 28 [.t 34, .t 35]⟩,
        []),
        ([⟨some 37, [], .pick (.t 33) (.t 36) (.c (.b false))⟩,
        ⟨some 38, [], .mov (.t 37)⟩,
        ⟨some 39, [(38, true)], .load (some 13) (.t 2)⟩,
        ⟨some 40, [(38, true)], .load (some 13) (.t 3)⟩],
        ⟨some 41, [(38, true)], .call 28 [.t 39, .t 40]⟩,
        []),
        ([⟨some 42, [(38, true)], .un .not (.t 41)⟩,
        ⟨some 43, [], .pick (.t 38) (.t 42) (.c (.b false))⟩,
        ⟨some 44, [], .mov (.t 43)⟩,
        ⟨some 45, [(44, true)], .load (some 13) (.t 2)⟩,
        ⟨some 46, [(44, true)], .load (some 13) (.t 3)⟩],
        ⟨some 47, [(44, true)], .call 30 [.t 45, .t 46]⟩,
        []),
        ([⟨some 48, [(44, true)], .un .not (.t 47)⟩,
        ⟨some 49, [], .pick (.t 44) (.t 48) (.c (.b false))⟩,
        ⟨some 50, [], .mov (.t 49)⟩,
        ⟨some 51, [(50, true)], .load (some 13) (.t 2)⟩,
        ⟨some 52, [(50, true)], .bslice 13 [none, none, none, none, some 3, some 3, none, none, none, none, none, none, some 1] [.t 51]⟩,
        ⟨some 54, [(50, true)], .load (some 8) (.t 1)⟩,
        ⟨some 55, [(50, true)], .bslice 8 [some 3, some 3, none, none, none, none, none, none] [.t 54]⟩],
        ⟨some 53, [(50, true)], .call 14 [.t 52]⟩,
        [⟨some 54, [(50, true)], .load (some 8) (.t 1)⟩,
        ⟨some 55, [(50, true)], .bslice 8 [some 3, some 3, none, none, none, none, none, none] [.t 54]⟩]),
        ([],
        ⟨some 56, [(50, true)], .call 16 [.t 53, .t 55]⟩,
        [])] [⟨some 57, [], .pick (.t 50) (.t 56) (.c (.b false))⟩,
        ⟨some 58, [], .mov (.t 57)⟩,
        ⟨some 59, [(58, true)], .load (some 13) (.t 3)⟩,
        ⟨some 60, [(58, true)], .load (some 13) (.t 2)⟩] [29, 30, 31, 34, 35, 36, 39, 40, 41, 42, 45, 46, 47, 48, 51, 52, 53, 54, 55, 56, 59, 60, 61, 62, 63, 64, 67, 68, 71, 72, 73] [⟨some 61, [(58, true)], .bslice 13 [none, none, none, none, some 3, some 3, none, none, none, none, none, none, some 1] [.t 59, .t 60]⟩,
        ⟨some 62, [(58, true)], .call 14 [.t 61]⟩,
        ⟨some 63, [(58, true)], .len false (.t 62)⟩,
        ⟨some 64, [(58, true)], .bin .eql (.t 63) (.c (.i .i64 0))⟩,
        ⟨some 65, [], .pick (.t 58) (.t 64) (.c (.b false))⟩,
        ⟨some 66, [], .mov (.t 65)⟩,
        ⟨some 67, [(66, true)], .mov (.t 5)⟩,
        ⟨some 68, [(66, true)], .bin .eql (.t 67) (.c (.i .i64 0))⟩,
        ⟨some 69, [], .pick (.t 66) (.t 68) (.c (.b false))⟩,
        ⟨some 70, [], .mov (.t 69)⟩,
        ⟨some 71, [(70, true)], .mov (.t 4)⟩,
        ⟨some 72, [(70, true)], .len false (.t 71)⟩,
        ⟨some 73, [(70, true)], .bin .eql (.t 72) (.c (.i .i64 25))⟩,
        ⟨some 74, [], .pick (.t 70) (.t 73) (.c (.b false))⟩,
        ⟨some 0, [], .mov (.t 74)⟩])
      (.ret))))))⟩
theorem c15 : cFun Tryz.prog Tryz.f15 = some p15 := by kernel_rfl

def p3_0 : PCode := .seq (.seq (.reg [] [⟨some 13, [], .mov (.t 5)⟩,
    ⟨some 14, [], .bin .gtr (.t 13) (.c (.i .i64 0))⟩])
  (.ite (.t 14) (.skip)
   (.exit 0)))
 (.seq (.block 1 (.reg [] [⟨some 17, [], .mov (.t 4)⟩,
     ⟨some 18, [], .build [.i .i64 0, .i .i64 0, .i .i64 0] [(0, 1, .c (.i .i64 1)), (2, 1, .c (.i .i64 1))]⟩,
     ⟨some 19, [], .load (some 8) (.t 3)⟩,
     ⟨some 20, [], .build [.i .i64 0, .i .i64 0, .i .i64 0, .i .i64 0, .nil, .nil, .s [], .s [], .s [], .s [], .i .i64 0, .i .i64 0, .nil] [(0, 3, .t 18), (3, 1, .c (.i .i64 1)), (4, 8, .t 19)]⟩,
     ⟨some 21, [], .bslice 13 [none, none, none, none, some 3, some 3, none, none, none, none, none, none, some 1] [.t 20]⟩,
     ⟨some 22, [], .app 33 13 184 (.t 17) (.t 21)⟩,
     ⟨some 4, [], .mov (.t 22)⟩]))
  (.reg [] [⟨some 15, [], .mov (.t 5)⟩,
    ⟨some 16, [], .bin .sub (.t 15) (.c (.i .i64 1))⟩,
    ⟨some 5, [], .mov (.t 16)⟩]))
def p3 : PFun := ⟨53, [.t 2],
 .seq (.reg [] [⟨some 2, [], .mov (.c (.b false))⟩])
 (.seq (.reg [] [⟨some 6, [], .build [.i .i64 0, .s [], .i .i64 0] [(0, 1, .c (.i .i64 1)), (1, 1, .c (.s [97]))]⟩,
    ⟨some 7, [], .bslice 3 [none, none, none] [.t 6]⟩,
    ⟨some 8, [], .build [.nil, .nil, .s [], .s [], .s [], .s [], .i .i64 0, .i .i64 0] [(0, 1, .t 7), (7, 1, .c (.i .i64 1))]⟩,
    ⟨some 3, [], .alloc 26 [.nil, .nil, .s [], .s [], .s [], .s [], .i .i64 0, .i .i64 0]⟩,
    ⟨none, [], .store 8 [some 3, some 3, none, none, none, none, none, none] (.t 3) (.t 8)⟩])
  (.seq (.reg [] [⟨some 4, [], .mov (.c .nil)⟩])
   (.seq (.seq (.reg [] [⟨some 9, [], .mov (.t 0)⟩,
       ⟨some 10, [], .call 12 [.t 9, .c (.i .i64 3)]⟩,
       ⟨some 11, [], .bin .add (.t 10) (.c (.i .i64 1024))⟩,
       ⟨some 12, [], .bin .sub (.t 11) (.c (.i .i64 1))⟩,
       ⟨some 5, [], .mov (.t 12)⟩])
     (.block 0 (.loop p3_0)))
    (.seq (.seq (.reg [] [⟨some 23, [], .mov (.t 4)⟩,
        ⟨some 24, [], .len false (.t 23)⟩,
        ⟨some 25, [], .bin .gtr (.t 24) (.c (.i .i64 1024))⟩])
      (.ite (.t 25) (.seq (.reg [31, 32, 33, 34, 37] [⟨some 26, [], .mov (.t 4)⟩,
          ⟨some 27, [], .call 13 [.t 26]⟩,
          ⟨some 28, [], .len false (.t 27)⟩,
          ⟨some 29, [], .bin .eql (.t 28) (.c (.i .i64 0))⟩,
          ⟨some 30, [], .mov (.t 29)⟩,
          ⟨some 31, [(30, true)], .mov (.t 4)⟩,
          ⟨some 32, [(30, true)], .call 14 [.t 31]⟩,
          ⟨some 33, [(30, true)], .len false (.t 32)⟩,
          ⟨some 34, [(30, true)], .bin .eql (.t 33) (.c (.i .i64 0))⟩,
          ⟨some 35, [], .pick (.t 30) (.t 34) (.c (.b false))⟩,
          ⟨some 36, [], .mov (.t 35)⟩,
          ⟨some 37, [(36, true)], .call 15 []⟩,
          ⟨some 38, [], .pick (.t 36) (.t 37) (.c (.b false))⟩,
          ⟨some 2, [], .mov (.t 38)⟩])
        (.ret))
       (.skip)))
     (.seq (.dreg [([⟨some 39, [], .mov (.t 4)⟩],
        ⟨some 40, [], .call 13 [.t 39]⟩,
        []),
        ([⟨some 41, [], .len false (.t 40)⟩,
        ⟨some 42, [], .bin .eql (.t 41) (.c (.i .i64 1))⟩,
        ⟨some 43, [], .mov (.t 42)⟩,
        ⟨some 44, [(43, true)], .mov (.t 4)⟩,
        ⟨some 46, [(43, true)], .load (some 8) (.t 3)⟩,
        ⟨some 47, [(43, true)], .bslice 8 [some 3, some 3, none, none, none, none, none, none] [.t 46]⟩],
        ⟨some 45, [(43, true)], .call 14 [.t 44]⟩,
        [⟨some 46, [(43, true)], .load (some 8) (.t 3)⟩,
        ⟨some 47, [(43, true)], .bslice 8 [some 3, some 3, none, none, none, none, none, none] [.t 46]⟩])] [] [44, 45, 46, 47, 48, 51] [⟨some 48, [(43, true)], .call 16 [.t 45, .t 47]⟩,
        ⟨some 49, [], .pick (.t 43) (.t 48) (.c (.b false))⟩,
        ⟨some 50, [], .mov (.t 49)⟩,
        ⟨some 51, [(50, true)], .call 15 []⟩,
        ⟨some 52, [], .pick (.t 50) (.t 51) (.c (.b false))⟩,
        ⟨some 2, [], .mov (.t 52)⟩])
      (.ret))))))⟩
theorem c3 : cFun Tryz.prog Tryz.f3 = some p3 := by kernel_rfl

def p26 : PFun := ⟨54, [.t 4],
 .seq (.reg [] [⟨some 2, [], .box 33 (.t 0)⟩,
   ⟨some 3, [], .box 33 (.t 1)⟩,
   ⟨some 4, [], .mov (.c (.i .i64 0))⟩])
 (.seq (.both (.dreg [([⟨some 12, [], .fld 0 (.t 2)⟩,
    ⟨some 13, [], .load (some 3) (.t 12)⟩,
    ⟨some 14, [], .fld 0 (.t 3)⟩,
    ⟨some 15, [], .load (some 3) (.t 14)⟩],
    ⟨some 5, [], .alloc 30 [.i .i64 0, .i .i64 0, .i .i64 0]⟩,
    [⟨some 12, [], .fld 0 (.t 2)⟩,
    ⟨some 13, [], .load (some 3) (.t 12)⟩,
    ⟨some 14, [], .fld 0 (.t 3)⟩,
    ⟨some 15, [], .load (some 3) (.t 14)⟩]),
    ([],
    ⟨some 6, [], .alloc 30 [.i .i64 0, .i .i64 0, .i .i64 0]⟩,
    [⟨some 12, [], .fld 0 (.t 2)⟩,
    ⟨some 13, [], .load (some 3) (.t 12)⟩,
    ⟨some 14, [], .fld 0 (.t 3)⟩,
    ⟨some 15, [], .load (some 3) (.t 14)⟩]),
    ([],
    ⟨none, [], .store 3 [none, none, none] (.t 5) (.t 13)⟩,
    [⟨some 14, [], .fld 0 (.t 3)⟩,
    ⟨some 15, [], .load (some 3) (.t 14)⟩])] [] [] [⟨none, [], .store 3 [none, none, none] (.t 6) (.t 15)⟩])
   (.dreg [([⟨some 12, [], .fld 0 (.t 2)⟩,
    ⟨some 13, [], .load (some 3) (.t 12)⟩,
    ⟨some 14, [], .fld 0 (.t 3)⟩,
    ⟨some 15, [], .load (some 3) (.t 14)⟩],
    ⟨some 6, [], .alloc 30 [.i .i64 0, .i .i64 0, .i .i64 0]⟩,
    [⟨some 12, [], .fld 0 (.t 2)⟩,
    ⟨some 13, [], .load (some 3) (.t 12)⟩,
    ⟨some 14, [], .fld 0 (.t 3)⟩,
    ⟨some 15, [], .load (some 3) (.t 14)⟩]),
    ([],
    ⟨some 5, [], .alloc 30 [.i .i64 0, .i .i64 0, .i .i64 0]⟩,
    [⟨some 12, [], .fld 0 (.t 2)⟩,
    ⟨some 13, [], .load (some 3) (.t 12)⟩,
    ⟨some 14, [], .fld 0 (.t 3)⟩,
    ⟨some 15, [], .load (some 3) (.t 14)⟩]),
    ([],
    ⟨none, [], .store 3 [none, none, none] (.t 5) (.t 13)⟩,
    [⟨some 14, [], .fld 0 (.t 3)⟩,
    ⟨some 15, [], .load (some 3) (.t 14)⟩])] [] [] [⟨none, [], .store 3 [none, none, none] (.t 6) (.t 15)⟩]))
  (.seq (.seq (.dreg [([⟨some 16, [], .fld 1 (.t 5)⟩,
      ⟨some 17, [], .load none (.t 16)⟩,
      ⟨some 18, [], .fld 1 (.t 6)⟩,
      ⟨some 19, [], .load none (.t 18)⟩,
      ⟨some 21, [], .fld 2 (.t 5)⟩,
      ⟨some 22, [], .load none (.t 21)⟩,
      ⟨some 23, [], .fld 2 (.t 6)⟩,
      ⟨some 24, [], .load none (.t 23)⟩,
      ⟨some 26, [], .fld 0 (.t 5)⟩,
      ⟨some 27, [], .load none (.t 26)⟩,
      ⟨some 28, [], .fld 0 (.t 6)⟩,
      ⟨some 29, [], .load none (.t 28)⟩,
      ⟨some 31, [], .fld 3 (.t 2)⟩,
      ⟨some 32, [], .load none (.t 31)⟩,
      ⟨some 33, [], .fld 3 (.t 3)⟩,
      ⟨some 34, [], .load none (.t 33)⟩],
      ⟨some 20, [], .call 67 [.t 17, .t 19]⟩,
      [⟨some 21, [], .fld 2 (.t 5)⟩,
      ⟨some 22, [], .load none (.t 21)⟩,
      ⟨some 23, [], .fld 2 (.t 6)⟩,
      ⟨some 24, [], .load none (.t 23)⟩,
      ⟨some 26, [], .fld 0 (.t 5)⟩,
      ⟨some 27, [], .load none (.t 26)⟩,
      ⟨some 28, [], .fld 0 (.t 6)⟩,
      ⟨some 29, [], .load none (.t 28)⟩,
      ⟨some 31, [], .fld 3 (.t 2)⟩,
      ⟨some 32, [], .load none (.t 31)⟩,
      ⟨some 33, [], .fld 3 (.t 3)⟩,
      ⟨some 34, [], .load none (.t 33)⟩]),
      ([],
      ⟨some 25, [], .call 67 [.t 22, .t 24]⟩,
      [⟨some 26, [], .fld 0 (.t 5)⟩,
      ⟨some 27, [], .load none (.t 26)⟩,
      ⟨some 28, [], .fld 0 (.t 6)⟩,
      ⟨some 29, [], .load none (.t 28)⟩,
      ⟨some 31, [], .fld 3 (.t 2)⟩,
      ⟨some 32, [], .load none (.t 31)⟩,
      ⟨some 33, [], .fld 3 (.t 3)⟩,
      ⟨some 34, [], .load none (.t 33)⟩]),
      ([],
      ⟨some 30, [], .call 67 [.t 27, .t 29]⟩,
      [⟨some 31, [], .fld 3 (.t 2)⟩,
      ⟨some 32, [], .load none (.t 31)⟩,
      ⟨some 33, [], .fld 3 (.t 3)⟩,
      ⟨some 34, [], .load none (.t 33)⟩])] [] [] [⟨some 35, [], .call 67 [.t 32, .t 34]⟩,
      ⟨some 36, [], .bslice 1 [none] [.t 20, .t 25, .t 30, .t 35]⟩,
      ⟨some 37, [], .call 66 [.t 36]⟩,
      ⟨some 7, [], .mov (.t 37)⟩])
    (.seq (.reg [] [⟨some 38, [], .mov (.t 7)⟩,
       ⟨some 39, [], .bin .neq (.t 38) (.c (.i .i64 0))⟩])
     (.ite (.t 39) (.seq (.reg [] [⟨some 40, [], .mov (.t 7)⟩,
         ⟨some 4, [], .mov (.t 40)⟩])
       (.ret))
      (.skip))))
   (.seq (.reg [] [⟨some 42, [], .load (some 13) (.t 2)⟩,
      ⟨some 43, [], .call 39 [.t 42]⟩,
      ⟨some 41, [], .mov (.t 43)⟩,
      ⟨some 44, [], .ext 0 (.t 41)⟩,
      ⟨some 45, [], .ext 1 (.t 41)⟩,
      ⟨some 8, [], .mov (.t 44)⟩,
      ⟨some 9, [], .mov (.t 45)⟩])
    (.seq (.reg [] [⟨some 47, [], .load (some 13) (.t 3)⟩,
       ⟨some 48, [], .call 39 [.t 47]⟩,
       ⟨some 46, [], .mov (.t 48)⟩,
       ⟨some 49, [], .ext 0 (.t 46)⟩,
       ⟨some 50, [], .ext 1 (.t 46)⟩,
       ⟨some 10, [], .mov (.t 49)⟩,
       ⟨some 11, [], .mov (.t 50)⟩])
     (.seq (.reg [] [⟨some 51, [], .mov (.t 8)⟩,
        ⟨some 52, [], .mov (.t 10)⟩,
        ⟨some 53, [], .call 68 [.t 51, .t 52]⟩,
        ⟨some 4, [], .mov (.t 53)⟩])
      (.ret))))))⟩
theorem c26 : cFun Tryz.prog Tryz.f26 = some p26 := by kernel_rfl

end Go.Proofs.Tryz

namespace Go.Proofs.Tryz
open Go Go.Pm

def p131_0 : PCode := .seq (.reg [] [⟨some 11, [], .bin .lss (.t 10) (.t 9)⟩])
 (.seq (.ite (.t 11) (.skip)
   (.exit 0))
  (.seq (.block 1 (.seq (.reg [] [⟨some 12, [], .idx 3 (.t 8) (.t 10)⟩,
       ⟨some 13, [], .load (some 3) (.t 12)⟩,
       ⟨some 6, [], .alloc 23 [.i .i64 0, .s [], .i .i64 0]⟩,
       ⟨none, [], .store 3 [none, none, none] (.t 6) (.t 13)⟩])
     (.seq (.reg [17, 18, 19, 20, 21] [⟨some 14, [], .load (some 3) (.t 6)⟩,
        ⟨some 15, [], .call 129 [.t 14]⟩,
        ⟨some 16, [], .mov (.t 15)⟩,
        ⟨some 17, [(16, true)], .mov (.t 4)⟩,
        ⟨some 18, [(16, true)], .fld 2 (.t 6)⟩,
        ⟨some 19, [(16, true)], .load none (.t 18)⟩,
        ⟨some 20, [(16, true)], .look 0 (.b false) false (.t 17) (.t 19)⟩,
        ⟨some 21, [(16, true)], .un .not (.t 20)⟩,
        ⟨some 22, [], .pick (.t 16) (.t 21) (.c (.b false))⟩])
      (.ite (.t 22) (.seq (.reg [] [⟨some 23, [], .mov (.t 4)⟩,
          ⟨some 24, [], .fld 2 (.t 6)⟩,
          ⟨some 25, [], .load none (.t 24)⟩,
          ⟨none, [], .mupd 0 [none] (.t 23) (.t 25) (.c (.b true))⟩])
        (.reg [] [⟨some 26, [], .mov (.t 3)⟩,
          ⟨some 27, [], .fld 2 (.t 6)⟩,
          ⟨some 28, [], .load none (.t 27)⟩,
          ⟨some 29, [], .bslice 1 [none] [.t 28]⟩,
          ⟨some 30, [], .app 3 1 8 (.t 26) (.t 29)⟩,
          ⟨some 3, [], .mov (.t 30)⟩]))
       (.skip)))))
   (.reg [] [⟨some 31, [], .bin .add (.t 10) (.c (.i .i64 1))⟩,
     ⟨some 10, [], .mov (.t 31)⟩])))
def p131 : PFun := ⟨33, [.t 2],
 .seq (.reg [] [⟨some 2, [], .mov (.c .nil)⟩])
 (.seq (.reg [] [⟨some 3, [], .mov (.c .nil)⟩])
  (.seq (.reg [] [⟨some 7, [], .mkmap 3 4⟩,
     ⟨some 4, [], .mov (.t 7)⟩])
   (.seq (.seq (.reg [] [⟨some 8, [], .mov (.t 0)⟩,
       ⟨some 9, [], .len false (.t 8)⟩,
       ⟨some 10, [], .mov (.c (.i .i64 0))⟩])
     (.block 0 (.loop p131_0)))
    (.seq (.reg [] [⟨some 32, [], .mov (.t 3)⟩,
       ⟨some 2, [], .mov (.t 32)⟩])
     (.ret)))))⟩
theorem c131 : cFun Tryz.prog Tryz.f131 = some p131 := by kernel_rfl

def p134_0 : PCode := .seq (.reg [] [⟨some 10, [], .bin .lss (.t 9) (.t 8)⟩])
 (.seq (.ite (.t 10) (.skip)
   (.exit 0))
  (.seq (.block 1 (.seq (.reg [] [⟨some 11, [], .mov (.t 9)⟩,
       ⟨some 4, [], .mov (.t 11)⟩])
     (.reg [] [⟨some 12, [], .mov (.t 3)⟩,
       ⟨some 13, [], .mov (.t 4)⟩,
       ⟨some 14, [], .mov (.t 4)⟩,
       ⟨some 15, [], .bin .add (.t 14) (.c (.i .i64 1))⟩,
       ⟨some 16, [], .idx 1 (.t 12) (.t 13)⟩,
       ⟨none, [], .store 1 [none] (.t 16) (.t 15)⟩])))
   (.reg [] [⟨some 17, [], .bin .add (.t 9) (.c (.i .i64 1))⟩,
     ⟨some 9, [], .mov (.t 17)⟩])))
def p134 : PFun := ⟨19, [.t 2],
 .seq (.reg [] [⟨some 2, [], .mov (.c .nil)⟩])
 (.seq (.reg [] [⟨some 5, [], .mov (.t 0)⟩,
    ⟨some 6, [], .mk 3 1 8 [.i .i64 0] (.t 5) (.t 5)⟩,
    ⟨some 3, [], .mov (.t 6)⟩])
  (.seq (.seq (.reg [] [⟨some 7, [], .mov (.t 3)⟩,
      ⟨some 8, [], .len false (.t 7)⟩,
      ⟨some 9, [], .mov (.c (.i .i64 0))⟩])
    (.block 0 (.loop p134_0)))
   (.seq (.reg [] [⟨some 18, [], .mov (.t 3)⟩,
      ⟨some 2, [], .mov (.t 18)⟩])
    (.ret))))⟩
theorem c134 : cFun Tryz.prog Tryz.f134 = some p134 := by kernel_rfl

def p165_0 : PCode := .seq (.seq (.reg [30, 31, 32, 33, 34, 35] [⟨some 25, [], .mov (.t 4)⟩,
    ⟨some 26, [], .mov (.t 0)⟩,
    ⟨some 27, [], .len false (.t 26)⟩,
    ⟨some 28, [], .bin .lss (.t 25) (.t 27)⟩,
    ⟨some 29, [], .mov (.t 28)⟩,
    ⟨some 30, [(29, true)], .mov (.t 0)⟩,
    ⟨some 31, [(29, true)], .mov (.t 4)⟩,
    ⟨some 32, [(29, true)], .idx 3 (.t 30) (.t 31)⟩,
    ⟨some 33, [(29, true)], .fld 0 (.t 32)⟩,
    ⟨some 34, [(29, true)], .load none (.t 33)⟩,
    ⟨some 35, [(29, true)], .bin .eql (.t 34) (.c (.i .i64 1))⟩,
    ⟨some 36, [], .pick (.t 29) (.t 35) (.c (.b false))⟩])
  (.ite (.t 36) (.skip)
   (.exit 2)))
 (.block 3 (.seq (.reg [] [⟨some 37, [], .mov (.t 5)⟩,
     ⟨some 38, [], .mov (.t 0)⟩,
     ⟨some 39, [], .mov (.t 4)⟩,
     ⟨some 40, [], .idx 3 (.t 38) (.t 39)⟩,
     ⟨some 41, [], .fld 1 (.t 40)⟩,
     ⟨some 42, [], .load none (.t 41)⟩,
     ⟨some 43, [], .apps 5 (.t 37) (.t 42)⟩,
     ⟨some 5, [], .mov (.t 43)⟩])
   (.reg [] [⟨some 44, [], .mov (.t 4)⟩,
     ⟨some 45, [], .bin .add (.t 44) (.c (.i .i64 1))⟩,
     ⟨some 4, [], .mov (.t 45)⟩])))
def p165_1 : PCode := .seq (.seq (.reg [] [⟨some 6, [], .mov (.t 4)⟩,
    ⟨some 7, [], .mov (.t 0)⟩,
    ⟨some 8, [], .len false (.t 7)⟩,
    ⟨some 9, [], .bin .lss (.t 6) (.t 8)⟩])
  (.ite (.t 9) (.skip)
   (.exit 0)))
 (.block 1 (.seq (.seq (.reg [] [⟨some 10, [], .mov (.t 0)⟩,
      ⟨some 11, [], .mov (.t 4)⟩,
      ⟨some 12, [], .idx 3 (.t 10) (.t 11)⟩,
      ⟨some 13, [], .fld 0 (.t 12)⟩,
      ⟨some 14, [], .load none (.t 13)⟩,
      ⟨some 15, [], .bin .neq (.t 14) (.c (.i .i64 1))⟩])
    (.ite (.t 15) (.seq (.reg [] [⟨some 16, [], .mov (.t 3)⟩,
        ⟨some 17, [], .mov (.t 0)⟩,
        ⟨some 18, [], .mov (.t 4)⟩,
        ⟨some 19, [], .idx 3 (.t 17) (.t 18)⟩,
        ⟨some 20, [], .load (some 3) (.t 19)⟩,
        ⟨some 21, [], .bslice 3 [none, none, none] [.t 20]⟩,
        ⟨some 22, [], .app 23 3 32 (.t 16) (.t 21)⟩,
        ⟨some 3, [], .mov (.t 22)⟩])
      (.seq (.reg [] [⟨some 23, [], .mov (.t 4)⟩,
         ⟨some 24, [], .bin .add (.t 23) (.c (.i .i64 1))⟩,
         ⟨some 4, [], .mov (.t 24)⟩])
       (.exit 1)))
     (.skip)))
   (.seq (.reg [] [⟨some 5, [], .mov (.c .nil)⟩])
    (.seq (.block 2 (.loop p165_0))
     (.seq (.reg [] [⟨some 46, [], .mov (.t 5)⟩,
        ⟨some 47, [], .len false (.t 46)⟩,
        ⟨some 48, [], .bin .gtr (.t 47) (.c (.i .i64 0))⟩])
      (.ite (.t 48) (.reg [] [⟨some 49, [], .mov (.t 3)⟩,
         ⟨some 50, [], .mov (.t 5)⟩,
         ⟨some 51, [], .b2s (.t 50)⟩,
         ⟨some 52, [], .build [.i .i64 0, .s [], .i .i64 0] [(0, 1, .c (.i .i64 1)), (1, 1, .t 51)]⟩,
         ⟨some 53, [], .bslice 3 [none, none, none] [.t 52]⟩,
         ⟨some 54, [], .app 23 3 32 (.t 49) (.t 53)⟩,
         ⟨some 3, [], .mov (.t 54)⟩])
       (.skip)))))))
def p165 : PFun := ⟨56, [.t 2],
 .seq (.reg [] [⟨some 2, [], .mov (.c .nil)⟩])
 (.seq (.reg [] [⟨some 3, [], .mov (.c .nil)⟩])
  (.seq (.seq (.reg [] [⟨some 4, [], .mov (.c (.i .i64 0))⟩])
    (.block 0 (.loop p165_1)))
   (.seq (.reg [] [⟨some 55, [], .mov (.t 3)⟩,
      ⟨some 2, [], .mov (.t 55)⟩])
    (.ret))))⟩
theorem c165 : cFun Tryz.prog Tryz.f165 = some p165 := by kernel_rfl

def p133_0 : PCode := .seq (.seq (.reg [] [⟨some 21, [], .mov (.t 8)⟩,
    ⟨some 22, [], .bin .geq (.t 21) (.c (.i .i64 0))⟩])
  (.ite (.t 22) (.skip)
   (.exit 0)))
 (.seq (.block 1 (.dreg [] [⟨some 25, [], .mov (.t 7)⟩,
     ⟨some 26, [], .mov (.t 1)⟩,
     ⟨some 27, [], .mov (.t 8)⟩,
     ⟨some 28, [], .idx 1 (.t 26) (.t 27)⟩,
     ⟨some 29, [], .load none (.t 28)⟩,
     ⟨some 30, [], .mov (.t 2)⟩,
     ⟨some 31, [], .mov (.t 8)⟩,
     ⟨some 32, [], .idx 1 (.t 30) (.t 31)⟩,
     ⟨some 33, [], .load none (.t 32)⟩] [] [⟨none, [], .mupd 0 [none] (.t 25) (.t 29) (.t 33)⟩]))
  (.reg [] [⟨some 23, [], .mov (.t 8)⟩,
    ⟨some 24, [], .bin .sub (.t 23) (.c (.i .i64 1))⟩,
    ⟨some 8, [], .mov (.t 24)⟩]))
def p133_1 : PCode := .seq (.reg [] [⟨some 37, [], .bin .lss (.t 36) (.t 35)⟩])
 (.seq (.ite (.t 37) (.skip)
   (.exit 2))
  (.seq (.block 3 (.seq (.reg [] [⟨some 38, [], .idx 3 (.t 34) (.t 36)⟩,
       ⟨some 39, [], .load (some 3) (.t 38)⟩,
       ⟨some 11, [], .alloc 23 [.i .i64 0, .s [], .i .i64 0]⟩,
       ⟨none, [], .store 3 [none, none, none] (.t 11) (.t 39)⟩])
     (.seq (.seq (.reg [] [⟨some 40, [], .load (some 3) (.t 11)⟩,
         ⟨some 41, [], .call 129 [.t 40]⟩])
       (.ite (.t 41) (.seq (.reg [] [⟨some 43, [], .mov (.t 7)⟩,
           ⟨some 44, [], .fld 2 (.t 11)⟩,
           ⟨some 45, [], .load none (.t 44)⟩,
           ⟨some 46, [], .look 0 (.i .i64 0) true (.t 43) (.t 45)⟩,
           ⟨some 42, [], .mov (.t 46)⟩,
           ⟨some 47, [], .ext 0 (.t 42)⟩,
           ⟨some 48, [], .ext 1 (.t 42)⟩,
           ⟨some 12, [], .mov (.t 47)⟩,
           ⟨some 13, [], .mov (.t 48)⟩])
         (.seq (.seq (.reg [] [⟨some 49, [], .mov (.t 13)⟩,
             ⟨some 50, [], .un .not (.t 49)⟩])
           (.ite (.t 50) (.exit 3)
            (.skip)))
          (.reg [] [⟨some 51, [], .mov (.t 12)⟩,
            ⟨some 52, [], .fld 2 (.t 11)⟩,
            ⟨none, [], .store 1 [none] (.t 52) (.t 51)⟩])))
        (.skip)))
      (.reg [] [⟨some 53, [], .mov (.t 9)⟩,
        ⟨some 54, [], .load (some 3) (.t 11)⟩,
        ⟨some 55, [], .bslice 3 [none, none, none] [.t 54]⟩,
        ⟨some 56, [], .app 23 3 32 (.t 53) (.t 55)⟩,
        ⟨some 9, [], .mov (.t 56)⟩]))))
   (.reg [] [⟨some 57, [], .bin .add (.t 36) (.c (.i .i64 1))⟩,
     ⟨some 36, [], .mov (.t 57)⟩])))
def p133 : PFun := ⟨60, [.t 6],
 .seq (.reg [] [⟨some 6, [], .mov (.c .nil)⟩])
 (.seq (.reg [] [⟨some 14, [], .mkmap 3 3⟩,
    ⟨some 7, [], .mov (.t 14)⟩])
  (.seq (.seq (.reg [] [⟨some 15, [], .mov (.t 1)⟩,
      ⟨some 16, [], .len false (.t 15)⟩,
      ⟨some 17, [], .mov (.t 2)⟩,
      ⟨some 18, [], .len false (.t 17)⟩,
      ⟨some 19, [], .min2 (.t 16) (.t 18)⟩,
      ⟨some 20, [], .bin .sub (.t 19) (.c (.i .i64 1))⟩,
      ⟨some 8, [], .mov (.t 20)⟩])
    (.block 0 (.loop p133_0)))
   (.seq (.reg [] [⟨some 9, [], .mov (.c .nil)⟩])
    (.seq (.seq (.reg [] [⟨some 34, [], .mov (.t 0)⟩,
        ⟨some 35, [], .len false (.t 34)⟩,
        ⟨some 36, [], .mov (.c (.i .i64 0))⟩])
      (.block 2 (.loop p133_1)))
     (.seq (.reg [] [⟨some 58, [], .mov (.t 9)⟩,
        ⟨some 59, [], .call 165 [.t 58]⟩,
        ⟨some 6, [], .mov (.t 59)⟩])
      (.ret))))))⟩
theorem c133 : cFun Tryz.prog Tryz.f133 = some p133 := by kernel_rfl

def p101_0 : PCode := .seq (.reg [] [⟨some 15, [], .bin .lss (.t 14) (.t 13)⟩])
 (.seq (.ite (.t 15) (.skip)
   (.exit 0))
  (.seq (.block 1 (.seq (.reg [] [⟨some 16, [], .idx 1 (.t 12) (.t 14)⟩,
       ⟨some 17, [], .load none (.t 16)⟩,
       ⟨some 8, [], .mov (.t 17)⟩])
     (.seq (.reg [] [⟨some 18, [], .mov (.t 6)⟩,
        ⟨some 19, [], .mov (.t 8)⟩,
        ⟨some 20, [], .call 132 [.t 18, .t 19]⟩,
        ⟨some 21, [], .un .not (.t 20)⟩])
      (.ite (.t 21) (.reg [] [⟨some 22, [], .mov (.t 6)⟩,
         ⟨some 23, [], .mov (.t 8)⟩,
         ⟨some 24, [], .bslice 1 [none] [.t 23]⟩,
         ⟨some 25, [], .app 3 1 8 (.t 22) (.t 24)⟩,
         ⟨some 6, [], .mov (.t 25)⟩])
       (.skip)))))
   (.reg [] [⟨some 26, [], .bin .add (.t 14) (.c (.i .i64 1))⟩,
     ⟨some 14, [], .mov (.t 26)⟩])))
def p101 : PFun := ⟨39, [.t 4, .t 5],
 .seq (.reg [] [⟨some 4, [], .mov (.c .nil)⟩,
   ⟨some 5, [], .mov (.c .nil)⟩])
 (.seq (.reg [] [⟨some 9, [], .mov (.t 0)⟩,
    ⟨some 10, [], .call 131 [.t 9]⟩,
    ⟨some 6, [], .mov (.t 10)⟩])
  (.seq (.seq (.reg [] [⟨some 11, [], .mov (.t 1)⟩,
      ⟨some 12, [], .call 131 [.t 11]⟩,
      ⟨some 13, [], .len false (.t 12)⟩,
      ⟨some 14, [], .mov (.c (.i .i64 0))⟩])
    (.block 0 (.loop p101_0)))
   (.seq (.reg [] [⟨some 27, [], .mov (.t 0)⟩,
      ⟨some 28, [], .mov (.t 6)⟩,
      ⟨some 29, [], .mov (.t 6)⟩,
      ⟨some 30, [], .len false (.t 29)⟩,
      ⟨some 31, [], .call 134 [.t 30]⟩,
      ⟨some 32, [], .call 133 [.t 27, .t 28, .t 31]⟩,
      ⟨some 33, [], .mov (.t 1)⟩,
      ⟨some 34, [], .mov (.t 6)⟩,
      ⟨some 35, [], .mov (.t 6)⟩,
      ⟨some 36, [], .len false (.t 35)⟩,
      ⟨some 37, [], .call 134 [.t 36]⟩,
      ⟨some 38, [], .call 133 [.t 33, .t 34, .t 37]⟩,
      ⟨some 4, [], .mov (.t 32)⟩,
      ⟨some 5, [], .mov (.t 38)⟩])
    (.ret))))⟩
theorem c101 : cFun Tryz.prog Tryz.f101 = some p101 := by kernel_rfl

def p102 : PFun := ⟨8, [.t 4],
 .seq (.reg [] [⟨some 4, [], .mov (.c (.b false))⟩])
 (.seq (.reg [] [⟨some 5, [], .mov (.t 0)⟩,
    ⟨some 6, [], .mov (.t 1)⟩,
    ⟨some 7, [], .call 135 [.t 5, .t 6]⟩,
    ⟨some 4, [], .mov (.t 7)⟩])
  (.ret))⟩
theorem c102 : cFun Tryz.prog Tryz.f102 = some p102 := by kernel_rfl

def p132 : PFun := ⟨9, [.t 4],
 .seq (.reg [] [⟨some 4, [], .mov (.c (.b false))⟩])
 (.seq (.reg [] [⟨some 5, [], .mov (.t 0)⟩,
    ⟨some 6, [], .mov (.t 1)⟩,
    ⟨some 7, [], .call 164 [.t 5, .t 6]⟩,
    ⟨some 8, [], .bin .geq (.t 7) (.c (.i .i64 0))⟩,
    ⟨some 4, [], .mov (.t 8)⟩])
  (.ret))⟩
theorem c132 : cFun Tryz.prog Tryz.f132 = some p132 := by kernel_rfl

def p164_0 : PCode := .seq (.reg [] [⟨some 9, [], .bin .lss (.t 8) (.t 7)⟩])
 (.seq (.ite (.t 9) (.skip)
   (.exit 0))
  (.seq (.block 1 (.seq (.reg [] [⟨some 10, [], .mov (.t 8)⟩,
       ⟨some 5, [], .mov (.t 10)⟩])
     (.seq (.reg [] [⟨some 11, [], .mov (.t 1)⟩,
        ⟨some 12, [], .mov (.t 0)⟩,
        ⟨some 13, [], .mov (.t 5)⟩,
        ⟨some 14, [], .idx 1 (.t 12) (.t 13)⟩,
        ⟨some 15, [], .load none (.t 14)⟩,
        ⟨some 16, [], .bin .eql (.t 11) (.t 15)⟩])
      (.ite (.t 16) (.seq (.reg [] [⟨some 17, [], .mov (.t 5)⟩,
          ⟨some 4, [], .mov (.t 17)⟩])
        (.ret))
       (.skip)))))
   (.reg [] [⟨some 18, [], .bin .add (.t 8) (.c (.i .i64 1))⟩,
     ⟨some 8, [], .mov (.t 18)⟩])))
def p164 : PFun := ⟨19, [.t 4],
 .seq (.reg [] [⟨some 4, [], .mov (.c (.i .i64 0))⟩])
 (.seq (.seq (.reg [] [⟨some 6, [], .mov (.t 0)⟩,
     ⟨some 7, [], .len false (.t 6)⟩,
     ⟨some 8, [], .mov (.c (.i .i64 0))⟩])
   (.block 0 (.loop p164_0)))
  (.seq (.reg [] [⟨some 4, [], .mov (.c (.i .i64 (-1)))⟩])
   (.ret)))⟩
theorem c164 : cFun Tryz.prog Tryz.f164 = some p164 := by kernel_rfl

def p135_0 : PCode := .seq (.reg [] [⟨some 14, [], .bin .lss (.t 13) (.t 12)⟩])
 (.seq (.ite (.t 14) (.skip)
   (.exit 0))
  (.seq (.block 1 (.seq (.reg [] [⟨some 15, [], .mov (.t 13)⟩,
       ⟨some 5, [], .mov (.t 15)⟩])
     (.seq (.dreg [] [⟨some 16, [], .mov (.t 0)⟩,
        ⟨some 17, [], .mov (.t 5)⟩,
        ⟨some 18, [], .idx 3 (.t 16) (.t 17)⟩,
        ⟨some 19, [], .load (some 3) (.t 18)⟩,
        ⟨some 20, [], .mov (.t 1)⟩,
        ⟨some 21, [], .mov (.t 5)⟩,
        ⟨some 22, [], .idx 3 (.t 20) (.t 21)⟩,
        ⟨some 23, [], .load (some 3) (.t 22)⟩] [] [⟨some 24, [], .beq true [0, 1, 0] (.t 19) (.t 23)⟩])
      (.ite (.t 24) (.seq (.reg [] [⟨some 4, [], .mov (.c (.b false))⟩])
        (.ret))
       (.skip)))))
   (.reg [] [⟨some 25, [], .bin .add (.t 13) (.c (.i .i64 1))⟩,
     ⟨some 13, [], .mov (.t 25)⟩])))
def p135 : PFun := ⟨26, [.t 4],
 .seq (.reg [] [⟨some 4, [], .mov (.c (.b false))⟩])
 (.seq (.seq (.reg [] [⟨some 6, [], .mov (.t 0)⟩,
     ⟨some 7, [], .len false (.t 6)⟩,
     ⟨some 8, [], .mov (.t 1)⟩,
     ⟨some 9, [], .len false (.t 8)⟩,
     ⟨some 10, [], .bin .neq (.t 7) (.t 9)⟩])
   (.ite (.t 10) (.seq (.reg [] [⟨some 4, [], .mov (.c (.b false))⟩])
     (.ret))
    (.skip)))
  (.seq (.seq (.reg [] [⟨some 11, [], .mov (.t 0)⟩,
      ⟨some 12, [], .len false (.t 11)⟩,
      ⟨some 13, [], .mov (.c (.i .i64 0))⟩])
    (.block 0 (.loop p135_0)))
   (.seq (.reg [] [⟨some 4, [], .mov (.c (.b true))⟩])
    (.ret))))⟩
theorem c135 : cFun Tryz.prog Tryz.f135 = some p135 := by kernel_rfl

def p56 : PFun := ⟨109, [.t 2],
 .seq (.reg [] [⟨some 1, [], .box 26 (.t 0)⟩,
   ⟨some 2, [], .mov (.c (.i .i64 0))⟩])
 (.seq (.seq (.reg [] [⟨some 13, [], .fld 0 (.t 1)⟩,
     ⟨some 14, [], .load none (.t 13)⟩,
     ⟨some 15, [], .call 100 [.t 14]⟩,
     ⟨some 3, [], .mov (.t 15)⟩])
   (.seq (.reg [] [⟨some 16, [], .mov (.t 3)⟩,
      ⟨some 17, [], .bin .neq (.t 16) (.c (.i .i64 0))⟩])
    (.ite (.t 17) (.seq (.reg [] [⟨some 18, [], .mov (.t 3)⟩,
        ⟨some 2, [], .mov (.t 18)⟩])
      (.ret))
     (.skip))))
  (.seq (.seq (.reg [] [⟨some 19, [], .fld 1 (.t 1)⟩,
      ⟨some 20, [], .load none (.t 19)⟩,
      ⟨some 21, [], .call 100 [.t 20]⟩,
      ⟨some 4, [], .mov (.t 21)⟩])
    (.seq (.reg [] [⟨some 22, [], .mov (.t 4)⟩,
       ⟨some 23, [], .bin .neq (.t 22) (.c (.i .i64 0))⟩])
     (.ite (.t 23) (.seq (.reg [] [⟨some 24, [], .mov (.t 4)⟩,
         ⟨some 2, [], .mov (.t 24)⟩])
       (.ret))
      (.skip))))
   (.seq (.reg [] [⟨some 26, [], .fld 0 (.t 1)⟩,
      ⟨some 27, [], .load none (.t 26)⟩,
      ⟨some 28, [], .fld 1 (.t 1)⟩,
      ⟨some 29, [], .load none (.t 28)⟩,
      ⟨some 30, [], .call 101 [.t 27, .t 29]⟩,
      ⟨some 25, [], .mov (.t 30)⟩,
      ⟨some 31, [], .ext 0 (.t 25)⟩,
      ⟨some 32, [], .ext 1 (.t 25)⟩,
      ⟨some 5, [], .mov (.t 31)⟩,
      ⟨some 6, [], .mov (.t 32)⟩])
    (.seq (.seq (.reg [38, 39, 40, 41, 42, 45, 46, 47, 48, 49] [⟨some 33, [], .fld 0 (.t 1)⟩,
        ⟨some 34, [], .load none (.t 33)⟩,
        ⟨some 35, [], .len false (.t 34)⟩,
        ⟨some 36, [], .bin .eql (.t 35) (.c (.i .i64 0))⟩,
        ⟨some 37, [], .mov (.t 36)⟩,
        ⟨some 38, [(37, false)], .mov (.t 5)⟩,
        ⟨some 39, [(37, false)], .fld 0 (.t 1)⟩,
        ⟨some 40, [(37, false)], .load none (.t 39)⟩,
        ⟨some 41, [(37, false)], .call 102 [.t 38, .t 40]⟩,
        ⟨some 42, [(37, false)], .un .not (.t 41)⟩,
        ⟨some 43, [], .pick (.t 37) (.c (.b true)) (.t 42)⟩,
        ⟨some 44, [], .mov (.t 43)⟩,
        ⟨some 45, [(44, false)], .mov (.t 6)⟩,
        ⟨some 46, [(44, false)], .fld 1 (.t 1)⟩,
        ⟨some 47, [(44, false)], .load none (.t 46)⟩,
        ⟨some 48, [(44, false)], .call 102 [.t 45, .t 47]⟩,
        ⟨some 49, [(44, false)], .un .not (.t 48)⟩,
        ⟨some 50, [], .pick (.t 44) (.c (.b true)) (.t 49)⟩])
      (.ite (.t 50) (.seq (.reg [] [⟨some 2, [], .mov (.c (.i .i64 1))⟩])
        (.ret))
       (.skip)))
     (.seq (.seq (.reg [] [⟨some 52, [], .fld 2 (.t 1)⟩,
         ⟨some 53, [], .load none (.t 52)⟩,
         ⟨some 54, [], .call 103 [.t 53]⟩,
         ⟨some 51, [], .mov (.t 54)⟩,
         ⟨some 55, [], .ext 0 (.t 51)⟩,
         ⟨some 56, [], .ext 1 (.t 51)⟩,
         ⟨some 57, [], .ext 2 (.t 51)⟩,
         ⟨some 7, [], .mov (.t 55)⟩,
         ⟨some 8, [], .mov (.t 56)⟩,
         ⟨some 9, [], .mov (.t 57)⟩])
       (.seq (.reg [] [⟨some 58, [], .mov (.t 9)⟩,
          ⟨some 59, [], .bin .neq (.t 58) (.c (.i .i64 0))⟩])
        (.ite (.t 59) (.seq (.reg [] [⟨some 60, [], .mov (.t 9)⟩,
            ⟨some 2, [], .mov (.t 60)⟩])
          (.ret))
         (.skip))))
      (.seq (.seq (.reg [] [⟨some 62, [], .fld 3 (.t 1)⟩,
          ⟨some 63, [], .load none (.t 62)⟩,
          ⟨some 64, [], .call 103 [.t 63]⟩,
          ⟨some 61, [], .mov (.t 64)⟩,
          ⟨some 65, [], .ext 0 (.t 61)⟩,
          ⟨some 66, [], .ext 1 (.t 61)⟩,
          ⟨some 67, [], .ext 2 (.t 61)⟩,
          ⟨some 10, [], .mov (.t 65)⟩,
          ⟨some 11, [], .mov (.t 66)⟩,
          ⟨some 12, [], .mov (.t 67)⟩])
        (.seq (.reg [] [⟨some 68, [], .mov (.t 12)⟩,
           ⟨some 69, [], .bin .neq (.t 68) (.c (.i .i64 0))⟩])
         (.ite (.t 69) (.seq (.reg [] [⟨some 70, [], .mov (.t 12)⟩,
             ⟨some 2, [], .mov (.t 70)⟩])
           (.ret))
          (.skip))))
       (.seq (.seq (.reg [75, 76, 77, 78, 81, 82, 83, 84, 85, 86, 87, 88, 89] [⟨some 71, [], .fld 4 (.t 1)⟩,
           ⟨some 72, [], .load none (.t 71)⟩,
           ⟨some 73, [], .bin .neq (.t 72) (.c (.s []))⟩,
           ⟨some 74, [], .mov (.t 73)⟩,
           ⟨some 75, [(74, true)], .fld 4 (.t 1)⟩,
           ⟨some 76, [(74, true)], .load none (.t 75)⟩,
           ⟨some 77, [(74, true)], .call 104 [.t 76]⟩,
           ⟨some 78, [(74, true)], .un .not (.t 77)⟩,
           ⟨some 79, [], .pick (.t 74) (.t 78) (.c (.b false))⟩,
           ⟨some 80, [], .mov (.t 79)⟩,
           ⟨some 81, [(80, false)], .fld 5 (.t 1)⟩,
           ⟨some 82, [(80, false)], .load none (.t 81)⟩,
           ⟨some 83, [(80, false)], .bin .neq (.t 82) (.c (.s []))⟩,
           ⟨some 84, [(80, false)], .mov (.t 83)⟩,
           ⟨some 85, [(80, false), (84, true)], .fld 5 (.t 1)⟩,
           ⟨some 86, [(80, false), (84, true)], .load none (.t 85)⟩,
           ⟨some 87, [(80, false), (84, true)], .call 104 [.t 86]⟩,
           ⟨some 88, [(80, false), (84, true)], .un .not (.t 87)⟩,
           ⟨some 89, [(80, false)], .pick (.t 84) (.t 88) (.c (.b false))⟩,
           ⟨some 90, [], .pick (.t 80) (.c (.b true)) (.t 89)⟩])
         (.ite (.t 90) (.seq (.reg [] [⟨some 2, [], .mov (.c (.i .i64 4))⟩])
           (.ret))
          (.skip)))
        (.seq (.seq (.reg [95, 96, 97, 100, 101, 102, 105, 106, 107] [⟨some 91, [], .fld 6 (.t 1)⟩,
            ⟨some 92, [], .load none (.t 91)⟩,
            ⟨some 93, [], .bin .lss (.t 92) (.c (.i .i64 0))⟩,
            ⟨some 94, [], .mov (.t 93)⟩,
            ⟨some 95, [(94, false)], .fld 6 (.t 1)⟩,
            ⟨some 96, [(94, false)], .load none (.t 95)⟩,
            ⟨some 97, [(94, false)], .bin .gtr (.t 96) (.c (.i .i64 1073741824))⟩,
            ⟨some 98, [], .pick (.t 94) (.c (.b true)) (.t 97)⟩,
            ⟨some 99, [], .mov (.t 98)⟩,
            ⟨some 100, [(99, false)], .fld 7 (.t 1)⟩,
            ⟨some 101, [(99, false)], .load none (.t 100)⟩,
            ⟨some 102, [(99, false)], .bin .lss (.t 101) (.c (.i .i64 1))⟩,
            ⟨some 103, [], .pick (.t 99) (.c (.b true)) (.t 102)⟩,
            ⟨some 104, [], .mov (.t 103)⟩,
            ⟨some 105, [(104, false)], .fld 7 (.t 1)⟩,
            ⟨some 106, [(104, false)], .load none (.t 105)⟩,
            ⟨some 107, [(104, false)], .bin .gtr (.t 106) (.c (.i .i64 3))⟩,
            ⟨some 108, [], .pick (.t 104) (.c (.b true)) (.t 107)⟩])
          (.ite (.t 108) (.seq (.reg [] [⟨some 2, [], .mov (.c (.i .i64 1))⟩])
            (.ret))
           (.skip)))
         (.seq (.reg [] [⟨some 2, [], .mov (.c (.i .i64 0))⟩])
          (.ret))))))))))⟩
theorem c56 : cFun Tryz.prog Tryz.f56 = some p56 := by kernel_rfl

def p108 : PFun := ⟨20, [.t 2],
 .seq (.reg [] [⟨some 1, [], .box 26 (.t 0)⟩,
   ⟨some 2, [], .mov (.c (.s []))⟩])
 (.seq (.reg [] [⟨some 6, [], .fld 0 (.t 1)⟩,
    ⟨some 7, [], .load none (.t 6)⟩,
    ⟨some 8, [], .call 79 [.t 7]⟩,
    ⟨some 5, [], .mov (.t 8)⟩,
    ⟨some 9, [], .ext 0 (.t 5)⟩,
    ⟨some 10, [], .ext 1 (.t 5)⟩,
    ⟨some 3, [], .mov (.t 9)⟩,
    ⟨some 4, [], .mov (.t 10)⟩])
  (.seq (.reg [] [⟨some 11, [], .mov (.t 3)⟩,
     ⟨some 12, [], .bin .add (.t 11) (.c (.s [10]))⟩,
     ⟨some 13, [], .fld 2 (.t 1)⟩,
     ⟨some 14, [], .load none (.t 13)⟩,
     ⟨some 15, [], .bin .add (.t 12) (.t 14)⟩,
     ⟨some 16, [], .bin .add (.t 15) (.c (.s [10]))⟩,
     ⟨some 17, [], .fld 3 (.t 1)⟩,
     ⟨some 18, [], .load none (.t 17)⟩,
     ⟨some 19, [], .bin .add (.t 16) (.t 18)⟩,
     ⟨some 2, [], .mov (.t 19)⟩])
   (.ret)))⟩
theorem c108 : cFun Tryz.prog Tryz.f108 = some p108 := by kernel_rfl

def p63 : PFun := ⟨8, [.t 2],
 .seq (.reg [] [⟨some 1, [], .box 26 (.t 0)⟩,
   ⟨some 2, [], .mov (.c (.s []))⟩])
 (.seq (.seq (.reg [] [⟨some 3, [], .load (some 8) (.t 1)⟩,
     ⟨some 4, [], .call 56 [.t 3]⟩,
     ⟨some 5, [], .bin .neq (.t 4) (.c (.i .i64 0))⟩])
   (.ite (.t 5) (.seq (.reg [] [⟨some 2, [], .mov (.c (.s []))⟩])
     (.ret))
    (.skip)))
  (.seq (.reg [] [⟨some 6, [], .load (some 8) (.t 1)⟩,
     ⟨some 7, [], .call 108 [.t 6]⟩,
     ⟨some 2, [], .mov (.t 7)⟩])
   (.ret)))⟩
theorem c63 : cFun Tryz.prog Tryz.f63 = some p63 := by kernel_rfl

def p57 : PFun := ⟨20, [.c 2 (some 8)],
 .seq (.reg [] [⟨some 1, [], .box 33 (.t 0)⟩,
   ⟨some 2, [], .alloc 26 [.nil, .nil, .s [], .s [], .s [], .s [], .i .i64 0, .i .i64 0]⟩])
 (.seq (.seq (.reg [] [⟨some 4, [], .fld 3 (.t 1)⟩,
     ⟨some 5, [], .load none (.t 4)⟩,
     ⟨some 6, [], .bin .neq (.t 5) (.c (.i .i64 2))⟩])
   (.ite (.t 6) (.seq (.reg [] [⟨some 7, [], .fld 4 (.t 1)⟩,
       ⟨some 8, [], .load (some 8) (.t 7)⟩,
       ⟨none, [], .store 8 [some 3, some 3, none, none, none, none, none, none] (.t 2) (.t 8)⟩])
     (.ret))
    (.skip)))
  (.seq (.reg [] [⟨some 9, [], .fld 4 (.t 1)⟩,
     ⟨some 10, [], .load (some 8) (.t 9)⟩,
     ⟨some 3, [], .alloc 26 [.nil, .nil, .s [], .s [], .s [], .s [], .i .i64 0, .i .i64 0]⟩,
     ⟨none, [], .store 8 [some 3, some 3, none, none, none, none, none, none] (.t 3) (.t 10)⟩])
   (.seq (.reg [] [⟨some 11, [], .fld 0 (.t 3)⟩,
      ⟨some 12, [], .load none (.t 11)⟩,
      ⟨some 13, [], .fld 0 (.t 3)⟩,
      ⟨some 14, [], .load none (.t 13)⟩,
      ⟨some 15, [], .fld 2 (.t 3)⟩,
      ⟨some 16, [], .load none (.t 15)⟩,
      ⟨some 17, [], .fld 3 (.t 3)⟩,
      ⟨some 18, [], .load none (.t 17)⟩,
      ⟨some 19, [], .build [.nil, .nil, .s [], .s [], .s [], .s [], .i .i64 0, .i .i64 0] [(0, 1, .t 12), (1, 1, .t 14), (2, 1, .t 16), (3, 1, .t 18), (7, 1, .c (.i .i64 1))]⟩,
      ⟨none, [], .store 8 [some 3, some 3, none, none, none, none, none, none] (.t 2) (.t 19)⟩])
    (.ret))))⟩
theorem c57 : cFun Tryz.prog Tryz.f57 = some p57 := by kernel_rfl

def p55 : PFun := ⟨27, [.t 2],
 .seq (.reg [] [⟨some 1, [], .box 26 (.t 0)⟩,
   ⟨some 2, [], .mov (.c (.b false))⟩])
 (.seq (.reg [8, 9, 10, 13, 14, 15, 18, 19, 20, 23, 24, 25] [⟨some 3, [], .fld 1 (.t 1)⟩,
    ⟨some 4, [], .load none (.t 3)⟩,
    ⟨some 5, [], .len false (.t 4)⟩,
    ⟨some 6, [], .bin .eql (.t 5) (.c (.i .i64 0))⟩,
    ⟨some 7, [], .mov (.t 6)⟩,
    ⟨some 8, [(7, true)], .fld 4 (.t 1)⟩,
    ⟨some 9, [(7, true)], .load none (.t 8)⟩,
    ⟨some 10, [(7, true)], .bin .eql (.t 9) (.c (.s []))⟩,
    ⟨some 11, [], .pick (.t 7) (.t 10) (.c (.b false))⟩,
    ⟨some 12, [], .mov (.t 11)⟩,
    ⟨some 13, [(12, true)], .fld 5 (.t 1)⟩,
    ⟨some 14, [(12, true)], .load none (.t 13)⟩,
    ⟨some 15, [(12, true)], .bin .eql (.t 14) (.c (.s []))⟩,
    ⟨some 16, [], .pick (.t 12) (.t 15) (.c (.b false))⟩,
    ⟨some 17, [], .mov (.t 16)⟩,
    ⟨some 18, [(17, true)], .fld 6 (.t 1)⟩,
    ⟨some 19, [(17, true)], .load none (.t 18)⟩,
    ⟨some 20, [(17, true)], .bin .eql (.t 19) (.c (.i .i64 0))⟩,
    ⟨some 21, [], .pick (.t 17) (.t 20) (.c (.b false))⟩,
    ⟨some 22, [], .mov (.t 21)⟩,
    ⟨some 23, [(22, true)], .fld 7 (.t 1)⟩,
    ⟨some 24, [(22, true)], .load none (.t 23)⟩,
    ⟨some 25, [(22, true)], .bin .eql (.t 24) (.c (.i .i64 0))⟩,
    ⟨some 26, [], .pick (.t 22) (.t 25) (.c (.b false))⟩,
    ⟨some 2, [], .mov (.t 26)⟩])
  (.ret))⟩
theorem c55 : cFun Tryz.prog Tryz.f55 = some p55 := by kernel_rfl

def p21_0 : PCode := .seq (.reg [] [⟨some 33, [], .bin .lss (.t 32) (.t 31)⟩])
 (.seq (.ite (.t 33) (.skip)
   (.exit 0))
  (.seq (.block 1 (.seq (.reg [] [⟨some 34, [], .idx 1 (.t 30) (.t 32)⟩,
       ⟨some 35, [], .load none (.t 34)⟩,
       ⟨some 5, [], .mov (.t 35)⟩])
     (.seq (.reg [] [⟨some 36, [], .mov (.t 5)⟩,
        ⟨some 37, [], .bin .gtr (.t 36) (.c (.i .i64 128))⟩])
      (.ite (.t 37) (.seq (.reg [] [⟨some 2, [], .mov (.c (.i .i64 1))⟩])
        (.ret))
       (.skip)))))
   (.reg [] [⟨some 38, [], .bin .add (.t 32) (.c (.i .i64 1))⟩,
     ⟨some 32, [], .mov (.t 38)⟩])))
def p21 : PFun := ⟨62, [.t 2],
 .seq (.reg [] [⟨some 1, [], .box 33 (.t 0)⟩,
   ⟨some 2, [], .mov (.c (.i .i64 0))⟩])
 (.seq (.seq (.reg [] [⟨some 6, [], .fld 0 (.t 1)⟩,
     ⟨some 7, [], .load (some 3) (.t 6)⟩,
     ⟨some 8, [], .call 51 [.t 7]⟩,
     ⟨some 3, [], .mov (.t 8)⟩])
   (.seq (.reg [] [⟨some 9, [], .mov (.t 3)⟩,
      ⟨some 10, [], .bin .neq (.t 9) (.c (.i .i64 0))⟩])
    (.ite (.t 10) (.seq (.reg [] [⟨some 11, [], .mov (.t 3)⟩,
        ⟨some 2, [], .mov (.t 11)⟩])
      (.ret))
     (.skip))))
  (.seq (.seq (.dreg [([⟨some 12, [], .fld 3 (.t 1)⟩,
      ⟨some 13, [], .load none (.t 12)⟩,
      ⟨some 14, [], .bin .neq (.t 13) (.c (.i .i64 1))⟩,
      ⟨some 15, [], .mov (.t 14)⟩,
      ⟨some 16, [(15, true)], .fld 3 (.t 1)⟩,
      ⟨some 17, [(15, true)], .load none (.t 16)⟩,
      ⟨some 18, [(15, true)], .bin .neq (.t 17) (.c (.i .i64 2))⟩,
      ⟨some 19, [], .pick (.t 15) (.t 18) (.c (.b false))⟩,
      ⟨some 20, [], .mov (.t 19)⟩,
      ⟨some 21, [(20, false)], .fld 12 (.t 1)⟩,
      ⟨some 22, [(20, false)], .load none (.t 21)⟩,
      ⟨some 24, [(20, false)], .fld 12 (.t 1)⟩,
      ⟨some 25, [(20, false)], .load none (.t 24)⟩],
      ⟨some 23, [(20, false)], .call 53 [.t 22]⟩,
      [⟨some 24, [(20, false)], .fld 12 (.t 1)⟩,
      ⟨some 25, [(20, false)], .load none (.t 24)⟩])] [] [16, 17, 18, 21, 22, 23, 24, 25, 26, 27] [⟨some 26, [(20, false)], .call 52 [.t 23, .t 25]⟩,
      ⟨some 27, [(20, false)], .un .not (.t 26)⟩,
      ⟨some 28, [], .pick (.t 20) (.c (.b true)) (.t 27)⟩])
    (.ite (.t 28) (.seq (.reg [] [⟨some 2, [], .mov (.c (.i .i64 1))⟩])
      (.ret))
     (.skip)))
   (.seq (.seq (.reg [] [⟨some 29, [], .fld 12 (.t 1)⟩,
       ⟨some 30, [], .load none (.t 29)⟩,
       ⟨some 31, [], .len false (.t 30)⟩,
       ⟨some 32, [], .mov (.c (.i .i64 0))⟩])
     (.block 0 (.loop p21_0)))
    (.seq (.seq (.dreg [([⟨some 39, [], .fld 12 (.t 1)⟩,
        ⟨some 40, [], .load none (.t 39)⟩,
        ⟨some 41, [], .fld 0 (.t 1)⟩,
        ⟨some 42, [], .fld 1 (.t 41)⟩,
        ⟨some 43, [], .load none (.t 42)⟩,
        ⟨some 45, [], .fld 0 (.t 1)⟩,
        ⟨some 46, [], .fld 2 (.t 45)⟩,
        ⟨some 47, [], .load none (.t 46)⟩,
        ⟨some 48, [], .bin .sub (.t 47) (.c (.i .i64 1))⟩],
        ⟨some 44, [], .call 54 [.t 40, .t 43]⟩,
        [⟨some 45, [], .fld 0 (.t 1)⟩,
        ⟨some 46, [], .fld 2 (.t 45)⟩,
        ⟨some 47, [], .load none (.t 46)⟩])] [] [] [⟨some 49, [], .bin .neq (.t 44) (.t 48)⟩])
      (.ite (.t 49) (.seq (.reg [] [⟨some 2, [], .mov (.c (.i .i64 11))⟩])
        (.ret))
       (.skip)))
     (.seq (.seq (.reg [54, 55, 56, 57] [⟨some 50, [], .fld 3 (.t 1)⟩,
         ⟨some 51, [], .load none (.t 50)⟩,
         ⟨some 52, [], .bin .eql (.t 51) (.c (.i .i64 2))⟩,
         ⟨some 53, [], .mov (.t 52)⟩,
         ⟨some 54, [(53, true)], .fld 4 (.t 1)⟩,
         ⟨some 55, [(53, true)], .load (some 8) (.t 54)⟩,
         ⟨some 56, [(53, true)], .call 55 [.t 55]⟩,
         ⟨some 57, [(53, true)], .un .not (.t 56)⟩,
         ⟨some 58, [], .pick (.t 53) (.t 57) (.c (.b false))⟩])
       (.ite (.t 58) (.seq (.reg [] [⟨some 2, [], .mov (.c (.i .i64 1))⟩])
         (.ret))
        (.skip)))
      (.seq (.reg [] [⟨some 59, [], .load (some 13) (.t 1)⟩,
         ⟨some 60, [], .call 57 [.t 59]⟩,
         ⟨some 61, [], .call 56 [.t 60]⟩,
         ⟨some 2, [], .mov (.t 61)⟩])
       (.ret)))))))⟩
theorem c21 : cFun Tryz.prog Tryz.f21 = some p21 := by kernel_rfl

def p23 : PFun := ⟨9, [.t 2],
 .seq (.reg [] [⟨some 1, [], .box 33 (.t 0)⟩,
   ⟨some 2, [], .mov (.c (.s []))⟩])
 (.seq (.seq (.reg [] [⟨some 3, [], .load (some 13) (.t 1)⟩,
     ⟨some 4, [], .call 21 [.t 3]⟩,
     ⟨some 5, [], .bin .neq (.t 4) (.c (.i .i64 0))⟩])
   (.ite (.t 5) (.seq (.reg [] [⟨some 2, [], .mov (.c (.s []))⟩])
     (.ret))
    (.skip)))
  (.seq (.reg [] [⟨some 6, [], .load (some 13) (.t 1)⟩,
     ⟨some 7, [], .call 57 [.t 6]⟩,
     ⟨some 8, [], .call 63 [.t 7]⟩,
     ⟨some 2, [], .mov (.t 8)⟩])
   (.ret)))⟩
theorem c23 : cFun Tryz.prog Tryz.f23 = some p23 := by kernel_rfl

end Go.Proofs.Tryz

namespace Go.Proofs.Tryz
open Go Go.Pm

def p103_0 : PCode := .seq (.seq (.reg [] [⟨some 12, [], .mov (.t 3)⟩,
    ⟨some 13, [], .mov (.t 0)⟩,
    ⟨some 14, [], .len true (.t 13)⟩,
    ⟨some 15, [], .bin .lss (.t 12) (.t 14)⟩])
  (.ite (.t 15) (.skip)
   (.exit 0)))
 (.block 1 (.seq (.reg [] [⟨some 17, [], .mov (.t 0)⟩,
     ⟨some 18, [], .mov (.t 3)⟩,
     ⟨some 19, [], .sslice (.t 17) (some (.t 18)) none⟩,
     ⟨some 20, [], .call 136 [.t 19]⟩,
     ⟨some 16, [], .mov (.t 20)⟩,
     ⟨some 21, [], .ext 0 (.t 16)⟩,
     ⟨some 22, [], .ext 1 (.t 16)⟩,
     ⟨some 23, [], .ext 2 (.t 16)⟩,
     ⟨some 6, [], .alloc 23 [.i .i64 0, .s [], .i .i64 0]⟩,
     ⟨none, [], .store 3 [none, none, none] (.t 6) (.t 21)⟩,
     ⟨some 7, [], .mov (.t 22)⟩,
     ⟨some 8, [], .mov (.t 23)⟩])
   (.seq (.seq (.reg [] [⟨some 24, [], .mov (.t 8)⟩,
       ⟨some 25, [], .un .not (.t 24)⟩])
     (.ite (.t 25) (.seq (.reg [] [⟨some 26, [], .mov (.t 3)⟩,
         ⟨some 2, [], .mov (.c .nil)⟩,
         ⟨some 3, [], .mov (.t 26)⟩,
         ⟨some 4, [], .mov (.c (.i .i64 2))⟩])
       (.ret))
      (.skip)))
    (.seq (.seq (.reg [] [⟨some 27, [], .load (some 3) (.t 6)⟩,
        ⟨some 28, [], .call 137 [.t 5, .t 27]⟩,
        ⟨some 9, [], .mov (.t 28)⟩])
      (.seq (.reg [] [⟨some 29, [], .mov (.t 9)⟩,
         ⟨some 30, [], .bin .neq (.t 29) (.c (.i .i64 0))⟩])
       (.ite (.t 30) (.seq (.reg [] [⟨some 31, [], .mov (.t 3)⟩,
           ⟨some 32, [], .mov (.t 9)⟩,
           ⟨some 2, [], .mov (.c .nil)⟩,
           ⟨some 3, [], .mov (.t 31)⟩,
           ⟨some 4, [], .mov (.t 32)⟩])
         (.ret))
        (.skip))))
     (.reg [] [⟨some 33, [], .mov (.t 3)⟩,
       ⟨some 34, [], .mov (.t 7)⟩,
       ⟨some 35, [], .bin .add (.t 33) (.t 34)⟩,
       ⟨some 3, [], .mov (.t 35)⟩])))))
def p103 : PFun := ⟨39, [.t 2, .t 3, .t 4],
 .seq (.reg [] [⟨some 2, [], .mov (.c .nil)⟩,
   ⟨some 3, [], .mov (.c (.i .i64 0))⟩,
   ⟨some 4, [], .mov (.c (.i .i64 0))⟩])
 (.seq (.reg [] [⟨some 10, [], .mkmap 3 23⟩,
    ⟨some 11, [], .build [.nil, .nil, .i .i64 0, .nilmap] [(3, 1, .t 10)]⟩,
    ⟨some 5, [], .alloc 149 [.nil, .nil, .i .i64 0, .nilmap]⟩,
    ⟨none, [], .store 4 [some 3, some 1, none, none] (.t 5) (.t 11)⟩])
  (.seq (.block 0 (.loop p103_0))
   (.seq (.reg [] [⟨some 36, [], .call 138 [.t 5]⟩])
    (.seq (.reg [] [⟨some 37, [], .fld 0 (.t 5)⟩,
       ⟨some 38, [], .load none (.t 37)⟩,
       ⟨some 2, [], .mov (.t 38)⟩,
       ⟨some 3, [], .mov (.c (.i .i64 0))⟩,
       ⟨some 4, [], .mov (.c (.i .i64 0))⟩])
     (.ret)))))⟩
theorem c103 : cFun Tryz.prog Tryz.f103 = some p103 := by kernel_rfl

def p137 : PFun := ⟨123, [.t 4],
 .seq (.reg [] [⟨some 3, [], .box 23 (.t 1)⟩,
   ⟨some 4, [], .mov (.c (.i .i64 0))⟩])
 (.seq (.reg [13, 14, 15] [⟨some 9, [], .fld 0 (.t 3)⟩,
    ⟨some 10, [], .load none (.t 9)⟩,
    ⟨some 11, [], .bin .neq (.t 10) (.c (.i .i64 1))⟩,
    ⟨some 12, [], .mov (.t 11)⟩,
    ⟨some 13, [(12, true)], .fld 0 (.t 3)⟩,
    ⟨some 14, [(12, true)], .load none (.t 13)⟩,
    ⟨some 15, [(12, true)], .bin .neq (.t 14) (.c (.i .i64 5))⟩,
    ⟨some 16, [], .pick (.t 12) (.t 15) (.c (.b false))⟩,
    ⟨some 5, [], .mov (.t 16)⟩])
  (.seq (.seq (.reg [] [⟨some 17, [], .mov (.t 5)⟩])
    (.ite (.t 17) (.seq (.dreg [([⟨some 19, [], .mov (.t 0)⟩,
        ⟨some 20, [], .nilck (.t 19)⟩,
        ⟨some 21, [], .fld 3 (.t 20)⟩,
        ⟨some 22, [], .load none (.t 21)⟩,
        ⟨some 23, [], .fld 2 (.t 3)⟩,
        ⟨some 24, [], .load none (.t 23)⟩,
        ⟨some 25, [], .look 0 (.agg [.i .i64 0, .s [], .i .i64 0]) true (.t 22) (.t 24)⟩,
        ⟨some 18, [], .mov (.t 25)⟩,
        ⟨some 26, [], .ext 0 (.t 18)⟩,
        ⟨some 27, [], .ext 1 (.t 18)⟩],
        ⟨some 6, [], .alloc 23 [.i .i64 0, .s [], .i .i64 0]⟩,
        [⟨some 20, [], .nilck (.t 19)⟩,
        ⟨some 21, [], .fld 3 (.t 20)⟩,
        ⟨some 22, [], .load none (.t 21)⟩,
        ⟨some 23, [], .fld 2 (.t 3)⟩,
        ⟨some 24, [], .load none (.t 23)⟩,
        ⟨some 25, [], .look 0 (.agg [.i .i64 0, .s [], .i .i64 0]) true (.t 22) (.t 24)⟩]),
        ([],
        ⟨none, [], .store 3 [none, none, none] (.t 6) (.t 26)⟩,
        [])] [] [] [⟨some 7, [], .mov (.t 27)⟩])
      (.seq (.dreg [([⟨some 28, [], .mov (.t 7)⟩,
         ⟨some 29, [], .mov (.t 28)⟩,
         ⟨some 30, [(29, true)], .fld 0 (.t 3)⟩,
         ⟨some 31, [(29, true)], .load none (.t 30)⟩,
         ⟨some 32, [(29, true)], .bin .neq (.t 31) (.c (.i .i64 3))⟩,
         ⟨some 33, [(29, true)], .mov (.t 32)⟩,
         ⟨some 34, [(29, true), (33, false)], .fld 0 (.t 6)⟩,
         ⟨some 35, [(29, true), (33, false)], .load none (.t 34)⟩,
         ⟨some 36, [(29, true), (33, false)], .bin .neq (.t 35) (.c (.i .i64 2))⟩,
         ⟨some 37, [(29, true)], .pick (.t 33) (.c (.b true)) (.t 36)⟩,
         ⟨some 38, [(29, true)], .mov (.t 37)⟩,
         ⟨some 39, [(29, true), (38, false)], .fld 1 (.t 6)⟩,
         ⟨some 40, [(29, true), (38, false)], .load none (.t 39)⟩,
         ⟨some 42, [(29, true), (38, false)], .fld 1 (.t 3)⟩,
         ⟨some 43, [(29, true), (38, false)], .load none (.t 42)⟩],
         ⟨some 41, [(29, true), (38, false)], .call 169 [.t 40]⟩,
         [⟨some 42, [(29, true), (38, false)], .fld 1 (.t 3)⟩,
         ⟨some 43, [(29, true), (38, false)], .load none (.t 42)⟩])] [] [30, 31, 32, 33, 34, 35, 36, 37, 38, 39, 40, 41, 42, 43, 44, 45] [⟨some 44, [(29, true), (38, false)], .bin .neq (.t 41) (.t 43)⟩,
         ⟨some 45, [(29, true)], .pick (.t 38) (.c (.b true)) (.t 44)⟩,
         ⟨some 46, [], .pick (.t 29) (.t 45) (.c (.b false))⟩])
       (.ite (.t 46) (.seq (.reg [] [⟨some 4, [], .mov (.c (.i .i64 7))⟩])
         (.ret))
        (.skip))))
     (.skip)))
   (.seq (.reg [] [⟨some 47, [], .mov (.t 0)⟩,
      ⟨some 48, [], .nilck (.t 47)⟩,
      ⟨some 49, [], .fld 0 (.t 48)⟩,
      ⟨some 50, [], .load none (.t 49)⟩,
      ⟨some 51, [], .len false (.t 50)⟩,
      ⟨some 8, [], .mov (.t 51)⟩])
    (.seq (.seq (.reg [] [⟨some 52, [], .mov (.t 0)⟩,
        ⟨some 53, [], .nilck (.t 52)⟩,
        ⟨some 54, [], .fld 1 (.t 53)⟩,
        ⟨some 55, [], .load none (.t 54)⟩,
        ⟨some 56, [], .len false (.t 55)⟩,
        ⟨some 57, [], .bin .gtr (.t 56) (.c (.i .i64 0))⟩])
      (.ite (.t 57) (.reg [] [⟨some 58, [], .mov (.t 8)⟩,
         ⟨some 59, [], .bin .add (.t 58) (.c (.i .i64 1))⟩,
         ⟨some 8, [], .mov (.t 59)⟩])
       (.skip)))
     (.seq (.seq (.reg [64, 65, 66, 67, 68, 69] [⟨some 60, [], .fld 0 (.t 3)⟩,
         ⟨some 61, [], .load none (.t 60)⟩,
         ⟨some 62, [], .bin .neq (.t 61) (.c (.i .i64 1))⟩,
         ⟨some 63, [], .mov (.t 62)⟩,
         ⟨some 64, [(63, false)], .mov (.t 0)⟩,
         ⟨some 65, [(63, false)], .nilck (.t 64)⟩,
         ⟨some 66, [(63, false)], .fld 1 (.t 65)⟩,
         ⟨some 67, [(63, false)], .load none (.t 66)⟩,
         ⟨some 68, [(63, false)], .len false (.t 67)⟩,
         ⟨some 69, [(63, false)], .bin .eql (.t 68) (.c (.i .i64 0))⟩,
         ⟨some 70, [], .pick (.t 63) (.c (.b true)) (.t 69)⟩])
       (.ite (.t 70) (.reg [] [⟨some 71, [], .mov (.t 8)⟩,
          ⟨some 72, [], .bin .add (.t 71) (.c (.i .i64 1))⟩,
          ⟨some 8, [], .mov (.t 72)⟩])
        (.skip)))
      (.seq (.seq (.reg [76, 77, 78, 79, 80, 81] [⟨some 73, [], .mov (.t 8)⟩,
          ⟨some 74, [], .bin .gtr (.t 73) (.c (.i .i64 512))⟩,
          ⟨some 75, [], .mov (.t 74)⟩,
          ⟨some 76, [(75, false)], .mov (.t 0)⟩,
          ⟨some 77, [(75, false)], .nilck (.t 76)⟩,
          ⟨some 78, [(75, false)], .fld 2 (.t 77)⟩,
          ⟨some 79, [(75, false)], .load none (.t 78)⟩,
          ⟨some 80, [(75, false)], .bin .add (.t 79) (.c (.i .i64 1))⟩,
          ⟨some 81, [(75, false)], .bin .gtr (.t 80) (.c (.i .i64 1024))⟩,
          ⟨some 82, [], .pick (.t 75) (.c (.b true)) (.t 81)⟩])
        (.ite (.t 82) (.seq (.reg [] [⟨some 4, [], .mov (.c (.i .i64 3))⟩])
          (.ret))
         (.skip)))
       (.seq (.reg [] [⟨some 83, [], .mov (.t 0)⟩,
          ⟨some 84, [], .nilck (.t 83)⟩,
          ⟨some 85, [], .fld 2 (.t 84)⟩,
          ⟨some 86, [], .load none (.t 85)⟩,
          ⟨some 87, [], .bin .add (.t 86) (.c (.i .i64 1))⟩,
          ⟨some 88, [], .nilck (.t 83)⟩,
          ⟨some 89, [], .fld 2 (.t 88)⟩,
          ⟨none, [], .store 1 [none] (.t 89) (.t 87)⟩])
        (.seq (.seq (.reg [] [⟨some 90, [], .fld 0 (.t 3)⟩,
            ⟨some 91, [], .load none (.t 90)⟩,
            ⟨some 92, [], .bin .eql (.t 91) (.c (.i .i64 1))⟩])
          (.ite (.t 92) (.seq (.dreg [([⟨some 93, [], .mov (.t 0)⟩,
              ⟨some 94, [], .mov (.t 0)⟩,
              ⟨some 95, [], .nilck (.t 94)⟩,
              ⟨some 96, [], .fld 1 (.t 95)⟩,
              ⟨some 97, [], .load none (.t 96)⟩,
              ⟨some 98, [], .fld 1 (.t 3)⟩,
              ⟨some 99, [], .load none (.t 98)⟩],
              ⟨some 100, [], .apps 5 (.t 97) (.t 99)⟩,
              [])] [] [] [⟨some 101, [], .nilck (.t 93)⟩,
              ⟨some 102, [], .fld 1 (.t 101)⟩,
              ⟨none, [], .store 1 [some 1] (.t 102) (.t 100)⟩])
            (.seq (.reg [] [⟨some 4, [], .mov (.c (.i .i64 0))⟩])
             (.ret)))
           (.skip)))
         (.seq (.seq (.reg [] [⟨some 103, [], .mov (.t 5)⟩])
           (.ite (.t 103) (.dreg [] [⟨some 104, [], .mov (.t 0)⟩,
              ⟨some 105, [], .nilck (.t 104)⟩,
              ⟨some 106, [], .fld 3 (.t 105)⟩,
              ⟨some 107, [], .load none (.t 106)⟩,
              ⟨some 108, [], .fld 2 (.t 3)⟩,
              ⟨some 109, [], .load none (.t 108)⟩,
              ⟨some 110, [], .load (some 3) (.t 3)⟩] [] [⟨none, [], .mupd 0 [none, none, none] (.t 107) (.t 109) (.t 110)⟩])
            (.skip)))
          (.seq (.reg [] [⟨some 111, [], .mov (.t 0)⟩,
             ⟨some 112, [], .call 138 [.t 111]⟩])
           (.seq (.dreg [([⟨some 113, [], .mov (.t 0)⟩,
              ⟨some 114, [], .mov (.t 0)⟩,
              ⟨some 115, [], .nilck (.t 114)⟩,
              ⟨some 116, [], .fld 0 (.t 115)⟩,
              ⟨some 117, [], .load none (.t 116)⟩,
              ⟨some 118, [], .load (some 3) (.t 3)⟩,
              ⟨some 119, [], .bslice 3 [none, none, none] [.t 118]⟩],
              ⟨some 120, [], .app 23 3 32 (.t 117) (.t 119)⟩,
              [])] [] [] [⟨some 121, [], .nilck (.t 113)⟩,
              ⟨some 122, [], .fld 0 (.t 121)⟩,
              ⟨none, [], .store 1 [some 3] (.t 122) (.t 120)⟩])
            (.seq (.reg [] [⟨some 4, [], .mov (.c (.i .i64 0))⟩])
             (.ret)))))))))))))⟩
theorem c137 : cFun Tryz.prog Tryz.f137 = some p137 := by kernel_rfl

def p138 : PFun := ⟨26, [],
 .seq (.reg [] [⟨some 2, [], .mov (.t 0)⟩,
   ⟨some 3, [], .nilck (.t 2)⟩,
   ⟨some 4, [], .fld 1 (.t 3)⟩,
   ⟨some 5, [], .load none (.t 4)⟩,
   ⟨some 6, [], .len false (.t 5)⟩,
   ⟨some 7, [], .bin .gtr (.t 6) (.c (.i .i64 0))⟩])
 (.ite (.t 7) (.seq (.dreg [([⟨some 8, [], .mov (.t 0)⟩,
     ⟨some 9, [], .mov (.t 0)⟩,
     ⟨some 10, [], .nilck (.t 9)⟩,
     ⟨some 11, [], .fld 0 (.t 10)⟩,
     ⟨some 12, [], .load none (.t 11)⟩,
     ⟨some 13, [], .mov (.t 0)⟩,
     ⟨some 14, [], .nilck (.t 13)⟩,
     ⟨some 15, [], .fld 1 (.t 14)⟩,
     ⟨some 16, [], .load none (.t 15)⟩,
     ⟨some 17, [], .b2s (.t 16)⟩,
     ⟨some 18, [], .build [.i .i64 0, .s [], .i .i64 0] [(0, 1, .c (.i .i64 1)), (1, 1, .t 17)]⟩,
     ⟨some 19, [], .bslice 3 [none, none, none] [.t 18]⟩],
     ⟨some 20, [], .app 23 3 32 (.t 12) (.t 19)⟩,
     [])] [] [] [⟨some 21, [], .nilck (.t 8)⟩,
     ⟨some 22, [], .fld 0 (.t 21)⟩,
     ⟨none, [], .store 1 [some 3] (.t 22) (.t 20)⟩])
   (.reg [] [⟨some 23, [], .mov (.t 0)⟩,
     ⟨some 24, [], .nilck (.t 23)⟩,
     ⟨some 25, [], .fld 1 (.t 24)⟩,
     ⟨none, [], .store 1 [some 1] (.t 25) (.c .nil)⟩]))
  (.skip))⟩
theorem c138 : cFun Tryz.prog Tryz.f138 = some p138 := by kernel_rfl

def p79_0 : PCode := .seq (.reg [] [⟨some 17, [], .bin .lss (.t 16) (.t 15)⟩])
 (.seq (.ite (.t 17) (.skip)
   (.exit 0))
  (.seq (.block 1 (.seq (.reg [] [⟨some 18, [], .idx 3 (.t 14) (.t 16)⟩,
       ⟨some 19, [], .load (some 3) (.t 18)⟩,
       ⟨some 7, [], .alloc 23 [.i .i64 0, .s [], .i .i64 0]⟩,
       ⟨none, [], .store 3 [none, none, none] (.t 7) (.t 19)⟩])
     (.seq (.reg [] [⟨some 20, [], .fld 2 (.t 7)⟩,
        ⟨some 21, [], .load none (.t 20)⟩,
        ⟨some 22, [], .call 114 [.t 21]⟩,
        ⟨some 8, [], .mov (.t 22)⟩])
      (.seq (.reg [] [⟨some 23, [], .fld 0 (.t 7)⟩,
         ⟨some 24, [], .load none (.t 23)⟩])
       (.block 2 (.seq (.reg [] [⟨some 26, [], .bin .eql (.t 24) (.c (.i .i64 1))⟩,
           ⟨some 25, [], .mov (.t 26)⟩])
         (.ite (.t 25) (.reg [] [⟨some 27, [], .mov (.t 5)⟩,
            ⟨some 28, [], .fld 1 (.t 7)⟩,
            ⟨some 29, [], .load none (.t 28)⟩,
            ⟨some 30, [], .call 115 [.t 27, .t 29]⟩,
            ⟨some 5, [], .mov (.t 30)⟩])
          (.seq (.reg [] [⟨some 32, [], .bin .eql (.t 24) (.c (.i .i64 2))⟩,
             ⟨some 31, [], .mov (.t 32)⟩])
           (.ite (.t 31) (.reg [] [⟨some 33, [], .mov (.t 5)⟩,
              ⟨some 34, [], .mov (.t 8)⟩,
              ⟨some 35, [], .bin .add (.c (.s [60])) (.t 34)⟩,
              ⟨some 36, [], .bin .add (.t 35) (.c (.s [58]))⟩,
              ⟨some 37, [], .fld 1 (.t 7)⟩,
              ⟨some 38, [], .load none (.t 37)⟩,
              ⟨some 39, [], .bin .add (.t 36) (.t 38)⟩,
              ⟨some 40, [], .bin .add (.t 39) (.c (.s [62]))⟩,
              ⟨some 41, [], .apps 5 (.t 33) (.t 40)⟩,
              ⟨some 5, [], .mov (.t 41)⟩])
            (.seq (.reg [] [⟨some 43, [], .bin .eql (.t 24) (.c (.i .i64 3))⟩,
               ⟨some 42, [], .mov (.t 43)⟩])
             (.ite (.t 42) (.reg [] [⟨some 44, [], .mov (.t 5)⟩,
                ⟨some 45, [], .mov (.t 8)⟩,
                ⟨some 46, [], .bin .add (.c (.s [60, 47])) (.t 45)⟩,
                ⟨some 47, [], .bin .add (.t 46) (.c (.s [58]))⟩,
                ⟨some 48, [], .fld 1 (.t 7)⟩,
                ⟨some 49, [], .load none (.t 48)⟩,
                ⟨some 50, [], .bin .add (.t 47) (.t 49)⟩,
                ⟨some 51, [], .bin .add (.t 50) (.c (.s [62]))⟩,
                ⟨some 52, [], .apps 5 (.t 44) (.t 51)⟩,
                ⟨some 5, [], .mov (.t 52)⟩])
              (.seq (.reg [] [⟨some 54, [], .bin .eql (.t 24) (.c (.i .i64 4))⟩,
                 ⟨some 53, [], .mov (.t 54)⟩])
               (.ite (.t 53) (.reg [] [⟨some 55, [], .mov (.t 5)⟩,
                  ⟨some 56, [], .mov (.t 8)⟩,
                  ⟨some 57, [], .bin .add (.c (.s [60])) (.t 56)⟩,
                  ⟨some 58, [], .bin .add (.t 57) (.c (.s [58]))⟩,
                  ⟨some 59, [], .fld 1 (.t 7)⟩,
                  ⟨some 60, [], .load none (.t 59)⟩,
                  ⟨some 61, [], .bin .add (.t 58) (.t 60)⟩,
                  ⟨some 62, [], .bin .add (.t 61) (.c (.s [47, 62]))⟩,
                  ⟨some 63, [], .apps 5 (.t 55) (.t 62)⟩,
                  ⟨some 5, [], .mov (.t 63)⟩])
                (.seq (.reg [] [⟨some 65, [], .bin .eql (.t 24) (.c (.i .i64 5))⟩,
                   ⟨some 64, [], .mov (.t 65)⟩])
                 (.ite (.t 64) (.reg [] [⟨some 66, [], .mov (.t 5)⟩,
                    ⟨some 67, [], .fld 1 (.t 7)⟩,
                    ⟨some 68, [], .load none (.t 67)⟩,
                    ⟨some 69, [], .bin .add (.c (.s [123])) (.t 68)⟩,
                    ⟨some 70, [], .bin .add (.t 69) (.c (.s [125]))⟩,
                    ⟨some 71, [], .apps 5 (.t 66) (.t 70)⟩,
                    ⟨some 5, [], .mov (.t 71)⟩])
                  (.skip))))))))))))))))
   (.reg [] [⟨some 72, [], .bin .add (.t 16) (.c (.i .i64 1))⟩,
     ⟨some 16, [], .mov (.t 72)⟩])))
def p79 : PFun := ⟨75, [.t 2, .t 3],
 .seq (.reg [] [⟨some 2, [], .mov (.c (.s []))⟩,
   ⟨some 3, [], .mov (.c (.i .i64 0))⟩])
 (.seq (.seq (.reg [] [⟨some 9, [], .mov (.t 0)⟩,
     ⟨some 10, [], .call 100 [.t 9]⟩,
     ⟨some 4, [], .mov (.t 10)⟩])
   (.seq (.reg [] [⟨some 11, [], .mov (.t 4)⟩,
      ⟨some 12, [], .bin .neq (.t 11) (.c (.i .i64 0))⟩])
    (.ite (.t 12) (.seq (.reg [] [⟨some 13, [], .mov (.t 4)⟩,
        ⟨some 2, [], .mov (.c (.s []))⟩,
        ⟨some 3, [], .mov (.t 13)⟩])
      (.ret))
     (.skip))))
  (.seq (.reg [] [⟨some 5, [], .mov (.c .nil)⟩])
   (.seq (.seq (.reg [] [⟨some 14, [], .mov (.t 0)⟩,
       ⟨some 15, [], .len false (.t 14)⟩,
       ⟨some 16, [], .mov (.c (.i .i64 0))⟩])
     (.block 0 (.loop p79_0)))
    (.seq (.reg [] [⟨some 73, [], .mov (.t 5)⟩,
       ⟨some 74, [], .b2s (.t 73)⟩,
       ⟨some 2, [], .mov (.t 74)⟩,
       ⟨some 3, [], .mov (.c (.i .i64 0))⟩])
     (.ret)))))⟩
theorem c79 : cFun Tryz.prog Tryz.f79 = some p79 := by kernel_rfl

def p36 : PFun := ⟨11, [.t 2],
 .seq (.reg [] [⟨some 2, [], .mov (.c (.b false))⟩])
 (.seq (.reg [] [⟨some 6, [], .mov (.t 0)⟩,
    ⟨some 7, [], .call 74 [.t 6]⟩,
    ⟨some 5, [], .mov (.t 7)⟩,
    ⟨some 8, [], .ext 0 (.t 5)⟩,
    ⟨some 9, [], .ext 1 (.t 5)⟩,
    ⟨some 3, [], .mov (.t 8)⟩,
    ⟨some 4, [], .mov (.t 9)⟩])
  (.seq (.reg [] [⟨some 10, [], .mov (.t 4)⟩,
     ⟨some 2, [], .mov (.t 10)⟩])
   (.ret)))⟩
theorem c36 : cFun Tryz.prog Tryz.f36 = some p36 := by kernel_rfl

def p37 : PFun := ⟨33, [.t 4],
 .seq (.reg [] [⟨some 4, [], .mov (.c (.i .i64 0))⟩])
 (.seq (.reg [] [⟨some 9, [], .mov (.t 0)⟩,
    ⟨some 10, [], .call 74 [.t 9]⟩,
    ⟨some 8, [], .mov (.t 10)⟩,
    ⟨some 11, [], .ext 0 (.t 8)⟩,
    ⟨some 12, [], .ext 1 (.t 8)⟩,
    ⟨some 5, [], .mov (.t 11)⟩,
    ⟨some 6, [], .mov (.t 12)⟩])
  (.seq (.reg [] [⟨some 13, [], .mov (.t 5)⟩,
     ⟨some 14, [], .mov (.t 1)⟩,
     ⟨some 15, [], .call 75 [.t 13, .t 14]⟩,
     ⟨some 7, [], .mov (.t 15)⟩])
   (.seq (.seq (.reg [19, 20, 21, 22, 25, 26, 27, 28, 29, 30] [⟨some 16, [], .mov (.t 6)⟩,
       ⟨some 17, [], .un .not (.t 16)⟩,
       ⟨some 18, [], .mov (.t 17)⟩,
       ⟨some 19, [(18, false)], .mov (.t 7)⟩,
       ⟨some 20, [(18, false)], .mov (.t 5)⟩,
       ⟨some 21, [(18, false)], .len false (.t 20)⟩,
       ⟨some 22, [(18, false)], .bin .eql (.t 19) (.t 21)⟩,
       ⟨some 23, [], .pick (.t 18) (.c (.b true)) (.t 22)⟩,
       ⟨some 24, [], .mov (.t 23)⟩,
       ⟨some 25, [(24, false)], .mov (.t 5)⟩,
       ⟨some 26, [(24, false)], .mov (.t 7)⟩,
       ⟨some 27, [(24, false)], .idx 1 (.t 25) (.t 26)⟩,
       ⟨some 28, [(24, false)], .load none (.t 27)⟩,
       ⟨some 29, [(24, false)], .mov (.t 1)⟩,
       ⟨some 30, [(24, false)], .bin .neq (.t 28) (.t 29)⟩,
       ⟨some 31, [], .pick (.t 24) (.c (.b true)) (.t 30)⟩])
     (.ite (.t 31) (.seq (.reg [] [⟨some 4, [], .mov (.c (.i .i64 (-1)))⟩])
       (.ret))
      (.skip)))
    (.seq (.reg [] [⟨some 32, [], .mov (.t 7)⟩,
       ⟨some 4, [], .mov (.t 32)⟩])
     (.ret)))))⟩
theorem c37 : cFun Tryz.prog Tryz.f37 = some p37 := by kernel_rfl

def p74_0 : PCode := .seq (.reg [] [⟨some 13, [], .bin .lss (.t 12) (.t 11)⟩])
 (.seq (.ite (.t 13) (.skip)
   (.exit 0))
  (.seq (.block 1 (.seq (.reg [] [⟨some 14, [], .mov (.t 12)⟩,
       ⟨some 15, [], .idx 8 (.t 10) (.t 12)⟩,
       ⟨some 16, [], .load (some 8) (.t 15)⟩,
       ⟨some 6, [], .alloc 26 [.nil, .nil, .s [], .s [], .s [], .s [], .i .i64 0, .i .i64 0]⟩,
       ⟨some 5, [], .mov (.t 14)⟩,
       ⟨none, [], .store 8 [some 3, some 3, none, none, none, none, none, none] (.t 6) (.t 16)⟩])
     (.seq (.seq (.reg [] [⟨some 17, [], .load (some 8) (.t 6)⟩,
         ⟨some 18, [], .call 56 [.t 17]⟩,
         ⟨some 19, [], .bin .neq (.t 18) (.c (.i .i64 0))⟩])
       (.ite (.t 19) (.seq (.reg [] [⟨some 2, [], .mov (.c .nil)⟩,
           ⟨some 3, [], .mov (.c (.b false))⟩])
         (.ret))
        (.skip)))
      (.seq (.reg [] [⟨some 20, [], .mov (.t 4)⟩,
         ⟨some 21, [], .load (some 8) (.t 6)⟩,
         ⟨some 22, [], .call 108 [.t 21]⟩,
         ⟨some 23, [], .bslice 1 [none] [.t 22]⟩,
         ⟨some 24, [], .app 9 1 16 (.t 20) (.t 23)⟩,
         ⟨some 4, [], .mov (.t 24)⟩])
       (.seq (.dreg [] [⟨some 25, [], .mov (.t 5)⟩,
          ⟨some 26, [], .bin .gtr (.t 25) (.c (.i .i64 0))⟩,
          ⟨some 27, [], .mov (.t 26)⟩,
          ⟨some 28, [(27, true)], .mov (.t 4)⟩,
          ⟨some 29, [(27, true)], .mov (.t 5)⟩,
          ⟨some 30, [(27, true)], .bin .sub (.t 29) (.c (.i .i64 1))⟩,
          ⟨some 31, [(27, true)], .idx 1 (.t 28) (.t 30)⟩,
          ⟨some 32, [(27, true)], .load none (.t 31)⟩,
          ⟨some 33, [(27, true)], .mov (.t 4)⟩,
          ⟨some 34, [(27, true)], .mov (.t 5)⟩,
          ⟨some 35, [(27, true)], .idx 1 (.t 33) (.t 34)⟩,
          ⟨some 36, [(27, true)], .load none (.t 35)⟩] [28, 29, 30, 31, 32, 33, 34, 35, 36, 37] [⟨some 37, [(27, true)], .bin .geq (.t 32) (.t 36)⟩,
          ⟨some 38, [], .pick (.t 27) (.t 37) (.c (.b false))⟩])
        (.ite (.t 38) (.seq (.reg [] [⟨some 2, [], .mov (.c .nil)⟩,
            ⟨some 3, [], .mov (.c (.b false))⟩])
          (.ret))
         (.skip)))))))
   (.reg [] [⟨some 39, [], .bin .add (.t 12) (.c (.i .i64 1))⟩,
     ⟨some 12, [], .mov (.t 39)⟩])))
def p74 : PFun := ⟨41, [.t 2, .t 3],
 .seq (.reg [] [⟨some 2, [], .mov (.c .nil)⟩,
   ⟨some 3, [], .mov (.c (.b false))⟩])
 (.seq (.seq (.reg [] [⟨some 7, [], .mov (.t 0)⟩,
     ⟨some 8, [], .len false (.t 7)⟩,
     ⟨some 9, [], .bin .gtr (.t 8) (.c (.i .i64 1024))⟩])
   (.ite (.t 9) (.seq (.reg [] [⟨some 2, [], .mov (.c .nil)⟩,
       ⟨some 3, [], .mov (.c (.b false))⟩])
     (.ret))
    (.skip)))
  (.seq (.reg [] [⟨some 4, [], .mov (.c .nil)⟩])
   (.seq (.seq (.reg [] [⟨some 10, [], .mov (.t 0)⟩,
       ⟨some 11, [], .len false (.t 10)⟩,
       ⟨some 12, [], .mov (.c (.i .i64 0))⟩])
     (.block 0 (.loop p74_0)))
    (.seq (.reg [] [⟨some 40, [], .mov (.t 4)⟩,
       ⟨some 2, [], .mov (.t 40)⟩,
       ⟨some 3, [], .mov (.c (.b true))⟩])
     (.ret)))))⟩
theorem c74 : cFun Tryz.prog Tryz.f74 = some p74 := by kernel_rfl

end Go.Proofs.Tryz
