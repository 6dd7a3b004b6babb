/- A part of the proof of the statement of the last text of this claim: for every input the law returns true and leaves its argument as it was. -/
import Derived.Test.YtdhbodgefhojnaaGreatDoorProg
import Derived.KernelRfl
import Derived.Test.YtdhbodgefhojnaaGreatDoorL2
import Derived.Test.YtdhbodgefhojnaaGreatDoorL9
import Derived.Test.YtdhbodgefhojnaaGreatDoorL10
set_option linter.unusedSectionVars false
set_option linter.unusedVariables false
set_option linter.unusedSimpArgs false
set_option linter.constructorNameAsVariable false

namespace Go.Proofs.Tryz
open Go Go.Pm

def p161 : PFun := ⟨9, [.t 2],
 .seq (.reg [] [⟨some 1, [], .box 23 (.t 0)⟩,
   ⟨some 2, [], .mov (.c (.i .i64 0))⟩])
 (.seq (.seq (.reg [] [⟨some 3, [], .fld 0 (.t 1)⟩,
     ⟨some 4, [], .load none (.t 3)⟩,
     ⟨some 5, [], .bin .eql (.t 4) (.c (.i .i64 1))⟩])
   (.ite (.t 5) (.seq (.reg [] [⟨some 6, [], .fld 1 (.t 1)⟩,
       ⟨some 7, [], .load none (.t 6)⟩,
       ⟨some 8, [], .len true (.t 7)⟩,
       ⟨some 2, [], .mov (.t 8)⟩])
     (.ret))
    (.skip)))
  (.seq (.reg [] [⟨some 2, [], .mov (.c (.i .i64 1))⟩])
   (.ret)))⟩
theorem c161 : cFun Tryz.prog Tryz.f161 = some p161 := by kernel_rfl

def p127_0 : PCode := .seq (.reg [] [⟨some 9, [], .bin .lss (.t 8) (.t 7)⟩])
 (.seq (.ite (.t 9) (.skip)
   (.exit 0))
  (.seq (.block 1 (.seq (.reg [] [⟨some 10, [], .idx 3 (.t 6) (.t 8)⟩,
       ⟨some 11, [], .load (some 3) (.t 10)⟩,
       ⟨some 5, [], .alloc 23 [.i .i64 0, .s [], .i .i64 0]⟩,
       ⟨none, [], .store 3 [none, none, none] (.t 5) (.t 11)⟩])
     (.reg [] [⟨some 12, [], .mov (.t 3)⟩,
       ⟨some 13, [], .load (some 3) (.t 5)⟩,
       ⟨some 14, [], .call 161 [.t 13]⟩,
       ⟨some 15, [], .bin .add (.t 12) (.t 14)⟩,
       ⟨some 3, [], .mov (.t 15)⟩])))
   (.reg [] [⟨some 16, [], .bin .add (.t 8) (.c (.i .i64 1))⟩,
     ⟨some 8, [], .mov (.t 16)⟩])))
def p127 : PFun := ⟨18, [.t 2],
 .seq (.reg [] [⟨some 2, [], .mov (.c (.i .i64 0))⟩])
 (.seq (.reg [] [⟨some 3, [], .mov (.c (.i .i64 0))⟩])
  (.seq (.seq (.reg [] [⟨some 6, [], .mov (.t 0)⟩,
      ⟨some 7, [], .len false (.t 6)⟩,
      ⟨some 8, [], .mov (.c (.i .i64 0))⟩])
    (.block 0 (.loop p127_0)))
   (.seq (.reg [] [⟨some 17, [], .mov (.t 3)⟩,
      ⟨some 2, [], .mov (.t 17)⟩])
    (.ret))))⟩
theorem c127 : cFun Tryz.prog Tryz.f127 = some p127 := by kernel_rfl

def p129 : PFun := ⟨16, [.t 2],
 .seq (.reg [] [⟨some 1, [], .box 23 (.t 0)⟩,
   ⟨some 2, [], .mov (.c (.b false))⟩])
 (.seq (.reg [7, 8, 9, 12, 13, 14] [⟨some 3, [], .fld 0 (.t 1)⟩,
    ⟨some 4, [], .load none (.t 3)⟩,
    ⟨some 5, [], .bin .eql (.t 4) (.c (.i .i64 2))⟩,
    ⟨some 6, [], .mov (.t 5)⟩,
    ⟨some 7, [(6, false)], .fld 0 (.t 1)⟩,
    ⟨some 8, [(6, false)], .load none (.t 7)⟩,
    ⟨some 9, [(6, false)], .bin .eql (.t 8) (.c (.i .i64 3))⟩,
    ⟨some 10, [], .pick (.t 6) (.c (.b true)) (.t 9)⟩,
    ⟨some 11, [], .mov (.t 10)⟩,
    ⟨some 12, [(11, false)], .fld 0 (.t 1)⟩,
    ⟨some 13, [(11, false)], .load none (.t 12)⟩,
    ⟨some 14, [(11, false)], .bin .eql (.t 13) (.c (.i .i64 4))⟩,
    ⟨some 15, [], .pick (.t 11) (.c (.b true)) (.t 14)⟩,
    ⟨some 2, [], .mov (.t 15)⟩])
  (.ret))⟩
theorem c129 : cFun Tryz.prog Tryz.f129 = some p129 := by kernel_rfl

def p163 : PFun := ⟨13, [.t 2],
 .seq (.reg [] [⟨some 2, [], .mov (.c (.s []))⟩])
 (.seq (.reg [] [⟨some 7, [], .mov (.t 0)⟩,
    ⟨some 8, [], .call 182 [.t 7, .c (.s [32])]⟩,
    ⟨some 6, [], .mov (.t 8)⟩,
    ⟨some 9, [], .ext 0 (.t 6)⟩,
    ⟨some 10, [], .ext 1 (.t 6)⟩,
    ⟨some 11, [], .ext 2 (.t 6)⟩,
    ⟨some 3, [], .mov (.t 9)⟩,
    ⟨some 4, [], .mov (.t 10)⟩,
    ⟨some 5, [], .mov (.t 11)⟩])
  (.seq (.reg [] [⟨some 12, [], .mov (.t 3)⟩,
     ⟨some 2, [], .mov (.t 12)⟩])
   (.ret)))⟩
theorem c163 : cFun Tryz.prog Tryz.f163 = some p163 := by kernel_rfl

def p162_0 : PCode := .seq (.seq (.reg [] [⟨some 23, [], .mov (.t 3)⟩,
    ⟨some 24, [], .mov (.t 0)⟩,
    ⟨some 25, [], .len true (.t 24)⟩,
    ⟨some 26, [], .bin .lss (.t 23) (.t 25)⟩])
  (.ite (.t 26) (.skip)
   (.exit 0)))
 (.seq (.block 1 (.seq (.reg [34, 35, 36, 37, 40, 41, 42, 43, 44] [⟨some 29, [], .mov (.t 0)⟩,
      ⟨some 30, [], .mov (.t 3)⟩,
      ⟨some 31, [], .sidx (.t 29) (.t 30)⟩,
      ⟨some 32, [], .bin .lss (.t 31) (.c (.i .u8 32))⟩,
      ⟨some 33, [], .mov (.t 32)⟩,
      ⟨some 34, [(33, false)], .mov (.t 0)⟩,
      ⟨some 35, [(33, false)], .mov (.t 3)⟩,
      ⟨some 36, [(33, false)], .sidx (.t 34) (.t 35)⟩,
      ⟨some 37, [(33, false)], .bin .gtr (.t 36) (.c (.i .u8 126))⟩,
      ⟨some 38, [], .pick (.t 33) (.c (.b true)) (.t 37)⟩,
      ⟨some 39, [], .mov (.t 38)⟩,
      ⟨some 40, [(39, false)], .mov (.t 0)⟩,
      ⟨some 41, [(39, false)], .mov (.t 3)⟩,
      ⟨some 42, [(39, false)], .sidx (.t 40) (.t 41)⟩,
      ⟨some 43, [(39, false)], .call 167 [.c (.s [60, 62, 123, 125]), .t 42]⟩,
      ⟨some 44, [(39, false)], .bin .geq (.t 43) (.c (.i .i64 0))⟩,
      ⟨some 45, [], .pick (.t 39) (.c (.b true)) (.t 44)⟩])
    (.ite (.t 45) (.seq (.reg [] [⟨some 2, [], .mov (.c (.b false))⟩])
      (.ret))
     (.skip))))
  (.reg [] [⟨some 27, [], .mov (.t 3)⟩,
    ⟨some 28, [], .bin .add (.t 27) (.c (.i .i64 1))⟩,
    ⟨some 3, [], .mov (.t 28)⟩]))
def p162 : PFun := ⟨63, [.t 2],
 .seq (.reg [] [⟨some 2, [], .mov (.c (.b false))⟩])
 (.seq (.seq (.reg [11, 12, 13, 16, 17, 18, 19, 20, 21] [⟨some 7, [], .mov (.t 0)⟩,
     ⟨some 8, [], .len true (.t 7)⟩,
     ⟨some 9, [], .bin .gtr (.t 8) (.c (.i .i64 64))⟩,
     ⟨some 10, [], .mov (.t 9)⟩,
     ⟨some 11, [(10, false)], .mov (.t 0)⟩,
     ⟨some 12, [(10, false)], .len true (.t 11)⟩,
     ⟨some 13, [(10, false)], .bin .eql (.t 12) (.c (.i .i64 0))⟩,
     ⟨some 14, [], .pick (.t 10) (.c (.b true)) (.t 13)⟩,
     ⟨some 15, [], .mov (.t 14)⟩,
     ⟨some 16, [(15, false)], .mov (.t 0)⟩,
     ⟨some 17, [(15, false)], .mov (.t 0)⟩,
     ⟨some 18, [(15, false)], .len true (.t 17)⟩,
     ⟨some 19, [(15, false)], .bin .sub (.t 18) (.c (.i .i64 1))⟩,
     ⟨some 20, [(15, false)], .sidx (.t 16) (.t 19)⟩,
     ⟨some 21, [(15, false)], .bin .eql (.t 20) (.c (.i .u8 47))⟩,
     ⟨some 22, [], .pick (.t 15) (.c (.b true)) (.t 21)⟩])
   (.ite (.t 22) (.seq (.reg [] [⟨some 2, [], .mov (.c (.b false))⟩])
     (.ret))
    (.skip)))
  (.seq (.seq (.reg [] [⟨some 3, [], .mov (.c (.i .i64 0))⟩])
    (.block 0 (.loop p162_0)))
   (.seq (.reg [] [⟨some 47, [], .mov (.t 0)⟩,
      ⟨some 48, [], .call 182 [.t 47, .c (.s [32])]⟩,
      ⟨some 46, [], .mov (.t 48)⟩,
      ⟨some 49, [], .ext 0 (.t 46)⟩,
      ⟨some 50, [], .ext 1 (.t 46)⟩,
      ⟨some 51, [], .ext 2 (.t 46)⟩,
      ⟨some 4, [], .mov (.t 49)⟩,
      ⟨some 5, [], .mov (.t 50)⟩,
      ⟨some 6, [], .mov (.t 51)⟩])
    (.seq (.reg [55, 56, 57, 58, 59, 60, 61] [⟨some 52, [], .mov (.t 4)⟩,
       ⟨some 53, [], .call 104 [.t 52]⟩,
       ⟨some 54, [], .mov (.t 53)⟩,
       ⟨some 55, [(54, true)], .mov (.t 6)⟩,
       ⟨some 56, [(54, true)], .un .not (.t 55)⟩,
       ⟨some 57, [(54, true)], .mov (.t 56)⟩,
       ⟨some 58, [(54, true), (57, false)], .mov (.t 5)⟩,
       ⟨some 59, [(54, true), (57, false)], .len true (.t 58)⟩,
       ⟨some 60, [(54, true), (57, false)], .bin .gtr (.t 59) (.c (.i .i64 0))⟩,
       ⟨some 61, [(54, true)], .pick (.t 57) (.c (.b true)) (.t 60)⟩,
       ⟨some 62, [], .pick (.t 54) (.t 61) (.c (.b false))⟩,
       ⟨some 2, [], .mov (.t 62)⟩])
     (.ret)))))⟩
theorem c162 : cFun Tryz.prog Tryz.f162 = some p162 := by kernel_rfl

def p128 : PFun := ⟨76, [.t 4],
 .seq (.reg [] [⟨some 4, [], .mov (.c (.b false))⟩])
 (.seq (.reg [] [⟨some 6, [], .mov (.t 0)⟩,
    ⟨some 7, [], .mov (.t 1)⟩,
    ⟨some 8, [], .idx 3 (.t 6) (.t 7)⟩,
    ⟨some 9, [], .load (some 3) (.t 8)⟩,
    ⟨some 5, [], .alloc 23 [.i .i64 0, .s [], .i .i64 0]⟩,
    ⟨none, [], .store 3 [none, none, none] (.t 5) (.t 9)⟩])
  (.seq (.seq (.reg [] [⟨some 10, [], .fld 0 (.t 5)⟩,
      ⟨some 11, [], .load none (.t 10)⟩])
    (.block 0 (.seq (.reg [] [⟨some 13, [], .bin .eql (.t 11) (.c (.i .i64 1))⟩,
        ⟨some 12, [], .mov (.t 13)⟩])
      (.ite (.t 12) (.seq (.reg [18, 19, 20, 23, 24, 25, 26, 27, 28, 29, 30, 31, 32, 33] [⟨some 14, [], .fld 1 (.t 5)⟩,
          ⟨some 15, [], .load none (.t 14)⟩,
          ⟨some 16, [], .bin .neq (.t 15) (.c (.s []))⟩,
          ⟨some 17, [], .mov (.t 16)⟩,
          ⟨some 18, [(17, true)], .fld 2 (.t 5)⟩,
          ⟨some 19, [(17, true)], .load none (.t 18)⟩,
          ⟨some 20, [(17, true)], .bin .eql (.t 19) (.c (.i .i64 0))⟩,
          ⟨some 21, [], .pick (.t 17) (.t 20) (.c (.b false))⟩,
          ⟨some 22, [], .mov (.t 21)⟩,
          ⟨some 23, [(22, true)], .mov (.t 1)⟩,
          ⟨some 24, [(22, true)], .bin .eql (.t 23) (.c (.i .i64 0))⟩,
          ⟨some 25, [(22, true)], .mov (.t 24)⟩,
          ⟨some 26, [(22, true), (25, false)], .mov (.t 0)⟩,
          ⟨some 27, [(22, true), (25, false)], .mov (.t 1)⟩,
          ⟨some 28, [(22, true), (25, false)], .bin .sub (.t 27) (.c (.i .i64 1))⟩,
          ⟨some 29, [(22, true), (25, false)], .idx 3 (.t 26) (.t 28)⟩,
          ⟨some 30, [(22, true), (25, false)], .fld 0 (.t 29)⟩,
          ⟨some 31, [(22, true), (25, false)], .load none (.t 30)⟩,
          ⟨some 32, [(22, true), (25, false)], .bin .neq (.t 31) (.c (.i .i64 1))⟩,
          ⟨some 33, [(22, true)], .pick (.t 25) (.c (.b true)) (.t 32)⟩,
          ⟨some 34, [], .pick (.t 22) (.t 33) (.c (.b false))⟩,
          ⟨some 4, [], .mov (.t 34)⟩])
        (.ret))
       (.seq (.reg [] [⟨some 36, [], .bin .eql (.t 11) (.c (.i .i64 5))⟩,
          ⟨some 35, [], .mov (.t 36)⟩])
        (.ite (.t 35) (.seq (.reg [41, 42, 43] [⟨some 37, [], .fld 1 (.t 5)⟩,
            ⟨some 38, [], .load none (.t 37)⟩,
            ⟨some 39, [], .call 104 [.t 38]⟩,
            ⟨some 40, [], .mov (.t 39)⟩,
            ⟨some 41, [(40, true)], .fld 2 (.t 5)⟩,
            ⟨some 42, [(40, true)], .load none (.t 41)⟩,
            ⟨some 43, [(40, true)], .bin .eql (.t 42) (.c (.i .i64 0))⟩,
            ⟨some 44, [], .pick (.t 40) (.t 43) (.c (.b false))⟩,
            ⟨some 4, [], .mov (.t 44)⟩])
          (.ret))
         (.seq (.seq (.reg [] [⟨some 46, [], .bin .eql (.t 11) (.c (.i .i64 2))⟩,
             ⟨some 45, [], .mov (.t 46)⟩])
           (.ite (.t 45) (.skip)
            (.reg [] [⟨some 47, [], .bin .eql (.t 11) (.c (.i .i64 4))⟩,
              ⟨some 45, [], .mov (.t 47)⟩])))
          (.ite (.t 45) (.seq (.reg [52, 53, 54, 57, 58, 59] [⟨some 48, [], .fld 1 (.t 5)⟩,
              ⟨some 49, [], .load none (.t 48)⟩,
              ⟨some 50, [], .call 162 [.t 49]⟩,
              ⟨some 51, [], .mov (.t 50)⟩,
              ⟨some 52, [(51, true)], .fld 2 (.t 5)⟩,
              ⟨some 53, [(51, true)], .load none (.t 52)⟩,
              ⟨some 54, [(51, true)], .bin .geq (.t 53) (.c (.i .i64 1))⟩,
              ⟨some 55, [], .pick (.t 51) (.t 54) (.c (.b false))⟩,
              ⟨some 56, [], .mov (.t 55)⟩,
              ⟨some 57, [(56, true)], .fld 2 (.t 5)⟩,
              ⟨some 58, [(56, true)], .load none (.t 57)⟩,
              ⟨some 59, [(56, true)], .bin .leq (.t 58) (.c (.i .i64 999))⟩,
              ⟨some 60, [], .pick (.t 56) (.t 59) (.c (.b false))⟩,
              ⟨some 4, [], .mov (.t 60)⟩])
            (.ret))
           (.seq (.reg [] [⟨some 62, [], .bin .eql (.t 11) (.c (.i .i64 3))⟩,
              ⟨some 61, [], .mov (.t 62)⟩])
            (.ite (.t 61) (.seq (.reg [67, 68, 69, 72, 73, 74] [⟨some 63, [], .fld 1 (.t 5)⟩,
                ⟨some 64, [], .load none (.t 63)⟩,
                ⟨some 65, [], .call 104 [.t 64]⟩,
                ⟨some 66, [], .mov (.t 65)⟩,
                ⟨some 67, [(66, true)], .fld 2 (.t 5)⟩,
                ⟨some 68, [(66, true)], .load none (.t 67)⟩,
                ⟨some 69, [(66, true)], .bin .geq (.t 68) (.c (.i .i64 1))⟩,
                ⟨some 70, [], .pick (.t 66) (.t 69) (.c (.b false))⟩,
                ⟨some 71, [], .mov (.t 70)⟩,
                ⟨some 72, [(71, true)], .fld 2 (.t 5)⟩,
                ⟨some 73, [(71, true)], .load none (.t 72)⟩,
                ⟨some 74, [(71, true)], .bin .leq (.t 73) (.c (.i .i64 999))⟩,
                ⟨some 75, [], .pick (.t 71) (.t 74) (.c (.b false))⟩,
                ⟨some 4, [], .mov (.t 75)⟩])
              (.ret))
             (.skip)))))))))))
   (.seq (.reg [] [⟨some 4, [], .mov (.c (.b false))⟩])
    (.ret))))⟩
theorem c128 : cFun Tryz.prog Tryz.f128 = some p128 := by kernel_rfl

def p130_0 : PCode := .seq (.reg [] [⟨some 10, [], .bin .lss (.t 9) (.t 8)⟩])
 (.seq (.ite (.t 10) (.skip)
   (.exit 0))
  (.seq (.block 1 (.seq (.reg [] [⟨some 11, [], .idx 3 (.t 7) (.t 9)⟩,
       ⟨some 12, [], .load (some 3) (.t 11)⟩,
       ⟨some 6, [], .alloc 23 [.i .i64 0, .s [], .i .i64 0]⟩,
       ⟨none, [], .store 3 [none, none, none] (.t 6) (.t 12)⟩])
     (.seq (.seq (.reg [17, 18, 19, 20, 21] [⟨some 13, [], .load (some 3) (.t 6)⟩,
         ⟨some 14, [], .call 129 [.t 13]⟩,
         ⟨some 15, [], .un .not (.t 14)⟩,
         ⟨some 16, [], .mov (.t 15)⟩,
         ⟨some 17, [(16, false)], .fld 2 (.t 6)⟩,
         ⟨some 18, [(16, false)], .load none (.t 17)⟩,
         ⟨some 19, [(16, false)], .fld 2 (.t 3)⟩,
         ⟨some 20, [(16, false)], .load none (.t 19)⟩,
         ⟨some 21, [(16, false)], .bin .neq (.t 18) (.t 20)⟩,
         ⟨some 22, [], .pick (.t 16) (.c (.b true)) (.t 21)⟩])
       (.ite (.t 22) (.exit 1)
        (.skip)))
      (.seq (.dreg [([⟨some 23, [], .fld 0 (.t 3)⟩,
         ⟨some 24, [], .load none (.t 23)⟩,
         ⟨some 25, [], .bin .neq (.t 24) (.c (.i .i64 3))⟩,
         ⟨some 26, [], .mov (.t 25)⟩,
         ⟨some 27, [(26, false)], .fld 0 (.t 6)⟩,
         ⟨some 28, [(26, false)], .load none (.t 27)⟩,
         ⟨some 29, [(26, false)], .bin .neq (.t 28) (.c (.i .i64 2))⟩,
         ⟨some 30, [], .pick (.t 26) (.c (.b true)) (.t 29)⟩,
         ⟨some 31, [], .mov (.t 30)⟩,
         ⟨some 32, [(31, false)], .fld 1 (.t 6)⟩,
         ⟨some 33, [(31, false)], .load none (.t 32)⟩,
         ⟨some 35, [(31, false)], .fld 1 (.t 3)⟩,
         ⟨some 36, [(31, false)], .load none (.t 35)⟩],
         ⟨some 34, [(31, false)], .call 163 [.t 33]⟩,
         [⟨some 35, [(31, false)], .fld 1 (.t 3)⟩,
         ⟨some 36, [(31, false)], .load none (.t 35)⟩])] [] [27, 28, 29, 32, 33, 34, 35, 36, 37] [⟨some 37, [(31, false)], .bin .neq (.t 34) (.t 36)⟩,
         ⟨some 38, [], .pick (.t 31) (.c (.b true)) (.t 37)⟩])
       (.ite (.t 38) (.seq (.reg [] [⟨some 4, [], .mov (.c (.b false))⟩])
         (.ret))
        (.skip))))))
   (.reg [] [⟨some 39, [], .bin .add (.t 9) (.c (.i .i64 1))⟩,
     ⟨some 9, [], .mov (.t 39)⟩])))
def p130 : PFun := ⟨40, [.t 4],
 .seq (.reg [] [⟨some 3, [], .box 23 (.t 1)⟩,
   ⟨some 4, [], .mov (.c (.b false))⟩])
 (.seq (.seq (.reg [] [⟨some 7, [], .mov (.t 0)⟩,
     ⟨some 8, [], .len false (.t 7)⟩,
     ⟨some 9, [], .mov (.c (.i .i64 0))⟩])
   (.block 0 (.loop p130_0)))
  (.seq (.reg [] [⟨some 4, [], .mov (.c (.b true))⟩])
   (.ret)))⟩
theorem c130 : cFun Tryz.prog Tryz.f130 = some p130 := by kernel_rfl

def p100_0 : PCode := .seq (.reg [] [⟨some 16, [], .bin .lss (.t 15) (.t 14)⟩])
 (.seq (.ite (.t 16) (.skip)
   (.exit 0))
  (.seq (.block 1 (.seq (.reg [] [⟨some 17, [], .mov (.t 15)⟩,
       ⟨some 18, [], .idx 3 (.t 13) (.t 15)⟩,
       ⟨some 19, [], .load (some 3) (.t 18)⟩,
       ⟨some 4, [], .alloc 23 [.i .i64 0, .s [], .i .i64 0]⟩,
       ⟨some 3, [], .mov (.t 17)⟩,
       ⟨none, [], .store 3 [none, none, none] (.t 4) (.t 19)⟩])
     (.seq (.seq (.reg [] [⟨some 20, [], .mov (.t 0)⟩,
         ⟨some 21, [], .mov (.t 3)⟩,
         ⟨some 22, [], .call 128 [.t 20, .t 21]⟩,
         ⟨some 23, [], .un .not (.t 22)⟩])
       (.ite (.t 23) (.seq (.reg [] [⟨some 2, [], .mov (.c (.i .i64 1))⟩])
         (.ret))
        (.skip)))
      (.seq (.dreg [([⟨some 24, [], .load (some 3) (.t 4)⟩],
         ⟨some 25, [], .call 129 [.t 24]⟩,
         [])] [⟨some 26, [], .mov (.t 25)⟩,
         ⟨some 27, [(26, true)], .mov (.t 0)⟩,
         ⟨some 28, [(26, true)], .mov (.t 3)⟩,
         ⟨some 29, [(26, true)], .slice 3 (.t 27) none (some (.t 28))⟩,
         ⟨some 30, [(26, true)], .load (some 3) (.t 4)⟩] [27, 28, 29, 30, 31, 32] [⟨some 31, [(26, true)], .call 130 [.t 29, .t 30]⟩,
         ⟨some 32, [(26, true)], .un .not (.t 31)⟩,
         ⟨some 33, [], .pick (.t 26) (.t 32) (.c (.b false))⟩])
       (.ite (.t 33) (.seq (.reg [] [⟨some 2, [], .mov (.c (.i .i64 7))⟩])
         (.ret))
        (.skip))))))
   (.reg [] [⟨some 34, [], .bin .add (.t 15) (.c (.i .i64 1))⟩,
     ⟨some 15, [], .mov (.t 34)⟩])))
def p100 : PFun := ⟨35, [.t 2],
 .seq (.reg [] [⟨some 2, [], .mov (.c (.i .i64 0))⟩])
 (.seq (.seq (.reg [9, 10, 11] [⟨some 5, [], .mov (.t 0)⟩,
     ⟨some 6, [], .len false (.t 5)⟩,
     ⟨some 7, [], .bin .gtr (.t 6) (.c (.i .i64 512))⟩,
     ⟨some 8, [], .mov (.t 7)⟩,
     ⟨some 9, [(8, false)], .mov (.t 0)⟩,
     ⟨some 10, [(8, false)], .call 127 [.t 9]⟩,
     ⟨some 11, [(8, false)], .bin .gtr (.t 10) (.c (.i .i64 1024))⟩,
     ⟨some 12, [], .pick (.t 8) (.c (.b true)) (.t 11)⟩])
   (.ite (.t 12) (.seq (.reg [] [⟨some 2, [], .mov (.c (.i .i64 3))⟩])
     (.ret))
    (.skip)))
  (.seq (.seq (.reg [] [⟨some 13, [], .mov (.t 0)⟩,
      ⟨some 14, [], .len false (.t 13)⟩,
      ⟨some 15, [], .mov (.c (.i .i64 0))⟩])
    (.block 0 (.loop p100_0)))
   (.seq (.reg [] [⟨some 2, [], .mov (.c (.i .i64 0))⟩])
    (.ret))))⟩
theorem c100 : cFun Tryz.prog Tryz.f100 = some p100 := by kernel_rfl

def p104_0 : PCode := .seq (.seq (.reg [] [⟨some 23, [], .mov (.t 3)⟩,
    ⟨some 24, [], .mov (.t 0)⟩,
    ⟨some 25, [], .len true (.t 24)⟩,
    ⟨some 26, [], .bin .lss (.t 23) (.t 25)⟩])
  (.ite (.t 26) (.skip)
   (.exit 0)))
 (.seq (.block 1 (.seq (.reg [] [⟨some 29, [], .mov (.t 0)⟩,
      ⟨some 30, [], .mov (.t 3)⟩,
      ⟨some 31, [], .sidx (.t 29) (.t 30)⟩,
      ⟨some 4, [], .mov (.t 31)⟩])
    (.seq (.reg [35, 36, 39, 40, 41, 42, 43, 44, 47, 48] [⟨some 32, [], .mov (.t 4)⟩,
       ⟨some 33, [], .bin .geq (.t 32) (.c (.i .u8 97))⟩,
       ⟨some 34, [], .mov (.t 33)⟩,
       ⟨some 35, [(34, true)], .mov (.t 4)⟩,
       ⟨some 36, [(34, true)], .bin .leq (.t 35) (.c (.i .u8 122))⟩,
       ⟨some 37, [], .pick (.t 34) (.t 36) (.c (.b false))⟩,
       ⟨some 38, [], .mov (.t 37)⟩,
       ⟨some 39, [(38, false)], .mov (.t 4)⟩,
       ⟨some 40, [(38, false)], .bin .geq (.t 39) (.c (.i .u8 48))⟩,
       ⟨some 41, [(38, false)], .mov (.t 40)⟩,
       ⟨some 42, [(38, false), (41, true)], .mov (.t 4)⟩,
       ⟨some 43, [(38, false), (41, true)], .bin .leq (.t 42) (.c (.i .u8 57))⟩,
       ⟨some 44, [(38, false)], .pick (.t 41) (.t 43) (.c (.b false))⟩,
       ⟨some 45, [], .pick (.t 38) (.c (.b true)) (.t 44)⟩,
       ⟨some 46, [], .mov (.t 45)⟩,
       ⟨some 47, [(46, false)], .mov (.t 4)⟩,
       ⟨some 48, [(46, false)], .bin .eql (.t 47) (.c (.i .u8 45))⟩,
       ⟨some 49, [], .pick (.t 46) (.c (.b true)) (.t 48)⟩,
       ⟨some 50, [], .un .not (.t 49)⟩])
     (.ite (.t 50) (.seq (.reg [] [⟨some 2, [], .mov (.c (.b false))⟩])
       (.ret))
      (.skip)))))
  (.reg [] [⟨some 27, [], .mov (.t 3)⟩,
    ⟨some 28, [], .bin .add (.t 27) (.c (.i .i64 1))⟩,
    ⟨some 3, [], .mov (.t 28)⟩]))
def p104 : PFun := ⟨51, [.t 2],
 .seq (.reg [] [⟨some 2, [], .mov (.c (.b false))⟩])
 (.seq (.seq (.reg [9, 10, 11, 14, 15, 16, 19, 20, 21] [⟨some 5, [], .mov (.t 0)⟩,
     ⟨some 6, [], .len true (.t 5)⟩,
     ⟨some 7, [], .bin .lss (.t 6) (.c (.i .i64 1))⟩,
     ⟨some 8, [], .mov (.t 7)⟩,
     ⟨some 9, [(8, false)], .mov (.t 0)⟩,
     ⟨some 10, [(8, false)], .len true (.t 9)⟩,
     ⟨some 11, [(8, false)], .bin .gtr (.t 10) (.c (.i .i64 24))⟩,
     ⟨some 12, [], .pick (.t 8) (.c (.b true)) (.t 11)⟩,
     ⟨some 13, [], .mov (.t 12)⟩,
     ⟨some 14, [(13, false)], .mov (.t 0)⟩,
     ⟨some 15, [(13, false)], .sidx (.t 14) (.c (.i .i64 0))⟩,
     ⟨some 16, [(13, false)], .bin .lss (.t 15) (.c (.i .u8 97))⟩,
     ⟨some 17, [], .pick (.t 13) (.c (.b true)) (.t 16)⟩,
     ⟨some 18, [], .mov (.t 17)⟩,
     ⟨some 19, [(18, false)], .mov (.t 0)⟩,
     ⟨some 20, [(18, false)], .sidx (.t 19) (.c (.i .i64 0))⟩,
     ⟨some 21, [(18, false)], .bin .gtr (.t 20) (.c (.i .u8 122))⟩,
     ⟨some 22, [], .pick (.t 18) (.c (.b true)) (.t 21)⟩])
   (.ite (.t 22) (.seq (.reg [] [⟨some 2, [], .mov (.c (.b false))⟩])
     (.ret))
    (.skip)))
  (.seq (.seq (.reg [] [⟨some 3, [], .mov (.c (.i .i64 1))⟩])
    (.block 0 (.loop p104_0)))
   (.seq (.reg [] [⟨some 2, [], .mov (.c (.b true))⟩])
    (.ret))))⟩
theorem c104 : cFun Tryz.prog Tryz.f104 = some p104 := by kernel_rfl

def p175 : PFun := ⟨51, [.t 2],
 .seq (.reg [] [⟨some 2, [], .mov (.c (.i .i64 0))⟩])
 (.seq (.block 0 (.seq (.reg [7, 8, 11, 12, 15, 16] [⟨some 4, [], .mov (.t 0)⟩,
      ⟨some 5, [], .bin .eql (.t 4) (.c (.i .u8 9))⟩,
      ⟨some 6, [], .mov (.t 5)⟩,
      ⟨some 7, [(6, false)], .mov (.t 0)⟩,
      ⟨some 8, [(6, false)], .bin .eql (.t 7) (.c (.i .u8 10))⟩,
      ⟨some 9, [], .pick (.t 6) (.c (.b true)) (.t 8)⟩,
      ⟨some 10, [], .mov (.t 9)⟩,
      ⟨some 11, [(10, false)], .mov (.t 0)⟩,
      ⟨some 12, [(10, false)], .bin .eql (.t 11) (.c (.i .u8 13))⟩,
      ⟨some 13, [], .pick (.t 10) (.c (.b true)) (.t 12)⟩,
      ⟨some 14, [], .mov (.t 13)⟩,
      ⟨some 15, [(14, false)], .mov (.t 0)⟩,
      ⟨some 16, [(14, false)], .bin .eql (.t 15) (.c (.i .u8 32))⟩,
      ⟨some 17, [], .pick (.t 14) (.c (.b true)) (.t 16)⟩,
      ⟨some 3, [], .mov (.t 17)⟩])
    (.ite (.t 3) (.seq (.reg [] [⟨some 2, [], .mov (.c (.i .i64 2))⟩])
      (.ret))
     (.seq (.reg [22, 23] [⟨some 19, [], .mov (.t 0)⟩,
        ⟨some 20, [], .bin .lss (.t 19) (.c (.i .u8 32))⟩,
        ⟨some 21, [], .mov (.t 20)⟩,
        ⟨some 22, [(21, false)], .mov (.t 0)⟩,
        ⟨some 23, [(21, false)], .bin .eql (.t 22) (.c (.i .u8 127))⟩,
        ⟨some 24, [], .pick (.t 21) (.c (.b true)) (.t 23)⟩,
        ⟨some 18, [], .mov (.t 24)⟩])
      (.ite (.t 18) (.seq (.reg [] [⟨some 2, [], .mov (.c (.i .i64 1))⟩])
        (.ret))
       (.seq (.reg [29, 30] [⟨some 26, [], .mov (.t 0)⟩,
          ⟨some 27, [], .bin .geq (.t 26) (.c (.i .u8 48))⟩,
          ⟨some 28, [], .mov (.t 27)⟩,
          ⟨some 29, [(28, true)], .mov (.t 0)⟩,
          ⟨some 30, [(28, true)], .bin .leq (.t 29) (.c (.i .u8 57))⟩,
          ⟨some 31, [], .pick (.t 28) (.t 30) (.c (.b false))⟩,
          ⟨some 25, [], .mov (.t 31)⟩])
        (.ite (.t 25) (.seq (.reg [] [⟨some 2, [], .mov (.c (.i .i64 3))⟩])
          (.ret))
         (.seq (.reg [36, 37, 40, 41, 42, 43, 44, 45, 48, 49] [⟨some 33, [], .mov (.t 0)⟩,
            ⟨some 34, [], .bin .geq (.t 33) (.c (.i .u8 97))⟩,
            ⟨some 35, [], .mov (.t 34)⟩,
            ⟨some 36, [(35, true)], .mov (.t 0)⟩,
            ⟨some 37, [(35, true)], .bin .leq (.t 36) (.c (.i .u8 122))⟩,
            ⟨some 38, [], .pick (.t 35) (.t 37) (.c (.b false))⟩,
            ⟨some 39, [], .mov (.t 38)⟩,
            ⟨some 40, [(39, false)], .mov (.t 0)⟩,
            ⟨some 41, [(39, false)], .bin .geq (.t 40) (.c (.i .u8 65))⟩,
            ⟨some 42, [(39, false)], .mov (.t 41)⟩,
            ⟨some 43, [(39, false), (42, true)], .mov (.t 0)⟩,
            ⟨some 44, [(39, false), (42, true)], .bin .leq (.t 43) (.c (.i .u8 90))⟩,
            ⟨some 45, [(39, false)], .pick (.t 42) (.t 44) (.c (.b false))⟩,
            ⟨some 46, [], .pick (.t 39) (.c (.b true)) (.t 45)⟩,
            ⟨some 47, [], .mov (.t 46)⟩,
            ⟨some 48, [(47, false)], .mov (.t 0)⟩,
            ⟨some 49, [(47, false)], .bin .geq (.t 48) (.c (.i .u8 128))⟩,
            ⟨some 50, [], .pick (.t 47) (.c (.b true)) (.t 49)⟩,
            ⟨some 32, [], .mov (.t 50)⟩])
          (.ite (.t 32) (.seq (.reg [] [⟨some 2, [], .mov (.c (.i .i64 4))⟩])
            (.ret))
           (.skip))))))))))
  (.seq (.reg [] [⟨some 2, [], .mov (.c (.i .i64 5))⟩])
   (.ret)))⟩
theorem c175 : cFun Tryz.prog Tryz.f175 = some p175 := by kernel_rfl

def p51 : PFun := ⟨31, [.t 2],
 .seq (.reg [] [⟨some 1, [], .box 30 (.t 0)⟩,
   ⟨some 2, [], .mov (.c (.i .i64 0))⟩])
 (.seq (.seq (.reg [7, 8, 9, 12, 13, 14, 17, 18, 19, 22, 23, 24, 27, 28, 29] [⟨some 3, [], .fld 0 (.t 1)⟩,
     ⟨some 4, [], .load none (.t 3)⟩,
     ⟨some 5, [], .bin .lss (.t 4) (.c (.i .i64 1))⟩,
     ⟨some 6, [], .mov (.t 5)⟩,
     ⟨some 7, [(6, false)], .fld 0 (.t 1)⟩,
     ⟨some 8, [(6, false)], .load none (.t 7)⟩,
     ⟨some 9, [(6, false)], .bin .gtr (.t 8) (.c (.i .i64 1073741824))⟩,
     ⟨some 10, [], .pick (.t 6) (.c (.b true)) (.t 9)⟩,
     ⟨some 11, [], .mov (.t 10)⟩,
     ⟨some 12, [(11, false)], .fld 1 (.t 1)⟩,
     ⟨some 13, [(11, false)], .load none (.t 12)⟩,
     ⟨some 14, [(11, false)], .bin .lss (.t 13) (.c (.i .i64 0))⟩,
     ⟨some 15, [], .pick (.t 11) (.c (.b true)) (.t 14)⟩,
     ⟨some 16, [], .mov (.t 15)⟩,
     ⟨some 17, [(16, false)], .fld 1 (.t 1)⟩,
     ⟨some 18, [(16, false)], .load none (.t 17)⟩,
     ⟨some 19, [(16, false)], .bin .geq (.t 18) (.c (.i .i64 8))⟩,
     ⟨some 20, [], .pick (.t 16) (.c (.b true)) (.t 19)⟩,
     ⟨some 21, [], .mov (.t 20)⟩,
     ⟨some 22, [(21, false)], .fld 2 (.t 1)⟩,
     ⟨some 23, [(21, false)], .load none (.t 22)⟩,
     ⟨some 24, [(21, false)], .bin .lss (.t 23) (.c (.i .i64 1))⟩,
     ⟨some 25, [], .pick (.t 21) (.c (.b true)) (.t 24)⟩,
     ⟨some 26, [], .mov (.t 25)⟩,
     ⟨some 27, [(26, false)], .fld 2 (.t 1)⟩,
     ⟨some 28, [(26, false)], .load none (.t 27)⟩,
     ⟨some 29, [(26, false)], .bin .gtr (.t 28) (.c (.i .i64 128))⟩,
     ⟨some 30, [], .pick (.t 26) (.c (.b true)) (.t 29)⟩])
   (.ite (.t 30) (.seq (.reg [] [⟨some 2, [], .mov (.c (.i .i64 1))⟩])
     (.ret))
    (.skip)))
  (.seq (.reg [] [⟨some 2, [], .mov (.c (.i .i64 0))⟩])
   (.ret)))⟩
theorem c51 : cFun Tryz.prog Tryz.f51 = some p51 := by kernel_rfl

def p54 : PFun := ⟨22, [.t 4],
 .seq (.reg [] [⟨some 4, [], .mov (.c (.i .i64 0))⟩])
 (.seq (.seq (.reg [8, 9, 10, 11, 14, 15] [⟨some 5, [], .mov (.t 1)⟩,
     ⟨some 6, [], .bin .lss (.t 5) (.c (.i .i64 0))⟩,
     ⟨some 7, [], .mov (.t 6)⟩,
     ⟨some 8, [(7, false)], .mov (.t 1)⟩,
     ⟨some 9, [(7, false)], .mov (.t 0)⟩,
     ⟨some 10, [(7, false)], .len false (.t 9)⟩,
     ⟨some 11, [(7, false)], .bin .geq (.t 8) (.t 10)⟩,
     ⟨some 12, [], .pick (.t 7) (.c (.b true)) (.t 11)⟩,
     ⟨some 13, [], .mov (.t 12)⟩,
     ⟨some 14, [(13, false)], .mov (.t 1)⟩,
     ⟨some 15, [(13, false)], .bin .geq (.t 14) (.c (.i .i64 8))⟩,
     ⟨some 16, [], .pick (.t 13) (.c (.b true)) (.t 15)⟩])
   (.ite (.t 16) (.seq (.reg [] [⟨some 4, [], .mov (.c (.i .i64 0))⟩])
     (.ret))
    (.skip)))
  (.seq (.reg [] [⟨some 17, [], .mov (.t 0)⟩,
     ⟨some 18, [], .mov (.t 1)⟩,
     ⟨some 19, [], .idx 1 (.t 17) (.t 18)⟩,
     ⟨some 20, [], .load none (.t 19)⟩,
     ⟨some 21, [], .max2 (.t 20) (.c (.i .i64 0))⟩,
     ⟨some 4, [], .mov (.t 21)⟩])
   (.ret)))⟩
theorem c54 : cFun Tryz.prog Tryz.f54 = some p54 := by kernel_rfl

def p70 : PFun := ⟨22, [.t 4],
 .seq (.reg [] [⟨some 2, [], .box 30 (.t 0)⟩,
   ⟨some 3, [], .box 30 (.t 1)⟩,
   ⟨some 4, [], .mov (.c (.i .i64 0))⟩])
 (.seq (.dreg [([⟨some 5, [], .fld 0 (.t 2)⟩,
    ⟨some 6, [], .load none (.t 5)⟩,
    ⟨some 7, [], .fld 0 (.t 3)⟩,
    ⟨some 8, [], .load none (.t 7)⟩,
    ⟨some 10, [], .fld 1 (.t 2)⟩,
    ⟨some 11, [], .load none (.t 10)⟩,
    ⟨some 12, [], .fld 1 (.t 3)⟩,
    ⟨some 13, [], .load none (.t 12)⟩,
    ⟨some 15, [], .fld 2 (.t 2)⟩,
    ⟨some 16, [], .load none (.t 15)⟩,
    ⟨some 17, [], .fld 2 (.t 3)⟩,
    ⟨some 18, [], .load none (.t 17)⟩],
    ⟨some 9, [], .call 67 [.t 6, .t 8]⟩,
    [⟨some 10, [], .fld 1 (.t 2)⟩,
    ⟨some 11, [], .load none (.t 10)⟩,
    ⟨some 12, [], .fld 1 (.t 3)⟩,
    ⟨some 13, [], .load none (.t 12)⟩,
    ⟨some 15, [], .fld 2 (.t 2)⟩,
    ⟨some 16, [], .load none (.t 15)⟩,
    ⟨some 17, [], .fld 2 (.t 3)⟩,
    ⟨some 18, [], .load none (.t 17)⟩]),
    ([],
    ⟨some 14, [], .call 67 [.t 11, .t 13]⟩,
    [⟨some 15, [], .fld 2 (.t 2)⟩,
    ⟨some 16, [], .load none (.t 15)⟩,
    ⟨some 17, [], .fld 2 (.t 3)⟩,
    ⟨some 18, [], .load none (.t 17)⟩])] [] [] [⟨some 19, [], .call 67 [.t 16, .t 18]⟩,
    ⟨some 20, [], .bslice 1 [none] [.t 9, .t 14, .t 19]⟩,
    ⟨some 21, [], .call 66 [.t 20]⟩,
    ⟨some 4, [], .mov (.t 21)⟩])
  (.ret))⟩
theorem c70 : cFun Tryz.prog Tryz.f70 = some p70 := by kernel_rfl

def p72 : PFun := ⟨17, [.t 4],
 .seq (.reg [] [⟨some 3, [], .box 30 (.t 1)⟩,
   ⟨some 4, [], .mov (.c (.b false))⟩])
 (.seq (.dreg [([⟨some 5, [], .fld 2 (.t 3)⟩,
    ⟨some 6, [], .load none (.t 5)⟩,
    ⟨some 7, [], .bin .geq (.t 6) (.c (.i .i64 1))⟩,
    ⟨some 8, [], .mov (.t 7)⟩,
    ⟨some 9, [(8, true)], .fld 2 (.t 3)⟩,
    ⟨some 10, [(8, true)], .load none (.t 9)⟩,
    ⟨some 11, [(8, true)], .mov (.t 0)⟩,
    ⟨some 12, [(8, true)], .fld 1 (.t 3)⟩,
    ⟨some 13, [(8, true)], .load none (.t 12)⟩],
    ⟨some 14, [(8, true)], .call 54 [.t 11, .t 13]⟩,
    [⟨some 9, [(8, true)], .fld 2 (.t 3)⟩,
    ⟨some 10, [(8, true)], .load none (.t 9)⟩])] [] [9, 10, 11, 12, 13, 14, 15] [⟨some 15, [(8, true)], .bin .leq (.t 10) (.t 14)⟩,
    ⟨some 16, [], .pick (.t 8) (.t 15) (.c (.b false))⟩,
    ⟨some 4, [], .mov (.t 16)⟩])
  (.ret))⟩
theorem c72 : cFun Tryz.prog Tryz.f72 = some p72 := by kernel_rfl

def p99_0 : PCode := .seq (.reg [] [⟨some 9, [], .bin .lss (.t 8) (.c (.i .i64 8))⟩])
 (.seq (.ite (.t 9) (.skip)
   (.exit 0))
  (.seq (.block 1 (.seq (.reg [] [⟨some 10, [], .mov (.t 8)⟩,
       ⟨some 6, [], .mov (.t 10)⟩])
     (.seq (.reg [] [⟨some 11, [], .mov (.t 0)⟩,
        ⟨some 12, [], .mov (.t 6)⟩,
        ⟨some 13, [], .call 54 [.t 11, .t 12]⟩,
        ⟨some 14, [], .mov (.t 1)⟩,
        ⟨some 15, [], .mov (.t 6)⟩,
        ⟨some 16, [], .call 54 [.t 14, .t 15]⟩,
        ⟨some 17, [], .max2 (.t 13) (.t 16)⟩,
        ⟨some 7, [], .mov (.t 17)⟩])
      (.seq (.reg [] [⟨some 18, [], .mov (.t 4)⟩,
         ⟨some 19, [], .mov (.t 7)⟩,
         ⟨some 20, [], .bslice 1 [none] [.t 19]⟩,
         ⟨some 21, [], .app 3 1 8 (.t 18) (.t 20)⟩,
         ⟨some 4, [], .mov (.t 21)⟩])
       (.seq (.reg [] [⟨some 22, [], .mov (.t 7)⟩,
          ⟨some 23, [], .bin .neq (.t 22) (.c (.i .i64 0))⟩])
        (.ite (.t 23) (.reg [] [⟨some 24, [], .mov (.t 6)⟩,
           ⟨some 25, [], .bin .add (.t 24) (.c (.i .i64 1))⟩,
           ⟨some 5, [], .mov (.t 25)⟩])
         (.skip)))))))
   (.reg [] [⟨some 26, [], .bin .add (.t 8) (.c (.i .i64 1))⟩,
     ⟨some 8, [], .mov (.t 26)⟩])))
def p99 : PFun := ⟨30, [.t 4],
 .seq (.reg [] [⟨some 4, [], .mov (.c .nil)⟩])
 (.seq (.reg [] [⟨some 5, [], .mov (.c (.i .i64 0))⟩])
  (.seq (.seq (.reg [] [⟨some 8, [], .mov (.c (.i .i64 0))⟩])
    (.block 0 (.loop p99_0)))
   (.seq (.reg [] [⟨some 27, [], .mov (.t 4)⟩,
      ⟨some 28, [], .mov (.t 5)⟩,
      ⟨some 29, [], .slice 1 (.t 27) none (some (.t 28))⟩,
      ⟨some 4, [], .mov (.t 29)⟩])
    (.ret))))⟩
theorem c99 : cFun Tryz.prog Tryz.f99 = some p99 := by kernel_rfl

def p53 : PFun := ⟨5, [.t 2],
 .seq (.reg [] [⟨some 2, [], .mov (.c .nil)⟩])
 (.seq (.reg [] [⟨some 3, [], .mov (.t 0)⟩,
    ⟨some 4, [], .call 99 [.t 3, .c .nil]⟩,
    ⟨some 2, [], .mov (.t 4)⟩])
  (.ret))⟩
theorem c53 : cFun Tryz.prog Tryz.f53 = some p53 := by kernel_rfl

def p67 : PFun := ⟨20, [.t 4],
 .seq (.reg [] [⟨some 4, [], .mov (.c (.i .i64 0))⟩])
 (.seq (.reg [] [⟨some 7, [], .mov (.t 0)⟩,
    ⟨some 8, [], .call 110 [.t 7]⟩,
    ⟨some 5, [], .mov (.t 8)⟩])
  (.seq (.reg [] [⟨some 9, [], .mov (.t 1)⟩,
     ⟨some 10, [], .call 110 [.t 9]⟩,
     ⟨some 6, [], .mov (.t 10)⟩])
   (.seq (.seq (.reg [] [⟨some 11, [], .mov (.t 5)⟩])
     (.ite (.t 11) (.seq (.seq (.reg [] [⟨some 12, [], .mov (.t 6)⟩])
        (.ite (.t 12) (.seq (.reg [] [⟨some 4, [], .mov (.c (.i .i64 0))⟩])
          (.ret))
         (.skip)))
       (.seq (.reg [] [⟨some 4, [], .mov (.c (.i .i64 (-1)))⟩])
        (.ret)))
      (.skip)))
    (.seq (.seq (.reg [] [⟨some 13, [], .mov (.t 6)⟩])
      (.ite (.t 13) (.seq (.reg [] [⟨some 4, [], .mov (.c (.i .i64 1))⟩])
        (.ret))
       (.skip)))
     (.seq (.seq (.reg [] [⟨some 14, [], .mov (.t 0)⟩,
         ⟨some 15, [], .mov (.t 1)⟩,
         ⟨some 16, [], .bin .lss (.t 14) (.t 15)⟩])
       (.ite (.t 16) (.seq (.reg [] [⟨some 4, [], .mov (.c (.i .i64 (-1)))⟩])
         (.ret))
        (.skip)))
      (.seq (.seq (.reg [] [⟨some 17, [], .mov (.t 0)⟩,
          ⟨some 18, [], .mov (.t 1)⟩,
          ⟨some 19, [], .bin .gtr (.t 17) (.t 18)⟩])
        (.ite (.t 19) (.seq (.reg [] [⟨some 4, [], .mov (.c (.i .i64 1))⟩])
          (.ret))
         (.skip)))
       (.seq (.reg [] [⟨some 4, [], .mov (.c (.i .i64 0))⟩])
        (.ret))))))))⟩
theorem c67 : cFun Tryz.prog Tryz.f67 = some p67 := by kernel_rfl

def p110 : PFun := ⟨6, [.t 2],
 .seq (.reg [] [⟨some 2, [], .mov (.c (.b false))⟩])
 (.seq (.reg [] [⟨some 3, [], .mov (.t 0)⟩,
    ⟨some 4, [], .mov (.t 0)⟩,
    ⟨some 5, [], .bin .neq (.t 3) (.t 4)⟩,
    ⟨some 2, [], .mov (.t 5)⟩])
  (.ret))⟩
theorem c110 : cFun Tryz.prog Tryz.f110 = some p110 := by kernel_rfl

def p66_0 : PCode := .seq (.reg [] [⟨some 9, [], .bin .lss (.t 8) (.t 7)⟩])
 (.seq (.ite (.t 9) (.skip)
   (.exit 0))
  (.seq (.block 1 (.seq (.reg [] [⟨some 10, [], .idx 1 (.t 6) (.t 8)⟩,
       ⟨some 11, [], .load none (.t 10)⟩,
       ⟨some 5, [], .mov (.t 11)⟩])
     (.seq (.reg [] [⟨some 12, [], .mov (.t 5)⟩,
        ⟨some 13, [], .mov (.t 3)⟩,
        ⟨some 14, [], .bin .neq (.t 12) (.t 13)⟩])
      (.ite (.t 14) (.seq (.reg [] [⟨some 15, [], .mov (.t 5)⟩,
          ⟨some 2, [], .mov (.t 15)⟩])
        (.ret))
       (.skip)))))
   (.reg [] [⟨some 16, [], .bin .add (.t 8) (.c (.i .i64 1))⟩,
     ⟨some 8, [], .mov (.t 16)⟩])))
def p66 : PFun := ⟨18, [.t 2],
 .seq (.reg [] [⟨some 2, [], .mov (.c (.i .i64 0))⟩])
 (.seq (.reg [] [⟨some 3, [], .mov (.c (.i .i64 0))⟩])
  (.seq (.seq (.reg [] [⟨some 6, [], .mov (.t 0)⟩,
      ⟨some 7, [], .len false (.t 6)⟩,
      ⟨some 8, [], .mov (.c (.i .i64 0))⟩])
    (.block 0 (.loop p66_0)))
   (.seq (.reg [] [⟨some 17, [], .mov (.t 3)⟩,
      ⟨some 2, [], .mov (.t 17)⟩])
    (.ret))))⟩
theorem c66 : cFun Tryz.prog Tryz.f66 = some p66 := by kernel_rfl

def p52_0 : PCode := .seq (.reg [] [⟨some 14, [], .bin .lss (.t 13) (.t 12)⟩])
 (.seq (.ite (.t 14) (.skip)
   (.exit 0))
  (.seq (.block 1 (.seq (.reg [] [⟨some 15, [], .mov (.t 13)⟩,
       ⟨some 5, [], .mov (.t 15)⟩])
     (.seq (.dreg [] [⟨some 16, [], .mov (.t 0)⟩,
        ⟨some 17, [], .mov (.t 5)⟩,
        ⟨some 18, [], .idx 1 (.t 16) (.t 17)⟩,
        ⟨some 19, [], .load none (.t 18)⟩,
        ⟨some 20, [], .mov (.t 1)⟩,
        ⟨some 21, [], .mov (.t 5)⟩,
        ⟨some 22, [], .idx 1 (.t 20) (.t 21)⟩,
        ⟨some 23, [], .load none (.t 22)⟩] [] [⟨some 24, [], .bin .neq (.t 19) (.t 23)⟩])
      (.ite (.t 24) (.seq (.reg [] [⟨some 4, [], .mov (.c (.b false))⟩])
        (.ret))
       (.skip)))))
   (.reg [] [⟨some 25, [], .bin .add (.t 13) (.c (.i .i64 1))⟩,
     ⟨some 13, [], .mov (.t 25)⟩])))
def p52 : PFun := ⟨26, [.t 4],
 .seq (.reg [] [⟨some 4, [], .mov (.c (.b false))⟩])
 (.seq (.seq (.reg [] [⟨some 6, [], .mov (.t 0)⟩,
     ⟨some 7, [], .len false (.t 6)⟩,
     ⟨some 8, [], .mov (.t 1)⟩,
     ⟨some 9, [], .len false (.t 8)⟩,
     ⟨some 10, [], .bin .neq (.t 7) (.t 9)⟩])
   (.ite (.t 10) (.seq (.reg [] [⟨some 4, [], .mov (.c (.b false))⟩])
     (.ret))
    (.skip)))
  (.seq (.seq (.reg [] [⟨some 11, [], .mov (.t 0)⟩,
      ⟨some 12, [], .len false (.t 11)⟩,
      ⟨some 13, [], .mov (.c (.i .i64 0))⟩])
    (.block 0 (.loop p52_0)))
   (.seq (.reg [] [⟨some 4, [], .mov (.c (.b true))⟩])
    (.ret))))⟩
theorem c52 : cFun Tryz.prog Tryz.f52 = some p52 := by kernel_rfl

def p182 : PFun := ⟨13, [.t 4, .t 5, .t 6],
 .seq (.reg [] [⟨some 4, [], .mov (.c (.s []))⟩,
   ⟨some 5, [], .mov (.c (.s []))⟩,
   ⟨some 6, [], .mov (.c (.b false))⟩])
 (.seq (.reg [] [⟨some 7, [], .mov (.t 0)⟩,
    ⟨some 8, [], .mov (.t 1)⟩,
    ⟨some 9, [], .call 195 [.t 7, .t 8]⟩,
    ⟨some 10, [], .ext 0 (.t 9)⟩,
    ⟨some 11, [], .ext 1 (.t 9)⟩,
    ⟨some 12, [], .ext 2 (.t 9)⟩,
    ⟨some 4, [], .mov (.t 10)⟩,
    ⟨some 5, [], .mov (.t 11)⟩,
    ⟨some 6, [], .mov (.t 12)⟩])
  (.ret))⟩
theorem c182 : cFun Tryz.prog Tryz.f182 = some p182 := by kernel_rfl

def p167 : PFun := ⟨8, [.t 4],
 .seq (.reg [] [⟨some 4, [], .mov (.c (.i .i64 0))⟩])
 (.seq (.reg [] [⟨some 5, [], .mov (.t 0)⟩,
    ⟨some 6, [], .mov (.t 1)⟩,
    ⟨some 7, [], .call 184 [.t 5, .t 6]⟩,
    ⟨some 4, [], .mov (.t 7)⟩])
  (.ret))⟩
theorem c167 : cFun Tryz.prog Tryz.f167 = some p167 := by kernel_rfl

def p185 : PFun := ⟨8, [.t 4],
 .seq (.reg [] [⟨some 4, [], .mov (.c (.b false))⟩])
 (.seq (.reg [] [⟨some 5, [], .mov (.t 0)⟩,
    ⟨some 6, [], .mov (.t 1)⟩,
    ⟨some 7, [], .call 197 [.t 5, .t 6]⟩,
    ⟨some 4, [], .mov (.t 7)⟩])
  (.ret))⟩
theorem c185 : cFun Tryz.prog Tryz.f185 = some p185 := by kernel_rfl

def p186 : PFun := ⟨8, [.t 4],
 .seq (.reg [] [⟨some 4, [], .mov (.c (.b false))⟩])
 (.seq (.reg [] [⟨some 5, [], .mov (.t 0)⟩,
    ⟨some 6, [], .mov (.t 1)⟩,
    ⟨some 7, [], .call 198 [.t 5, .t 6]⟩,
    ⟨some 4, [], .mov (.t 7)⟩])
  (.ret))⟩
theorem c186 : cFun Tryz.prog Tryz.f186 = some p186 := by kernel_rfl

def p195 : PFun := ⟨23, [.t 4, .t 5, .t 6],
 .seq (.reg [] [⟨some 4, [], .mov (.c (.s []))⟩,
   ⟨some 5, [], .mov (.c (.s []))⟩,
   ⟨some 6, [], .mov (.c (.b false))⟩])
 (.seq (.seq (.reg [] [⟨some 8, [], .mov (.t 0)⟩,
     ⟨some 9, [], .mov (.t 1)⟩,
     ⟨some 10, [], .call 203 [.t 8, .t 9]⟩,
     ⟨some 7, [], .mov (.t 10)⟩])
   (.seq (.reg [] [⟨some 11, [], .mov (.t 7)⟩,
      ⟨some 12, [], .bin .geq (.t 11) (.c (.i .i64 0))⟩])
    (.ite (.t 12) (.seq (.dreg [] [⟨some 13, [], .mov (.t 0)⟩,
        ⟨some 14, [], .mov (.t 7)⟩,
        ⟨some 15, [], .sslice (.t 13) none (some (.t 14))⟩,
        ⟨some 16, [], .mov (.t 0)⟩,
        ⟨some 17, [], .mov (.t 7)⟩,
        ⟨some 18, [], .mov (.t 1)⟩,
        ⟨some 19, [], .len true (.t 18)⟩,
        ⟨some 20, [], .bin .add (.t 17) (.t 19)⟩,
        ⟨some 21, [], .sslice (.t 16) (some (.t 20)) none⟩,
        ⟨some 4, [], .mov (.t 15)⟩] [] [⟨some 5, [], .mov (.t 21)⟩,
        ⟨some 6, [], .mov (.c (.b true))⟩])
      (.ret))
     (.skip))))
  (.seq (.reg [] [⟨some 22, [], .mov (.t 0)⟩,
     ⟨some 4, [], .mov (.t 22)⟩,
     ⟨some 5, [], .mov (.c (.s []))⟩,
     ⟨some 6, [], .mov (.c (.b false))⟩])
   (.ret)))⟩
theorem c195 : cFun Tryz.prog Tryz.f195 = some p195 := by kernel_rfl

def p197 : PFun := ⟨18, [.t 4],
 .seq (.reg [] [⟨some 4, [], .mov (.c (.b false))⟩])
 (.seq (.reg [11, 12, 13, 14, 15, 16] [⟨some 5, [], .mov (.t 0)⟩,
    ⟨some 6, [], .len true (.t 5)⟩,
    ⟨some 7, [], .mov (.t 1)⟩,
    ⟨some 8, [], .len true (.t 7)⟩,
    ⟨some 9, [], .bin .geq (.t 6) (.t 8)⟩,
    ⟨some 10, [], .mov (.t 9)⟩,
    ⟨some 11, [(10, true)], .mov (.t 0)⟩,
    ⟨some 12, [(10, true)], .mov (.t 1)⟩,
    ⟨some 13, [(10, true)], .len true (.t 12)⟩,
    ⟨some 14, [(10, true)], .sslice (.t 11) none (some (.t 13))⟩,
    ⟨some 15, [(10, true)], .mov (.t 1)⟩,
    ⟨some 16, [(10, true)], .bin .eql (.t 14) (.t 15)⟩,
    ⟨some 17, [], .pick (.t 10) (.t 16) (.c (.b false))⟩,
    ⟨some 4, [], .mov (.t 17)⟩])
  (.ret))⟩
theorem c197 : cFun Tryz.prog Tryz.f197 = some p197 := by kernel_rfl

def p198 : PFun := ⟨21, [.t 4],
 .seq (.reg [] [⟨some 4, [], .mov (.c (.b false))⟩])
 (.seq (.reg [11, 12, 13, 14, 15, 16, 17, 18, 19] [⟨some 5, [], .mov (.t 0)⟩,
    ⟨some 6, [], .len true (.t 5)⟩,
    ⟨some 7, [], .mov (.t 1)⟩,
    ⟨some 8, [], .len true (.t 7)⟩,
    ⟨some 9, [], .bin .geq (.t 6) (.t 8)⟩,
    ⟨some 10, [], .mov (.t 9)⟩,
    ⟨some 11, [(10, true)], .mov (.t 0)⟩,
    ⟨some 12, [(10, true)], .mov (.t 0)⟩,
    ⟨some 13, [(10, true)], .len true (.t 12)⟩,
    ⟨some 14, [(10, true)], .mov (.t 1)⟩,
    ⟨some 15, [(10, true)], .len true (.t 14)⟩,
    ⟨some 16, [(10, true)], .bin .sub (.t 13) (.t 15)⟩,
    ⟨some 17, [(10, true)], .sslice (.t 11) (some (.t 16)) none⟩,
    ⟨some 18, [(10, true)], .mov (.t 1)⟩,
    ⟨some 19, [(10, true)], .bin .eql (.t 17) (.t 18)⟩,
    ⟨some 20, [], .pick (.t 10) (.t 19) (.c (.b false))⟩,
    ⟨some 4, [], .mov (.t 20)⟩])
  (.ret))⟩
theorem c198 : cFun Tryz.prog Tryz.f198 = some p198 := by kernel_rfl

def p169 : PFun := ⟨13, [.t 2],
 .seq (.reg [] [⟨some 2, [], .mov (.c (.s []))⟩])
 (.seq (.reg [] [⟨some 7, [], .mov (.t 0)⟩,
    ⟨some 8, [], .call 182 [.t 7, .c (.s [32])]⟩,
    ⟨some 6, [], .mov (.t 8)⟩,
    ⟨some 9, [], .ext 0 (.t 6)⟩,
    ⟨some 10, [], .ext 1 (.t 6)⟩,
    ⟨some 11, [], .ext 2 (.t 6)⟩,
    ⟨some 3, [], .mov (.t 9)⟩,
    ⟨some 4, [], .mov (.t 10)⟩,
    ⟨some 5, [], .mov (.t 11)⟩])
  (.seq (.reg [] [⟨some 12, [], .mov (.t 3)⟩,
     ⟨some 2, [], .mov (.t 12)⟩])
   (.ret)))⟩
theorem c169 : cFun Tryz.prog Tryz.f169 = some p169 := by kernel_rfl

def p183 : PFun := ⟨23, [.t 2, .t 3],
 .seq (.reg [] [⟨some 2, [], .mov (.c (.i .u8 0))⟩,
   ⟨some 3, [], .mov (.c (.b false))⟩])
 (.seq (.block 0 (.seq (.reg [8, 9] [⟨some 5, [], .mov (.t 0)⟩,
      ⟨some 6, [], .bin .geq (.t 5) (.c (.i .u8 48))⟩,
      ⟨some 7, [], .mov (.t 6)⟩,
      ⟨some 8, [(7, true)], .mov (.t 0)⟩,
      ⟨some 9, [(7, true)], .bin .leq (.t 8) (.c (.i .u8 57))⟩,
      ⟨some 10, [], .pick (.t 7) (.t 9) (.c (.b false))⟩,
      ⟨some 4, [], .mov (.t 10)⟩])
    (.ite (.t 4) (.seq (.reg [] [⟨some 11, [], .mov (.t 0)⟩,
        ⟨some 12, [], .bin .sub (.t 11) (.c (.i .u8 48))⟩,
        ⟨some 2, [], .mov (.t 12)⟩,
        ⟨some 3, [], .mov (.c (.b true))⟩])
      (.ret))
     (.seq (.reg [17, 18] [⟨some 14, [], .mov (.t 0)⟩,
        ⟨some 15, [], .bin .geq (.t 14) (.c (.i .u8 97))⟩,
        ⟨some 16, [], .mov (.t 15)⟩,
        ⟨some 17, [(16, true)], .mov (.t 0)⟩,
        ⟨some 18, [(16, true)], .bin .leq (.t 17) (.c (.i .u8 102))⟩,
        ⟨some 19, [], .pick (.t 16) (.t 18) (.c (.b false))⟩,
        ⟨some 13, [], .mov (.t 19)⟩])
      (.ite (.t 13) (.seq (.reg [] [⟨some 20, [], .mov (.t 0)⟩,
          ⟨some 21, [], .bin .sub (.t 20) (.c (.i .u8 97))⟩,
          ⟨some 22, [], .bin .add (.t 21) (.c (.i .u8 10))⟩,
          ⟨some 2, [], .mov (.t 22)⟩,
          ⟨some 3, [], .mov (.c (.b true))⟩])
        (.ret))
       (.skip))))))
  (.seq (.reg [] [⟨some 2, [], .mov (.c (.i .u8 0))⟩,
     ⟨some 3, [], .mov (.c (.b false))⟩])
   (.ret)))⟩
theorem c183 : cFun Tryz.prog Tryz.f183 = some p183 := by kernel_rfl

def p166 : PFun := ⟨60, [.t 2, .t 3, .t 4],
 .seq (.reg [] [⟨some 2, [], .mov (.c (.i .u8 0))⟩,
   ⟨some 3, [], .mov (.c (.i .i64 0))⟩,
   ⟨some 4, [], .mov (.c (.b false))⟩])
 (.seq (.seq (.reg [] [⟨some 10, [], .mov (.t 0)⟩,
     ⟨some 11, [], .len true (.t 10)⟩,
     ⟨some 12, [], .bin .lss (.t 11) (.c (.i .i64 2))⟩])
   (.ite (.t 12) (.seq (.reg [] [⟨some 2, [], .mov (.c (.i .u8 0))⟩,
       ⟨some 3, [], .mov (.c (.i .i64 0))⟩,
       ⟨some 4, [], .mov (.c (.b false))⟩])
     (.ret))
    (.skip)))
  (.seq (.seq (.reg [] [⟨some 13, [], .mov (.t 0)⟩,
      ⟨some 14, [], .sidx (.t 13) (.c (.i .i64 1))⟩])
    (.block 0 (.seq (.seq (.reg [] [⟨some 16, [], .bin .eql (.t 14) (.c (.i .u8 92))⟩,
         ⟨some 15, [], .mov (.t 16)⟩])
       (.ite (.t 15) (.skip)
        (.seq (.reg [] [⟨some 17, [], .bin .eql (.t 14) (.c (.i .u8 60))⟩,
           ⟨some 15, [], .mov (.t 17)⟩])
         (.ite (.t 15) (.skip)
          (.reg [] [⟨some 18, [], .bin .eql (.t 14) (.c (.i .u8 123))⟩,
            ⟨some 15, [], .mov (.t 18)⟩])))))
      (.ite (.t 15) (.seq (.reg [] [⟨some 19, [], .mov (.t 0)⟩,
          ⟨some 20, [], .sidx (.t 19) (.c (.i .i64 1))⟩,
          ⟨some 2, [], .mov (.t 20)⟩,
          ⟨some 3, [], .mov (.c (.i .i64 2))⟩,
          ⟨some 4, [], .mov (.c (.b true))⟩])
        (.ret))
       (.seq (.reg [] [⟨some 22, [], .bin .eql (.t 14) (.c (.i .u8 110))⟩,
          ⟨some 21, [], .mov (.t 22)⟩])
        (.ite (.t 21) (.seq (.reg [] [⟨some 2, [], .mov (.c (.i .u8 10))⟩,
            ⟨some 3, [], .mov (.c (.i .i64 2))⟩,
            ⟨some 4, [], .mov (.c (.b true))⟩])
          (.ret))
         (.seq (.reg [] [⟨some 24, [], .bin .eql (.t 14) (.c (.i .u8 116))⟩,
            ⟨some 23, [], .mov (.t 24)⟩])
          (.ite (.t 23) (.seq (.reg [] [⟨some 2, [], .mov (.c (.i .u8 9))⟩,
              ⟨some 3, [], .mov (.c (.i .i64 2))⟩,
              ⟨some 4, [], .mov (.c (.b true))⟩])
            (.ret))
           (.seq (.reg [] [⟨some 26, [], .bin .eql (.t 14) (.c (.i .u8 120))⟩,
              ⟨some 25, [], .mov (.t 26)⟩])
            (.ite (.t 25) (.seq (.seq (.reg [] [⟨some 27, [], .mov (.t 0)⟩,
                 ⟨some 28, [], .len true (.t 27)⟩,
                 ⟨some 29, [], .bin .lss (.t 28) (.c (.i .i64 4))⟩])
               (.ite (.t 29) (.seq (.reg [] [⟨some 2, [], .mov (.c (.i .u8 0))⟩,
                   ⟨some 3, [], .mov (.c (.i .i64 0))⟩,
                   ⟨some 4, [], .mov (.c (.b false))⟩])
                 (.ret))
                (.skip)))
              (.seq (.reg [] [⟨some 31, [], .mov (.t 0)⟩,
                 ⟨some 32, [], .sidx (.t 31) (.c (.i .i64 2))⟩,
                 ⟨some 33, [], .call 183 [.t 32]⟩,
                 ⟨some 30, [], .mov (.t 33)⟩,
                 ⟨some 34, [], .ext 0 (.t 30)⟩,
                 ⟨some 35, [], .ext 1 (.t 30)⟩,
                 ⟨some 5, [], .mov (.t 34)⟩,
                 ⟨some 6, [], .mov (.t 35)⟩])
               (.seq (.reg [] [⟨some 37, [], .mov (.t 0)⟩,
                  ⟨some 38, [], .sidx (.t 37) (.c (.i .i64 3))⟩,
                  ⟨some 39, [], .call 183 [.t 38]⟩,
                  ⟨some 36, [], .mov (.t 39)⟩,
                  ⟨some 40, [], .ext 0 (.t 36)⟩,
                  ⟨some 41, [], .ext 1 (.t 36)⟩,
                  ⟨some 7, [], .mov (.t 40)⟩,
                  ⟨some 8, [], .mov (.t 41)⟩])
                (.seq (.reg [] [⟨some 42, [], .mov (.t 5)⟩,
                   ⟨some 43, [], .bin .shl (.t 42) (.c (.i .u64 4))⟩,
                   ⟨some 44, [], .mov (.t 7)⟩,
                   ⟨some 45, [], .bin .or (.t 43) (.t 44)⟩,
                   ⟨some 9, [], .mov (.t 45)⟩])
                 (.seq (.reg [49, 52, 53, 54, 55, 56, 57, 58] [⟨some 46, [], .mov (.t 9)⟩,
                    ⟨some 47, [], .mov (.t 6)⟩,
                    ⟨some 48, [], .mov (.t 47)⟩,
                    ⟨some 49, [(48, true)], .mov (.t 8)⟩,
                    ⟨some 50, [], .pick (.t 48) (.t 49) (.c (.b false))⟩,
                    ⟨some 51, [], .mov (.t 50)⟩,
                    ⟨some 52, [(51, true)], .mov (.t 9)⟩,
                    ⟨some 53, [(51, true)], .bin .eql (.t 52) (.c (.i .u8 13))⟩,
                    ⟨some 54, [(51, true)], .mov (.t 53)⟩,
                    ⟨some 55, [(51, true), (54, false)], .mov (.t 9)⟩,
                    ⟨some 56, [(51, true), (54, false)], .call 175 [.t 55]⟩,
                    ⟨some 57, [(51, true), (54, false)], .bin .eql (.t 56) (.c (.i .i64 1))⟩,
                    ⟨some 58, [(51, true)], .pick (.t 54) (.c (.b true)) (.t 57)⟩,
                    ⟨some 59, [], .pick (.t 51) (.t 58) (.c (.b false))⟩,
                    ⟨some 2, [], .mov (.t 46)⟩,
                    ⟨some 3, [], .mov (.c (.i .i64 4))⟩,
                    ⟨some 4, [], .mov (.t 59)⟩])
                  (.ret))))))
             (.skip)))))))))))
   (.seq (.reg [] [⟨some 2, [], .mov (.c (.i .u8 0))⟩,
      ⟨some 3, [], .mov (.c (.i .i64 0))⟩,
      ⟨some 4, [], .mov (.c (.b false))⟩])
    (.ret))))⟩
theorem c166 : cFun Tryz.prog Tryz.f166 = some p166 := by kernel_rfl

def p187_0 : PCode := .seq (.seq (.reg [] [⟨some 19, [], .mov (.t 5)⟩,
    ⟨some 20, [], .mov (.t 0)⟩,
    ⟨some 21, [], .len true (.t 20)⟩,
    ⟨some 22, [], .bin .lss (.t 19) (.t 21)⟩])
  (.ite (.t 22) (.skip)
   (.exit 0)))
 (.seq (.block 1 (.seq (.seq (.reg [30, 31, 32, 33] [⟨some 25, [], .mov (.t 0)⟩,
       ⟨some 26, [], .mov (.t 5)⟩,
       ⟨some 27, [], .sidx (.t 25) (.t 26)⟩,
       ⟨some 28, [], .bin .lss (.t 27) (.c (.i .u8 48))⟩,
       ⟨some 29, [], .mov (.t 28)⟩,
       ⟨some 30, [(29, false)], .mov (.t 0)⟩,
       ⟨some 31, [(29, false)], .mov (.t 5)⟩,
       ⟨some 32, [(29, false)], .sidx (.t 30) (.t 31)⟩,
       ⟨some 33, [(29, false)], .bin .gtr (.t 32) (.c (.i .u8 57))⟩,
       ⟨some 34, [], .pick (.t 29) (.c (.b true)) (.t 33)⟩])
     (.ite (.t 34) (.seq (.reg [] [⟨some 2, [], .mov (.c (.i .i64 0))⟩,
         ⟨some 3, [], .mov (.c (.b false))⟩])
       (.ret))
      (.skip)))
    (.reg [] [⟨some 35, [], .mov (.t 4)⟩,
      ⟨some 36, [], .bin .mul (.c (.i .i64 10)) (.t 35)⟩,
      ⟨some 37, [], .mov (.t 0)⟩,
      ⟨some 38, [], .mov (.t 5)⟩,
      ⟨some 39, [], .sidx (.t 37) (.t 38)⟩,
      ⟨some 40, [], .bin .sub (.t 39) (.c (.i .u8 48))⟩,
      ⟨some 41, [], .cvi .i64 (.t 40)⟩,
      ⟨some 42, [], .bin .add (.t 36) (.t 41)⟩,
      ⟨some 4, [], .mov (.t 42)⟩])))
  (.reg [] [⟨some 23, [], .mov (.t 5)⟩,
    ⟨some 24, [], .bin .add (.t 23) (.c (.i .i64 1))⟩,
    ⟨some 5, [], .mov (.t 24)⟩]))
def p187 : PFun := ⟨46, [.t 2, .t 3],
 .seq (.reg [] [⟨some 2, [], .mov (.c (.i .i64 0))⟩,
   ⟨some 3, [], .mov (.c (.b false))⟩])
 (.seq (.seq (.reg [10, 11, 12, 15, 16, 17] [⟨some 6, [], .mov (.t 0)⟩,
     ⟨some 7, [], .len true (.t 6)⟩,
     ⟨some 8, [], .bin .lss (.t 7) (.c (.i .i64 1))⟩,
     ⟨some 9, [], .mov (.t 8)⟩,
     ⟨some 10, [(9, false)], .mov (.t 0)⟩,
     ⟨some 11, [(9, false)], .len true (.t 10)⟩,
     ⟨some 12, [(9, false)], .bin .gtr (.t 11) (.c (.i .i64 3))⟩,
     ⟨some 13, [], .pick (.t 9) (.c (.b true)) (.t 12)⟩,
     ⟨some 14, [], .mov (.t 13)⟩,
     ⟨some 15, [(14, false)], .mov (.t 0)⟩,
     ⟨some 16, [(14, false)], .sidx (.t 15) (.c (.i .i64 0))⟩,
     ⟨some 17, [(14, false)], .bin .eql (.t 16) (.c (.i .u8 48))⟩,
     ⟨some 18, [], .pick (.t 14) (.c (.b true)) (.t 17)⟩])
   (.ite (.t 18) (.seq (.reg [] [⟨some 2, [], .mov (.c (.i .i64 0))⟩,
       ⟨some 3, [], .mov (.c (.b false))⟩])
     (.ret))
    (.skip)))
  (.seq (.reg [] [⟨some 4, [], .mov (.c (.i .i64 0))⟩])
   (.seq (.seq (.reg [] [⟨some 5, [], .mov (.c (.i .i64 0))⟩])
     (.block 0 (.loop p187_0)))
    (.seq (.reg [] [⟨some 43, [], .mov (.t 4)⟩,
       ⟨some 44, [], .mov (.t 4)⟩,
       ⟨some 45, [], .bin .leq (.t 44) (.c (.i .i64 999))⟩,
       ⟨some 2, [], .mov (.t 43)⟩,
       ⟨some 3, [], .mov (.t 45)⟩])
     (.ret)))))⟩
theorem c187 : cFun Tryz.prog Tryz.f187 = some p187 := by kernel_rfl

def p145 : PFun := ⟨30, [.t 2],
 .seq (.reg [] [⟨some 2, [], .mov (.c (.b false))⟩])
 (.seq (.reg [6, 7, 10, 11, 14, 15, 18, 19, 22, 23, 26, 27, 28] [⟨some 3, [], .mov (.t 0)⟩,
    ⟨some 4, [], .bin .neq (.t 3) (.c (.i .u8 92))⟩,
    ⟨some 5, [], .mov (.t 4)⟩,
    ⟨some 6, [(5, true)], .mov (.t 0)⟩,
    ⟨some 7, [(5, true)], .bin .neq (.t 6) (.c (.i .u8 60))⟩,
    ⟨some 8, [], .pick (.t 5) (.t 7) (.c (.b false))⟩,
    ⟨some 9, [], .mov (.t 8)⟩,
    ⟨some 10, [(9, true)], .mov (.t 0)⟩,
    ⟨some 11, [(9, true)], .bin .neq (.t 10) (.c (.i .u8 123))⟩,
    ⟨some 12, [], .pick (.t 9) (.t 11) (.c (.b false))⟩,
    ⟨some 13, [], .mov (.t 12)⟩,
    ⟨some 14, [(13, true)], .mov (.t 0)⟩,
    ⟨some 15, [(13, true)], .bin .neq (.t 14) (.c (.i .u8 9))⟩,
    ⟨some 16, [], .pick (.t 13) (.t 15) (.c (.b false))⟩,
    ⟨some 17, [], .mov (.t 16)⟩,
    ⟨some 18, [(17, true)], .mov (.t 0)⟩,
    ⟨some 19, [(17, true)], .bin .neq (.t 18) (.c (.i .u8 10))⟩,
    ⟨some 20, [], .pick (.t 17) (.t 19) (.c (.b false))⟩,
    ⟨some 21, [], .mov (.t 20)⟩,
    ⟨some 22, [(21, true)], .mov (.t 0)⟩,
    ⟨some 23, [(21, true)], .bin .neq (.t 22) (.c (.i .u8 13))⟩,
    ⟨some 24, [], .pick (.t 21) (.t 23) (.c (.b false))⟩,
    ⟨some 25, [], .mov (.t 24)⟩,
    ⟨some 26, [(25, true)], .mov (.t 0)⟩,
    ⟨some 27, [(25, true)], .call 175 [.t 26]⟩,
    ⟨some 28, [(25, true)], .bin .neq (.t 27) (.c (.i .i64 1))⟩,
    ⟨some 29, [], .pick (.t 25) (.t 28) (.c (.b false))⟩,
    ⟨some 2, [], .mov (.t 29)⟩])
  (.ret))⟩
theorem c145 : cFun Tryz.prog Tryz.f145 = some p145 := by kernel_rfl

def p115_0 : PCode := .seq (.seq (.reg [] [⟨some 7, [], .mov (.t 5)⟩,
    ⟨some 8, [], .mov (.t 1)⟩,
    ⟨some 9, [], .len true (.t 8)⟩,
    ⟨some 10, [], .bin .lss (.t 7) (.t 9)⟩])
  (.ite (.t 10) (.skip)
   (.exit 0)))
 (.seq (.block 1 (.seq (.reg [] [⟨some 13, [], .mov (.t 1)⟩,
      ⟨some 14, [], .mov (.t 5)⟩,
      ⟨some 15, [], .sidx (.t 13) (.t 14)⟩,
      ⟨some 6, [], .mov (.t 15)⟩])
    (.block 2 (.seq (.reg [] [⟨some 26, [], .mov (.t 6)⟩,
        ⟨some 27, [], .call 145 [.t 26]⟩,
        ⟨some 25, [], .mov (.t 27)⟩])
      (.ite (.t 25) (.reg [] [⟨some 28, [], .mov (.t 0)⟩,
         ⟨some 29, [], .mov (.t 6)⟩,
         ⟨some 30, [], .bslice 1 [none] [.t 29]⟩,
         ⟨some 31, [], .app 5 1 1 (.t 28) (.t 30)⟩,
         ⟨some 0, [], .mov (.t 31)⟩])
       (.seq (.reg [] [⟨some 33, [], .mov (.t 6)⟩,
          ⟨some 34, [], .bin .eql (.t 33) (.c (.i .u8 10))⟩,
          ⟨some 32, [], .mov (.t 34)⟩])
        (.ite (.t 32) (.reg [] [⟨some 35, [], .mov (.t 0)⟩,
           ⟨some 36, [], .bslice 1 [none] [.c (.i .u8 92), .c (.i .u8 110)]⟩,
           ⟨some 37, [], .app 5 1 1 (.t 35) (.t 36)⟩,
           ⟨some 0, [], .mov (.t 37)⟩])
         (.seq (.reg [] [⟨some 39, [], .mov (.t 6)⟩,
            ⟨some 40, [], .bin .eql (.t 39) (.c (.i .u8 9))⟩,
            ⟨some 38, [], .mov (.t 40)⟩])
          (.ite (.t 38) (.reg [] [⟨some 41, [], .mov (.t 0)⟩,
             ⟨some 42, [], .bslice 1 [none] [.c (.i .u8 92), .c (.i .u8 116)]⟩,
             ⟨some 43, [], .app 5 1 1 (.t 41) (.t 42)⟩,
             ⟨some 0, [], .mov (.t 43)⟩])
           (.seq (.reg [48, 49, 52, 53] [⟨some 45, [], .mov (.t 6)⟩,
              ⟨some 46, [], .bin .eql (.t 45) (.c (.i .u8 92))⟩,
              ⟨some 47, [], .mov (.t 46)⟩,
              ⟨some 48, [(47, false)], .mov (.t 6)⟩,
              ⟨some 49, [(47, false)], .bin .eql (.t 48) (.c (.i .u8 60))⟩,
              ⟨some 50, [], .pick (.t 47) (.c (.b true)) (.t 49)⟩,
              ⟨some 51, [], .mov (.t 50)⟩,
              ⟨some 52, [(51, false)], .mov (.t 6)⟩,
              ⟨some 53, [(51, false)], .bin .eql (.t 52) (.c (.i .u8 123))⟩,
              ⟨some 54, [], .pick (.t 51) (.c (.b true)) (.t 53)⟩,
              ⟨some 44, [], .mov (.t 54)⟩])
            (.ite (.t 44) (.reg [] [⟨some 55, [], .mov (.t 0)⟩,
               ⟨some 56, [], .mov (.t 6)⟩,
               ⟨some 57, [], .bslice 1 [none] [.c (.i .u8 92), .t 56]⟩,
               ⟨some 58, [], .app 5 1 1 (.t 55) (.t 57)⟩,
               ⟨some 0, [], .mov (.t 58)⟩])
             (.dreg [] [⟨some 16, [], .mov (.t 0)⟩,
               ⟨some 17, [], .mov (.t 6)⟩,
               ⟨some 18, [], .bin .shr (.t 17) (.c (.i .u64 4))⟩,
               ⟨some 19, [], .sidx (.c (.s [48, 49, 50, 51, 52, 53, 54, 55, 56, 57, 97, 98, 99, 100, 101, 102])) (.t 18)⟩,
               ⟨some 20, [], .mov (.t 6)⟩,
               ⟨some 21, [], .bin .and (.t 20) (.c (.i .u8 15))⟩,
               ⟨some 22, [], .sidx (.c (.s [48, 49, 50, 51, 52, 53, 54, 55, 56, 57, 97, 98, 99, 100, 101, 102])) (.t 21)⟩,
               ⟨some 23, [], .bslice 1 [none] [.c (.i .u8 92), .c (.i .u8 120), .t 19, .t 22]⟩] [] [⟨some 24, [], .app 5 1 1 (.t 16) (.t 23)⟩,
               ⟨some 0, [], .mov (.t 24)⟩]))))))))))))
  (.reg [] [⟨some 11, [], .mov (.t 5)⟩,
    ⟨some 12, [], .bin .add (.t 11) (.c (.i .i64 1))⟩,
    ⟨some 5, [], .mov (.t 12)⟩]))
def p115 : PFun := ⟨60, [.t 4],
 .seq (.reg [] [⟨some 4, [], .mov (.c .nil)⟩])
 (.seq (.seq (.reg [] [⟨some 5, [], .mov (.c (.i .i64 0))⟩])
   (.block 0 (.loop p115_0)))
  (.seq (.reg [] [⟨some 59, [], .mov (.t 0)⟩,
     ⟨some 4, [], .mov (.t 59)⟩])
   (.ret)))⟩
theorem c115 : cFun Tryz.prog Tryz.f115 = some p115 := by kernel_rfl

def p168 : PFun := ⟨60, [.c 2 (some 3), .t 3],
 .seq (.reg [] [⟨some 2, [], .alloc 23 [.i .i64 0, .s [], .i .i64 0]⟩,
   ⟨some 3, [], .mov (.c (.b false))⟩])
 (.seq (.reg [] [⟨some 10, [], .build [.i .i64 0, .s [], .i .i64 0] [(0, 1, .c (.i .i64 2))]⟩,
    ⟨some 4, [], .alloc 23 [.i .i64 0, .s [], .i .i64 0]⟩,
    ⟨none, [], .store 3 [none, none, none] (.t 4) (.t 10)⟩])
  (.seq (.seq (.reg [] [⟨some 11, [], .mov (.t 0)⟩,
      ⟨some 12, [], .call 185 [.t 11, .c (.s [47])]⟩])
    (.ite (.t 12) (.dreg [([⟨some 13, [], .mov (.t 0)⟩,
       ⟨some 14, [], .sslice (.t 13) (some (.c (.i .i64 1))) none⟩,
       ⟨some 15, [], .fld 0 (.t 4)⟩],
       ⟨none, [], .store 1 [none] (.t 15) (.c (.i .i64 3))⟩,
       [])] [] [] [⟨some 0, [], .mov (.t 14)⟩])
     (.skip)))
   (.seq (.reg [] [⟨some 17, [], .mov (.t 0)⟩,
      ⟨some 18, [], .call 182 [.t 17, .c (.s [58])]⟩,
      ⟨some 16, [], .mov (.t 18)⟩,
      ⟨some 19, [], .ext 0 (.t 16)⟩,
      ⟨some 20, [], .ext 1 (.t 16)⟩,
      ⟨some 21, [], .ext 2 (.t 16)⟩,
      ⟨some 5, [], .mov (.t 19)⟩,
      ⟨some 6, [], .mov (.t 20)⟩,
      ⟨some 7, [], .mov (.t 21)⟩])
    (.seq (.seq (.reg [26, 27] [⟨some 22, [], .fld 0 (.t 4)⟩,
        ⟨some 23, [], .load none (.t 22)⟩,
        ⟨some 24, [], .bin .eql (.t 23) (.c (.i .i64 2))⟩,
        ⟨some 25, [], .mov (.t 24)⟩,
        ⟨some 26, [(25, true)], .mov (.t 6)⟩,
        ⟨some 27, [(25, true)], .call 186 [.t 26, .c (.s [47])]⟩,
        ⟨some 28, [], .pick (.t 25) (.t 27) (.c (.b false))⟩])
      (.ite (.t 28) (.dreg [([⟨some 29, [], .mov (.t 6)⟩,
         ⟨some 30, [], .mov (.t 6)⟩,
         ⟨some 31, [], .len true (.t 30)⟩,
         ⟨some 32, [], .bin .sub (.t 31) (.c (.i .i64 1))⟩,
         ⟨some 33, [], .sslice (.t 29) none (some (.t 32))⟩,
         ⟨some 34, [], .fld 0 (.t 4)⟩],
         ⟨none, [], .store 1 [none] (.t 34) (.c (.i .i64 4))⟩,
         [⟨some 31, [], .len true (.t 30)⟩])] [] [] [⟨some 6, [], .mov (.t 33)⟩])
       (.skip)))
     (.seq (.reg [] [⟨some 36, [], .mov (.t 5)⟩,
        ⟨some 37, [], .call 187 [.t 36]⟩,
        ⟨some 35, [], .mov (.t 37)⟩,
        ⟨some 38, [], .ext 0 (.t 35)⟩,
        ⟨some 39, [], .ext 1 (.t 35)⟩,
        ⟨some 8, [], .mov (.t 38)⟩,
        ⟨some 9, [], .mov (.t 39)⟩])
      (.seq (.seq (.reg [43, 44] [⟨some 40, [], .mov (.t 7)⟩,
          ⟨some 41, [], .un .not (.t 40)⟩,
          ⟨some 42, [], .mov (.t 41)⟩,
          ⟨some 43, [(42, false)], .mov (.t 9)⟩,
          ⟨some 44, [(42, false)], .un .not (.t 43)⟩,
          ⟨some 45, [], .pick (.t 42) (.c (.b true)) (.t 44)⟩])
        (.ite (.t 45) (.seq (.reg [] [⟨some 46, [], .build [.i .i64 0, .s [], .i .i64 0] []⟩,
            ⟨none, [], .store 3 [none, none, none] (.t 2) (.t 46)⟩,
            ⟨some 3, [], .mov (.c (.b false))⟩])
          (.ret))
         (.skip)))
       (.seq (.reg [] [⟨some 47, [], .mov (.t 6)⟩,
          ⟨some 48, [], .mov (.t 8)⟩,
          ⟨some 49, [], .fld 1 (.t 4)⟩,
          ⟨none, [], .store 1 [none] (.t 49) (.t 47)⟩,
          ⟨some 50, [], .fld 2 (.t 4)⟩,
          ⟨none, [], .store 1 [none] (.t 50) (.t 48)⟩])
        (.seq (.seq (.reg [] [⟨some 51, [], .fld 0 (.t 4)⟩,
            ⟨some 52, [], .load none (.t 51)⟩,
            ⟨some 53, [], .bin .eql (.t 52) (.c (.i .i64 3))⟩])
          (.ite (.t 53) (.seq (.dreg [([⟨some 54, [], .load (some 3) (.t 4)⟩,
              ⟨some 55, [], .mov (.t 6)⟩],
              ⟨some 56, [], .call 104 [.t 55]⟩,
              [⟨some 54, [], .load (some 3) (.t 4)⟩])] [] [] [⟨none, [], .store 3 [none, none, none] (.t 2) (.t 54)⟩,
              ⟨some 3, [], .mov (.t 56)⟩])
            (.ret))
           (.skip)))
         (.seq (.dreg [([⟨some 57, [], .load (some 3) (.t 4)⟩,
            ⟨some 58, [], .mov (.t 6)⟩],
            ⟨some 59, [], .call 162 [.t 58]⟩,
            [⟨some 57, [], .load (some 3) (.t 4)⟩])] [] [] [⟨none, [], .store 3 [none, none, none] (.t 2) (.t 57)⟩,
            ⟨some 3, [], .mov (.t 59)⟩])
          (.ret))))))))))⟩
theorem c168 : cFun Tryz.prog Tryz.f168 = some p168 := by kernel_rfl

def p136 : PFun := ⟨76, [.c 2 (some 3), .t 3, .t 4],
 .seq (.reg [] [⟨some 2, [], .alloc 23 [.i .i64 0, .s [], .i .i64 0]⟩,
   ⟨some 3, [], .mov (.c (.i .i64 0))⟩,
   ⟨some 4, [], .mov (.c (.b false))⟩])
 (.seq (.block 0 (.seq (.reg [] [⟨some 13, [], .mov (.t 0)⟩,
      ⟨some 14, [], .sidx (.t 13) (.c (.i .i64 0))⟩,
      ⟨some 15, [], .bin .eql (.t 14) (.c (.i .u8 92))⟩,
      ⟨some 12, [], .mov (.t 15)⟩])
    (.ite (.t 12) (.seq (.reg [] [⟨some 17, [], .mov (.t 0)⟩,
        ⟨some 18, [], .call 166 [.t 17]⟩,
        ⟨some 16, [], .mov (.t 18)⟩,
        ⟨some 19, [], .ext 0 (.t 16)⟩,
        ⟨some 20, [], .ext 1 (.t 16)⟩,
        ⟨some 21, [], .ext 2 (.t 16)⟩,
        ⟨some 5, [], .mov (.t 19)⟩,
        ⟨some 6, [], .mov (.t 20)⟩,
        ⟨some 7, [], .mov (.t 21)⟩])
      (.seq (.reg [] [⟨some 22, [], .mov (.t 5)⟩,
         ⟨some 23, [], .bslice 1 [none] [.t 22]⟩,
         ⟨some 24, [], .b2s (.t 23)⟩,
         ⟨some 25, [], .build [.i .i64 0, .s [], .i .i64 0] [(0, 1, .c (.i .i64 1)), (1, 1, .t 24)]⟩,
         ⟨some 26, [], .mov (.t 6)⟩,
         ⟨some 27, [], .mov (.t 7)⟩,
         ⟨none, [], .store 3 [none, none, none] (.t 2) (.t 25)⟩,
         ⟨some 3, [], .mov (.t 26)⟩,
         ⟨some 4, [], .mov (.t 27)⟩])
       (.ret)))
     (.seq (.reg [] [⟨some 29, [], .mov (.t 0)⟩,
        ⟨some 30, [], .sidx (.t 29) (.c (.i .i64 0))⟩,
        ⟨some 31, [], .bin .eql (.t 30) (.c (.i .u8 60))⟩,
        ⟨some 28, [], .mov (.t 31)⟩])
      (.ite (.t 28) (.seq (.reg [] [⟨some 32, [], .mov (.t 0)⟩,
          ⟨some 33, [], .call 167 [.t 32, .c (.i .u8 62)]⟩,
          ⟨some 8, [], .mov (.t 33)⟩])
        (.seq (.seq (.reg [] [⟨some 34, [], .mov (.t 8)⟩,
            ⟨some 35, [], .bin .lss (.t 34) (.c (.i .i64 0))⟩])
          (.ite (.t 35) (.seq (.reg [] [⟨some 36, [], .build [.i .i64 0, .s [], .i .i64 0] []⟩,
              ⟨none, [], .store 3 [none, none, none] (.t 2) (.t 36)⟩,
              ⟨some 3, [], .mov (.c (.i .i64 0))⟩,
              ⟨some 4, [], .mov (.c (.b false))⟩])
            (.ret))
           (.skip)))
         (.seq (.reg [] [⟨some 38, [], .mov (.t 0)⟩,
            ⟨some 39, [], .mov (.t 8)⟩,
            ⟨some 40, [], .sslice (.t 38) (some (.c (.i .i64 1))) (some (.t 39))⟩,
            ⟨some 41, [], .call 168 [.t 40]⟩,
            ⟨some 37, [], .mov (.t 41)⟩,
            ⟨some 42, [], .ext 0 (.t 37)⟩,
            ⟨some 43, [], .ext 1 (.t 37)⟩,
            ⟨some 9, [], .alloc 23 [.i .i64 0, .s [], .i .i64 0]⟩,
            ⟨none, [], .store 3 [none, none, none] (.t 9) (.t 42)⟩,
            ⟨some 10, [], .mov (.t 43)⟩])
          (.seq (.reg [] [⟨some 44, [], .load (some 3) (.t 9)⟩,
             ⟨some 45, [], .mov (.t 8)⟩,
             ⟨some 46, [], .bin .add (.t 45) (.c (.i .i64 1))⟩,
             ⟨some 47, [], .mov (.t 10)⟩,
             ⟨none, [], .store 3 [none, none, none] (.t 2) (.t 44)⟩,
             ⟨some 3, [], .mov (.t 46)⟩,
             ⟨some 4, [], .mov (.t 47)⟩])
           (.ret)))))
       (.seq (.reg [] [⟨some 49, [], .mov (.t 0)⟩,
          ⟨some 50, [], .sidx (.t 49) (.c (.i .i64 0))⟩,
          ⟨some 51, [], .bin .eql (.t 50) (.c (.i .u8 123))⟩,
          ⟨some 48, [], .mov (.t 51)⟩])
        (.ite (.t 48) (.seq (.reg [] [⟨some 52, [], .mov (.t 0)⟩,
            ⟨some 53, [], .call 167 [.t 52, .c (.i .u8 125)]⟩,
            ⟨some 11, [], .mov (.t 53)⟩])
          (.seq (.seq (.reg [57, 58, 59, 60, 61] [⟨some 54, [], .mov (.t 11)⟩,
              ⟨some 55, [], .bin .lss (.t 54) (.c (.i .i64 0))⟩,
              ⟨some 56, [], .mov (.t 55)⟩,
              ⟨some 57, [(56, false)], .mov (.t 0)⟩,
              ⟨some 58, [(56, false)], .mov (.t 11)⟩,
              ⟨some 59, [(56, false)], .sslice (.t 57) (some (.c (.i .i64 1))) (some (.t 58))⟩,
              ⟨some 60, [(56, false)], .call 104 [.t 59]⟩,
              ⟨some 61, [(56, false)], .un .not (.t 60)⟩,
              ⟨some 62, [], .pick (.t 56) (.c (.b true)) (.t 61)⟩])
            (.ite (.t 62) (.seq (.reg [] [⟨some 63, [], .build [.i .i64 0, .s [], .i .i64 0] []⟩,
                ⟨none, [], .store 3 [none, none, none] (.t 2) (.t 63)⟩,
                ⟨some 3, [], .mov (.c (.i .i64 0))⟩,
                ⟨some 4, [], .mov (.c (.b false))⟩])
              (.ret))
             (.skip)))
           (.seq (.reg [] [⟨some 64, [], .mov (.t 0)⟩,
              ⟨some 65, [], .mov (.t 11)⟩,
              ⟨some 66, [], .sslice (.t 64) (some (.c (.i .i64 1))) (some (.t 65))⟩,
              ⟨some 67, [], .build [.i .i64 0, .s [], .i .i64 0] [(0, 1, .c (.i .i64 5)), (1, 1, .t 66)]⟩,
              ⟨some 68, [], .mov (.t 11)⟩,
              ⟨some 69, [], .bin .add (.t 68) (.c (.i .i64 1))⟩,
              ⟨none, [], .store 3 [none, none, none] (.t 2) (.t 67)⟩,
              ⟨some 3, [], .mov (.t 69)⟩,
              ⟨some 4, [], .mov (.c (.b true))⟩])
            (.ret))))
         (.skip))))))))
  (.seq (.dreg [([⟨some 70, [], .mov (.t 0)⟩,
     ⟨some 71, [], .sslice (.t 70) none (some (.c (.i .i64 1)))⟩,
     ⟨some 72, [], .build [.i .i64 0, .s [], .i .i64 0] [(0, 1, .c (.i .i64 1)), (1, 1, .t 71)]⟩,
     ⟨some 73, [], .mov (.t 0)⟩,
     ⟨some 74, [], .sidx (.t 73) (.c (.i .i64 0))⟩],
     ⟨some 75, [], .call 145 [.t 74]⟩,
     [⟨some 72, [], .build [.i .i64 0, .s [], .i .i64 0] [(0, 1, .c (.i .i64 1)), (1, 1, .t 71)]⟩])] [] [] [⟨none, [], .store 3 [none, none, none] (.t 2) (.t 72)⟩,
     ⟨some 3, [], .mov (.c (.i .i64 1))⟩,
     ⟨some 4, [], .mov (.t 75)⟩])
   (.ret)))⟩
theorem c136 : cFun Tryz.prog Tryz.f136 = some p136 := by kernel_rfl

end Go.Proofs.Tryz

set_option linter.unusedSimpArgs false
namespace Go.Proofs.Tryz
open Go Go.Pm Go.Bt

theorem width_pc (x : It) (σ : Store) : PC Tryz.prog 161 [.agg x.cells] σ (fun r σ' => r = .i .i64 (width x) ∧ σ' = σ) := by
  refine PC.intro Tryz.func161 c161 fun hcl hwf => wpc_sound ?_
  simp only [p161, It.cells, List.length_cons, List.length_nil, List.replicate, List.cons_append, List.nil_append, Nat.reduceAdd, Nat.reduceSub]
  simp only [W, pexec, xexec, binV, Nat.reduceAdd, Nat.reduceSub, Nat.reduceLeDiff, Nat.reduceEqDiff, Int.reduceToNat, reduceIte, reduceCtorEq]
  refine ⟨fun h => ?_, fun h => ?_⟩
  · exact ret_end hcl (.inr rfl) rfl (by simp only [LW]) (by simp at h; simp [one, width, h])
  · exact ret_end hcl (.inr rfl) rfl (by simp only [LW]) (by simp at h; simp [one, width, h])

theorem loop127 {σ : Store} {K : Exit → St → Prop} (its : List It) (hcl : Closed σ) (hlen : its.length < 2 ^ 63) : ∀ (rest pre : List It) (acc : Int), its = pre ++ rest →
    (K (.exit 0) ⟨[.sl 3 (its.map It.cells), .u, .i .i64 0, .i .i64 (lengthFrom acc rest), .u, .u, .sl 3 (its.map It.cells), .i .i64 its.length, .i .i64 its.length, .b false, .u, .u, .u, .u, .u, .u, .u, .u], σ⟩) →
    Rnd σ.length Tryz.prog p127_0 K (rest.length + 1) ⟨[.sl 3 (its.map It.cells), .u, .i .i64 0, .i .i64 acc, .u, .u, .sl 3 (its.map It.cells), .i .i64 its.length, .i .i64 pre.length, .u, .u, .u, .u, .u, .u, .u, .u, .u], σ⟩ := by
  intro rest
  induction rest with
  | nil =>
    intro pre acc he hK
    subst he
    refine rnd_step fun R hR => ?_
    simp only [p127_0, W, pexec, xexec, binV, Nat.reduceAdd, Nat.reduceSub, Nat.reduceLeDiff, Nat.reduceEqDiff, Int.reduceToNat, reduceIte, reduceCtorEq]
    refine ⟨fun h => by simp at h, fun _ => ?_⟩
    simpa [lengthFrom] using hK
  | cons x rest ih =>
    intro pre acc he hK
    subst he
    refine rnd_step fun R hR => ?_
    simp only [p127_0, row_at, It.cells, W, pexec, xexec, binV, Nat.reduceAdd, Nat.reduceSub, Nat.reduceLeDiff, Nat.reduceEqDiff, Int.reduceToNat, reduceIte, reduceCtorEq]
    refine ⟨fun _ => ⟨?_, ?_⟩, fun h => ?_⟩
    · simp; omega
    · refine call_eq (width_pc x _) rfl ?_
      simp only [W, pexec, xexec, binV, Nat.reduceAdd, Nat.reduceSub, Nat.reduceLeDiff, Nat.reduceEqDiff, Int.reduceToNat, reduceIte, reduceCtorEq]
      refine hR _ ?_
      have hw : IntKind.i64.wrap ((pre.length : Int) + 1) = (((pre ++ [x]).length : Nat) : Int) := by
        rw [wrap_succ (by simp at hlen; omega)]; simp
      rw [hw]
      refine rnd_back (Nat.le_refl _) hcl ?_ ?_ (ih (pre ++ [x]) (IntKind.i64.wrap (acc + width x)) (by simp) ?_)
      · repeat first | exact .nil | refine .cons (.refl _) ?_ | refine .cons (.forget _) ?_
      · simp only [LW]
      · simpa [lengthFrom] using hK
    · simp at h; omega

theorem length_pc (its : List It) (σ : Store) : PC Tryz.prog 127 [.sl 3 (its.map It.cells)] σ (fun r σ' => r = .i .i64 (lengthFrom 0 its) ∧ σ' = σ) := by
  refine PC.intro Tryz.func127 c127 fun hcl hwf => wpc_sound ?_
  have hlen : its.length < 2 ^ 63 := by
    have := wf_sl (hwf 0 _ rfl).1
    simpa using this
  simp only [p127, List.length_cons, List.length_nil, List.replicate, List.cons_append, List.nil_append, Nat.reduceAdd, Nat.reduceSub]
  simp only [List.length_map, W, pexec, xexec, binV, Nat.reduceAdd, Nat.reduceSub, Nat.reduceLeDiff, Nat.reduceEqDiff, Int.reduceToNat, reduceIte, reduceCtorEq]
  refine PWc.rnd (its.length + 1) (loop127 its hcl hlen its [] 0 (by simp) ?_)
  simp only [W, pexec, xexec, binV, Nat.reduceAdd, Nat.reduceSub, Nat.reduceLeDiff, Nat.reduceEqDiff, Int.reduceToNat, reduceIte, reduceCtorEq]
  exact ret_end0 (.inr rfl) rfl ⟨rfl, rfl⟩

theorem stampValidate_pc (x : Stamp) (σ : Store) : PC Tryz.prog 51 [.agg x.cells] σ (fun r σ' => r = .i .i64 (if stampOk x then 0 else 1) ∧ σ' = σ) := by
  refine PC.intro Tryz.func51 c51 fun hcl hwf => wpc_sound ?_
  simp only [p51, Stamp.cells, List.length_cons, List.length_nil, List.replicate, List.cons_append, List.nil_append, Nat.reduceAdd, Nat.reduceSub]
  simp only [W, pexec, xexec, binV, Nat.reduceAdd, Nat.reduceSub, Nat.reduceLeDiff, Nat.reduceEqDiff, Int.reduceToNat, reduceIte, reduceCtorEq]
  refine ⟨fun h => ?_, fun h => ?_⟩
  · exact ret_end hcl (.inr rfl) rfl (by simp only [LW]) (by simp at h; simp [one, stampOk]; omega)
  · exact ret_end hcl (.inr rfl) rfl (by simp only [LW]) (by simp at h; simp [one, stampOk, h])

theorem loop104 {σ : Store} {K : Exit → St → Prop} (s : List UInt8) (hlen : s.length < 2 ^ 63) : ∀ (rest pre : List UInt8), s = pre ++ rest →
    (rest.all nameByte = true → ∀ j0 j1 j2 j3 j4 j5 j6 j7 j8 j9 j10 j11 j12 j13 j14 j15 j16 j17 j18 j19 j20 j21 j22 j23 j24 j25 j26 j27 j28 j29 j30 j31 j32 j33 j34 j35 j36 j37 j38 j39 j40 j41 j42 j43 j44 j45 j46 j47 j48 j49 j50, K (.exit 0) ⟨[j0, j1, j2, j3, j4, j5, j6, j7, j8, j9, j10, j11, j12, j13, j14, j15, j16, j17, j18, j19, j20, j21, j22, j23, j24, j25, j26, j27, j28, j29, j30, j31, j32, j33, j34, j35, j36, j37, j38, j39, j40, j41, j42, j43, j44, j45, j46, j47, j48, j49, j50], σ⟩) →
    (rest.all nameByte = false → ∀ j0 j1 j3 j4 j5 j6 j7 j8 j9 j10 j11 j12 j13 j14 j15 j16 j17 j18 j19 j20 j21 j22 j23 j24 j25 j26 j27 j28 j29 j30 j31 j32 j33 j34 j35 j36 j37 j38 j39 j40 j41 j42 j43 j44 j45 j46 j47 j48 j49 j50, K .ret ⟨[j0, j1, .b false, j3, j4, j5, j6, j7, j8, j9, j10, j11, j12, j13, j14, j15, j16, j17, j18, j19, j20, j21, j22, j23, j24, j25, j26, j27, j28, j29, j30, j31, j32, j33, j34, j35, j36, j37, j38, j39, j40, j41, j42, j43, j44, j45, j46, j47, j48, j49, j50], σ⟩) →
    Rnd σ.length Tryz.prog p104_0 K (rest.length + 1) ⟨[.s s, .u, .u, .i .i64 pre.length, .u, .u, .u, .u, .u, .u, .u, .u, .u, .u, .u, .u, .u, .u, .u, .u, .u, .u, .u, .u, .u, .u, .u, .u, .u, .u, .u, .u, .u, .u, .u, .u, .u, .u, .u, .u, .u, .u, .u, .u, .u, .u, .u, .u, .u, .u, .u], σ⟩ := by
  intro rest
  induction rest with
  | nil =>
    intro pre he h1 h2
    subst he
    refine rnd_step fun R hR => ?_
    simp only [p104_0, W, pexec, xexec, binV, Nat.reduceAdd, Nat.reduceSub, Nat.reduceLeDiff, Nat.reduceEqDiff, Int.reduceToNat, reduceIte, reduceCtorEq]
    exact ⟨fun h => by simp at h, fun _ => h1 rfl ..⟩
  | cons c rest ih =>
    intro pre he h1 h2
    subst he
    refine rnd_step fun R hR => ?_
    simp only [p104_0, W, pexec, xexec, binV, Nat.reduceAdd, Nat.reduceSub, Nat.reduceLeDiff, Nat.reduceEqDiff, Int.reduceToNat, reduceIte, reduceCtorEq]
    refine ⟨fun _ => ⟨by simp; omega, fun h => ?_, fun h => ?_⟩, fun h => by simp at h; omega⟩
    · refine h2 ?_ ..
      simp only [List.all_cons, Bool.and_eq_false_iff]
      left
      simp at h
      simp [nameByte]
      omega
    · refine hR _ (rnd_cvs (fr' := [.s (pre ++ c :: rest), .u, .u, .i .i64 (pre ++ [c]).length, .u, .u, .u, .u, .u, .u, .u, .u, .u, .u, .u, .u, .u, .u, .u, .u, .u, .u, .u, .u, .u, .u, .u, .u, .u, .u, .u, .u, .u, .u, .u, .u, .u, .u, .u, .u, .u, .u, .u, .u, .u, .u, .u, .u, .u, .u, .u]) ?_ (ih (pre ++ [c]) (by simp) (fun h2 => h1 ?_) (fun h3 => h2 ?_)))
      · rw [wrap_succ (by simp at hlen; omega)]
        simp only [List.length_append, List.length_cons, List.length_nil]
        repeat first | exact .nil | refine .cons (.refl _) ?_ | refine .cons (.forget _) ?_
      · simp [h2]
        simp at h
        simp [nameByte]
        omega
      · simp [h3]

theorem stampAt_pc (v : List Int) (o : Int) (σ : Store) : PC Tryz.prog 54 [.sl 1 (v.map iRow), .i .i64 o] σ (fun r σ' => r = .i .i64 (vAt v o) ∧ σ' = σ) := by
  refine PC.intro Tryz.func54 c54 fun hcl hwf => wpc_sound ?_
  simp only [p54, List.length_cons, List.length_nil, List.replicate, List.cons_append, List.nil_append, Nat.reduceAdd, Nat.reduceSub]
  simp only [W, pexec, xexec, binV, Nat.reduceAdd, Nat.reduceSub, Nat.reduceLeDiff, Nat.reduceEqDiff, Int.reduceToNat, reduceIte, reduceCtorEq]
  refine ⟨fun h => ?_, fun h => ?_⟩
  · refine ret_end0 (.inr rfl) rfl ?_
    simp at h
    simp only [one, List.getD_cons_zero, List.getD_cons_succ, V.i.injEq, true_and, and_true, vAt]
    rw [if_pos (by omega)]
  · simp at h
    have hl : o.toNat < v.length := by omega
    rw [at2_iRow hl]
    simp only [W, pexec, xexec, binV, Nat.reduceAdd, Nat.reduceSub, Nat.reduceLeDiff, Nat.reduceEqDiff, Int.reduceToNat, reduceIte, reduceCtorEq]
    refine ⟨by simp; omega, ret_end0 (.inr rfl) rfl ?_⟩
    simp only [one, vAt, List.getD_cons_zero, List.getD_cons_succ, V.i.injEq, true_and, and_true]
    rw [if_neg (show ¬ (o < 0 ∨ (v.length : Int) ≤ o ∨ 8 ≤ o) by omega)]

theorem isNaN_pc (n : Int) (σ : Store) : PC Tryz.prog 110 [.i .i64 n] σ (fun r σ' => r = .b false ∧ σ' = σ) := by
  refine PC.intro Tryz.func110 c110 fun hcl hwf => wpc_sound ?_
  simp only [p110, List.length_cons, List.length_nil, List.replicate, List.cons_append, List.nil_append, Nat.reduceAdd, Nat.reduceSub]
  simp only [W, pexec, xexec, binV, Nat.reduceAdd, Nat.reduceSub, Nat.reduceLeDiff, Nat.reduceEqDiff, Int.reduceToNat, reduceIte, reduceCtorEq]
  exact ret_end0 (.inr rfl) rfl (by simp [one])

theorem cmpI_pc (a b : Int) (σ : Store) : PC Tryz.prog 67 [.i .i64 a, .i .i64 b] σ (fun r σ' => r = .i .i64 (cmpI a b) ∧ σ' = σ) := by
  refine PC.intro Tryz.func67 c67 fun hcl hwf => wpc_sound ?_
  simp only [p67, List.length_cons, List.length_nil, List.replicate, List.cons_append, List.nil_append, Nat.reduceAdd, Nat.reduceSub]
  simp only [W, pexec, xexec, binV, Nat.reduceAdd, Nat.reduceSub, Nat.reduceLeDiff, Nat.reduceEqDiff, Int.reduceToNat, reduceIte, reduceCtorEq]
  refine call_eq (isNaN_pc a _) rfl ?_
  simp only [W, pexec, xexec, binV, Nat.reduceAdd, Nat.reduceSub, Nat.reduceLeDiff, Nat.reduceEqDiff, Int.reduceToNat, reduceIte, reduceCtorEq]
  refine call_eq (isNaN_pc b _) rfl ?_
  simp only [W, pexec, xexec, binV, Nat.reduceAdd, Nat.reduceSub, Nat.reduceLeDiff, Nat.reduceEqDiff, Int.reduceToNat, reduceIte, reduceCtorEq]
  refine ⟨fun h => ?_, fun h => ⟨fun h2 => ?_, fun h2 => ?_⟩⟩ <;> refine ret_end0 (.inr rfl) rfl ?_ <;> simp at h <;> (try simp at h2) <;> simp only [one, cmpI, List.getD_cons_zero, List.getD_cons_succ, V.i.injEq, true_and, and_true] <;> (repeat' split) <;> omega

theorem loop66 {σ : Store} {K : Exit → St → Prop} (l : List Int) (hlen : l.length < 2 ^ 63) : ∀ (rest pre : List Int), l = pre ++ rest →
    (orI rest = 0 → (∀ j0 j1 j2 j4 j5 j6 j7 j8 j9 j10 j11 j12 j13 j14 j15 j16 j17, K (.exit 0) ⟨[j0, j1, j2, .i .i64 0, j4, j5, j6, j7, j8, j9, j10, j11, j12, j13, j14, j15, j16, j17], σ⟩)) → (orI rest ≠ 0 → (∀ j0 j1 j3 j4 j5 j6 j7 j8 j9 j10 j11 j12 j13 j14 j15 j16 j17, K .ret ⟨[j0, j1, .i .i64 (orI rest), j3, j4, j5, j6, j7, j8, j9, j10, j11, j12, j13, j14, j15, j16, j17], σ⟩)) →
    Rnd σ.length Tryz.prog p66_0 K (rest.length + 1) ⟨[.u, .u, .u, .i .i64 0, .u, .u, .sl 1 (l.map iRow), .i .i64 l.length, .i .i64 pre.length, .u, .u, .u, .u, .u, .u, .u, .u, .u], σ⟩ := by
  intro rest
  induction rest with
  | nil =>
    intro pre he h1 h2
    subst he
    refine rnd_step fun R hR => ?_
    simp only [p66_0, W, pexec, xexec, binV, Nat.reduceAdd, Nat.reduceSub, Nat.reduceLeDiff, Nat.reduceEqDiff, Int.reduceToNat, reduceIte, reduceCtorEq]
    exact ⟨fun h => by simp at h, fun _ => h1 rfl ..⟩
  | cons c rest ih =>
    intro pre he h1 h2
    subst he
    refine rnd_step fun R hR => ?_
    simp only [p66_0, W, pexec, xexec, binV, Nat.reduceAdd, Nat.reduceSub, Nat.reduceLeDiff, Nat.reduceEqDiff, Int.reduceToNat, reduceIte, reduceCtorEq]
    simp only [iRow, W, pexec, xexec, binV, Nat.reduceAdd, Nat.reduceSub, Nat.reduceLeDiff, Nat.reduceEqDiff, Int.reduceToNat, reduceIte, reduceCtorEq]
    refine ⟨fun _ => ⟨by simp; omega, fun h => ?_, fun h => ?_⟩, fun h => by simp at h; omega⟩
    · simp at h
      have e : orI (c :: rest) = c := by simp [orI, h]
      rw [e] at h2
      exact h2 h ..
    · simp at h
      have e : orI (c :: rest) = orI rest := by simp [orI, h]
      rw [e] at h1 h2
      refine hR _ (rnd_cvs ?_ (ih (pre ++ [c]) (by simp) h1 h2))
      rw [wrap_succ (by simp at hlen; omega)]
      simp only [List.length_append, List.length_cons, List.length_nil]
      repeat first | exact .nil | refine .cons (.refl _) ?_ | refine .cons (.forget _) ?_

theorem orI_pc (l : List Int) (σ : Store) : PC Tryz.prog 66 [.sl 1 (l.map iRow)] σ (fun r σ' => r = .i .i64 (orI l) ∧ σ' = σ) := by
  refine PC.intro Tryz.func66 c66 fun hcl hwf => wpc_sound ?_
  have hlen : l.length < 2 ^ 63 := by simpa using wf_sl (hwf 0 _ rfl).1
  simp only [p66, List.length_cons, List.length_nil, List.replicate, List.cons_append, List.nil_append, Nat.reduceAdd, Nat.reduceSub]
  simp only [List.length_map, W, pexec, xexec, binV, Nat.reduceAdd, Nat.reduceSub, Nat.reduceLeDiff, Nat.reduceEqDiff, Int.reduceToNat, reduceIte, reduceCtorEq]
  refine PWc.rnd_cvs ?_ (l.length + 1) (loop66 l hlen l [] (by simp) ?_ ?_)
  · repeat first | exact .nil | refine .cons (.refl _) ?_ | refine .cons (.forget _) ?_
  · intro h
    simp only [W, pexec, xexec, binV, Nat.reduceAdd, Nat.reduceSub, Nat.reduceLeDiff, Nat.reduceEqDiff, Int.reduceToNat, reduceIte, reduceCtorEq]
    intros
    exact ret_end0 (.inr rfl) rfl (by simp [one, h])
  · intro h
    simp only [W, pexec, xexec, binV, Nat.reduceAdd, Nat.reduceSub, Nat.reduceLeDiff, Nat.reduceEqDiff, Int.reduceToNat, reduceIte, reduceCtorEq]
    intros
    exact ret_end0 (.inr rfl) rfl ⟨rfl, rfl⟩

theorem stampCompare_pc (a b : Stamp) (σ : Store) : PC Tryz.prog 70 [.agg a.cells, .agg b.cells] σ (fun r σ' => r = .i .i64 (cmpStamp a b) ∧ σ' = σ) := by
  refine PC.intro Tryz.func70 c70 fun hcl hwf => wpc_sound ?_
  simp only [p70, Stamp.cells, List.length_cons, List.length_nil, List.replicate, List.cons_append, List.nil_append, Nat.reduceAdd, Nat.reduceSub]
  simp only [W, pexec, xexec, binV, Nat.reduceAdd, Nat.reduceSub, Nat.reduceLeDiff, Nat.reduceEqDiff, Int.reduceToNat, reduceIte, reduceCtorEq]
  refine call_eq (cmpI_pc _ _ _) rfl ?_
  simp only [W, pexec, xexec, binV, Nat.reduceAdd, Nat.reduceSub, Nat.reduceLeDiff, Nat.reduceEqDiff, Int.reduceToNat, reduceIte, reduceCtorEq]
  refine call_eq (cmpI_pc _ _ _) rfl ?_
  simp only [W, pexec, xexec, binV, Nat.reduceAdd, Nat.reduceSub, Nat.reduceLeDiff, Nat.reduceEqDiff, Int.reduceToNat, reduceIte, reduceCtorEq]
  refine call_eq (cmpI_pc _ _ _) rfl ?_
  simp only [W, pexec, xexec, binV, Nat.reduceAdd, Nat.reduceSub, Nat.reduceLeDiff, Nat.reduceEqDiff, Int.reduceToNat, reduceIte, reduceCtorEq]
  refine call_cv (zs := [.sl 1 ([cmpI a.time b.time, cmpI a.office b.office, cmpI a.number b.number].map iRow)]) (.cons (.lit _ _) .nil) (orI_pc _ _) ?_
  simp only [W, pexec, xexec, binV, Nat.reduceAdd, Nat.reduceSub, Nat.reduceLeDiff, Nat.reduceEqDiff, Int.reduceToNat, reduceIte, reduceCtorEq]
  exact ret_end hcl (.inr rfl) rfl (by simp only [LW]) ⟨rfl, rfl⟩

theorem covers_pc (v : List Int) (s : Stamp) (σ : Store) : PC Tryz.prog 72 [.sl 1 (v.map iRow), .agg s.cells] σ (fun r σ' => r = .b (covers v s) ∧ σ' = σ) := by
  refine PC.intro Tryz.func72 c72 fun hcl hwf => wpc_sound ?_
  simp only [p72, Stamp.cells, List.length_cons, List.length_nil, List.replicate, List.cons_append, List.nil_append, Nat.reduceAdd, Nat.reduceSub]
  simp only [W, pexec, xexec, binV, Nat.reduceAdd, Nat.reduceSub, Nat.reduceLeDiff, Nat.reduceEqDiff, Int.reduceToNat, reduceIte, reduceCtorEq]
  refine callg_eq rfl (fun _ => stampAt_pc v s.office _) rfl ?_
  simp only [W, pexec, xexec, binV, Nat.reduceAdd, Nat.reduceSub, Nat.reduceLeDiff, Nat.reduceEqDiff, Int.reduceToNat, reduceIte, reduceCtorEq]
  exact ret_end hcl (.inr rfl) rfl (by simp only [LW]) ⟨rfl, rfl⟩

theorem loop99 {σ : Store} {K : Exit → St → Prop} (hcl : Closed σ) (a b : List Int) : ∀ (k n : Nat), n + k = 8 →
    (∀ j0 j1 j2 j3 j6 j7 j8 j9 j10 j11 j12 j13 j14 j15 j16 j17 j18 j19 j20 j21 j22 j23 j24 j25 j26 j27 j28 j29, K (.exit 0) ⟨[j0, j1, j2, j3, .own σ.length 8, .i .i64 (joinLast a b 8), j6, j7, j8, j9, j10, j11, j12, j13, j14, j15, j16, j17, j18, j19, j20, j21, j22, j23, j24, j25, j26, j27, j28, j29], σ ++ [.row 3 1 8 8 false ((joinList a b 8).map iRow)]⟩) →
    Rnd σ.length Tryz.prog p99_0 K (k + 1) ⟨[.sl 1 (a.map iRow), .sl 1 (b.map iRow), .u, .u, .own σ.length n, .i .i64 (joinLast a b n), .u, .u, .i .i64 n, .u, .u, .u, .u, .u, .u, .u, .u, .u, .u, .u, .u, .u, .u, .u, .u, .u, .u, .u, .u, .u], σ ++ [.row 3 1 8 n false ((joinList a b n).map iRow)]⟩
  | 0, n, he, h1 => by
    have : n = 8 := by omega
    subst this
    refine rnd_step fun R hR => ?_
    simp only [p99_0, W, pexec, xexec, binV, Nat.reduceAdd, Nat.reduceSub, Nat.reduceLeDiff, Nat.reduceEqDiff, Int.reduceToNat, reduceIte, reduceCtorEq]
    refine ⟨fun h => by simp at h, fun _ => h1 ..⟩
  | k + 1, n, he, h1 => by
    refine rnd_step fun R hR => ?_
    simp only [p99_0, W, pexec, xexec, binV, Nat.reduceAdd, Nat.reduceSub, Nat.reduceLeDiff, Nat.reduceEqDiff, Int.reduceToNat, reduceIte, reduceCtorEq]
    refine ⟨fun _ => ?_, fun h => by simp at h; omega⟩
    refine call_eq (stampAt_pc a n _) rfl ?_
    simp only [W, pexec, xexec, binV, Nat.reduceAdd, Nat.reduceSub, Nat.reduceLeDiff, Nat.reduceEqDiff, Int.reduceToNat, reduceIte, reduceCtorEq]
    refine call_eq (stampAt_pc b n _) rfl ?_
    simp only [W, pexec, xexec, binV, Nat.reduceAdd, Nat.reduceSub, Nat.reduceLeDiff, Nat.reduceEqDiff, Int.reduceToNat, reduceIte, reduceCtorEq]
    have hw := wrap_succ (n := n) (by omega)
    have hrows : (joinList a b n).map iRow ++ [[V.i .i64 (if vAt a n < vAt b n then vAt b n else vAt a n)]] = (joinList a b (n + 1)).map iRow := by simp [joinList_succ, iRow]
    simp only [hrows, hw]
    refine ⟨?_, fun h => ?_, fun h => ?_⟩
    · simp only [List.length_map, joinList_length, maxLen]; omega
    · have e : joinLast a b (n + 1) = n + 1 := by simp at h; simp [joinLast, h]
      refine hR _ (rnd_cvs ?_ (loop99 hcl a b k (n + 1) (by omega) h1))
      rw [e]
      repeat first | exact .nil | refine .cons (.refl _) ?_ | refine .cons (.forget _) ?_
    · have e : joinLast a b (n + 1) = joinLast a b n := by simp at h; simp [joinLast, h]
      refine hR _ (rnd_cvs ?_ (loop99 hcl a b k (n + 1) (by omega) h1))
      rw [e]
      repeat first | exact .nil | refine .cons (.refl _) ?_ | refine .cons (.forget _) ?_

theorem ti_int : Ti Tryz.prog 3 1 8 := tiB_ok (by kernel_rfl)

theorem vJoin_pc (a b : List Int) (σ : Store) : PC Tryz.prog 99 [.sl 1 (a.map iRow), .sl 1 (b.map iRow)] σ (fun r σ' => r = .sl 1 ((vJoin a b).map iRow) ∧ σ' = σ) := by
  refine PC.intro Tryz.func99 c99 fun hcl hwf => wpc_sound ?_
  simp only [p99, List.length_cons, List.length_nil, List.replicate, List.cons_append, List.nil_append, Nat.reduceAdd, Nat.reduceSub]
  simp only [W, pexec, xexec, binV, Nat.reduceAdd, Nat.reduceSub, Nat.reduceLeDiff, Nat.reduceEqDiff, Int.reduceToNat, reduceIte, reduceCtorEq]
  refine PWc.wk ((Wk.promote (k := 4) ti_int rfl).trans (Wk.cvs ?_)) (PWc.rnd 9 (loop99 hcl a b 8 0 (by omega) ?_))
  · simp only [W, pexec, xexec, binV, Nat.reduceAdd, Nat.reduceSub, Nat.reduceLeDiff, Nat.reduceEqDiff, Int.reduceToNat, reduceIte, reduceCtorEq]
    repeat first | exact .nil | refine .cons (.refl _) ?_ | refine .cons (.forget _) ?_
  · intros
    simp only [W, pexec, xexec, binV, Nat.reduceAdd, Nat.reduceSub, Nat.reduceLeDiff, Nat.reduceEqDiff, Int.reduceToNat, reduceIte, reduceCtorEq]
    refine ⟨?_, ?_⟩
    · have : joinLast a b 8 ≤ 8 := joinLast_le a b 8
      simp only [List.length_map, joinList_length]; omega
    · refine ret_fz 0 hcl (.inr rfl) rfl rfl ?_ ?_
      · simp [fz, fz1, AllLt, lt_sl]
      · simp [fz, fz1, one, vJoin]

theorem vTrim_pc (a : List Int) (σ : Store) : PC Tryz.prog 53 [.sl 1 (a.map iRow)] σ (fun r σ' => r = .sl 1 ((vJoin a []).map iRow) ∧ σ' = σ) := by
  refine PC.intro Tryz.func53 c53 fun hcl hwf => wpc_sound ?_
  simp only [p53, List.length_cons, List.length_nil, List.replicate, List.cons_append, List.nil_append, Nat.reduceAdd, Nat.reduceSub]
  simp only [W, pexec, xexec, binV, Nat.reduceAdd, Nat.reduceSub, Nat.reduceLeDiff, Nat.reduceEqDiff, Int.reduceToNat, reduceIte, reduceCtorEq]
  refine call_cv (zs := [.sl 1 (a.map iRow), .sl 1 (([] : List Int).map iRow)]) (.cons (.refl _) (.cons (.nil _) .nil)) (vJoin_pc a [] _) ?_
  simp only [W, pexec, xexec, binV, Nat.reduceAdd, Nat.reduceSub, Nat.reduceLeDiff, Nat.reduceEqDiff, Int.reduceToNat, reduceIte, reduceCtorEq]
  exact ret_end0 (.inr rfl) rfl ⟨rfl, rfl⟩

theorem sliteIndexByte_pc (l : List UInt8) (c : UInt8) (σ : Store) : PC Tryz.prog 184 [.s l, .i .u8 c.toNat] σ (fun r σ' => r = .i .i64 (Lib.indexByte l c) ∧ σ' = σ) := by
  refine PC.ofCalls fun w μ vs hv => ?_
  obtain ⟨x, hx, hl, _⟩ := (hv.2 0 _ rfl).inv_s
  have hc := (hv.2 1 _ rfl).inv_i
  refine ⟨.int .i64 (Lib.indexByte l c), ?_, .i _ _⟩
  rw [vs2 hv.1, hx, hc]
  refine (Tryz.stringslite_IndexByte x c.toNat w).mono ?_
  rintro e w' ⟨rfl, rfl⟩
  refine ⟨?_, rfl⟩
  rw [hl]
  have : ((c.toNat : Int).toNat).toUInt8 = c := by simp
  rw [this]

theorem indexByte_pc (l : List UInt8) (c : UInt8) (σ : Store) : PC Tryz.prog 167 [.s l, .i .u8 c.toNat] σ (fun r σ' => r = .i .i64 (Lib.indexByte l c) ∧ σ' = σ) := by
  refine PC.intro Tryz.func167 c167 fun hcl hwf => wpc_sound ?_
  simp only [p167, List.length_cons, List.length_nil, List.replicate, List.cons_append, List.nil_append, Nat.reduceAdd, Nat.reduceSub]
  simp only [W, pexec, xexec, binV, Nat.reduceAdd, Nat.reduceSub, Nat.reduceLeDiff, Nat.reduceEqDiff, Int.reduceToNat, reduceIte, reduceCtorEq]
  refine call_eq (sliteIndexByte_pc l c _) rfl ?_
  simp only [W, pexec, xexec, binV, Nat.reduceAdd, Nat.reduceSub, Nat.reduceLeDiff, Nat.reduceEqDiff, Int.reduceToNat, reduceIte, reduceCtorEq]
  exact ret_end0 (.inr rfl) rfl ⟨rfl, rfl⟩

theorem sliteIndex_pc (l : List UInt8) (c : UInt8) (σ : Store) : PC Tryz.prog 203 [.s l, .s [c]] σ (fun r σ' => r = .i .i64 (Lib.indexByte l c) ∧ σ' = σ) := by
  refine PC.ofCalls fun w μ vs hv => ?_
  obtain ⟨x, hx, hl, _⟩ := (hv.2 0 _ rfl).inv_s
  obtain ⟨y, hy, hly, _⟩ := (hv.2 1 _ rfl).inv_s
  refine ⟨.int .i64 (Lib.indexByte l c), ?_, .i _ _⟩
  have e : y = ⟨#[c]⟩ := by
    have h : y.data = #[c] := by apply Array.toList_inj.1; rw [hly]
    cases y; simp_all
  rw [vs2 hv.1, hx, hy, e]
  refine (Tryz.stringslite_Index_one x c w).mono ?_
  rintro e w' ⟨rfl, rfl⟩
  exact ⟨by rw [hl], rfl⟩

theorem sliteCut_pc (l : List UInt8) (c : UInt8) (σ : Store) : PC Tryz.prog 195 [.s l, .s [c]] σ (fun r σ' => r = .tup [.s (cutAt l c).1, .s (cutAt l c).2.1, .b (cutAt l c).2.2] ∧ σ' = σ) := by
  refine PC.intro Tryz.func195 c195 fun hcl hwf => wpc_sound ?_
  simp only [p195, List.length_cons, List.length_nil, List.replicate, List.cons_append, List.nil_append, Nat.reduceAdd, Nat.reduceSub]
  simp only [W, pexec, xexec, binV, Nat.reduceAdd, Nat.reduceSub, Nat.reduceLeDiff, Nat.reduceEqDiff, Int.reduceToNat, reduceIte, reduceCtorEq]
  refine call_eq (sliteIndex_pc l c _) rfl ?_
  simp only [W, pexec, xexec, binV, Nat.reduceAdd, Nat.reduceSub, Nat.reduceLeDiff, Nat.reduceEqDiff, Int.reduceToNat, reduceIte, reduceCtorEq]
  have h1 := indexByte_lt l c
  have h3 := wf_s (hwf 0 _ rfl).1
  refine ⟨fun h => ?_, fun h => ?_⟩
  · simp only [decide_eq_true_eq] at h
    have h2 : IntKind.i64.wrap (Lib.indexByte l c + ((1 : Nat) : Int)) = Lib.indexByte l c + 1 := IntWalk.i64_in _ (by omega)
    rw [h2]
    refine ⟨by omega, by omega, ret_end0 (.inr rfl) rfl ⟨?_, rfl⟩⟩
    have h4 : (Lib.indexByte l c + 1).toNat = (Lib.indexByte l c).toNat + 1 := by omega
    have h5 : (l.drop ((Lib.indexByte l c).toNat + 1)).take (l.length - ((Lib.indexByte l c).toNat + 1)) = l.drop ((Lib.indexByte l c).toNat + 1) := List.take_of_length_le (by simp)
    simp only [one, cutAt, h, if_true, h4, h5, Nat.sub_zero, List.getD_cons_zero, List.getD_cons_succ]
  · simp only [decide_eq_false_iff_not] at h
    exact ret_end0 (.inr rfl) rfl ⟨by simp only [one, cutAt, h, if_false, List.getD_cons_zero, List.getD_cons_succ], rfl⟩

theorem cut_pc (l : List UInt8) (c : UInt8) (σ : Store) : PC Tryz.prog 182 [.s l, .s [c]] σ (fun r σ' => r = .tup [.s (cutAt l c).1, .s (cutAt l c).2.1, .b (cutAt l c).2.2] ∧ σ' = σ) := by
  refine PC.intro Tryz.func182 c182 fun hcl hwf => wpc_sound ?_
  simp only [p182, List.length_cons, List.length_nil, List.replicate, List.cons_append, List.nil_append, Nat.reduceAdd, Nat.reduceSub]
  simp only [W, pexec, xexec, binV, Nat.reduceAdd, Nat.reduceSub, Nat.reduceLeDiff, Nat.reduceEqDiff, Int.reduceToNat, reduceIte, reduceCtorEq]
  refine call_eq (sliteCut_pc l c _) rfl ?_
  simp only [W, pexec, xexec, binV, Nat.reduceAdd, Nat.reduceSub, Nat.reduceLeDiff, Nat.reduceEqDiff, Int.reduceToNat, reduceIte, reduceCtorEq]
  exact ret_end0 (.inr rfl) rfl ⟨rfl, rfl⟩

theorem sliteHasPrefix_pc (l p : List UInt8) (σ : Store) : PC Tryz.prog 197 [.s l, .s p] σ (fun r σ' => r = .b (hasPrefix l p) ∧ σ' = σ) := by
  refine PC.intro Tryz.func197 c197 fun hcl hwf => wpc_sound ?_
  simp only [p197, List.length_cons, List.length_nil, List.replicate, List.cons_append, List.nil_append, Nat.reduceAdd, Nat.reduceSub]
  simp only [W, pexec, xexec, binV, Nat.reduceAdd, Nat.reduceSub, Nat.reduceLeDiff, Nat.reduceEqDiff, Int.reduceToNat, reduceIte, reduceCtorEq]
  refine ⟨fun h => by simp at h; omega, ret_end0 (.inr rfl) rfl ⟨?_, rfl⟩⟩
  simp [one, hasPrefix]

theorem hasPrefix_pc (l p : List UInt8) (σ : Store) : PC Tryz.prog 185 [.s l, .s p] σ (fun r σ' => r = .b (hasPrefix l p) ∧ σ' = σ) := by
  refine PC.intro Tryz.func185 c185 fun hcl hwf => wpc_sound ?_
  simp only [p185, List.length_cons, List.length_nil, List.replicate, List.cons_append, List.nil_append, Nat.reduceAdd, Nat.reduceSub]
  simp only [W, pexec, xexec, binV, Nat.reduceAdd, Nat.reduceSub, Nat.reduceLeDiff, Nat.reduceEqDiff, Int.reduceToNat, reduceIte, reduceCtorEq]
  refine call_eq (sliteHasPrefix_pc l p _) rfl ?_
  simp only [W, pexec, xexec, binV, Nat.reduceAdd, Nat.reduceSub, Nat.reduceLeDiff, Nat.reduceEqDiff, Int.reduceToNat, reduceIte, reduceCtorEq]
  exact ret_end0 (.inr rfl) rfl ⟨rfl, rfl⟩

theorem sliteHasSuffix_pc (l p : List UInt8) (σ : Store) : PC Tryz.prog 198 [.s l, .s p] σ (fun r σ' => r = .b (hasSuffix l p) ∧ σ' = σ) := by
  refine PC.intro Tryz.func198 c198 fun hcl hwf => wpc_sound ?_
  simp only [p198, List.length_cons, List.length_nil, List.replicate, List.cons_append, List.nil_append, Nat.reduceAdd, Nat.reduceSub]
  simp only [W, pexec, xexec, binV, Nat.reduceAdd, Nat.reduceSub, Nat.reduceLeDiff, Nat.reduceEqDiff, Int.reduceToNat, reduceIte, reduceCtorEq]
  have h3 := wf_s (hwf 0 _ rfl).1
  have h4 := wf_s (hwf 1 _ rfl).1
  have h2 : IntKind.i64.wrap ((l.length : Int) - (p.length : Int)) = l.length - p.length := IntWalk.i64_in _ (by omega)
  rw [h2]
  refine ⟨fun h => by simp at h; omega, ret_end0 (.inr rfl) rfl ⟨?_, rfl⟩⟩
  simp only [one, hasSuffix, List.getD_cons_zero, List.getD_cons_succ]
  by_cases hle : p.length ≤ l.length
  · have e : ((l.length : Int) - (p.length : Int)).toNat = l.length - p.length := by omega
    have h5 : (l.drop (l.length - p.length)).take (l.length - (l.length - p.length)) = l.drop (l.length - p.length) := List.take_of_length_le (by simp)
    simp [e, h5, hle]
  · simp [hle]

theorem hasSuffix_pc (l p : List UInt8) (σ : Store) : PC Tryz.prog 186 [.s l, .s p] σ (fun r σ' => r = .b (hasSuffix l p) ∧ σ' = σ) := by
  refine PC.intro Tryz.func186 c186 fun hcl hwf => wpc_sound ?_
  simp only [p186, List.length_cons, List.length_nil, List.replicate, List.cons_append, List.nil_append, Nat.reduceAdd, Nat.reduceSub]
  simp only [W, pexec, xexec, binV, Nat.reduceAdd, Nat.reduceSub, Nat.reduceLeDiff, Nat.reduceEqDiff, Int.reduceToNat, reduceIte, reduceCtorEq]
  refine call_eq (sliteHasSuffix_pc l p _) rfl ?_
  simp only [W, pexec, xexec, binV, Nat.reduceAdd, Nat.reduceSub, Nat.reduceLeDiff, Nat.reduceEqDiff, Int.reduceToNat, reduceIte, reduceCtorEq]
  exact ret_end0 (.inr rfl) rfl ⟨rfl, rfl⟩

theorem itemName_pc (l : List UInt8) (σ : Store) : PC Tryz.prog 163 [.s l] σ (fun r σ' => r = .s (tagName l) ∧ σ' = σ) := by
  refine PC.intro Tryz.func163 c163 fun hcl hwf => wpc_sound ?_
  simp only [p163, List.length_cons, List.length_nil, List.replicate, List.cons_append, List.nil_append, Nat.reduceAdd, Nat.reduceSub]
  simp only [W, pexec, xexec, binV, Nat.reduceAdd, Nat.reduceSub, Nat.reduceLeDiff, Nat.reduceEqDiff, Int.reduceToNat, reduceIte, reduceCtorEq]
  refine call_eq (cut_pc l 32 _) rfl ?_
  simp only [W, pexec, xexec, binV, Nat.reduceAdd, Nat.reduceSub, Nat.reduceLeDiff, Nat.reduceEqDiff, Int.reduceToNat, reduceIte, reduceCtorEq]
  exact ret_end0 (.inr rfl) rfl ⟨rfl, rfl⟩

theorem notationName_pc (l : List UInt8) (σ : Store) : PC Tryz.prog 169 [.s l] σ (fun r σ' => r = .s (tagName l) ∧ σ' = σ) := by
  refine PC.intro Tryz.func169 c169 fun hcl hwf => wpc_sound ?_
  simp only [p169, List.length_cons, List.length_nil, List.replicate, List.cons_append, List.nil_append, Nat.reduceAdd, Nat.reduceSub]
  simp only [W, pexec, xexec, binV, Nat.reduceAdd, Nat.reduceSub, Nat.reduceLeDiff, Nat.reduceEqDiff, Int.reduceToNat, reduceIte, reduceCtorEq]
  refine call_eq (cut_pc l 32 _) rfl ?_
  simp only [W, pexec, xexec, binV, Nat.reduceAdd, Nat.reduceSub, Nat.reduceLeDiff, Nat.reduceEqDiff, Int.reduceToNat, reduceIte, reduceCtorEq]
  exact ret_end0 (.inr rfl) rfl ⟨rfl, rfl⟩

set_option maxRecDepth 8000 in
theorem classOf_pc (b : UInt8) (σ : Store) : PC Tryz.prog 175 [.i .u8 b.toNat] σ (fun r σ' => r = .i .i64 (classOf b) ∧ σ' = σ) := by
  refine PC.intro Tryz.func175 c175 fun hcl hwf => wpc_sound ?_
  simp only [p175, List.length_cons, List.length_nil, List.replicate, List.cons_append, List.nil_append, Nat.reduceAdd, Nat.reduceSub]
  simp only [W, pexec, xexec, binV, Nat.reduceAdd, Nat.reduceSub, Nat.reduceLeDiff, Nat.reduceEqDiff, Int.reduceToNat, reduceIte, reduceCtorEq]
  clear hwf hcl
  refine ⟨fun h1 => ?_, fun h1 => ⟨fun h2 => ?_, fun h2 => ⟨fun h3 => ?_, fun h3 => ⟨fun h4 => ?_, fun h4 => ?_⟩⟩⟩⟩ <;> refine ret_end0 (.inr rfl) rfl ⟨?_, rfl⟩ <;> simp at * <;> simp only [one, classOf, List.getD_cons_zero, List.getD_cons_succ, V.i.injEq, true_and] <;> (repeat' split) <;> omega

end Go.Proofs.Tryz

set_option linter.unusedSimpArgs false
namespace Go.Proofs.Tryz
open Go Go.Pm Go.Bt

theorem isName_pc (s : List UInt8) (σ : Store) : PC Tryz.prog 104 [.s s] σ (fun r σ' => r = .b (isName s) ∧ σ' = σ) := by
  refine PC.intro Tryz.func104 c104 fun hcl hwf => wpc_sound ?_
  have hlen := wf_s (hwf 0 _ rfl).1
  simp only [p104, List.length_cons, List.length_nil, List.replicate, List.cons_append, List.nil_append, Nat.reduceAdd, Nat.reduceSub]
  simp only [W, pexec, xexec, binV, Nat.reduceAdd, Nat.reduceSub, Nat.reduceLeDiff, Nat.reduceEqDiff, Int.reduceToNat, reduceIte, reduceCtorEq]
  refine ⟨?_, ?_, fun h => ?_, fun h => ?_⟩
  · intro h; simp at h; omega
  · intro h; simp at h; omega
  · refine ret_end0 (.inr rfl) rfl ⟨?_, rfl⟩
    simp only [one, List.getD_cons_zero, List.getD_cons_succ, V.b.injEq]
    cases s with
    | nil => rfl
    | cons c r =>
      simp only [isName]
      simp at h
      simp
      omega
  · cases s with
    | nil => simp at h
    | cons c r =>
      have e : isName (c :: r) = r.all nameByte := by
        simp only [isName]
        simp at h
        simp
        omega
      refine PWc.rnd_cvs ?_ (r.length + 1) (loop104 (c :: r) hlen r [c] rfl (fun h1 => ?_) (fun h1 => ?_))
      · simp only [W, pexec, xexec, binV, Nat.reduceAdd, Nat.reduceSub, Nat.reduceLeDiff, Nat.reduceEqDiff, Int.reduceToNat, reduceIte, reduceCtorEq]
        repeat first | exact .nil | refine .cons (.refl _) ?_ | refine .cons (.forget _) ?_
      · simp only [W, pexec, xexec, binV, Nat.reduceAdd, Nat.reduceSub, Nat.reduceLeDiff, Nat.reduceEqDiff, Int.reduceToNat, reduceIte, reduceCtorEq]
        intros
        exact ret_end0 (.inr rfl) rfl ⟨by simp only [one, e, h1, List.getD_cons_zero, List.getD_cons_succ], rfl⟩
      · simp only [W, pexec, xexec, binV, Nat.reduceAdd, Nat.reduceSub, Nat.reduceLeDiff, Nat.reduceEqDiff, Int.reduceToNat, reduceIte, reduceCtorEq]
        intros
        exact ret_end0 (.inr rfl) rfl ⟨by simp only [one, e, h1, List.getD_cons_zero, List.getD_cons_succ], rfl⟩

theorem isTag_pc (x : It) (σ : Store) : PC Tryz.prog 129 [.agg x.cells] σ (fun r σ' => r = .b (isTag x) ∧ σ' = σ) := by
  refine PC.intro Tryz.func129 c129 fun hcl hwf => wpc_sound ?_
  simp only [p129, It.cells, List.length_cons, List.length_nil, List.replicate, List.cons_append, List.nil_append, Nat.reduceAdd, Nat.reduceSub]
  simp only [W, pexec, xexec, binV, Nat.reduceAdd, Nat.reduceSub, Nat.reduceLeDiff, Nat.reduceEqDiff, Int.reduceToNat, reduceIte, reduceCtorEq]
  exact ret_end hcl (.inr rfl) rfl (by simp only [LW]) ⟨rfl, rfl⟩

theorem at2_iRow' {pre rest : List Int} {x : Int} : at2 (List.map iRow (pre ++ x :: rest)) pre.length 0 = some (.i .i64 x) := by
  simp [at2, iRow]

theorem loop52 {σ : Store} {K : Exit → St → Prop} (a b : List Int) (hlen : a.length < 2 ^ 63) (hab : a.length = b.length) : ∀ (ra rb pa pb : List Int), a = pa ++ ra → b = pb ++ rb → pa.length = pb.length →
    (ra = rb → (∀ j0 j1 j2 j3 j4 j5 j6 j7 j8 j9 j10 j11 j12 j13 j14 j15 j16 j17 j18 j19 j20 j21 j22 j23 j24 j25, K (.exit 0) ⟨[j0, j1, j2, j3, j4, j5, j6, j7, j8, j9, j10, j11, j12, j13, j14, j15, j16, j17, j18, j19, j20, j21, j22, j23, j24, j25], σ⟩)) → (ra ≠ rb → (∀ j0 j1 j2 j3 j5 j6 j7 j8 j9 j10 j11 j12 j13 j14 j15 j16 j17 j18 j19 j20 j21 j22 j23 j24 j25, K .ret ⟨[j0, j1, j2, j3, .b false, j5, j6, j7, j8, j9, j10, j11, j12, j13, j14, j15, j16, j17, j18, j19, j20, j21, j22, j23, j24, j25], σ⟩)) →
    Rnd σ.length Tryz.prog p52_0 K (ra.length + 1) ⟨[.sl 1 (a.map iRow), .sl 1 (b.map iRow), .u, .u, .u, .u, .u, .u, .u, .u, .u, .u, .i .i64 a.length, .i .i64 pa.length, .u, .u, .u, .u, .u, .u, .u, .u, .u, .u, .u, .u], σ⟩
  | [], rb, pa, pb, ha, hb, hp, h1, h2 => by
    have : rb = [] := by
      subst ha; subst hb
      simp at hab
      have : rb.length = 0 := by omega
      exact List.length_eq_zero_iff.1 this
    subst this
    subst ha
    refine rnd_step fun R hR => ?_
    simp only [p52_0, W, pexec, xexec, binV, Nat.reduceAdd, Nat.reduceSub, Nat.reduceLeDiff, Nat.reduceEqDiff, Int.reduceToNat, reduceIte, reduceCtorEq]
    exact ⟨fun h => by simp at h, fun _ => h1 rfl ..⟩
  | x :: ra, [], pa, pb, ha, hb, hp, h1, h2 => by
    subst ha; subst hb; simp at hab; omega
  | x :: ra, y :: rb, pa, pb, ha, hb, hp, h1, h2 => by
    subst ha; subst hb
    refine rnd_step fun R hR => ?_
    have hat : at2 (List.map iRow (pb ++ y :: rb)) pa.length 0 = some (.i .i64 y) := by rw [hp]; exact at2_iRow'
    simp only [p52_0, hat, iRow, W, pexec, xexec, binV, Nat.reduceAdd, Nat.reduceSub, Nat.reduceLeDiff, Nat.reduceEqDiff, Int.reduceToNat, reduceIte, reduceCtorEq]
    refine ⟨fun _ => ⟨by simp; omega, by simp; omega, fun h => ?_, fun h => ?_⟩, fun h => by simp at h; omega⟩
    · simp at h
      exact h2 (by simp [h]) ..
    · simp at h
      subst h
      refine hR _ (rnd_cvs ?_ (loop52 _ _ hlen hab ra rb (pa ++ [x]) (pb ++ [x]) (by simp) (by simp) (by simp [hp]) (fun e => h1 (by rw [e])) (fun e => h2 (by simp [e]))))
      rw [wrap_succ (by simp at hlen; omega)]
      simp only [List.length_append, List.length_cons, List.length_nil]
      repeat first | exact .nil | refine .cons (.refl _) ?_ | refine .cons (.forget _) ?_

theorem equalInts_pc (a b : List Int) (σ : Store) : PC Tryz.prog 52 [.sl 1 (a.map iRow), .sl 1 (b.map iRow)] σ (fun r σ' => r = .b (a == b) ∧ σ' = σ) := by
  refine PC.intro Tryz.func52 c52 fun hcl hwf => wpc_sound ?_
  have hlen := wf_sl (hwf 0 _ rfl).1
  rw [List.length_map] at hlen
  simp only [p52, List.length_cons, List.length_nil, List.replicate, List.cons_append, List.nil_append, Nat.reduceAdd, Nat.reduceSub]
  simp only [List.length_map, W, pexec, xexec, binV, Nat.reduceAdd, Nat.reduceSub, Nat.reduceLeDiff, Nat.reduceEqDiff, Int.reduceToNat, reduceIte, reduceCtorEq]
  refine ⟨fun h => ?_, fun h => ?_⟩
  · refine ret_end0 (.inr rfl) rfl ⟨?_, rfl⟩
    simp at h
    simp only [one, List.getD_cons_zero, List.getD_cons_succ, V.b.injEq]
    exact (beq_eq_false_iff_ne.2 fun e => h (by rw [e])).symm
  · simp at h
    refine PWc.rnd_cvs ?_ (a.length + 1) (loop52 a b hlen (by omega) a b [] [] rfl rfl rfl (fun h1 => ?_) (fun h1 => ?_))
    · simp only [W, pexec, xexec, binV, Nat.reduceAdd, Nat.reduceSub, Nat.reduceLeDiff, Nat.reduceEqDiff, Int.reduceToNat, reduceIte, reduceCtorEq]
      repeat first | exact .nil | refine .cons (.refl _) ?_ | refine .cons (.forget _) ?_
    · simp only [W, pexec, xexec, binV, Nat.reduceAdd, Nat.reduceSub, Nat.reduceLeDiff, Nat.reduceEqDiff, Int.reduceToNat, reduceIte, reduceCtorEq]
      intros
      exact ret_end0 (.inr rfl) rfl ⟨by simp [one, h1], rfl⟩
    · simp only [W, pexec, xexec, binV, Nat.reduceAdd, Nat.reduceSub, Nat.reduceLeDiff, Nat.reduceEqDiff, Int.reduceToNat, reduceIte, reduceCtorEq]
      intros
      exact ret_end0 (.inr rfl) rfl ⟨by simp [one, h1], rfl⟩

end Go.Proofs.Tryz
