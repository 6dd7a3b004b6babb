/- A part of the proof of the statement of the last text of this claim: for every input the law returns true and leaves its argument as it was. -/
import Derived.Test.YtdhbodgefhojnaaGreatDoorProg
import Derived.KernelRfl
import Derived.Test.YtdhbodgefhojnaaGreatDoorL9
set_option linter.unusedSectionVars false
set_option linter.unusedVariables false
set_option linter.unusedSimpArgs false
set_option linter.constructorNameAsVariable false

namespace Go.Proofs.Tryz
open Go Go.Pm

def p188 : PFun := ⟨51, [.t 2],
 .seq (.reg [] [⟨some 2, [], .mov (.c (.i .i64 0))⟩])
 (.seq (.block 0 (.seq (.reg [7, 8, 11, 12, 15, 16] [⟨some 4, [], .mov (.t 0)⟩,
      ⟨some 5, [], .bin .eql (.t 4) (.c (.i .u8 9))⟩,
      ⟨some 6, [], .mov (.t 5)⟩,
      ⟨some 7, [(6, false)], .mov (.t 0)⟩,
      ⟨some 8, [(6, false)], .bin .eql (.t 7) (.c (.i .u8 10))⟩,
      ⟨some 9, [], .pick (.t 6) (.c (.b true)) (.t 8)⟩,
      ⟨some 10, [], .mov (.t 9)⟩,
      ⟨some 11, [(10, false)], .mov (.t 0)⟩,
      ⟨some 12, [(10, false)], .bin .eql (.t 11) (.c (.i .u8 13))⟩,
      ⟨some 13, [], .pick (.t 10) (.c (.b true)) (.t 12)⟩,
      ⟨some 14, [], .mov (.t 13)⟩,
      ⟨some 15, [(14, false)], .mov (.t 0)⟩,
      ⟨some 16, [(14, false)], .bin .eql (.t 15) (.c (.i .u8 32))⟩,
      ⟨some 17, [], .pick (.t 14) (.c (.b true)) (.t 16)⟩,
      ⟨some 3, [], .mov (.t 17)⟩])
    (.ite (.t 3) (.seq (.reg [] [⟨some 2, [], .mov (.c (.i .i64 2))⟩])
      (.ret))
     (.seq (.reg [22, 23] [⟨some 19, [], .mov (.t 0)⟩,
        ⟨some 20, [], .bin .lss (.t 19) (.c (.i .u8 32))⟩,
        ⟨some 21, [], .mov (.t 20)⟩,
        ⟨some 22, [(21, false)], .mov (.t 0)⟩,
        ⟨some 23, [(21, false)], .bin .eql (.t 22) (.c (.i .u8 127))⟩,
        ⟨some 24, [], .pick (.t 21) (.c (.b true)) (.t 23)⟩,
        ⟨some 18, [], .mov (.t 24)⟩])
      (.ite (.t 18) (.seq (.reg [] [⟨some 2, [], .mov (.c (.i .i64 1))⟩])
        (.ret))
       (.seq (.reg [29, 30] [⟨some 26, [], .mov (.t 0)⟩,
          ⟨some 27, [], .bin .geq (.t 26) (.c (.i .u8 48))⟩,
          ⟨some 28, [], .mov (.t 27)⟩,
          ⟨some 29, [(28, true)], .mov (.t 0)⟩,
          ⟨some 30, [(28, true)], .bin .leq (.t 29) (.c (.i .u8 57))⟩,
          ⟨some 31, [], .pick (.t 28) (.t 30) (.c (.b false))⟩,
          ⟨some 25, [], .mov (.t 31)⟩])
        (.ite (.t 25) (.seq (.reg [] [⟨some 2, [], .mov (.c (.i .i64 3))⟩])
          (.ret))
         (.seq (.reg [36, 37, 40, 41, 42, 43, 44, 45, 48, 49] [⟨some 33, [], .mov (.t 0)⟩,
            ⟨some 34, [], .bin .geq (.t 33) (.c (.i .u8 65))⟩,
            ⟨some 35, [], .mov (.t 34)⟩,
            ⟨some 36, [(35, true)], .mov (.t 0)⟩,
            ⟨some 37, [(35, true)], .bin .leq (.t 36) (.c (.i .u8 90))⟩,
            ⟨some 38, [], .pick (.t 35) (.t 37) (.c (.b false))⟩,
            ⟨some 39, [], .mov (.t 38)⟩,
            ⟨some 40, [(39, false)], .mov (.t 0)⟩,
            ⟨some 41, [(39, false)], .bin .geq (.t 40) (.c (.i .u8 97))⟩,
            ⟨some 42, [(39, false)], .mov (.t 41)⟩,
            ⟨some 43, [(39, false), (42, true)], .mov (.t 0)⟩,
            ⟨some 44, [(39, false), (42, true)], .bin .leq (.t 43) (.c (.i .u8 122))⟩,
            ⟨some 45, [(39, false)], .pick (.t 42) (.t 44) (.c (.b false))⟩,
            ⟨some 46, [], .pick (.t 39) (.c (.b true)) (.t 45)⟩,
            ⟨some 47, [], .mov (.t 46)⟩,
            ⟨some 48, [(47, false)], .mov (.t 0)⟩,
            ⟨some 49, [(47, false)], .bin .geq (.t 48) (.c (.i .u8 128))⟩,
            ⟨some 50, [], .pick (.t 47) (.c (.b true)) (.t 49)⟩,
            ⟨some 32, [], .mov (.t 50)⟩])
          (.ite (.t 32) (.seq (.reg [] [⟨some 2, [], .mov (.c (.i .i64 4))⟩])
            (.ret))
           (.skip))))))))))
  (.seq (.reg [] [⟨some 2, [], .mov (.c (.i .i64 5))⟩])
   (.ret)))⟩
theorem c188 : cFun Tryz.prog Tryz.f188 = some p188 := by kernel_rfl

def p142_0 : PCode := .seq (.seq (.reg [] [⟨some 13, [], .mov (.t 3)⟩,
    ⟨some 14, [], .mov (.t 0)⟩,
    ⟨some 15, [], .len true (.t 14)⟩,
    ⟨some 16, [], .bin .lss (.t 13) (.t 15)⟩])
  (.ite (.t 16) (.skip)
   (.exit 0)))
 (.seq (.block 1 (.seq (.reg [] [⟨some 19, [], .mov (.t 0)⟩,
      ⟨some 20, [], .mov (.t 3)⟩,
      ⟨some 21, [], .sidx (.t 19) (.t 20)⟩,
      ⟨some 4, [], .mov (.t 21)⟩])
    (.seq (.seq (.reg [25, 26, 29, 30, 31, 32, 33, 34, 35, 36, 37, 38, 39, 40, 41, 42] [⟨some 22, [], .mov (.t 4)⟩,
        ⟨some 23, [], .bin .geq (.t 22) (.c (.i .u8 97))⟩,
        ⟨some 24, [], .mov (.t 23)⟩,
        ⟨some 25, [(24, true)], .mov (.t 4)⟩,
        ⟨some 26, [(24, true)], .bin .leq (.t 25) (.c (.i .u8 122))⟩,
        ⟨some 27, [], .pick (.t 24) (.t 26) (.c (.b false))⟩,
        ⟨some 28, [], .mov (.t 27)⟩,
        ⟨some 29, [(28, false)], .mov (.t 3)⟩,
        ⟨some 30, [(28, false)], .bin .gtr (.t 29) (.c (.i .i64 0))⟩,
        ⟨some 31, [(28, false)], .mov (.t 30)⟩,
        ⟨some 32, [(28, false), (31, true)], .mov (.t 4)⟩,
        ⟨some 33, [(28, false), (31, true)], .bin .geq (.t 32) (.c (.i .u8 48))⟩,
        ⟨some 34, [(28, false), (31, true)], .mov (.t 33)⟩,
        ⟨some 35, [(28, false), (31, true), (34, true)], .mov (.t 4)⟩,
        ⟨some 36, [(28, false), (31, true), (34, true)], .bin .leq (.t 35) (.c (.i .u8 57))⟩,
        ⟨some 37, [(28, false), (31, true)], .pick (.t 34) (.t 36) (.c (.b false))⟩,
        ⟨some 38, [(28, false), (31, true)], .mov (.t 37)⟩,
        ⟨some 39, [(28, false), (31, true), (38, false)], .mov (.t 4)⟩,
        ⟨some 40, [(28, false), (31, true), (38, false)], .bin .eql (.t 39) (.c (.i .u8 45))⟩,
        ⟨some 41, [(28, false), (31, true)], .pick (.t 38) (.c (.b true)) (.t 40)⟩,
        ⟨some 42, [(28, false)], .pick (.t 31) (.t 41) (.c (.b false))⟩,
        ⟨some 43, [], .pick (.t 28) (.c (.b true)) (.t 42)⟩])
      (.ite (.t 43) (.exit 1)
       (.skip)))
     (.seq (.reg [] [⟨some 2, [], .mov (.c (.b false))⟩])
      (.ret)))))
  (.reg [] [⟨some 17, [], .mov (.t 3)⟩,
    ⟨some 18, [], .bin .add (.t 17) (.c (.i .i64 1))⟩,
    ⟨some 3, [], .mov (.t 18)⟩]))
def p142 : PFun := ⟨44, [.t 2],
 .seq (.reg [] [⟨some 2, [], .mov (.c (.b false))⟩])
 (.seq (.seq (.reg [9, 10, 11] [⟨some 5, [], .mov (.t 0)⟩,
     ⟨some 6, [], .len true (.t 5)⟩,
     ⟨some 7, [], .bin .lss (.t 6) (.c (.i .i64 1))⟩,
     ⟨some 8, [], .mov (.t 7)⟩,
     ⟨some 9, [(8, false)], .mov (.t 0)⟩,
     ⟨some 10, [(8, false)], .len true (.t 9)⟩,
     ⟨some 11, [(8, false)], .bin .gtr (.t 10) (.c (.i .i64 24))⟩,
     ⟨some 12, [], .pick (.t 8) (.c (.b true)) (.t 11)⟩])
   (.ite (.t 12) (.seq (.reg [] [⟨some 2, [], .mov (.c (.b false))⟩])
     (.ret))
    (.skip)))
  (.seq (.seq (.reg [] [⟨some 3, [], .mov (.c (.i .i64 0))⟩])
    (.block 0 (.loop p142_0)))
   (.seq (.reg [] [⟨some 2, [], .mov (.c (.b true))⟩])
    (.ret))))⟩
theorem c142 : cFun Tryz.prog Tryz.f142 = some p142 := by kernel_rfl

def p173 : PFun := ⟨16, [.t 2],
 .seq (.reg [] [⟨some 2, [], .mov (.c (.s []))⟩])
 (.seq (.seq (.reg [6, 7] [⟨some 3, [], .mov (.t 0)⟩,
     ⟨some 4, [], .bin .lss (.t 3) (.c (.i .i64 0))⟩,
     ⟨some 5, [], .mov (.t 4)⟩,
     ⟨some 6, [(5, true)], .mov (.t 0)⟩,
     ⟨some 7, [(5, true)], .bin .gtr (.t 6) (.c (.i .i64 (-4611686018427387904)))⟩,
     ⟨some 8, [], .pick (.t 5) (.t 7) (.c (.b false))⟩])
   (.ite (.t 8) (.seq (.reg [] [⟨some 9, [], .mov (.t 0)⟩,
       ⟨some 10, [], .un .neg (.t 9)⟩,
       ⟨some 11, [], .call 189 [.t 10]⟩,
       ⟨some 12, [], .bin .add (.c (.s [45])) (.t 11)⟩,
       ⟨some 2, [], .mov (.t 12)⟩])
     (.ret))
    (.skip)))
  (.seq (.reg [] [⟨some 13, [], .mov (.t 0)⟩,
     ⟨some 14, [], .max2 (.t 13) (.c (.i .i64 0))⟩,
     ⟨some 15, [], .call 189 [.t 14]⟩,
     ⟨some 2, [], .mov (.t 15)⟩])
   (.ret)))⟩
theorem c173 : cFun Tryz.prog Tryz.f173 = some p173 := by kernel_rfl

def p189_0 : PCode := .block 1 (.seq (.reg [] [⟨some 4, [], .mov (.t 0)⟩,
    ⟨some 5, [], .bin .rem (.t 4) (.c (.i .i64 10))⟩,
    ⟨some 6, [], .bin .add (.c (.i .i64 48)) (.t 5)⟩,
    ⟨some 7, [], .cvi .u8 (.t 6)⟩,
    ⟨some 8, [], .bslice 1 [none] [.t 7]⟩,
    ⟨some 9, [], .b2s (.t 8)⟩,
    ⟨some 10, [], .mov (.t 3)⟩,
    ⟨some 11, [], .bin .add (.t 9) (.t 10)⟩,
    ⟨some 3, [], .mov (.t 11)⟩])
  (.seq (.reg [] [⟨some 12, [], .mov (.t 0)⟩,
     ⟨some 13, [], .bin .quo (.t 12) (.c (.i .i64 10))⟩,
     ⟨some 0, [], .mov (.t 13)⟩])
   (.seq (.reg [] [⟨some 14, [], .mov (.t 0)⟩,
      ⟨some 15, [], .bin .eql (.t 14) (.c (.i .i64 0))⟩])
    (.ite (.t 15) (.seq (.reg [] [⟨some 16, [], .mov (.t 3)⟩,
        ⟨some 2, [], .mov (.t 16)⟩])
      (.ret))
     (.skip)))))
def p189 : PFun := ⟨17, [.t 2],
 .seq (.reg [] [⟨some 2, [], .mov (.c (.s []))⟩])
 (.seq (.reg [] [⟨some 3, [], .mov (.c (.s []))⟩])
  (.block 0 (.loop p189_0)))⟩
theorem c189 : cFun Tryz.prog Tryz.f189 = some p189 := by kernel_rfl

def p76_0 : PCode := .seq (.reg [] [⟨some 14, [], .bin .lss (.t 13) (.t 12)⟩])
 (.seq (.ite (.t 14) (.skip)
   (.exit 0))
  (.seq (.block 1 (.seq (.reg [] [⟨some 15, [], .mov (.t 13)⟩,
       ⟨some 5, [], .mov (.t 15)⟩])
     (.seq (.dreg [] [⟨some 16, [], .mov (.t 0)⟩,
        ⟨some 17, [], .mov (.t 5)⟩,
        ⟨some 18, [], .idx 3 (.t 16) (.t 17)⟩,
        ⟨some 19, [], .load (some 3) (.t 18)⟩,
        ⟨some 20, [], .mov (.t 1)⟩,
        ⟨some 21, [], .mov (.t 5)⟩,
        ⟨some 22, [], .idx 3 (.t 20) (.t 21)⟩,
        ⟨some 23, [], .load (some 3) (.t 22)⟩] [] [⟨some 24, [], .beq true [0, 1, 0] (.t 19) (.t 23)⟩])
      (.ite (.t 24) (.seq (.reg [] [⟨some 4, [], .mov (.c (.b false))⟩])
        (.ret))
       (.skip)))))
   (.reg [] [⟨some 25, [], .bin .add (.t 13) (.c (.i .i64 1))⟩,
     ⟨some 13, [], .mov (.t 25)⟩])))
def p76 : PFun := ⟨26, [.t 4],
 .seq (.reg [] [⟨some 4, [], .mov (.c (.b false))⟩])
 (.seq (.seq (.reg [] [⟨some 6, [], .mov (.t 0)⟩,
     ⟨some 7, [], .len false (.t 6)⟩,
     ⟨some 8, [], .mov (.t 1)⟩,
     ⟨some 9, [], .len false (.t 8)⟩,
     ⟨some 10, [], .bin .neq (.t 7) (.t 9)⟩])
   (.ite (.t 10) (.seq (.reg [] [⟨some 4, [], .mov (.c (.b false))⟩])
     (.ret))
    (.skip)))
  (.seq (.seq (.reg [] [⟨some 11, [], .mov (.t 0)⟩,
      ⟨some 12, [], .len false (.t 11)⟩,
      ⟨some 13, [], .mov (.c (.i .i64 0))⟩])
    (.block 0 (.loop p76_0)))
   (.seq (.reg [] [⟨some 4, [], .mov (.c (.b true))⟩])
    (.ret))))⟩
theorem c76 : cFun Tryz.prog Tryz.f76 = some p76 := by kernel_rfl

def p159 : PFun := ⟨16, [.t 2],
 .seq (.reg [] [⟨some 1, [], .box 23 (.t 0)⟩,
   ⟨some 2, [], .mov (.c (.b false))⟩])
 (.seq (.reg [7, 8, 9, 12, 13, 14] [⟨some 3, [], .fld 0 (.t 1)⟩,
    ⟨some 4, [], .load none (.t 3)⟩,
    ⟨some 5, [], .bin .eql (.t 4) (.c (.i .i64 2))⟩,
    ⟨some 6, [], .mov (.t 5)⟩,
    ⟨some 7, [(6, false)], .fld 0 (.t 1)⟩,
    ⟨some 8, [(6, false)], .load none (.t 7)⟩,
    ⟨some 9, [(6, false)], .bin .eql (.t 8) (.c (.i .i64 3))⟩,
    ⟨some 10, [], .pick (.t 6) (.c (.b true)) (.t 9)⟩,
    ⟨some 11, [], .mov (.t 10)⟩,
    ⟨some 12, [(11, false)], .fld 0 (.t 1)⟩,
    ⟨some 13, [(11, false)], .load none (.t 12)⟩,
    ⟨some 14, [(11, false)], .bin .eql (.t 13) (.c (.i .i64 4))⟩,
    ⟨some 15, [], .pick (.t 11) (.c (.b true)) (.t 14)⟩,
    ⟨some 2, [], .mov (.t 15)⟩])
  (.ret))⟩
theorem c159 : cFun Tryz.prog Tryz.f159 = some p159 := by kernel_rfl

def p122_0 : PCode := .seq (.seq (.reg [] [⟨some 4, [], .mov (.t 3)⟩,
    ⟨some 5, [], .mov (.t 0)⟩,
    ⟨some 6, [], .len true (.t 5)⟩,
    ⟨some 7, [], .bin .lss (.t 4) (.t 6)⟩])
  (.ite (.t 7) (.skip)
   (.exit 0)))
 (.seq (.block 1 (.seq (.reg [] [⟨some 10, [], .mov (.t 0)⟩,
      ⟨some 11, [], .mov (.t 3)⟩,
      ⟨some 12, [], .sidx (.t 10) (.t 11)⟩,
      ⟨some 13, [], .bin .eql (.t 12) (.c (.i .u8 32))⟩])
    (.ite (.t 13) (.seq (.reg [] [⟨some 14, [], .mov (.t 0)⟩,
        ⟨some 15, [], .mov (.t 3)⟩,
        ⟨some 16, [], .sslice (.t 14) none (some (.t 15))⟩,
        ⟨some 2, [], .mov (.t 16)⟩])
      (.ret))
     (.skip))))
  (.reg [] [⟨some 8, [], .mov (.t 3)⟩,
    ⟨some 9, [], .bin .add (.t 8) (.c (.i .i64 1))⟩,
    ⟨some 3, [], .mov (.t 9)⟩]))
def p122 : PFun := ⟨18, [.t 2],
 .seq (.reg [] [⟨some 2, [], .mov (.c (.s []))⟩])
 (.seq (.seq (.reg [] [⟨some 3, [], .mov (.c (.i .i64 0))⟩])
   (.block 0 (.loop p122_0)))
  (.seq (.reg [] [⟨some 17, [], .mov (.t 0)⟩,
     ⟨some 2, [], .mov (.t 17)⟩])
   (.ret)))⟩
theorem c122 : cFun Tryz.prog Tryz.f122 = some p122 := by kernel_rfl

def p170_0 : PCode := .seq (.seq (.reg [] [⟨some 9, [], .mov (.t 3)⟩,
    ⟨some 10, [], .mov (.t 0)⟩,
    ⟨some 11, [], .len true (.t 10)⟩,
    ⟨some 12, [], .bin .lss (.t 9) (.t 11)⟩])
  (.ite (.t 12) (.skip)
   (.exit 0)))
 (.seq (.block 1 (.seq (.reg [] [⟨some 15, [], .mov (.t 0)⟩,
      ⟨some 16, [], .mov (.t 3)⟩,
      ⟨some 17, [], .sidx (.t 15) (.t 16)⟩,
      ⟨some 4, [], .mov (.t 17)⟩])
    (.seq (.reg [21, 22, 25, 26, 29, 30, 33, 34, 37, 38] [⟨some 18, [], .mov (.t 4)⟩,
       ⟨some 19, [], .bin .lss (.t 18) (.c (.i .u8 32))⟩,
       ⟨some 20, [], .mov (.t 19)⟩,
       ⟨some 21, [(20, false)], .mov (.t 4)⟩,
       ⟨some 22, [(20, false)], .bin .gtr (.t 21) (.c (.i .u8 126))⟩,
       ⟨some 23, [], .pick (.t 20) (.c (.b true)) (.t 22)⟩,
       ⟨some 24, [], .mov (.t 23)⟩,
       ⟨some 25, [(24, false)], .mov (.t 4)⟩,
       ⟨some 26, [(24, false)], .bin .eql (.t 25) (.c (.i .u8 60))⟩,
       ⟨some 27, [], .pick (.t 24) (.c (.b true)) (.t 26)⟩,
       ⟨some 28, [], .mov (.t 27)⟩,
       ⟨some 29, [(28, false)], .mov (.t 4)⟩,
       ⟨some 30, [(28, false)], .bin .eql (.t 29) (.c (.i .u8 62))⟩,
       ⟨some 31, [], .pick (.t 28) (.c (.b true)) (.t 30)⟩,
       ⟨some 32, [], .mov (.t 31)⟩,
       ⟨some 33, [(32, false)], .mov (.t 4)⟩,
       ⟨some 34, [(32, false)], .bin .eql (.t 33) (.c (.i .u8 123))⟩,
       ⟨some 35, [], .pick (.t 32) (.c (.b true)) (.t 34)⟩,
       ⟨some 36, [], .mov (.t 35)⟩,
       ⟨some 37, [(36, false)], .mov (.t 4)⟩,
       ⟨some 38, [(36, false)], .bin .eql (.t 37) (.c (.i .u8 125))⟩,
       ⟨some 39, [], .pick (.t 36) (.c (.b true)) (.t 38)⟩])
     (.ite (.t 39) (.seq (.reg [] [⟨some 2, [], .mov (.c (.b false))⟩])
       (.ret))
      (.skip)))))
  (.reg [] [⟨some 13, [], .mov (.t 3)⟩,
    ⟨some 14, [], .bin .add (.t 13) (.c (.i .i64 1))⟩,
    ⟨some 3, [], .mov (.t 14)⟩]))
def p170 : PFun := ⟨67, [.t 2],
 .seq (.reg [] [⟨some 2, [], .mov (.c (.b false))⟩])
 (.seq (.seq (.reg [] [⟨some 6, [], .mov (.t 0)⟩,
     ⟨some 7, [], .len true (.t 6)⟩,
     ⟨some 8, [], .bin .gtr (.t 7) (.c (.i .i64 64))⟩])
   (.ite (.t 8) (.seq (.reg [] [⟨some 2, [], .mov (.c (.b false))⟩])
     (.ret))
    (.skip)))
  (.seq (.seq (.reg [] [⟨some 3, [], .mov (.c (.i .i64 0))⟩])
    (.block 0 (.loop p170_0)))
   (.seq (.reg [] [⟨some 40, [], .mov (.t 0)⟩,
      ⟨some 41, [], .call 122 [.t 40]⟩,
      ⟨some 5, [], .mov (.t 41)⟩])
    (.seq (.reg [45, 46, 47, 48, 49, 50, 51, 52, 53, 54, 55, 56, 57, 60, 61, 62, 63, 64, 65] [⟨some 42, [], .mov (.t 5)⟩,
       ⟨some 43, [], .call 142 [.t 42]⟩,
       ⟨some 44, [], .mov (.t 43)⟩,
       ⟨some 45, [(44, true)], .mov (.t 5)⟩,
       ⟨some 46, [(44, true)], .len true (.t 45)⟩,
       ⟨some 47, [(44, true)], .mov (.t 0)⟩,
       ⟨some 48, [(44, true)], .len true (.t 47)⟩,
       ⟨some 49, [(44, true)], .bin .eql (.t 46) (.t 48)⟩,
       ⟨some 50, [(44, true)], .mov (.t 49)⟩,
       ⟨some 51, [(44, true), (50, false)], .mov (.t 0)⟩,
       ⟨some 52, [(44, true), (50, false)], .len true (.t 51)⟩,
       ⟨some 53, [(44, true), (50, false)], .mov (.t 5)⟩,
       ⟨some 54, [(44, true), (50, false)], .len true (.t 53)⟩,
       ⟨some 55, [(44, true), (50, false)], .bin .add (.t 54) (.c (.i .i64 1))⟩,
       ⟨some 56, [(44, true), (50, false)], .bin .gtr (.t 52) (.t 55)⟩,
       ⟨some 57, [(44, true)], .pick (.t 50) (.c (.b true)) (.t 56)⟩,
       ⟨some 58, [], .pick (.t 44) (.t 57) (.c (.b false))⟩,
       ⟨some 59, [], .mov (.t 58)⟩,
       ⟨some 60, [(59, true)], .mov (.t 0)⟩,
       ⟨some 61, [(59, true)], .mov (.t 0)⟩,
       ⟨some 62, [(59, true)], .len true (.t 61)⟩,
       ⟨some 63, [(59, true)], .bin .sub (.t 62) (.c (.i .i64 1))⟩,
       ⟨some 64, [(59, true)], .sidx (.t 60) (.t 63)⟩,
       ⟨some 65, [(59, true)], .bin .neq (.t 64) (.c (.i .u8 47))⟩,
       ⟨some 66, [], .pick (.t 59) (.t 65) (.c (.b false))⟩,
       ⟨some 2, [], .mov (.t 66)⟩])
     (.ret)))))⟩
theorem c170 : cFun Tryz.prog Tryz.f170 = some p170 := by kernel_rfl

def p140_0 : PCode := .seq (.reg [] [⟨some 81, [], .bin .lss (.t 80) (.t 79)⟩])
 (.seq (.ite (.t 81) (.skip)
   (.exit 1))
  (.seq (.block 2 (.seq (.reg [] [⟨some 82, [], .mov (.t 80)⟩,
       ⟨some 5, [], .mov (.t 82)⟩])
     (.seq (.reg [] [⟨some 83, [], .mov (.t 0)⟩,
        ⟨some 84, [], .mov (.t 5)⟩,
        ⟨some 85, [], .idx 3 (.t 83) (.t 84)⟩,
        ⟨some 86, [], .load (some 3) (.t 85)⟩,
        ⟨some 6, [], .alloc 23 [.i .i64 0, .s [], .i .i64 0]⟩,
        ⟨none, [], .store 3 [none, none, none] (.t 6) (.t 86)⟩])
      (.seq (.seq (.reg [91, 92, 93, 94, 95] [⟨some 87, [], .load (some 3) (.t 6)⟩,
          ⟨some 88, [], .call 159 [.t 87]⟩,
          ⟨some 89, [], .un .not (.t 88)⟩,
          ⟨some 90, [], .mov (.t 89)⟩,
          ⟨some 91, [(90, false)], .fld 2 (.t 6)⟩,
          ⟨some 92, [(90, false)], .load none (.t 91)⟩,
          ⟨some 93, [(90, false)], .fld 2 (.t 3)⟩,
          ⟨some 94, [(90, false)], .load none (.t 93)⟩,
          ⟨some 95, [(90, false)], .bin .neq (.t 92) (.t 94)⟩,
          ⟨some 96, [], .pick (.t 90) (.c (.b true)) (.t 95)⟩])
        (.ite (.t 96) (.exit 2)
         (.skip)))
       (.seq (.dreg [([⟨some 97, [], .fld 0 (.t 3)⟩,
          ⟨some 98, [], .load none (.t 97)⟩,
          ⟨some 99, [], .bin .neq (.t 98) (.c (.i .i64 3))⟩,
          ⟨some 100, [], .mov (.t 99)⟩,
          ⟨some 101, [(100, false)], .fld 0 (.t 6)⟩,
          ⟨some 102, [(100, false)], .load none (.t 101)⟩,
          ⟨some 103, [(100, false)], .bin .neq (.t 102) (.c (.i .i64 2))⟩,
          ⟨some 104, [], .pick (.t 100) (.c (.b true)) (.t 103)⟩,
          ⟨some 105, [], .mov (.t 104)⟩,
          ⟨some 106, [(105, false)], .fld 1 (.t 6)⟩,
          ⟨some 107, [(105, false)], .load none (.t 106)⟩,
          ⟨some 109, [(105, false)], .fld 1 (.t 3)⟩,
          ⟨some 110, [(105, false)], .load none (.t 109)⟩],
          ⟨some 108, [(105, false)], .call 122 [.t 107]⟩,
          [⟨some 109, [(105, false)], .fld 1 (.t 3)⟩,
          ⟨some 110, [(105, false)], .load none (.t 109)⟩])] [] [101, 102, 103, 106, 107, 108, 109, 110, 111] [⟨some 111, [(105, false)], .bin .neq (.t 108) (.t 110)⟩,
          ⟨some 112, [], .pick (.t 105) (.c (.b true)) (.t 111)⟩])
        (.ite (.t 112) (.seq (.reg [] [⟨some 4, [], .mov (.c (.i .i64 7))⟩])
          (.ret))
         (.skip)))))))
   (.reg [] [⟨some 113, [], .bin .add (.t 80) (.c (.i .i64 1))⟩,
     ⟨some 80, [], .mov (.t 113)⟩])))
def p140 : PFun := ⟨114, [.t 4],
 .seq (.reg [] [⟨some 3, [], .box 23 (.t 1)⟩,
   ⟨some 4, [], .mov (.c (.i .i64 0))⟩])
 (.seq (.seq (.reg [] [⟨some 7, [], .fld 0 (.t 3)⟩,
     ⟨some 8, [], .load none (.t 7)⟩])
   (.block 0 (.seq (.reg [] [⟨some 10, [], .bin .eql (.t 8) (.c (.i .i64 1))⟩,
       ⟨some 9, [], .mov (.t 10)⟩])
     (.ite (.t 9) (.seq (.seq (.reg [15, 16, 17, 20, 21, 22, 23, 24, 25, 26, 27, 28, 29, 30, 31, 32] [⟨some 11, [], .fld 1 (.t 3)⟩,
          ⟨some 12, [], .load none (.t 11)⟩,
          ⟨some 13, [], .bin .eql (.t 12) (.c (.s []))⟩,
          ⟨some 14, [], .mov (.t 13)⟩,
          ⟨some 15, [(14, false)], .fld 2 (.t 3)⟩,
          ⟨some 16, [(14, false)], .load none (.t 15)⟩,
          ⟨some 17, [(14, false)], .bin .neq (.t 16) (.c (.i .i64 0))⟩,
          ⟨some 18, [], .pick (.t 14) (.c (.b true)) (.t 17)⟩,
          ⟨some 19, [], .mov (.t 18)⟩,
          ⟨some 20, [(19, false)], .mov (.t 0)⟩,
          ⟨some 21, [(19, false)], .len false (.t 20)⟩,
          ⟨some 22, [(19, false)], .bin .gtr (.t 21) (.c (.i .i64 0))⟩,
          ⟨some 23, [(19, false)], .mov (.t 22)⟩,
          ⟨some 24, [(19, false), (23, true)], .mov (.t 0)⟩,
          ⟨some 25, [(19, false), (23, true)], .mov (.t 0)⟩,
          ⟨some 26, [(19, false), (23, true)], .len false (.t 25)⟩,
          ⟨some 27, [(19, false), (23, true)], .bin .sub (.t 26) (.c (.i .i64 1))⟩,
          ⟨some 28, [(19, false), (23, true)], .idx 3 (.t 24) (.t 27)⟩,
          ⟨some 29, [(19, false), (23, true)], .fld 0 (.t 28)⟩,
          ⟨some 30, [(19, false), (23, true)], .load none (.t 29)⟩,
          ⟨some 31, [(19, false), (23, true)], .bin .eql (.t 30) (.c (.i .i64 1))⟩,
          ⟨some 32, [(19, false)], .pick (.t 23) (.t 31) (.c (.b false))⟩,
          ⟨some 33, [], .pick (.t 19) (.c (.b true)) (.t 32)⟩])
        (.ite (.t 33) (.seq (.reg [] [⟨some 4, [], .mov (.c (.i .i64 1))⟩])
          (.ret))
         (.skip)))
       (.seq (.reg [] [⟨some 4, [], .mov (.c (.i .i64 0))⟩])
        (.ret)))
      (.seq (.reg [] [⟨some 35, [], .bin .eql (.t 8) (.c (.i .i64 5))⟩,
         ⟨some 34, [], .mov (.t 35)⟩])
       (.ite (.t 34) (.seq (.seq (.reg [41, 42, 43] [⟨some 36, [], .fld 1 (.t 3)⟩,
            ⟨some 37, [], .load none (.t 36)⟩,
            ⟨some 38, [], .call 142 [.t 37]⟩,
            ⟨some 39, [], .un .not (.t 38)⟩,
            ⟨some 40, [], .mov (.t 39)⟩,
            ⟨some 41, [(40, false)], .fld 2 (.t 3)⟩,
            ⟨some 42, [(40, false)], .load none (.t 41)⟩,
            ⟨some 43, [(40, false)], .bin .neq (.t 42) (.c (.i .i64 0))⟩,
            ⟨some 44, [], .pick (.t 40) (.c (.b true)) (.t 43)⟩])
          (.ite (.t 44) (.seq (.reg [] [⟨some 4, [], .mov (.c (.i .i64 1))⟩])
            (.ret))
           (.skip)))
         (.seq (.reg [] [⟨some 4, [], .mov (.c (.i .i64 0))⟩])
          (.ret)))
        (.seq (.seq (.reg [] [⟨some 46, [], .bin .eql (.t 8) (.c (.i .i64 2))⟩,
            ⟨some 45, [], .mov (.t 46)⟩])
          (.ite (.t 45) (.skip)
           (.reg [] [⟨some 47, [], .bin .eql (.t 8) (.c (.i .i64 4))⟩,
             ⟨some 45, [], .mov (.t 47)⟩])))
         (.ite (.t 45) (.seq (.reg [53, 54, 55, 58, 59, 60] [⟨some 48, [], .fld 1 (.t 3)⟩,
             ⟨some 49, [], .load none (.t 48)⟩,
             ⟨some 50, [], .call 170 [.t 49]⟩,
             ⟨some 51, [], .un .not (.t 50)⟩,
             ⟨some 52, [], .mov (.t 51)⟩,
             ⟨some 53, [(52, false)], .fld 2 (.t 3)⟩,
             ⟨some 54, [(52, false)], .load none (.t 53)⟩,
             ⟨some 55, [(52, false)], .bin .lss (.t 54) (.c (.i .i64 1))⟩,
             ⟨some 56, [], .pick (.t 52) (.c (.b true)) (.t 55)⟩,
             ⟨some 57, [], .mov (.t 56)⟩,
             ⟨some 58, [(57, false)], .fld 2 (.t 3)⟩,
             ⟨some 59, [(57, false)], .load none (.t 58)⟩,
             ⟨some 60, [(57, false)], .bin .gtr (.t 59) (.c (.i .i64 999))⟩,
             ⟨some 61, [], .pick (.t 57) (.c (.b true)) (.t 60)⟩])
           (.ite (.t 61) (.seq (.reg [] [⟨some 4, [], .mov (.c (.i .i64 1))⟩])
             (.ret))
            (.skip)))
          (.seq (.reg [] [⟨some 63, [], .bin .eql (.t 8) (.c (.i .i64 3))⟩,
             ⟨some 62, [], .mov (.t 63)⟩])
           (.ite (.t 62) (.seq (.reg [69, 70, 71, 74, 75, 76] [⟨some 64, [], .fld 1 (.t 3)⟩,
               ⟨some 65, [], .load none (.t 64)⟩,
               ⟨some 66, [], .call 142 [.t 65]⟩,
               ⟨some 67, [], .un .not (.t 66)⟩,
               ⟨some 68, [], .mov (.t 67)⟩,
               ⟨some 69, [(68, false)], .fld 2 (.t 3)⟩,
               ⟨some 70, [(68, false)], .load none (.t 69)⟩,
               ⟨some 71, [(68, false)], .bin .lss (.t 70) (.c (.i .i64 1))⟩,
               ⟨some 72, [], .pick (.t 68) (.c (.b true)) (.t 71)⟩,
               ⟨some 73, [], .mov (.t 72)⟩,
               ⟨some 74, [(73, false)], .fld 2 (.t 3)⟩,
               ⟨some 75, [(73, false)], .load none (.t 74)⟩,
               ⟨some 76, [(73, false)], .bin .gtr (.t 75) (.c (.i .i64 999))⟩,
               ⟨some 77, [], .pick (.t 73) (.c (.b true)) (.t 76)⟩])
             (.ite (.t 77) (.seq (.reg [] [⟨some 4, [], .mov (.c (.i .i64 1))⟩])
               (.ret))
              (.skip)))
            (.seq (.reg [] [⟨some 4, [], .mov (.c (.i .i64 1))⟩])
             (.ret))))))))))))
  (.seq (.seq (.reg [] [⟨some 78, [], .mov (.t 0)⟩,
      ⟨some 79, [], .len false (.t 78)⟩,
      ⟨some 80, [], .mov (.c (.i .i64 0))⟩])
    (.block 1 (.loop p140_0)))
   (.seq (.reg [] [⟨some 4, [], .mov (.c (.i .i64 0))⟩])
    (.ret))))⟩
theorem c140 : cFun Tryz.prog Tryz.f140 = some p140 := by kernel_rfl

def p105_0 : PCode := .seq (.reg [] [⟨some 16, [], .bin .lss (.t 15) (.t 14)⟩])
 (.seq (.ite (.t 16) (.skip)
   (.exit 0))
  (.seq (.block 1 (.seq (.reg [] [⟨some 17, [], .mov (.t 15)⟩,
       ⟨some 3, [], .mov (.t 17)⟩])
     (.seq (.dreg [] [⟨some 18, [], .mov (.t 0)⟩,
        ⟨some 19, [], .mov (.t 3)⟩,
        ⟨some 20, [], .slice 3 (.t 18) none (some (.t 19))⟩,
        ⟨some 21, [], .mov (.t 0)⟩,
        ⟨some 22, [], .mov (.t 3)⟩,
        ⟨some 23, [], .idx 3 (.t 21) (.t 22)⟩,
        ⟨some 24, [], .load (some 3) (.t 23)⟩] [] [⟨some 25, [], .call 140 [.t 20, .t 24]⟩,
        ⟨some 4, [], .mov (.t 25)⟩])
      (.seq (.reg [] [⟨some 26, [], .mov (.t 4)⟩,
         ⟨some 27, [], .bin .neq (.t 26) (.c (.i .i64 0))⟩])
       (.ite (.t 27) (.seq (.reg [] [⟨some 28, [], .mov (.t 4)⟩,
           ⟨some 2, [], .mov (.t 28)⟩])
         (.ret))
        (.skip))))))
   (.reg [] [⟨some 29, [], .bin .add (.t 15) (.c (.i .i64 1))⟩,
     ⟨some 15, [], .mov (.t 29)⟩])))
def p105 : PFun := ⟨30, [.t 2],
 .seq (.reg [] [⟨some 2, [], .mov (.c (.i .i64 0))⟩])
 (.seq (.seq (.reg [9, 10, 11] [⟨some 5, [], .mov (.t 0)⟩,
     ⟨some 6, [], .len false (.t 5)⟩,
     ⟨some 7, [], .bin .gtr (.t 6) (.c (.i .i64 512))⟩,
     ⟨some 8, [], .mov (.t 7)⟩,
     ⟨some 9, [(8, false)], .mov (.t 0)⟩,
     ⟨some 10, [(8, false)], .call 139 [.t 9]⟩,
     ⟨some 11, [(8, false)], .bin .gtr (.t 10) (.c (.i .i64 1024))⟩,
     ⟨some 12, [], .pick (.t 8) (.c (.b true)) (.t 11)⟩])
   (.ite (.t 12) (.seq (.reg [] [⟨some 2, [], .mov (.c (.i .i64 3))⟩])
     (.ret))
    (.skip)))
  (.seq (.seq (.reg [] [⟨some 13, [], .mov (.t 0)⟩,
      ⟨some 14, [], .len false (.t 13)⟩,
      ⟨some 15, [], .mov (.c (.i .i64 0))⟩])
    (.block 0 (.loop p105_0)))
   (.seq (.reg [] [⟨some 2, [], .mov (.c (.i .i64 0))⟩])
    (.ret))))⟩
theorem c105 : cFun Tryz.prog Tryz.f105 = some p105 := by kernel_rfl

def p139_0 : PCode := .seq (.reg [] [⟨some 8, [], .bin .lss (.t 7) (.t 6)⟩])
 (.seq (.ite (.t 8) (.skip)
   (.exit 0))
  (.seq (.block 1 (.seq (.reg [] [⟨some 9, [], .mov (.t 7)⟩,
       ⟨some 4, [], .mov (.t 9)⟩])
     (.seq (.reg [] [⟨some 10, [], .mov (.t 0)⟩,
        ⟨some 11, [], .mov (.t 4)⟩,
        ⟨some 12, [], .idx 3 (.t 10) (.t 11)⟩,
        ⟨some 13, [], .fld 0 (.t 12)⟩,
        ⟨some 14, [], .load none (.t 13)⟩,
        ⟨some 15, [], .bin .eql (.t 14) (.c (.i .i64 1))⟩])
      (.ite (.t 15) (.reg [] [⟨some 16, [], .mov (.t 3)⟩,
         ⟨some 17, [], .mov (.t 0)⟩,
         ⟨some 18, [], .mov (.t 4)⟩,
         ⟨some 19, [], .idx 3 (.t 17) (.t 18)⟩,
         ⟨some 20, [], .fld 1 (.t 19)⟩,
         ⟨some 21, [], .load none (.t 20)⟩,
         ⟨some 22, [], .len true (.t 21)⟩,
         ⟨some 23, [], .bin .add (.t 16) (.t 22)⟩,
         ⟨some 3, [], .mov (.t 23)⟩])
       (.reg [] [⟨some 24, [], .mov (.t 3)⟩,
         ⟨some 25, [], .bin .add (.t 24) (.c (.i .i64 1))⟩,
         ⟨some 3, [], .mov (.t 25)⟩])))))
   (.reg [] [⟨some 26, [], .bin .add (.t 7) (.c (.i .i64 1))⟩,
     ⟨some 7, [], .mov (.t 26)⟩])))
def p139 : PFun := ⟨28, [.t 2],
 .seq (.reg [] [⟨some 2, [], .mov (.c (.i .i64 0))⟩])
 (.seq (.reg [] [⟨some 3, [], .mov (.c (.i .i64 0))⟩])
  (.seq (.seq (.reg [] [⟨some 5, [], .mov (.t 0)⟩,
      ⟨some 6, [], .len false (.t 5)⟩,
      ⟨some 7, [], .mov (.c (.i .i64 0))⟩])
    (.block 0 (.loop p139_0)))
   (.seq (.reg [] [⟨some 27, [], .mov (.t 3)⟩,
      ⟨some 2, [], .mov (.t 27)⟩])
    (.ret))))⟩
theorem c139 : cFun Tryz.prog Tryz.f139 = some p139 := by kernel_rfl

def p158_0 : PCode := .seq (.reg [] [⟨some 10, [], .bin .lss (.t 9) (.t 8)⟩])
 (.seq (.ite (.t 10) (.skip)
   (.exit 0))
  (.seq (.block 1 (.seq (.reg [] [⟨some 11, [], .mov (.t 9)⟩,
       ⟨some 4, [], .mov (.t 11)⟩])
     (.seq (.reg [] [⟨some 12, [], .mov (.t 0)⟩,
        ⟨some 13, [], .mov (.t 4)⟩,
        ⟨some 14, [], .idx 3 (.t 12) (.t 13)⟩,
        ⟨some 15, [], .load (some 3) (.t 14)⟩,
        ⟨some 5, [], .alloc 23 [.i .i64 0, .s [], .i .i64 0]⟩,
        ⟨none, [], .store 3 [none, none, none] (.t 5) (.t 15)⟩])
      (.seq (.seq (.reg [] [⟨some 16, [], .fld 0 (.t 5)⟩,
          ⟨some 17, [], .load none (.t 16)⟩,
          ⟨some 18, [], .bin .neq (.t 17) (.c (.i .i64 1))⟩])
        (.ite (.t 18) (.seq (.reg [] [⟨some 19, [], .mov (.t 3)⟩,
            ⟨some 20, [], .load (some 3) (.t 5)⟩,
            ⟨some 21, [], .bslice 3 [none, none, none] [.t 20]⟩,
            ⟨some 22, [], .app 23 3 32 (.t 19) (.t 21)⟩,
            ⟨some 3, [], .mov (.t 22)⟩])
          (.exit 1))
         (.skip)))
       (.seq (.seq (.reg [] [⟨some 23, [], .fld 1 (.t 5)⟩,
           ⟨some 24, [], .load none (.t 23)⟩,
           ⟨some 25, [], .bin .eql (.t 24) (.c (.s []))⟩])
         (.ite (.t 25) (.exit 1)
          (.skip)))
        (.seq (.reg [] [⟨some 26, [], .mov (.t 3)⟩,
           ⟨some 27, [], .len false (.t 26)⟩,
           ⟨some 6, [], .mov (.t 27)⟩])
         (.seq (.reg [31, 32, 33, 34, 35, 36, 37] [⟨some 28, [], .mov (.t 6)⟩,
            ⟨some 29, [], .bin .gtr (.t 28) (.c (.i .i64 0))⟩,
            ⟨some 30, [], .mov (.t 29)⟩,
            ⟨some 31, [(30, true)], .mov (.t 3)⟩,
            ⟨some 32, [(30, true)], .mov (.t 6)⟩,
            ⟨some 33, [(30, true)], .bin .sub (.t 32) (.c (.i .i64 1))⟩,
            ⟨some 34, [(30, true)], .idx 3 (.t 31) (.t 33)⟩,
            ⟨some 35, [(30, true)], .fld 0 (.t 34)⟩,
            ⟨some 36, [(30, true)], .load none (.t 35)⟩,
            ⟨some 37, [(30, true)], .bin .eql (.t 36) (.c (.i .i64 1))⟩,
            ⟨some 38, [], .pick (.t 30) (.t 37) (.c (.b false))⟩])
          (.ite (.t 38) (.dreg [] [⟨some 39, [], .mov (.t 3)⟩,
             ⟨some 40, [], .mov (.t 6)⟩,
             ⟨some 41, [], .bin .sub (.t 40) (.c (.i .i64 1))⟩,
             ⟨some 42, [], .mov (.t 3)⟩,
             ⟨some 43, [], .mov (.t 6)⟩,
             ⟨some 44, [], .bin .sub (.t 43) (.c (.i .i64 1))⟩,
             ⟨some 45, [], .idx 3 (.t 42) (.t 44)⟩,
             ⟨some 46, [], .fld 1 (.t 45)⟩,
             ⟨some 47, [], .load none (.t 46)⟩,
             ⟨some 48, [], .fld 1 (.t 5)⟩,
             ⟨some 49, [], .load none (.t 48)⟩,
             ⟨some 50, [], .bin .add (.t 47) (.t 49)⟩,
             ⟨some 51, [], .build [.i .i64 0, .s [], .i .i64 0] [(0, 1, .c (.i .i64 1)), (1, 1, .t 50)]⟩] [] [⟨some 52, [], .idx 3 (.t 39) (.t 41)⟩,
             ⟨none, [], .store 3 [none, none, none] (.t 52) (.t 51)⟩])
           (.reg [] [⟨some 53, [], .mov (.t 3)⟩,
             ⟨some 54, [], .fld 1 (.t 5)⟩,
             ⟨some 55, [], .load none (.t 54)⟩,
             ⟨some 56, [], .build [.i .i64 0, .s [], .i .i64 0] [(0, 1, .c (.i .i64 1)), (1, 1, .t 55)]⟩,
             ⟨some 57, [], .bslice 3 [none, none, none] [.t 56]⟩,
             ⟨some 58, [], .app 23 3 32 (.t 53) (.t 57)⟩,
             ⟨some 3, [], .mov (.t 58)⟩])))))))))
   (.reg [] [⟨some 59, [], .bin .add (.t 9) (.c (.i .i64 1))⟩,
     ⟨some 9, [], .mov (.t 59)⟩])))
def p158 : PFun := ⟨61, [.t 2],
 .seq (.reg [] [⟨some 2, [], .mov (.c .nil)⟩])
 (.seq (.reg [] [⟨some 3, [], .mov (.c .nil)⟩])
  (.seq (.seq (.reg [] [⟨some 7, [], .mov (.t 0)⟩,
      ⟨some 8, [], .len false (.t 7)⟩,
      ⟨some 9, [], .mov (.c (.i .i64 0))⟩])
    (.block 0 (.loop p158_0)))
   (.seq (.reg [] [⟨some 60, [], .mov (.t 3)⟩,
      ⟨some 2, [], .mov (.t 60)⟩])
    (.ret))))⟩
theorem c158 : cFun Tryz.prog Tryz.f158 = some p158 := by kernel_rfl

def p123 : PFun := ⟨10, [.t 4],
 .seq (.reg [] [⟨some 4, [], .mov (.c .nil)⟩])
 (.seq (.reg [] [⟨some 5, [], .mov (.t 0)⟩,
    ⟨some 6, [], .app 23 3 32 (.c .nil) (.t 5)⟩,
    ⟨some 7, [], .mov (.t 1)⟩,
    ⟨some 8, [], .app 23 3 32 (.t 6) (.t 7)⟩,
    ⟨some 9, [], .call 158 [.t 8]⟩,
    ⟨some 4, [], .mov (.t 9)⟩])
  (.ret))⟩
theorem c123 : cFun Tryz.prog Tryz.f123 = some p123 := by kernel_rfl

def p59_0 : PCode := .seq (.reg [] [⟨some 14, [], .bin .lss (.t 13) (.t 12)⟩])
 (.seq (.ite (.t 14) (.skip)
   (.exit 0))
  (.seq (.block 1 (.seq (.reg [] [⟨some 15, [], .mov (.t 13)⟩,
       ⟨some 5, [], .mov (.t 15)⟩])
     (.seq (.dreg [] [⟨some 16, [], .mov (.t 0)⟩,
        ⟨some 17, [], .mov (.t 5)⟩,
        ⟨some 18, [], .idx 1 (.t 16) (.t 17)⟩,
        ⟨some 19, [], .load none (.t 18)⟩,
        ⟨some 20, [], .mov (.t 1)⟩,
        ⟨some 21, [], .mov (.t 5)⟩,
        ⟨some 22, [], .idx 1 (.t 20) (.t 21)⟩,
        ⟨some 23, [], .load none (.t 22)⟩] [] [⟨some 24, [], .bin .neq (.t 19) (.t 23)⟩])
      (.ite (.t 24) (.seq (.reg [] [⟨some 4, [], .mov (.c (.b false))⟩])
        (.ret))
       (.skip)))))
   (.reg [] [⟨some 25, [], .bin .add (.t 13) (.c (.i .i64 1))⟩,
     ⟨some 13, [], .mov (.t 25)⟩])))
def p59 : PFun := ⟨26, [.t 4],
 .seq (.reg [] [⟨some 4, [], .mov (.c (.b false))⟩])
 (.seq (.seq (.reg [] [⟨some 6, [], .mov (.t 0)⟩,
     ⟨some 7, [], .len false (.t 6)⟩,
     ⟨some 8, [], .mov (.t 1)⟩,
     ⟨some 9, [], .len false (.t 8)⟩,
     ⟨some 10, [], .bin .neq (.t 7) (.t 9)⟩])
   (.ite (.t 10) (.seq (.reg [] [⟨some 4, [], .mov (.c (.b false))⟩])
     (.ret))
    (.skip)))
  (.seq (.seq (.reg [] [⟨some 11, [], .mov (.t 0)⟩,
      ⟨some 12, [], .len false (.t 11)⟩,
      ⟨some 13, [], .mov (.c (.i .i64 0))⟩])
    (.block 0 (.loop p59_0)))
   (.seq (.reg [] [⟨some 4, [], .mov (.c (.b true))⟩])
    (.ret))))⟩
theorem c59 : cFun Tryz.prog Tryz.f59 = some p59 := by kernel_rfl

def p160_0 : PCode := .seq (.reg [] [⟨some 9, [], .bin .lss (.t 8) (.t 7)⟩])
 (.seq (.ite (.t 9) (.skip)
   (.exit 0))
  (.seq (.block 1 (.seq (.reg [] [⟨some 10, [], .mov (.t 8)⟩,
       ⟨some 5, [], .mov (.t 10)⟩])
     (.seq (.reg [] [⟨some 11, [], .mov (.t 0)⟩,
        ⟨some 12, [], .mov (.t 5)⟩,
        ⟨some 13, [], .idx 1 (.t 11) (.t 12)⟩,
        ⟨some 14, [], .load none (.t 13)⟩,
        ⟨some 15, [], .mov (.t 1)⟩,
        ⟨some 16, [], .bin .eql (.t 14) (.t 15)⟩])
      (.ite (.t 16) (.seq (.reg [] [⟨some 4, [], .mov (.c (.b true))⟩])
        (.ret))
       (.skip)))))
   (.reg [] [⟨some 17, [], .bin .add (.t 8) (.c (.i .i64 1))⟩,
     ⟨some 8, [], .mov (.t 17)⟩])))
def p160 : PFun := ⟨18, [.t 4],
 .seq (.reg [] [⟨some 4, [], .mov (.c (.b false))⟩])
 (.seq (.seq (.reg [] [⟨some 6, [], .mov (.t 0)⟩,
     ⟨some 7, [], .len false (.t 6)⟩,
     ⟨some 8, [], .mov (.c (.i .i64 0))⟩])
   (.block 0 (.loop p160_0)))
  (.seq (.reg [] [⟨some 4, [], .mov (.c (.b false))⟩])
   (.ret)))⟩
theorem c160 : cFun Tryz.prog Tryz.f160 = some p160 := by kernel_rfl

def p124_0 : PCode := .seq (.reg [] [⟨some 8, [], .bin .lss (.t 7) (.t 6)⟩])
 (.seq (.ite (.t 8) (.skip)
   (.exit 0))
  (.seq (.block 1 (.seq (.reg [] [⟨some 9, [], .mov (.t 7)⟩,
       ⟨some 4, [], .mov (.t 9)⟩])
     (.seq (.reg [16, 17, 18, 19, 20, 21, 22, 23] [⟨some 10, [], .mov (.t 0)⟩,
        ⟨some 11, [], .mov (.t 4)⟩,
        ⟨some 12, [], .idx 3 (.t 10) (.t 11)⟩,
        ⟨some 13, [], .load (some 3) (.t 12)⟩,
        ⟨some 14, [], .call 159 [.t 13]⟩,
        ⟨some 15, [], .mov (.t 14)⟩,
        ⟨some 16, [(15, true)], .mov (.t 3)⟩,
        ⟨some 17, [(15, true)], .mov (.t 0)⟩,
        ⟨some 18, [(15, true)], .mov (.t 4)⟩,
        ⟨some 19, [(15, true)], .idx 3 (.t 17) (.t 18)⟩,
        ⟨some 20, [(15, true)], .fld 2 (.t 19)⟩,
        ⟨some 21, [(15, true)], .load none (.t 20)⟩,
        ⟨some 22, [(15, true)], .call 160 [.t 16, .t 21]⟩,
        ⟨some 23, [(15, true)], .un .not (.t 22)⟩,
        ⟨some 24, [], .pick (.t 15) (.t 23) (.c (.b false))⟩])
      (.ite (.t 24) (.reg [] [⟨some 25, [], .mov (.t 3)⟩,
         ⟨some 26, [], .mov (.t 0)⟩,
         ⟨some 27, [], .mov (.t 4)⟩,
         ⟨some 28, [], .idx 3 (.t 26) (.t 27)⟩,
         ⟨some 29, [], .fld 2 (.t 28)⟩,
         ⟨some 30, [], .load none (.t 29)⟩,
         ⟨some 31, [], .bslice 1 [none] [.t 30]⟩,
         ⟨some 32, [], .app 3 1 8 (.t 25) (.t 31)⟩,
         ⟨some 3, [], .mov (.t 32)⟩])
       (.skip)))))
   (.reg [] [⟨some 33, [], .bin .add (.t 7) (.c (.i .i64 1))⟩,
     ⟨some 7, [], .mov (.t 33)⟩])))
def p124 : PFun := ⟨35, [.t 2],
 .seq (.reg [] [⟨some 2, [], .mov (.c .nil)⟩])
 (.seq (.reg [] [⟨some 3, [], .mov (.c .nil)⟩])
  (.seq (.seq (.reg [] [⟨some 5, [], .mov (.t 0)⟩,
      ⟨some 6, [], .len false (.t 5)⟩,
      ⟨some 7, [], .mov (.c (.i .i64 0))⟩])
    (.block 0 (.loop p124_0)))
   (.seq (.reg [] [⟨some 34, [], .mov (.t 3)⟩,
      ⟨some 2, [], .mov (.t 34)⟩])
    (.ret))))⟩
theorem c124 : cFun Tryz.prog Tryz.f124 = some p124 := by kernel_rfl

def p126_0 : PCode := .seq (.seq (.reg [32, 33, 34, 35] [⟨some 27, [], .mov (.t 10)⟩,
    ⟨some 28, [], .mov (.t 1)⟩,
    ⟨some 29, [], .len false (.t 28)⟩,
    ⟨some 30, [], .bin .lss (.t 27) (.t 29)⟩,
    ⟨some 31, [], .mov (.t 30)⟩,
    ⟨some 32, [(31, true)], .mov (.t 10)⟩,
    ⟨some 33, [(31, true)], .mov (.t 2)⟩,
    ⟨some 34, [(31, true)], .len false (.t 33)⟩,
    ⟨some 35, [(31, true)], .bin .lss (.t 32) (.t 34)⟩,
    ⟨some 36, [], .pick (.t 31) (.t 35) (.c (.b false))⟩])
  (.ite (.t 36) (.skip)
   (.exit 2)))
 (.seq (.block 3 (.seq (.dreg [] [⟨some 39, [], .mov (.t 1)⟩,
      ⟨some 40, [], .mov (.t 10)⟩,
      ⟨some 41, [], .idx 1 (.t 39) (.t 40)⟩,
      ⟨some 42, [], .load none (.t 41)⟩,
      ⟨some 43, [], .fld 2 (.t 9)⟩,
      ⟨some 44, [], .load none (.t 43)⟩] [] [⟨some 45, [], .bin .eql (.t 42) (.t 44)⟩])
    (.ite (.t 45) (.seq (.dreg [] [⟨some 46, [], .mov (.t 7)⟩,
        ⟨some 47, [], .fld 0 (.t 9)⟩,
        ⟨some 48, [], .load none (.t 47)⟩,
        ⟨some 49, [], .fld 1 (.t 9)⟩,
        ⟨some 50, [], .load none (.t 49)⟩,
        ⟨some 51, [], .mov (.t 2)⟩,
        ⟨some 52, [], .mov (.t 10)⟩,
        ⟨some 53, [], .idx 1 (.t 51) (.t 52)⟩,
        ⟨some 54, [], .load none (.t 53)⟩,
        ⟨some 55, [], .build [.i .i64 0, .s [], .i .i64 0] [(0, 1, .t 48), (1, 1, .t 50), (2, 1, .t 54)]⟩,
        ⟨some 56, [], .bslice 3 [none, none, none] [.t 55]⟩] [] [⟨some 57, [], .app 23 3 32 (.t 46) (.t 56)⟩,
        ⟨some 7, [], .mov (.t 57)⟩])
      (.exit 2))
     (.skip))))
  (.reg [] [⟨some 37, [], .mov (.t 10)⟩,
    ⟨some 38, [], .bin .add (.t 37) (.c (.i .i64 1))⟩,
    ⟨some 10, [], .mov (.t 38)⟩]))
def p126_1 : PCode := .seq (.reg [] [⟨some 14, [], .bin .lss (.t 13) (.t 12)⟩])
 (.seq (.ite (.t 14) (.skip)
   (.exit 0))
  (.seq (.block 1 (.seq (.reg [] [⟨some 15, [], .mov (.t 13)⟩,
       ⟨some 8, [], .mov (.t 15)⟩])
     (.seq (.reg [] [⟨some 16, [], .mov (.t 0)⟩,
        ⟨some 17, [], .mov (.t 8)⟩,
        ⟨some 18, [], .idx 3 (.t 16) (.t 17)⟩,
        ⟨some 19, [], .load (some 3) (.t 18)⟩,
        ⟨some 9, [], .alloc 23 [.i .i64 0, .s [], .i .i64 0]⟩,
        ⟨none, [], .store 3 [none, none, none] (.t 9) (.t 19)⟩])
      (.seq (.seq (.reg [] [⟨some 20, [], .load (some 3) (.t 9)⟩,
          ⟨some 21, [], .call 159 [.t 20]⟩,
          ⟨some 22, [], .un .not (.t 21)⟩])
        (.ite (.t 22) (.seq (.reg [] [⟨some 23, [], .mov (.t 7)⟩,
            ⟨some 24, [], .load (some 3) (.t 9)⟩,
            ⟨some 25, [], .bslice 3 [none, none, none] [.t 24]⟩,
            ⟨some 26, [], .app 23 3 32 (.t 23) (.t 25)⟩,
            ⟨some 7, [], .mov (.t 26)⟩])
          (.exit 1))
         (.skip)))
       (.seq (.reg [] [⟨some 10, [], .mov (.c (.i .i64 0))⟩])
        (.block 2 (.loop p126_0)))))))
   (.reg [] [⟨some 58, [], .bin .add (.t 13) (.c (.i .i64 1))⟩,
     ⟨some 13, [], .mov (.t 58)⟩])))
def p126 : PFun := ⟨61, [.t 6],
 .seq (.reg [] [⟨some 6, [], .mov (.c .nil)⟩])
 (.seq (.reg [] [⟨some 7, [], .mov (.c .nil)⟩])
  (.seq (.seq (.reg [] [⟨some 11, [], .mov (.t 0)⟩,
      ⟨some 12, [], .len false (.t 11)⟩,
      ⟨some 13, [], .mov (.c (.i .i64 0))⟩])
    (.block 0 (.loop p126_1)))
   (.seq (.reg [] [⟨some 59, [], .mov (.t 7)⟩,
      ⟨some 60, [], .call 158 [.t 59]⟩,
      ⟨some 6, [], .mov (.t 60)⟩])
    (.ret))))⟩
theorem c126 : cFun Tryz.prog Tryz.f126 = some p126 := by kernel_rfl

def p125_0 : PCode := .seq (.seq (.reg [] [⟨some 5, [], .mov (.t 4)⟩,
    ⟨some 6, [], .mov (.t 0)⟩,
    ⟨some 7, [], .bin .leq (.t 5) (.t 6)⟩])
  (.ite (.t 7) (.skip)
   (.exit 0)))
 (.seq (.block 1 (.reg [] [⟨some 10, [], .mov (.t 3)⟩,
     ⟨some 11, [], .mov (.t 4)⟩,
     ⟨some 12, [], .bslice 1 [none] [.t 11]⟩,
     ⟨some 13, [], .app 3 1 8 (.t 10) (.t 12)⟩,
     ⟨some 3, [], .mov (.t 13)⟩]))
  (.reg [] [⟨some 8, [], .mov (.t 4)⟩,
    ⟨some 9, [], .bin .add (.t 8) (.c (.i .i64 1))⟩,
    ⟨some 4, [], .mov (.t 9)⟩]))
def p125 : PFun := ⟨15, [.t 2],
 .seq (.reg [] [⟨some 2, [], .mov (.c .nil)⟩])
 (.seq (.reg [] [⟨some 3, [], .mov (.c .nil)⟩])
  (.seq (.seq (.reg [] [⟨some 4, [], .mov (.c (.i .i64 1))⟩])
    (.block 0 (.loop p125_0)))
   (.seq (.reg [] [⟨some 14, [], .mov (.t 3)⟩,
      ⟨some 2, [], .mov (.t 14)⟩])
    (.ret))))⟩
theorem c125 : cFun Tryz.prog Tryz.f125 = some p125 := by kernel_rfl

def p98 : PFun := ⟨24, [.t 4, .t 5],
 .seq (.reg [] [⟨some 4, [], .mov (.c .nil)⟩,
   ⟨some 5, [], .mov (.c .nil)⟩])
 (.seq (.reg [] [⟨some 8, [], .mov (.t 0)⟩,
    ⟨some 9, [], .app 23 3 32 (.c .nil) (.t 8)⟩,
    ⟨some 10, [], .mov (.t 1)⟩,
    ⟨some 11, [], .app 23 3 32 (.t 9) (.t 10)⟩,
    ⟨some 12, [], .call 124 [.t 11]⟩,
    ⟨some 6, [], .mov (.t 12)⟩])
  (.seq (.reg [] [⟨some 13, [], .mov (.t 6)⟩,
     ⟨some 14, [], .len false (.t 13)⟩,
     ⟨some 15, [], .call 125 [.t 14]⟩,
     ⟨some 7, [], .mov (.t 15)⟩])
   (.seq (.reg [] [⟨some 16, [], .mov (.t 0)⟩,
      ⟨some 17, [], .mov (.t 6)⟩,
      ⟨some 18, [], .mov (.t 7)⟩,
      ⟨some 19, [], .call 126 [.t 16, .t 17, .t 18]⟩,
      ⟨some 20, [], .mov (.t 1)⟩,
      ⟨some 21, [], .mov (.t 6)⟩,
      ⟨some 22, [], .mov (.t 7)⟩,
      ⟨some 23, [], .call 126 [.t 20, .t 21, .t 22]⟩,
      ⟨some 4, [], .mov (.t 19)⟩,
      ⟨some 5, [], .mov (.t 23)⟩])
    (.ret))))⟩
theorem c98 : cFun Tryz.prog Tryz.f98 = some p98 := by kernel_rfl

def p172 : PFun := ⟨44, [.t 2],
 .seq (.reg [] [⟨some 2, [], .mov (.c (.s []))⟩])
 (.seq (.block 0 (.seq (.reg [7, 8, 11, 12] [⟨some 4, [], .mov (.t 0)⟩,
      ⟨some 5, [], .bin .eql (.t 4) (.c (.i .u8 92))⟩,
      ⟨some 6, [], .mov (.t 5)⟩,
      ⟨some 7, [(6, false)], .mov (.t 0)⟩,
      ⟨some 8, [(6, false)], .bin .eql (.t 7) (.c (.i .u8 60))⟩,
      ⟨some 9, [], .pick (.t 6) (.c (.b true)) (.t 8)⟩,
      ⟨some 10, [], .mov (.t 9)⟩,
      ⟨some 11, [(10, false)], .mov (.t 0)⟩,
      ⟨some 12, [(10, false)], .bin .eql (.t 11) (.c (.i .u8 123))⟩,
      ⟨some 13, [], .pick (.t 10) (.c (.b true)) (.t 12)⟩,
      ⟨some 3, [], .mov (.t 13)⟩])
    (.ite (.t 3) (.seq (.reg [] [⟨some 14, [], .mov (.t 0)⟩,
        ⟨some 15, [], .bslice 1 [none] [.t 14]⟩,
        ⟨some 16, [], .b2s (.t 15)⟩,
        ⟨some 17, [], .bin .add (.c (.s [92])) (.t 16)⟩,
        ⟨some 2, [], .mov (.t 17)⟩])
      (.ret))
     (.seq (.reg [] [⟨some 19, [], .mov (.t 0)⟩,
        ⟨some 20, [], .bin .eql (.t 19) (.c (.i .u8 10))⟩,
        ⟨some 18, [], .mov (.t 20)⟩])
      (.ite (.t 18) (.seq (.reg [] [⟨some 2, [], .mov (.c (.s [92, 110]))⟩])
        (.ret))
       (.seq (.reg [] [⟨some 22, [], .mov (.t 0)⟩,
          ⟨some 23, [], .bin .eql (.t 22) (.c (.i .u8 9))⟩,
          ⟨some 21, [], .mov (.t 23)⟩])
        (.ite (.t 21) (.seq (.reg [] [⟨some 2, [], .mov (.c (.s [92, 116]))⟩])
          (.ret))
         (.seq (.reg [28, 29, 30] [⟨some 25, [], .mov (.t 0)⟩,
            ⟨some 26, [], .bin .eql (.t 25) (.c (.i .u8 13))⟩,
            ⟨some 27, [], .mov (.t 26)⟩,
            ⟨some 28, [(27, false)], .mov (.t 0)⟩,
            ⟨some 29, [(27, false)], .call 188 [.t 28]⟩,
            ⟨some 30, [(27, false)], .bin .eql (.t 29) (.c (.i .i64 1))⟩,
            ⟨some 31, [], .pick (.t 27) (.c (.b true)) (.t 30)⟩,
            ⟨some 24, [], .mov (.t 31)⟩])
          (.ite (.t 24) (.seq (.dreg [] [⟨some 32, [], .mov (.t 0)⟩,
              ⟨some 33, [], .bin .quo (.t 32) (.c (.i .u8 16))⟩,
              ⟨some 34, [], .sidx (.c (.s [48, 49, 50, 51, 52, 53, 54, 55, 56, 57, 97, 98, 99, 100, 101, 102])) (.t 33)⟩,
              ⟨some 35, [], .mov (.t 0)⟩,
              ⟨some 36, [], .bin .rem (.t 35) (.c (.i .u8 16))⟩,
              ⟨some 37, [], .sidx (.c (.s [48, 49, 50, 51, 52, 53, 54, 55, 56, 57, 97, 98, 99, 100, 101, 102])) (.t 36)⟩] [] [⟨some 38, [], .bslice 1 [none] [.t 34, .t 37]⟩,
              ⟨some 39, [], .b2s (.t 38)⟩,
              ⟨some 40, [], .bin .add (.c (.s [92, 120])) (.t 39)⟩,
              ⟨some 2, [], .mov (.t 40)⟩])
            (.ret))
           (.skip))))))))))
  (.seq (.reg [] [⟨some 41, [], .mov (.t 0)⟩,
     ⟨some 42, [], .bslice 1 [none] [.t 41]⟩,
     ⟨some 43, [], .b2s (.t 42)⟩,
     ⟨some 2, [], .mov (.t 43)⟩])
   (.ret)))⟩
theorem c172 : cFun Tryz.prog Tryz.f172 = some p172 := by kernel_rfl

def p143_0 : PCode := .seq (.seq (.reg [] [⟨some 9, [], .mov (.t 4)⟩,
    ⟨some 10, [], .fld 1 (.t 1)⟩,
    ⟨some 11, [], .load none (.t 10)⟩,
    ⟨some 12, [], .len true (.t 11)⟩,
    ⟨some 13, [], .bin .lss (.t 9) (.t 12)⟩])
  (.ite (.t 13) (.skip)
   (.exit 1)))
 (.seq (.block 2 (.reg [] [⟨some 16, [], .mov (.t 3)⟩,
     ⟨some 17, [], .fld 1 (.t 1)⟩,
     ⟨some 18, [], .load none (.t 17)⟩,
     ⟨some 19, [], .mov (.t 4)⟩,
     ⟨some 20, [], .sidx (.t 18) (.t 19)⟩,
     ⟨some 21, [], .call 172 [.t 20]⟩,
     ⟨some 22, [], .bin .add (.t 16) (.t 21)⟩,
     ⟨some 3, [], .mov (.t 22)⟩]))
  (.reg [] [⟨some 14, [], .mov (.t 4)⟩,
    ⟨some 15, [], .bin .add (.t 14) (.c (.i .i64 1))⟩,
    ⟨some 4, [], .mov (.t 15)⟩]))
def p143 : PFun := ⟨61, [.t 2],
 .seq (.reg [] [⟨some 1, [], .box 23 (.t 0)⟩,
   ⟨some 2, [], .mov (.c (.s []))⟩])
 (.seq (.seq (.reg [] [⟨some 5, [], .fld 0 (.t 1)⟩,
     ⟨some 6, [], .load none (.t 5)⟩])
   (.block 0 (.seq (.reg [] [⟨some 8, [], .bin .eql (.t 6) (.c (.i .i64 1))⟩,
       ⟨some 7, [], .mov (.t 8)⟩])
     (.ite (.t 7) (.seq (.reg [] [⟨some 3, [], .mov (.c (.s []))⟩])
       (.seq (.seq (.reg [] [⟨some 4, [], .mov (.c (.i .i64 0))⟩])
         (.block 1 (.loop p143_0)))
        (.seq (.reg [] [⟨some 23, [], .mov (.t 3)⟩,
           ⟨some 2, [], .mov (.t 23)⟩])
         (.ret))))
      (.seq (.reg [] [⟨some 25, [], .bin .eql (.t 6) (.c (.i .i64 2))⟩,
         ⟨some 24, [], .mov (.t 25)⟩])
       (.ite (.t 24) (.seq (.dreg [([⟨some 26, [], .fld 2 (.t 1)⟩,
           ⟨some 27, [], .load none (.t 26)⟩,
           ⟨some 31, [], .fld 1 (.t 1)⟩,
           ⟨some 32, [], .load none (.t 31)⟩],
           ⟨some 28, [], .call 173 [.t 27]⟩,
           [⟨some 31, [], .fld 1 (.t 1)⟩,
           ⟨some 32, [], .load none (.t 31)⟩])] [⟨some 29, [], .bin .add (.c (.s [60])) (.t 28)⟩,
           ⟨some 30, [], .bin .add (.t 29) (.c (.s [58]))⟩] [] [⟨some 33, [], .bin .add (.t 30) (.t 32)⟩,
           ⟨some 34, [], .bin .add (.t 33) (.c (.s [62]))⟩,
           ⟨some 2, [], .mov (.t 34)⟩])
         (.ret))
        (.seq (.reg [] [⟨some 36, [], .bin .eql (.t 6) (.c (.i .i64 3))⟩,
           ⟨some 35, [], .mov (.t 36)⟩])
         (.ite (.t 35) (.seq (.dreg [([⟨some 37, [], .fld 2 (.t 1)⟩,
             ⟨some 38, [], .load none (.t 37)⟩,
             ⟨some 42, [], .fld 1 (.t 1)⟩,
             ⟨some 43, [], .load none (.t 42)⟩],
             ⟨some 39, [], .call 173 [.t 38]⟩,
             [⟨some 42, [], .fld 1 (.t 1)⟩,
             ⟨some 43, [], .load none (.t 42)⟩])] [⟨some 40, [], .bin .add (.c (.s [60, 47])) (.t 39)⟩,
             ⟨some 41, [], .bin .add (.t 40) (.c (.s [58]))⟩] [] [⟨some 44, [], .bin .add (.t 41) (.t 43)⟩,
             ⟨some 45, [], .bin .add (.t 44) (.c (.s [62]))⟩,
             ⟨some 2, [], .mov (.t 45)⟩])
           (.ret))
          (.seq (.reg [] [⟨some 47, [], .bin .eql (.t 6) (.c (.i .i64 4))⟩,
             ⟨some 46, [], .mov (.t 47)⟩])
           (.ite (.t 46) (.seq (.dreg [([⟨some 48, [], .fld 2 (.t 1)⟩,
               ⟨some 49, [], .load none (.t 48)⟩,
               ⟨some 53, [], .fld 1 (.t 1)⟩,
               ⟨some 54, [], .load none (.t 53)⟩],
               ⟨some 50, [], .call 173 [.t 49]⟩,
               [⟨some 53, [], .fld 1 (.t 1)⟩,
               ⟨some 54, [], .load none (.t 53)⟩])] [⟨some 51, [], .bin .add (.c (.s [60])) (.t 50)⟩,
               ⟨some 52, [], .bin .add (.t 51) (.c (.s [58]))⟩] [] [⟨some 55, [], .bin .add (.t 52) (.t 54)⟩,
               ⟨some 56, [], .bin .add (.t 55) (.c (.s [47, 62]))⟩,
               ⟨some 2, [], .mov (.t 56)⟩])
             (.ret))
            (.skip)))))))))))
  (.seq (.reg [] [⟨some 57, [], .fld 1 (.t 1)⟩,
     ⟨some 58, [], .load none (.t 57)⟩,
     ⟨some 59, [], .bin .add (.c (.s [123])) (.t 58)⟩,
     ⟨some 60, [], .bin .add (.t 59) (.c (.s [125]))⟩,
     ⟨some 2, [], .mov (.t 60)⟩])
   (.ret)))⟩
theorem c143 : cFun Tryz.prog Tryz.f143 = some p143 := by kernel_rfl

def p109_0 : PCode := .seq (.reg [] [⟨some 15, [], .bin .lss (.t 14) (.t 13)⟩])
 (.seq (.ite (.t 15) (.skip)
   (.exit 0))
  (.seq (.block 1 (.seq (.reg [] [⟨some 16, [], .mov (.t 14)⟩,
       ⟨some 6, [], .mov (.t 16)⟩])
     (.reg [] [⟨some 17, [], .mov (.t 5)⟩,
       ⟨some 18, [], .mov (.t 0)⟩,
       ⟨some 19, [], .mov (.t 6)⟩,
       ⟨some 20, [], .idx 3 (.t 18) (.t 19)⟩,
       ⟨some 21, [], .load (some 3) (.t 20)⟩,
       ⟨some 22, [], .call 143 [.t 21]⟩,
       ⟨some 23, [], .bin .add (.t 17) (.t 22)⟩,
       ⟨some 5, [], .mov (.t 23)⟩])))
   (.reg [] [⟨some 24, [], .bin .add (.t 14) (.c (.i .i64 1))⟩,
     ⟨some 14, [], .mov (.t 24)⟩])))
def p109 : PFun := ⟨26, [.t 2, .t 3],
 .seq (.reg [] [⟨some 2, [], .mov (.c (.s []))⟩,
   ⟨some 3, [], .mov (.c (.i .i64 0))⟩])
 (.seq (.seq (.reg [] [⟨some 7, [], .mov (.t 0)⟩,
     ⟨some 8, [], .call 105 [.t 7]⟩,
     ⟨some 4, [], .mov (.t 8)⟩])
   (.seq (.reg [] [⟨some 9, [], .mov (.t 4)⟩,
      ⟨some 10, [], .bin .neq (.t 9) (.c (.i .i64 0))⟩])
    (.ite (.t 10) (.seq (.reg [] [⟨some 11, [], .mov (.t 4)⟩,
        ⟨some 2, [], .mov (.c (.s []))⟩,
        ⟨some 3, [], .mov (.t 11)⟩])
      (.ret))
     (.skip))))
  (.seq (.reg [] [⟨some 5, [], .mov (.c (.s []))⟩])
   (.seq (.seq (.reg [] [⟨some 12, [], .mov (.t 0)⟩,
       ⟨some 13, [], .len false (.t 12)⟩,
       ⟨some 14, [], .mov (.c (.i .i64 0))⟩])
     (.block 0 (.loop p109_0)))
    (.seq (.reg [] [⟨some 25, [], .mov (.t 5)⟩,
       ⟨some 2, [], .mov (.t 25)⟩,
       ⟨some 3, [], .mov (.c (.i .i64 0))⟩])
     (.ret)))))⟩
theorem c109 : cFun Tryz.prog Tryz.f109 = some p109 := by kernel_rfl

def p141_0 : PCode := .seq (.seq (.reg [16, 17] [⟨some 11, [], .mov (.t 4)⟩,
    ⟨some 12, [], .mov (.t 0)⟩,
    ⟨some 13, [], .len true (.t 12)⟩,
    ⟨some 14, [], .bin .lss (.t 11) (.t 13)⟩,
    ⟨some 15, [], .mov (.t 14)⟩,
    ⟨some 16, [(15, true)], .mov (.t 4)⟩,
    ⟨some 17, [(15, true)], .bin .leq (.t 16) (.c (.i .i64 25))⟩,
    ⟨some 18, [], .pick (.t 15) (.t 17) (.c (.b false))⟩])
  (.ite (.t 18) (.skip)
   (.exit 1)))
 (.seq (.block 2 (.seq (.reg [26, 27, 28, 29] [⟨some 21, [], .mov (.t 0)⟩,
      ⟨some 22, [], .mov (.t 4)⟩,
      ⟨some 23, [], .sidx (.t 21) (.t 22)⟩,
      ⟨some 24, [], .bin .eql (.t 23) (.c (.i .u8 125))⟩,
      ⟨some 25, [], .mov (.t 24)⟩,
      ⟨some 26, [(25, true)], .mov (.t 0)⟩,
      ⟨some 27, [(25, true)], .mov (.t 4)⟩,
      ⟨some 28, [(25, true)], .sslice (.t 26) (some (.c (.i .i64 1))) (some (.t 27))⟩,
      ⟨some 29, [(25, true)], .call 142 [.t 28]⟩,
      ⟨some 30, [], .pick (.t 25) (.t 29) (.c (.b false))⟩])
    (.ite (.t 30) (.seq (.reg [] [⟨some 31, [], .mov (.t 0)⟩,
        ⟨some 32, [], .mov (.t 4)⟩,
        ⟨some 33, [], .sslice (.t 31) (some (.c (.i .i64 1))) (some (.t 32))⟩,
        ⟨some 34, [], .build [.i .i64 0, .s [], .i .i64 0] [(0, 1, .c (.i .i64 5)), (1, 1, .t 33)]⟩,
        ⟨some 35, [], .mov (.t 4)⟩,
        ⟨some 36, [], .bin .add (.t 35) (.c (.i .i64 1))⟩,
        ⟨none, [], .store 3 [none, none, none] (.t 2) (.t 34)⟩,
        ⟨some 3, [], .mov (.t 36)⟩])
      (.ret))
     (.skip))))
  (.reg [] [⟨some 19, [], .mov (.t 4)⟩,
    ⟨some 20, [], .bin .add (.t 19) (.c (.i .i64 1))⟩,
    ⟨some 4, [], .mov (.t 20)⟩]))
def p141_1 : PCode := .seq (.seq (.reg [] [⟨some 46, [], .mov (.t 5)⟩,
    ⟨some 47, [], .bin .lss (.t 46) (.c (.i .i64 256))⟩])
  (.ite (.t 47) (.skip)
   (.exit 3)))
 (.seq (.block 4 (.seq (.reg [] [⟨some 50, [], .mov (.t 5)⟩,
      ⟨some 51, [], .cvi .u8 (.t 50)⟩,
      ⟨some 52, [], .call 172 [.t 51]⟩,
      ⟨some 6, [], .mov (.t 52)⟩])
    (.seq (.reg [59, 60, 61, 62, 63, 64] [⟨some 53, [], .mov (.t 0)⟩,
       ⟨some 54, [], .len true (.t 53)⟩,
       ⟨some 55, [], .mov (.t 6)⟩,
       ⟨some 56, [], .len true (.t 55)⟩,
       ⟨some 57, [], .bin .geq (.t 54) (.t 56)⟩,
       ⟨some 58, [], .mov (.t 57)⟩,
       ⟨some 59, [(58, true)], .mov (.t 0)⟩,
       ⟨some 60, [(58, true)], .mov (.t 6)⟩,
       ⟨some 61, [(58, true)], .len true (.t 60)⟩,
       ⟨some 62, [(58, true)], .sslice (.t 59) none (some (.t 61))⟩,
       ⟨some 63, [(58, true)], .mov (.t 6)⟩,
       ⟨some 64, [(58, true)], .bin .eql (.t 62) (.t 63)⟩,
       ⟨some 65, [], .pick (.t 58) (.t 64) (.c (.b false))⟩])
     (.ite (.t 65) (.seq (.reg [] [⟨some 66, [], .mov (.t 5)⟩,
         ⟨some 67, [], .cvi .u8 (.t 66)⟩,
         ⟨some 68, [], .bslice 1 [none] [.t 67]⟩,
         ⟨some 69, [], .b2s (.t 68)⟩,
         ⟨some 70, [], .build [.i .i64 0, .s [], .i .i64 0] [(0, 1, .c (.i .i64 1)), (1, 1, .t 69)]⟩,
         ⟨some 71, [], .mov (.t 6)⟩,
         ⟨some 72, [], .len true (.t 71)⟩,
         ⟨none, [], .store 3 [none, none, none] (.t 2) (.t 70)⟩,
         ⟨some 3, [], .mov (.t 72)⟩])
       (.ret))
      (.skip)))))
  (.reg [] [⟨some 48, [], .mov (.t 5)⟩,
    ⟨some 49, [], .bin .add (.t 48) (.c (.i .i64 1))⟩,
    ⟨some 5, [], .mov (.t 49)⟩]))
def p141 : PFun := ⟨74, [.c 2 (some 3), .t 3],
 .seq (.reg [] [⟨some 2, [], .alloc 23 [.i .i64 0, .s [], .i .i64 0]⟩,
   ⟨some 3, [], .mov (.c (.i .i64 0))⟩])
 (.seq (.block 0 (.seq (.reg [] [⟨some 8, [], .mov (.t 0)⟩,
      ⟨some 9, [], .sidx (.t 8) (.c (.i .i64 0))⟩,
      ⟨some 10, [], .bin .eql (.t 9) (.c (.i .u8 123))⟩,
      ⟨some 7, [], .mov (.t 10)⟩])
    (.ite (.t 7) (.seq (.seq (.reg [] [⟨some 4, [], .mov (.c (.i .i64 1))⟩])
       (.block 1 (.loop p141_0)))
      (.seq (.reg [] [⟨some 37, [], .build [.i .i64 0, .s [], .i .i64 0] []⟩,
         ⟨none, [], .store 3 [none, none, none] (.t 2) (.t 37)⟩,
         ⟨some 3, [], .mov (.c (.i .i64 0))⟩])
       (.ret)))
     (.seq (.reg [] [⟨some 39, [], .mov (.t 0)⟩,
        ⟨some 40, [], .sidx (.t 39) (.c (.i .i64 0))⟩,
        ⟨some 41, [], .bin .eql (.t 40) (.c (.i .u8 60))⟩,
        ⟨some 38, [], .mov (.t 41)⟩])
      (.ite (.t 38) (.seq (.reg [] [⟨some 42, [], .mov (.t 0)⟩,
          ⟨some 43, [], .call 171 [.t 42]⟩,
          ⟨some 44, [], .ext 0 (.t 43)⟩,
          ⟨some 45, [], .ext 1 (.t 43)⟩,
          ⟨none, [], .store 3 [none, none, none] (.t 2) (.t 44)⟩,
          ⟨some 3, [], .mov (.t 45)⟩])
        (.ret))
       (.skip))))))
  (.seq (.seq (.reg [] [⟨some 5, [], .mov (.c (.i .i64 0))⟩])
    (.block 3 (.loop p141_1)))
   (.seq (.reg [] [⟨some 73, [], .build [.i .i64 0, .s [], .i .i64 0] []⟩,
      ⟨none, [], .store 3 [none, none, none] (.t 2) (.t 73)⟩,
      ⟨some 3, [], .mov (.c (.i .i64 0))⟩])
    (.ret))))⟩
theorem c141 : cFun Tryz.prog Tryz.f141 = some p141 := by kernel_rfl

def p171_0 : PCode := .seq (.seq (.reg [15, 16, 17, 18] [⟨some 10, [], .mov (.t 4)⟩,
    ⟨some 11, [], .mov (.t 0)⟩,
    ⟨some 12, [], .len true (.t 11)⟩,
    ⟨some 13, [], .bin .lss (.t 10) (.t 12)⟩,
    ⟨some 14, [], .mov (.t 13)⟩,
    ⟨some 15, [(14, true)], .mov (.t 0)⟩,
    ⟨some 16, [(14, true)], .mov (.t 4)⟩,
    ⟨some 17, [(14, true)], .sidx (.t 15) (.t 16)⟩,
    ⟨some 18, [(14, true)], .bin .neq (.t 17) (.c (.i .u8 62))⟩,
    ⟨some 19, [], .pick (.t 14) (.t 18) (.c (.b false))⟩])
  (.ite (.t 19) (.skip)
   (.exit 0)))
 (.block 1 (.reg [] [⟨some 20, [], .mov (.t 4)⟩,
    ⟨some 21, [], .bin .add (.t 20) (.c (.i .i64 1))⟩,
    ⟨some 4, [], .mov (.t 21)⟩]))
def p171_1 : PCode := .seq (.seq (.reg [61, 62, 65, 66, 67, 68, 71, 72, 73, 74] [⟨some 56, [], .mov (.t 8)⟩,
    ⟨some 57, [], .mov (.t 5)⟩,
    ⟨some 58, [], .len true (.t 57)⟩,
    ⟨some 59, [], .bin .lss (.t 56) (.t 58)⟩,
    ⟨some 60, [], .mov (.t 59)⟩,
    ⟨some 61, [(60, true)], .mov (.t 8)⟩,
    ⟨some 62, [(60, true)], .bin .lss (.t 61) (.c (.i .i64 4))⟩,
    ⟨some 63, [], .pick (.t 60) (.t 62) (.c (.b false))⟩,
    ⟨some 64, [], .mov (.t 63)⟩,
    ⟨some 65, [(64, true)], .mov (.t 5)⟩,
    ⟨some 66, [(64, true)], .mov (.t 8)⟩,
    ⟨some 67, [(64, true)], .sidx (.t 65) (.t 66)⟩,
    ⟨some 68, [(64, true)], .bin .geq (.t 67) (.c (.i .u8 48))⟩,
    ⟨some 69, [], .pick (.t 64) (.t 68) (.c (.b false))⟩,
    ⟨some 70, [], .mov (.t 69)⟩,
    ⟨some 71, [(70, true)], .mov (.t 5)⟩,
    ⟨some 72, [(70, true)], .mov (.t 8)⟩,
    ⟨some 73, [(70, true)], .sidx (.t 71) (.t 72)⟩,
    ⟨some 74, [(70, true)], .bin .leq (.t 73) (.c (.i .u8 57))⟩,
    ⟨some 75, [], .pick (.t 70) (.t 74) (.c (.b false))⟩])
  (.ite (.t 75) (.skip)
   (.exit 2)))
 (.block 3 (.seq (.reg [] [⟨some 76, [], .mov (.t 7)⟩,
     ⟨some 77, [], .bin .mul (.c (.i .i64 10)) (.t 76)⟩,
     ⟨some 78, [], .mov (.t 5)⟩,
     ⟨some 79, [], .mov (.t 8)⟩,
     ⟨some 80, [], .sidx (.t 78) (.t 79)⟩,
     ⟨some 81, [], .bin .sub (.t 80) (.c (.i .u8 48))⟩,
     ⟨some 82, [], .cvi .i64 (.t 81)⟩,
     ⟨some 83, [], .bin .add (.t 77) (.t 82)⟩,
     ⟨some 7, [], .mov (.t 83)⟩])
   (.reg [] [⟨some 84, [], .mov (.t 8)⟩,
     ⟨some 85, [], .bin .add (.t 84) (.c (.i .i64 1))⟩,
     ⟨some 8, [], .mov (.t 85)⟩])))
def p171 : PFun := ⟨139, [.c 2 (some 3), .t 3],
 .seq (.reg [] [⟨some 2, [], .alloc 23 [.i .i64 0, .s [], .i .i64 0]⟩,
   ⟨some 3, [], .mov (.c (.i .i64 0))⟩])
 (.seq (.reg [] [⟨some 4, [], .mov (.c (.i .i64 1))⟩])
  (.seq (.block 0 (.loop p171_0))
   (.seq (.seq (.reg [] [⟨some 22, [], .mov (.t 4)⟩,
       ⟨some 23, [], .mov (.t 0)⟩,
       ⟨some 24, [], .len true (.t 23)⟩,
       ⟨some 25, [], .bin .geq (.t 22) (.t 24)⟩])
     (.ite (.t 25) (.seq (.reg [] [⟨some 26, [], .build [.i .i64 0, .s [], .i .i64 0] []⟩,
         ⟨none, [], .store 3 [none, none, none] (.t 2) (.t 26)⟩,
         ⟨some 3, [], .mov (.c (.i .i64 0))⟩])
       (.ret))
      (.skip)))
    (.seq (.reg [] [⟨some 27, [], .mov (.t 0)⟩,
       ⟨some 28, [], .mov (.t 4)⟩,
       ⟨some 29, [], .sslice (.t 27) (some (.c (.i .i64 1))) (some (.t 28))⟩,
       ⟨some 5, [], .mov (.t 29)⟩,
       ⟨some 6, [], .mov (.c (.i .i64 2))⟩])
     (.seq (.seq (.reg [34, 35, 36] [⟨some 30, [], .mov (.t 5)⟩,
         ⟨some 31, [], .len true (.t 30)⟩,
         ⟨some 32, [], .bin .gtr (.t 31) (.c (.i .i64 0))⟩,
         ⟨some 33, [], .mov (.t 32)⟩,
         ⟨some 34, [(33, true)], .mov (.t 5)⟩,
         ⟨some 35, [(33, true)], .sidx (.t 34) (.c (.i .i64 0))⟩,
         ⟨some 36, [(33, true)], .bin .eql (.t 35) (.c (.i .u8 47))⟩,
         ⟨some 37, [], .pick (.t 33) (.t 36) (.c (.b false))⟩])
       (.ite (.t 37) (.reg [] [⟨some 38, [], .mov (.t 5)⟩,
          ⟨some 39, [], .sslice (.t 38) (some (.c (.i .i64 1))) none⟩,
          ⟨some 5, [], .mov (.t 39)⟩,
          ⟨some 6, [], .mov (.c (.i .i64 3))⟩])
        (.seq (.reg [44, 45, 46, 47, 48, 49] [⟨some 40, [], .mov (.t 5)⟩,
           ⟨some 41, [], .len true (.t 40)⟩,
           ⟨some 42, [], .bin .gtr (.t 41) (.c (.i .i64 0))⟩,
           ⟨some 43, [], .mov (.t 42)⟩,
           ⟨some 44, [(43, true)], .mov (.t 5)⟩,
           ⟨some 45, [(43, true)], .mov (.t 5)⟩,
           ⟨some 46, [(43, true)], .len true (.t 45)⟩,
           ⟨some 47, [(43, true)], .bin .sub (.t 46) (.c (.i .i64 1))⟩,
           ⟨some 48, [(43, true)], .sidx (.t 44) (.t 47)⟩,
           ⟨some 49, [(43, true)], .bin .eql (.t 48) (.c (.i .u8 47))⟩,
           ⟨some 50, [], .pick (.t 43) (.t 49) (.c (.b false))⟩])
         (.ite (.t 50) (.reg [] [⟨some 51, [], .mov (.t 5)⟩,
            ⟨some 52, [], .mov (.t 5)⟩,
            ⟨some 53, [], .len true (.t 52)⟩,
            ⟨some 54, [], .bin .sub (.t 53) (.c (.i .i64 1))⟩,
            ⟨some 55, [], .sslice (.t 51) none (some (.t 54))⟩,
            ⟨some 5, [], .mov (.t 55)⟩,
            ⟨some 6, [], .mov (.c (.i .i64 4))⟩])
          (.skip)))))
      (.seq (.reg [] [⟨some 7, [], .mov (.c (.i .i64 0))⟩,
         ⟨some 8, [], .mov (.c (.i .i64 0))⟩])
       (.seq (.block 2 (.loop p171_1))
        (.seq (.seq (.reg [89, 90, 91, 92, 95, 96, 97, 100, 101, 104, 105, 106, 107] [⟨some 86, [], .mov (.t 8)⟩,
            ⟨some 87, [], .bin .eql (.t 86) (.c (.i .i64 0))⟩,
            ⟨some 88, [], .mov (.t 87)⟩,
            ⟨some 89, [(88, false)], .mov (.t 8)⟩,
            ⟨some 90, [(88, false)], .mov (.t 5)⟩,
            ⟨some 91, [(88, false)], .len true (.t 90)⟩,
            ⟨some 92, [(88, false)], .bin .geq (.t 89) (.t 91)⟩,
            ⟨some 93, [], .pick (.t 88) (.c (.b true)) (.t 92)⟩,
            ⟨some 94, [], .mov (.t 93)⟩,
            ⟨some 95, [(94, false)], .mov (.t 5)⟩,
            ⟨some 96, [(94, false)], .sidx (.t 95) (.c (.i .i64 0))⟩,
            ⟨some 97, [(94, false)], .bin .eql (.t 96) (.c (.i .u8 48))⟩,
            ⟨some 98, [], .pick (.t 94) (.c (.b true)) (.t 97)⟩,
            ⟨some 99, [], .mov (.t 98)⟩,
            ⟨some 100, [(99, false)], .mov (.t 7)⟩,
            ⟨some 101, [(99, false)], .bin .gtr (.t 100) (.c (.i .i64 999))⟩,
            ⟨some 102, [], .pick (.t 99) (.c (.b true)) (.t 101)⟩,
            ⟨some 103, [], .mov (.t 102)⟩,
            ⟨some 104, [(103, false)], .mov (.t 5)⟩,
            ⟨some 105, [(103, false)], .mov (.t 8)⟩,
            ⟨some 106, [(103, false)], .sidx (.t 104) (.t 105)⟩,
            ⟨some 107, [(103, false)], .bin .neq (.t 106) (.c (.i .u8 58))⟩,
            ⟨some 108, [], .pick (.t 103) (.c (.b true)) (.t 107)⟩])
          (.ite (.t 108) (.seq (.reg [] [⟨some 109, [], .build [.i .i64 0, .s [], .i .i64 0] []⟩,
              ⟨none, [], .store 3 [none, none, none] (.t 2) (.t 109)⟩,
              ⟨some 3, [], .mov (.c (.i .i64 0))⟩])
            (.ret))
           (.skip)))
         (.seq (.reg [] [⟨some 110, [], .mov (.t 6)⟩,
            ⟨some 111, [], .mov (.t 5)⟩,
            ⟨some 112, [], .mov (.t 8)⟩,
            ⟨some 113, [], .bin .add (.t 112) (.c (.i .i64 1))⟩,
            ⟨some 114, [], .sslice (.t 111) (some (.t 113)) none⟩,
            ⟨some 115, [], .mov (.t 7)⟩,
            ⟨some 116, [], .build [.i .i64 0, .s [], .i .i64 0] [(0, 1, .t 110), (1, 1, .t 114), (2, 1, .t 115)]⟩,
            ⟨some 9, [], .alloc 23 [.i .i64 0, .s [], .i .i64 0]⟩,
            ⟨none, [], .store 3 [none, none, none] (.t 9) (.t 116)⟩])
          (.seq (.seq (.reg [120, 121, 122, 123, 126, 127, 128, 129, 130, 131, 132, 133] [⟨some 117, [], .mov (.t 6)⟩,
              ⟨some 118, [], .bin .eql (.t 117) (.c (.i .i64 3))⟩,
              ⟨some 119, [], .mov (.t 118)⟩,
              ⟨some 120, [(119, true)], .fld 1 (.t 9)⟩,
              ⟨some 121, [(119, true)], .load none (.t 120)⟩,
              ⟨some 122, [(119, true)], .call 142 [.t 121]⟩,
              ⟨some 123, [(119, true)], .un .not (.t 122)⟩,
              ⟨some 124, [], .pick (.t 119) (.t 123) (.c (.b false))⟩,
              ⟨some 125, [], .mov (.t 124)⟩,
              ⟨some 126, [(125, false)], .mov (.t 6)⟩,
              ⟨some 127, [(125, false)], .bin .neq (.t 126) (.c (.i .i64 3))⟩,
              ⟨some 128, [(125, false)], .mov (.t 127)⟩,
              ⟨some 129, [(125, false), (128, true)], .fld 1 (.t 9)⟩,
              ⟨some 130, [(125, false), (128, true)], .load none (.t 129)⟩,
              ⟨some 131, [(125, false), (128, true)], .call 170 [.t 130]⟩,
              ⟨some 132, [(125, false), (128, true)], .un .not (.t 131)⟩,
              ⟨some 133, [(125, false)], .pick (.t 128) (.t 132) (.c (.b false))⟩,
              ⟨some 134, [], .pick (.t 125) (.c (.b true)) (.t 133)⟩])
            (.ite (.t 134) (.seq (.reg [] [⟨some 135, [], .build [.i .i64 0, .s [], .i .i64 0] []⟩,
                ⟨none, [], .store 3 [none, none, none] (.t 2) (.t 135)⟩,
                ⟨some 3, [], .mov (.c (.i .i64 0))⟩])
              (.ret))
             (.skip)))
           (.seq (.reg [] [⟨some 136, [], .load (some 3) (.t 9)⟩,
              ⟨some 137, [], .mov (.t 4)⟩,
              ⟨some 138, [], .bin .add (.t 137) (.c (.i .i64 1))⟩,
              ⟨none, [], .store 3 [none, none, none] (.t 2) (.t 136)⟩,
              ⟨some 3, [], .mov (.t 138)⟩])
            (.ret))))))))))))⟩
theorem c171 : cFun Tryz.prog Tryz.f171 = some p171 := by kernel_rfl

def p106_0 : PCode := .seq (.seq (.reg [] [⟨some 12, [], .mov (.t 6)⟩,
    ⟨some 13, [], .mov (.t 0)⟩,
    ⟨some 14, [], .len true (.t 13)⟩,
    ⟨some 15, [], .bin .lss (.t 12) (.t 14)⟩])
  (.ite (.t 15) (.skip)
   (.exit 0)))
 (.block 1 (.seq (.reg [] [⟨some 17, [], .mov (.t 0)⟩,
     ⟨some 18, [], .mov (.t 6)⟩,
     ⟨some 19, [], .sslice (.t 17) (some (.t 18)) none⟩,
     ⟨some 20, [], .call 141 [.t 19]⟩,
     ⟨some 16, [], .mov (.t 20)⟩,
     ⟨some 21, [], .ext 0 (.t 16)⟩,
     ⟨some 22, [], .ext 1 (.t 16)⟩,
     ⟨some 8, [], .alloc 23 [.i .i64 0, .s [], .i .i64 0]⟩,
     ⟨none, [], .store 3 [none, none, none] (.t 8) (.t 21)⟩,
     ⟨some 9, [], .mov (.t 22)⟩])
   (.seq (.seq (.reg [] [⟨some 23, [], .mov (.t 9)⟩,
       ⟨some 24, [], .bin .eql (.t 23) (.c (.i .i64 0))⟩])
     (.ite (.t 24) (.seq (.reg [] [⟨some 25, [], .mov (.t 6)⟩,
         ⟨some 2, [], .mov (.c .nil)⟩,
         ⟨some 3, [], .mov (.t 25)⟩,
         ⟨some 4, [], .mov (.c (.i .i64 2))⟩])
       (.ret))
      (.skip)))
    (.seq (.seq (.reg [] [⟨some 26, [], .fld 0 (.t 8)⟩,
        ⟨some 27, [], .load none (.t 26)⟩,
        ⟨some 28, [], .bin .neq (.t 27) (.c (.i .i64 1))⟩])
      (.ite (.t 28) (.seq (.reg [] [⟨some 29, [], .mov (.t 5)⟩,
          ⟨some 30, [], .load (some 3) (.t 8)⟩,
          ⟨some 31, [], .call 140 [.t 29, .t 30]⟩,
          ⟨some 10, [], .mov (.t 31)⟩])
        (.seq (.reg [] [⟨some 32, [], .mov (.t 10)⟩,
           ⟨some 33, [], .bin .neq (.t 32) (.c (.i .i64 0))⟩])
         (.ite (.t 33) (.seq (.reg [] [⟨some 34, [], .mov (.t 6)⟩,
             ⟨some 35, [], .mov (.t 10)⟩,
             ⟨some 2, [], .mov (.c .nil)⟩,
             ⟨some 3, [], .mov (.t 34)⟩,
             ⟨some 4, [], .mov (.t 35)⟩])
           (.ret))
          (.skip))))
       (.skip)))
     (.seq (.reg [] [⟨some 36, [], .mov (.t 5)⟩,
        ⟨some 37, [], .load (some 3) (.t 8)⟩,
        ⟨some 38, [], .bslice 3 [none, none, none] [.t 37]⟩,
        ⟨some 39, [], .call 123 [.t 36, .t 38]⟩,
        ⟨some 11, [], .mov (.t 39)⟩])
      (.seq (.reg [] [⟨some 40, [], .mov (.t 7)⟩,
         ⟨some 41, [], .bin .add (.t 40) (.c (.i .i64 1))⟩,
         ⟨some 7, [], .mov (.t 41)⟩])
       (.seq (.seq (.reg [46, 47] [⟨some 42, [], .mov (.t 11)⟩,
           ⟨some 43, [], .len false (.t 42)⟩,
           ⟨some 44, [], .bin .gtr (.t 43) (.c (.i .i64 512))⟩,
           ⟨some 45, [], .mov (.t 44)⟩,
           ⟨some 46, [(45, false)], .mov (.t 7)⟩,
           ⟨some 47, [(45, false)], .bin .gtr (.t 46) (.c (.i .i64 1024))⟩,
           ⟨some 48, [], .pick (.t 45) (.c (.b true)) (.t 47)⟩])
         (.ite (.t 48) (.seq (.reg [] [⟨some 49, [], .mov (.t 6)⟩,
             ⟨some 2, [], .mov (.c .nil)⟩,
             ⟨some 3, [], .mov (.t 49)⟩,
             ⟨some 4, [], .mov (.c (.i .i64 3))⟩])
           (.ret))
          (.skip)))
        (.seq (.reg [] [⟨some 50, [], .mov (.t 11)⟩,
           ⟨some 5, [], .mov (.t 50)⟩])
         (.reg [] [⟨some 51, [], .mov (.t 6)⟩,
           ⟨some 52, [], .mov (.t 9)⟩,
           ⟨some 53, [], .bin .add (.t 51) (.t 52)⟩,
           ⟨some 6, [], .mov (.t 53)⟩])))))))))
def p106 : PFun := ⟨55, [.t 2, .t 3, .t 4],
 .seq (.reg [] [⟨some 2, [], .mov (.c .nil)⟩,
   ⟨some 3, [], .mov (.c (.i .i64 0))⟩,
   ⟨some 4, [], .mov (.c (.i .i64 0))⟩])
 (.seq (.reg [] [⟨some 5, [], .mov (.c .nil)⟩])
  (.seq (.reg [] [⟨some 6, [], .mov (.c (.i .i64 0))⟩,
     ⟨some 7, [], .mov (.c (.i .i64 0))⟩])
   (.seq (.block 0 (.loop p106_0))
    (.seq (.reg [] [⟨some 54, [], .mov (.t 5)⟩,
       ⟨some 2, [], .mov (.t 54)⟩,
       ⟨some 3, [], .mov (.c (.i .i64 0))⟩,
       ⟨some 4, [], .mov (.c (.i .i64 0))⟩])
     (.ret)))))⟩
theorem c106 : cFun Tryz.prog Tryz.f106 = some p106 := by kernel_rfl

end Go.Proofs.Tryz

namespace Go.Proofs.Tryz
open Go Go.Pm

theorem tI : Ti Tryz.prog 3 1 8 := tiB_ok (by kernel_rfl)
theorem tU : Ti Tryz.prog 5 1 1 := tiB_ok (by kernel_rfl)
theorem tIt : Ti Tryz.prog 23 3 32 := tiB_ok (by kernel_rfl)

end Go.Proofs.Tryz
