/-
  The programs of the functions that the laws reach, read off the given program by the kernel.
-/
import Derived.Test.YtkfkoldaeplckaaDoorProg
import Derived.Test.YtkfkoldaeplckaaDoorVcs
set_option linter.unusedSimpArgs false
set_option linter.unusedVariables false

namespace Go.Proofs.YtkfkoldaeplckaaDoor
open Go Go.Vc
set_option maxRecDepth 100000
theorem mixed : Tryd.prog.follows .mixedOrders = true := by kernel_rfl
/-- corral/corrallaw14.first  sizes [] -/
def pl12 : Nat → DT := dtGet []
def pf12 : PFn := ⟨30, [.t 0], (.seq (.ops false [⟨(some 0), .mov (.c (.v (.bool false))), none⟩] .done)
  (.seq (.ops false [⟨(some 5), .build [(.v (.int .i64 0)), (.v (.int .i64 0)), (.v (.int .u32 0)), (.v (.int .u32 0)), (.v (.int .u32 0)), (.v (.bool false)), (.v (.bool false)), (.v (.bool false)), (.v (.int .i64 0)), (.v (.int .i64 0)), (.v (.slice none 0 0)), (.v (.slice none 0 0)), (.v (.slice none 0 0))] [(0, 1, (.c (.v (.int .i64 2)))), (1, 1, (.c (.v (.int .i64 4)))), (3, 1, (.c (.v (.int .u32 1))))], none⟩,
    ⟨(some 6), .bslice 38 [.int .i64, .int .i64, .int .u32, .int .u32, .int .u32, .bool, .bool, .bool, .int .i64, .int .i64, .sl, .sl, .sl] 1 [(.v (.int .i64 0)), (.v (.int .i64 0)), (.v (.int .u32 0)), (.v (.int .u32 0)), (.v (.int .u32 0)), (.v (.bool false)), (.v (.bool false)), (.v (.bool false)), (.v (.int .i64 0)), (.v (.int .i64 0)), (.v (.slice none 0 0)), (.v (.slice none 0 0)), (.v (.slice none 0 0))] [(0, 13, (.t 5))], none⟩,
    ⟨(some 7), .build [(.v (.int .i64 0)), (.v (.int .i64 0)), (.v (.int .u32 0)), (.v (.int .u32 0)), (.v (.int .u32 0)), (.v (.bool false)), (.v (.bool false)), (.v (.bool false)), (.v (.int .i64 0)), (.v (.int .i64 0)), (.v (.slice none 0 0)), (.v (.slice none 0 0)), (.v (.slice none 0 0))] [(0, 1, (.c (.v (.int .i64 1)))), (1, 1, (.c (.v (.int .i64 4)))), (4, 1, (.c (.v (.int .u32 1))))], none⟩,
    ⟨(some 8), .bslice 38 [.int .i64, .int .i64, .int .u32, .int .u32, .int .u32, .bool, .bool, .bool, .int .i64, .int .i64, .sl, .sl, .sl] 1 [(.v (.int .i64 0)), (.v (.int .i64 0)), (.v (.int .u32 0)), (.v (.int .u32 0)), (.v (.int .u32 0)), (.v (.bool false)), (.v (.bool false)), (.v (.bool false)), (.v (.int .i64 0)), (.v (.int .i64 0)), (.v (.slice none 0 0)), (.v (.slice none 0 0)), (.v (.slice none 0 0))] [(0, 13, (.t 7))], none⟩,
    ⟨(some 9), .bslice 34 [.sl] 2 [(.v (.slice none 0 0)), (.v (.slice none 0 0))] [(0, 1, (.t 6)), (1, 1, (.t 8))], none⟩,
    ⟨(some 1), .mov (.t 9), none⟩] .done)
  (.seq (.ops false [⟨(some 10), .call 17 [(.c (.v (.slice none 0 0)))], none⟩,
    ⟨(some 2), .mov (.t 10), none⟩] .done)
  (.seq (.ops false [⟨(some 11), .mov (.t 1), none⟩,
    ⟨(some 12), .build [(.v (.int .i64 0)), (.v (.int .i64 0))] [(0, 1, (.c (.v (.int .i64 0))))], none⟩,
    ⟨(some 13), .build [(.v (.int .i64 0)), (.v (.int .i64 0))] [(0, 1, (.c (.v (.int .i64 1))))], none⟩,
    ⟨(some 14), .bslice 41 [.int .i64, .int .i64] 2 [(.v (.int .i64 0)), (.v (.int .i64 0)), (.v (.int .i64 0)), (.v (.int .i64 0))] [(0, 2, (.t 12)), (2, 2, (.t 13))], none⟩,
    ⟨(some 15), .mov (.t 2), none⟩,
    ⟨(some 16), .call 18 [(.t 11), (.t 14), (.t 15)], none⟩,
    ⟨(some 3), .mov (.t 16), none⟩] .done)
  (.seq (.ops false [⟨(some 17), .mov (.t 1), none⟩,
    ⟨(some 18), .build [(.v (.int .i64 0)), (.v (.int .i64 0))] [(0, 1, (.c (.v (.int .i64 1))))], none⟩,
    ⟨(some 19), .build [(.v (.int .i64 0)), (.v (.int .i64 0))] [(0, 1, (.c (.v (.int .i64 0))))], none⟩,
    ⟨(some 20), .bslice 41 [.int .i64, .int .i64] 2 [(.v (.int .i64 0)), (.v (.int .i64 0)), (.v (.int .i64 0)), (.v (.int .i64 0))] [(0, 2, (.t 18)), (2, 2, (.t 19))], none⟩,
    ⟨(some 21), .mov (.t 2), none⟩,
    ⟨(some 22), .call 18 [(.t 17), (.t 20), (.t 21)], none⟩,
    ⟨(some 4), .mov (.t 22), none⟩] .done)
  (.seq (.ops false [⟨(some 23), .mov (.t 3), none⟩,
    ⟨(some 24), .eqp 1 true false (.t 23) (.c (.v .nilIface)), none⟩,
    ⟨(some 25), .mov (.t 24), none⟩,
    ⟨(some 26), .mov (.t 4), some (25, true)⟩,
    ⟨(some 27), .call 20 [(.c (.v (.int .i64 111))), (.c (.v (.int .i64 0)))], some (25, true)⟩,
    ⟨(some 28), .call 19 [(.t 26), (.t 27)], some (25, true)⟩,
    ⟨(some 29), .pick (.t 25) (.t 28) (.c (.v (.bool false))), none⟩,
    ⟨(some 0), .mov (.t 29), none⟩] .done)
  .ret))))))⟩
theorem pf12_eq : (Tryd.f12.body.map fun c => (cfn Tryd.prog pl12 Tryd.f12 c, guardsAll pl12 c)) = some (pf12, true) := by kernel_rfl

/-- corral/corralworld.Number  sizes [] -/
def pl16 : Nat → DT := dtGet []
def pf16 : PFn := ⟨12, [.t 4], (.seq (.ops false [⟨(some 4), .mov (.c (.v (.int .i64 0))), none⟩] .done)
  (.seq (.ops false [⟨(some 5), .mov (.t 0), none⟩,
    ⟨(some 6), .mov (.t 1), none⟩,
    ⟨(some 7), .bin .rem (.t 5) (.t 6), none⟩,
    ⟨(some 8), .mov (.t 1), none⟩,
    ⟨(some 9), .bin .add (.t 7) (.t 8), none⟩,
    ⟨(some 10), .mov (.t 1), none⟩,
    ⟨(some 11), .bin .rem (.t 9) (.t 10), none⟩,
    ⟨(some 4), .mov (.t 11), none⟩] .done)
  .ret))⟩
theorem pf16_eq : (Tryd.f16.body.map fun c => (cfn Tryd.prog pl16 Tryd.f16 c, guardsAll pl16 c)) = some (pf16, true) := by kernel_rfl

/-- corral/corrallaw14.bytesOf  sizes [] -/
def pl17 : Nat → DT := dtGet []
def pf17 : PFn := ⟨7, [.t 2], (.seq (.ops false [⟨(some 2), .mov (.c (.v .nilFunc)), none⟩] .done)
  (.seq (.ops false [⟨(some 4), .mov (.t 0), none⟩,
    ⟨(some 5), .call 32 [(.t 4)], none⟩,
    ⟨(some 3), .box 72 (.c (.v (.slice none 0 0))), none⟩,
    ⟨none, .store 1 (.t 3) (.t 5), none⟩] .done)
  (.seq (.ops false [⟨(some 6), .clo (.func 33) [] [(.t 3)], none⟩,
    ⟨(some 2), .mov (.t 6), none⟩] .done)
  .ret)))⟩
theorem pf17_eq : (Tryd.f17.body.map fun c => (cfn Tryd.prog pl17 Tryd.f17 c, guardsAll pl17 c)) = some (pf17, true) := by kernel_rfl

/-- corral/wmo.Check  sizes [] -/
def pl18 : Nat → DT := dtGet []
def pf18 : PFn := ⟨41, [.t 6], (.seq (.ops false [⟨(some 6), .mov (.c (.v .nilIface)), none⟩] .done)
  (.seq (.seq (.ops false [⟨(some 12), .mov (.t 0), none⟩,
     ⟨(some 13), .call 34 [(.t 12)], none⟩,
     ⟨(some 7), .mov (.t 13), none⟩] .done)
   (.seq (.ops false [⟨(some 14), .mov (.t 7), none⟩,
     ⟨(some 15), .eqp 1 true true (.t 14) (.c (.v .nilIface)), none⟩] .done)
   (.cond (.t 15)
    (.seq (.ops false [⟨(some 16), .mov (.t 7), none⟩,
       ⟨(some 6), .mov (.t 16), none⟩] .done)
     .ret)
    .skip)))
  (.seq (.ops false [⟨(some 17), .mov (.t 0), none⟩,
    ⟨(some 18), .mov (.t 1), none⟩,
    ⟨(some 19), .mov (.t 2), none⟩,
    ⟨(some 20), .mkmap, none⟩,
    ⟨(some 21), .mkmap, none⟩,
    ⟨(some 22), .build [(.v (.slice none 0 0)), (.v (.slice none 0 0)), (.v (.slice none 0 0)), (.v (.slice none 0 0)), (.v (.map none)), (.v (.map none)), (.v .nilFunc)] [(0, 1, (.t 17)), (1, 1, (.t 18)), (6, 1, (.t 19)), (4, 1, (.t 20)), (5, 1, (.t 21))], none⟩,
    ⟨(some 23), .box 80 (.t 22), none⟩,
    ⟨(some 8), .mov (.t 23), none⟩] .done)
  (.seq (.seq (.ops false [⟨(some 24), .mov (.t 8), none⟩,
     ⟨(some 25), .call 35 [(.t 24)], none⟩,
     ⟨(some 9), .mov (.t 25), none⟩] .done)
   (.seq (.ops false [⟨(some 26), .mov (.t 9), none⟩,
     ⟨(some 27), .eqp 1 true true (.t 26) (.c (.v .nilIface)), none⟩] .done)
   (.cond (.t 27)
    (.seq (.ops false [⟨(some 28), .mov (.t 9), none⟩,
       ⟨(some 6), .mov (.t 28), none⟩] .done)
     .ret)
    .skip)))
  (.seq (.seq (.ops false [⟨(some 29), .mov (.t 8), none⟩,
     ⟨(some 30), .call 36 [(.t 29)], none⟩,
     ⟨(some 10), .mov (.t 30), none⟩] .done)
   (.seq (.ops false [⟨(some 31), .mov (.t 10), none⟩,
     ⟨(some 32), .eqp 1 true true (.t 31) (.c (.v .nilIface)), none⟩] .done)
   (.cond (.t 32)
    (.seq (.ops false [⟨(some 33), .mov (.t 10), none⟩,
       ⟨(some 6), .mov (.t 33), none⟩] .done)
     .ret)
    .skip)))
  (.seq (.seq (.ops false [⟨(some 34), .mov (.t 8), none⟩,
     ⟨(some 35), .call 37 [(.t 34)], none⟩,
     ⟨(some 11), .mov (.t 35), none⟩] .done)
   (.seq (.ops false [⟨(some 36), .mov (.t 11), none⟩,
     ⟨(some 37), .eqp 1 true true (.t 36) (.c (.v .nilIface)), none⟩] .done)
   (.cond (.t 37)
    (.seq (.ops false [⟨(some 38), .mov (.t 11), none⟩,
       ⟨(some 6), .mov (.t 38), none⟩] .done)
     .ret)
    .skip)))
  (.seq (.ops false [⟨(some 39), .mov (.t 8), none⟩,
    ⟨(some 40), .call 38 [(.t 39)], none⟩,
    ⟨(some 6), .mov (.t 40), none⟩] .done)
  .ret)))))))⟩
theorem pf18_eq : (Tryd.f18.body.map fun c => (cfn Tryd.prog pl18 Tryd.f18 c, guardsAll pl18 c)) = some (pf18, true) := by kernel_rfl

/-- corral/corralsee.Same  sizes [] -/
def pl19 : Nat → DT := dtGet []
def pf19 : PFn := ⟨11, [.t 4], (.seq (.ops false [⟨(some 3), .box 27 (.t 1), none⟩,
    ⟨(some 4), .mov (.c (.v (.bool false))), none⟩] .done)
  (.seq (.ops false [⟨(some 6), .mov (.t 0), none⟩,
    ⟨(some 7), .call 39 [(.t 6)], none⟩,
    ⟨(some 5), .box 27 (.c (.agg [(.v (.int .i64 0)), (.v (.slice none 0 0))])), none⟩,
    ⟨none, .store 2 (.t 5) (.t 7), none⟩] .done)
  (.seq (.ops false [⟨(some 8), .load (some 2) (.t 5), none⟩,
    ⟨(some 9), .load (some 2) (.t 3), none⟩,
    ⟨(some 10), .call 40 [(.t 8), (.t 9)], none⟩,
    ⟨(some 4), .mov (.t 10), none⟩] .done)
  .ret)))⟩
theorem pf19_eq : (Tryd.f19.body.map fun c => (cfn Tryd.prog pl19 Tryd.f19 c, guardsAll pl19 c)) = some (pf19, true) := by kernel_rfl

/-- corral/corralref.Placed  sizes [] -/
def pl20 : Nat → DT := dtGet []
def pf20 : PFn := ⟨12, [.cell 4 (some 2)], (.seq (.ops false [⟨(some 4), .box 27 (.c (.agg [(.v (.int .i64 0)), (.v (.slice none 0 0))])), none⟩] .done)
  (.seq (.seq (.ops false [⟨(some 5), .mov (.t 0), none⟩,
     ⟨(some 6), .bin .eql (.t 5) (.c (.v (.int .i64 0))), none⟩] .done)
   (.cond (.t 6)
    (.seq (.ops false [⟨(some 7), .call 30 [], none⟩,
       ⟨none, .store 2 (.t 4) (.t 7), none⟩] .done)
     .ret)
    .skip))
  (.seq (.ops false [⟨(some 8), .mov (.t 0), none⟩,
    ⟨(some 9), .mov (.t 1), none⟩,
    ⟨(some 10), .bslice 3 [.int .i64] 1 [(.v (.int .i64 0))] [(0, 1, (.t 9))], none⟩,
    ⟨(some 11), .build [(.v (.int .i64 0)), (.v (.slice none 0 0))] [(0, 1, (.t 8)), (1, 1, (.t 10))], none⟩,
    ⟨none, .store 2 (.t 4) (.t 11), none⟩] .done)
  .ret)))⟩
theorem pf20_eq : (Tryd.f20.body.map fun c => (cfn Tryd.prog pl20 Tryd.f20 c, guardsAll pl20 c)) = some (pf20, true) := by kernel_rfl

/-- corral/corralref.Bare  sizes [] -/
def pl27 : Nat → DT := dtGet []
def pf27 : PFn := ⟨5, [.cell 2 (some 2)], (.seq (.ops false [⟨(some 2), .box 27 (.c (.agg [(.v (.int .i64 0)), (.v (.slice none 0 0))])), none⟩] .done)
  (.seq (.ops false [⟨(some 3), .mov (.t 0), none⟩,
    ⟨(some 4), .build [(.v (.int .i64 0)), (.v (.slice none 0 0))] [(0, 1, (.t 3))], none⟩,
    ⟨none, .store 2 (.t 2) (.t 4), none⟩] .done)
  .ret))⟩
theorem pf27_eq : (Tryd.f27.body.map fun c => (cfn Tryd.prog pl27 Tryd.f27 c, guardsAll pl27 c)) = some (pf27, true) := by kernel_rfl

/-- corral/corralref.None  sizes [] -/
def pl30 : Nat → DT := dtGet []
def pf30 : PFn := ⟨2, [.cell 0 (some 2)], (.seq (.ops false [⟨(some 0), .box 27 (.c (.agg [(.v (.int .i64 0)), (.v (.slice none 0 0))])), none⟩] .done)
  (.seq (.ops false [⟨(some 1), .build [(.v (.int .i64 0)), (.v (.slice none 0 0))] [], none⟩,
    ⟨none, .store 2 (.t 0) (.t 1), none⟩] .done)
  .ret))⟩
theorem pf30_eq : (Tryd.f30.body.map fun c => (cfn Tryd.prog pl30 Tryd.f30 c, guardsAll pl30 c)) = some (pf30, true) := by kernel_rfl

/-- corral/corralref.Bytes  sizes [] -/
def pl32 : Nat → DT := dtGet []
def pf32 : PFn := ⟨22, [.t 2], (.seq (.ops false [⟨(some 2), .mov (.c (.v (.slice none 0 0))), none⟩] .done)
  (.seq (.ops false [⟨(some 5), .mov (.t 0), none⟩,
    ⟨(some 6), .len (.t 5), none⟩,
    ⟨(some 7), .mslice 5 [.int .u8] [(.int .u8 0)] 1 (.c (.v (.int .i64 0))) (.t 6), none⟩,
    ⟨(some 3), .mov (.t 7), none⟩] .done)
  (.seq (.seq (.ops false [⟨(some 4), .mov (.c (.v (.int .i64 0))), none⟩] .done)
   (.block 0 (.loop (.seq (.seq (.ops false [⟨(some 8), .mov (.t 4), none⟩,
        ⟨(some 9), .mov (.t 0), none⟩,
        ⟨(some 10), .len (.t 9), none⟩,
        ⟨(some 11), .bin .lss (.t 8) (.t 10), none⟩] .done)
      (.cond (.t 11)
       .skip
       (.exit 0)))
     (.seq (.block 1 (.ops false [⟨(some 14), .mov (.t 3), none⟩,
        ⟨(some 15), .mov (.t 0), none⟩,
        ⟨(some 16), .mov (.t 4), none⟩,
        ⟨(some 17), .idx 1 (.t 15) (.t 16), none⟩,
        ⟨(some 18), .load none (.t 17), none⟩,
        ⟨(some 19), .bslice 5 [.int .u8] 1 [(.v (.int .u8 0))] [(0, 1, (.t 18))], none⟩,
        ⟨(some 20), .append 5 [.int .u8] [(.int .u8 0)] 1 (.t 14) (.t 19), none⟩,
        ⟨(some 3), .mov (.t 20), none⟩] .done))
     (.ops false [⟨(some 12), .mov (.t 4), none⟩,
      ⟨(some 13), .bin .add (.t 12) (.c (.v (.int .i64 1))), none⟩,
      ⟨(some 4), .mov (.t 13), none⟩] .done))))))
  (.seq (.ops false [⟨(some 21), .mov (.t 3), none⟩,
    ⟨(some 2), .mov (.t 21), none⟩] .done)
  .ret))))⟩
theorem pf32_eq : (Tryd.f32.body.map fun c => (cfn Tryd.prog pl32 Tryd.f32 c, guardsAll pl32 c)) = some (pf32, true) := by kernel_rfl

/-- corral/corrallaw14.bytesOf$1  sizes [] -/
def pl33 : Nat → DT := dtGet []
def pf33 : PFn := ⟨13, [.t 3], (.seq (.ops false [⟨(some 3), .mov (.c (.v (.int .u8 0))), none⟩] .done)
  (.seq (.seq (.ops false [⟨(some 4), .mov (.t 0), none⟩,
     ⟨(some 5), .conv .i64 (.t 4), none⟩,
     ⟨(some 6), .load none (.t 1), none⟩,
     ⟨(some 7), .len (.t 6), none⟩,
     ⟨(some 8), .bin .lss (.t 5) (.t 7), none⟩] .done)
   (.cond (.t 8)
    (.seq (.ops false [⟨(some 9), .load none (.t 1), none⟩,
       ⟨(some 10), .mov (.t 0), none⟩,
       ⟨(some 11), .idx 1 (.t 9) (.t 10), none⟩,
       ⟨(some 12), .load none (.t 11), none⟩,
       ⟨(some 3), .mov (.t 12), none⟩] .done)
     .ret)
    .skip))
  (.seq (.ops false [⟨(some 3), .mov (.c (.v (.int .u8 0))), none⟩] .done)
  .ret)))⟩
theorem pf33_eq : (Tryd.f33.body.map fun c => (cfn Tryd.prog pl33 Tryd.f33 c, guardsAll pl33 c)) = some (pf33, true) := by kernel_rfl

/-- corral/wmo.Valid  sizes [] -/
def pl34 : Nat → DT := dtGet []
def pf34 : PFn := ⟨59, [.t 2], (.seq (.ops false [⟨(some 2), .mov (.c (.v .nilIface)), none⟩] .done)
  (.seq (.ops false [⟨(some 3), .mov (.c (.v (.int .i64 0))), none⟩] .done)
  (.seq (.seq (.ops false [⟨(some 10), .mov (.t 0), none⟩,
     ⟨(some 11), .len (.t 10), none⟩,
     ⟨(some 12), .mov (.c (.v (.int .i64 0))), none⟩] .done)
   (.block 0 (.loop (.seq (.ops false [⟨(some 13), .bin .lss (.t 12) (.t 11), none⟩] .done)
     (.seq (.cond (.t 13)
       .skip
       (.exit 0))
     (.seq (.block 1 (.seq (.ops false [⟨(some 14), .idx 1 (.t 10) (.t 12), none⟩,
         ⟨(some 15), .load none (.t 14), none⟩,
         ⟨(some 5), .mov (.t 15), none⟩] .done)
       (.ops false [⟨(some 16), .mov (.t 3), none⟩,
        ⟨(some 17), .mov (.t 5), none⟩,
        ⟨(some 18), .len (.t 17), none⟩,
        ⟨(some 19), .bin .add (.t 16) (.t 18), none⟩,
        ⟨(some 3), .mov (.t 19), none⟩] .done)))
     (.ops false [⟨(some 20), .bin .add (.t 12) (.c (.v (.int .i64 1))), none⟩,
      ⟨(some 12), .mov (.t 20), none⟩] .done)))))))
  (.seq (.seq (.ops false [⟨(some 21), .mov (.t 0), none⟩,
     ⟨(some 22), .len (.t 21), none⟩,
     ⟨(some 23), .bin .gtr (.t 22) (.c (.v (.int .i64 64))), none⟩,
     ⟨(some 24), .mov (.t 23), none⟩,
     ⟨(some 25), .mov (.t 3), some (24, false)⟩,
     ⟨(some 26), .bin .gtr (.t 25) (.c (.v (.int .i64 20000))), some (24, false)⟩,
     ⟨(some 27), .pick (.t 24) (.c (.v (.bool true))) (.t 26), none⟩] .done)
   (.cond (.t 27)
    (.seq (.ops false [⟨(some 28), .load none (.c (.v (.pointer (some ⟨0, 0, none⟩)))), none⟩,
       ⟨(some 2), .mov (.t 28), none⟩] .done)
     .ret)
    .skip))
  (.seq (.ops false [⟨(some 3), .mov (.c (.v (.int .i64 0))), none⟩] .done)
  (.seq (.seq (.ops false [⟨(some 29), .mov (.t 0), none⟩,
     ⟨(some 30), .len (.t 29), none⟩,
     ⟨(some 31), .mov (.c (.v (.int .i64 0))), none⟩] .done)
   (.block 2 (.loop (.seq (.ops false [⟨(some 32), .bin .lss (.t 31) (.t 30), none⟩] .done)
     (.seq (.cond (.t 32)
       .skip
       (.exit 2))
     (.seq (.block 3 (.seq (.ops false [⟨(some 33), .idx 1 (.t 29) (.t 31), none⟩,
         ⟨(some 34), .load none (.t 33), none⟩,
         ⟨(some 7), .mov (.t 34), none⟩] .done)
       (.seq (.ops false [⟨(some 35), .mov (.t 7), none⟩,
         ⟨(some 36), .call 53 [(.t 35)], none⟩,
         ⟨(some 8), .mov (.t 36), none⟩] .done)
       (.seq (.ops false [⟨(some 37), .mov (.t 7), none⟩,
         ⟨(some 38), .len (.t 37), none⟩,
         ⟨(some 39), .mov (.c (.v (.int .i64 0))), none⟩] .done)
       (.block 4 (.loop (.seq (.ops false [⟨(some 40), .bin .lss (.t 39) (.t 38), none⟩] .done)
         (.seq (.cond (.t 40)
           .skip
           (.exit 4))
         (.seq (.block 5 (.seq (.ops false [⟨(some 41), .mov (.t 39), none⟩,
             ⟨(some 9), .mov (.t 41), none⟩] .done)
           (.seq (.seq (.ops false [⟨(some 42), .mov (.t 7), none⟩,
              ⟨(some 43), .mov (.t 9), none⟩,
              ⟨(some 44), .mov (.t 8), none⟩,
              ⟨(some 45), .mov (.t 9), none⟩,
              ⟨(some 46), .idx 1 (.t 44) (.t 45), none⟩,
              ⟨(some 47), .load none (.t 46), none⟩,
              ⟨(some 48), .call 54 [(.t 42), (.t 43), (.t 47)], none⟩,
              ⟨(some 49), .un .not (.t 48), none⟩] .done)
            (.cond (.t 49)
             (.seq (.ops false [⟨(some 50), .mov (.t 3), none⟩,
                ⟨(some 51), .load none (.c (.v (.pointer (some ⟨1, 0, none⟩)))), none⟩,
                ⟨(some 52), .build [(.v (.int .i64 0)), (.v .nilIface)] [(0, 1, (.t 50)), (1, 1, (.t 51))], none⟩,
                ⟨(some 53), .box 99 (.t 52), none⟩,
                ⟨(some 54), .iface 97 (.t 53), none⟩,
                ⟨(some 2), .mov (.t 54), none⟩] .done)
              .ret)
             .skip))
           (.ops false [⟨(some 55), .mov (.t 3), none⟩,
            ⟨(some 56), .bin .add (.t 55) (.c (.v (.int .i64 1))), none⟩,
            ⟨(some 3), .mov (.t 56), none⟩] .done))))
         (.ops false [⟨(some 57), .bin .add (.t 39) (.c (.v (.int .i64 1))), none⟩,
          ⟨(some 39), .mov (.t 57), none⟩] .done))))))))))
     (.ops false [⟨(some 58), .bin .add (.t 31) (.c (.v (.int .i64 1))), none⟩,
      ⟨(some 31), .mov (.t 58), none⟩] .done)))))))
  (.seq (.ops false [⟨(some 2), .mov (.c (.v .nilIface)), none⟩] .done)
  .ret)))))))⟩
theorem pf34_eq : (Tryd.f34.body.map fun c => (cfn Tryd.prog pl34 Tryd.f34 c, guardsAll pl34 c)) = some (pf34, true) := by kernel_rfl

/-- (*corral/wmo.checker).places  sizes [(14, 13), (19, 64), (21, 14), (27, 23), (31, 11)] -/
def pl35 : Nat → DT := dtGet [(14, (.take 0 [0, 9, 10, 11] (.take 1 [1, 2, 9, 10, 11, 3, 4, 8] (.take 2 [2, 3, 9, 10, 11, 4, 8] (.take 3 [3, 4, 9, 10, 11, 8] (.take 4 [4, 8, 9, 10, 11] (.take 5 [5, 6, 9, 10, 11, 7, 8] (.eff true 6 (.eff true 7 (.eff false 8 (.take 9 [9, 10, 11] (.take 10 [10, 11] (.eff false 11 .done))))))))))))), (19, (.take 0 [0, 1, 2, 3, 4, 5, 6, 7, 8, 9, 10, 11, 12, 13, 14, 15, 16, 17, 18, 19, 20, 21, 22, 23, 24, 25, 26, 27, 28, 29, 30, 31, 32, 33, 34, 35, 36, 37, 38, 39, 40, 41, 42, 43, 44, 45, 46, 47, 48, 49, 50, 51, 52, 53, 54, 55, 56, 57, 58, 59, 60, 61, 62] (.take 1 [1, 2, 3, 4, 5, 6, 7, 8, 9, 10, 11, 12, 13, 14, 15, 16, 17, 18, 19, 20, 21, 22, 23, 24, 25, 26, 27, 28, 29, 30, 31, 32, 33, 34, 35, 36, 37, 38, 39, 40, 41, 42, 43, 44, 45, 46, 47, 48, 49, 50, 51, 52, 53, 54, 55, 56, 57, 58, 59, 60, 61, 62] (.take 2 [2, 3, 4, 5, 6, 7, 8, 9, 10, 11, 12, 13, 14, 15, 16, 17, 18, 19, 20, 21, 22, 23, 24, 25, 26, 27, 28, 29, 30, 31, 32, 33, 34, 35, 36, 37, 38, 39, 40, 41, 42, 43, 44, 45, 46, 47, 48, 49, 50, 51, 52, 53, 54, 55, 56, 57, 58, 59, 60, 61, 62] (.take 3 [3, 4, 5, 6, 7, 8, 9, 10, 11, 12, 13, 14, 15, 16, 17, 18, 19, 20, 21, 22, 23, 24, 25, 26, 27, 28, 29, 30, 31, 32, 33, 34, 35, 36, 37, 38, 39, 40, 41, 42, 43, 44, 45, 46, 47, 48, 49, 50, 51, 52, 53, 54, 55, 56, 57, 58, 59, 60, 61, 62] (.take 4 [4, 5, 11, 12, 13, 14, 15, 16, 17, 18, 19, 20, 21, 22, 23, 24, 25, 26, 27, 28, 29, 30, 31, 32, 33, 34, 35, 36, 37, 38, 39, 40, 41, 42, 43, 44, 45, 46, 47, 48, 49, 50, 51, 52, 53, 54, 55, 56, 57, 58, 59, 60, 61, 62] (.take 5 [5, 11, 12, 13, 14, 15, 16, 17, 18, 19, 20, 21, 22, 23, 24, 25, 26, 27, 28, 29, 30, 31, 32, 33, 34, 35, 36, 37, 38, 39, 40, 41, 42, 43, 44, 45, 46, 47, 48, 49, 50, 51, 52, 53, 54, 55, 56, 57, 58, 59, 60, 61, 62] (.take 6 [6, 7, 8, 9, 10, 11, 12, 13, 14, 15, 16, 17, 18, 19, 20, 21, 22, 23, 24, 25, 26, 27, 28, 29, 30, 31, 32, 33, 34, 35, 36, 37, 38, 39, 40, 41, 42, 43, 44, 45, 46, 47, 48, 49, 50, 51, 52, 53, 54, 55, 56, 57, 58, 59, 60, 61, 62] (.take 7 [7, 8, 9, 10, 11, 12, 13, 14, 15, 16, 17, 18, 19, 20, 21, 22, 23, 24, 25, 26, 27, 28, 29, 30, 31, 32, 33, 34, 35, 36, 37, 38, 39, 40, 41, 42, 43, 44, 45, 46, 47, 48, 49, 50, 51, 52, 53, 54, 55, 56, 57, 58, 59, 60, 61, 62] (.take 8 [8, 9, 10, 11, 12, 13, 14, 15, 16, 17, 18, 19, 20, 21, 22, 23, 24, 25, 26, 27, 28, 29, 30, 31, 32, 33, 34, 35, 36, 37, 38, 39, 40, 41, 42, 43, 44, 45, 46, 47, 48, 49, 50, 51, 52, 53, 54, 55, 56, 57, 58, 59, 60, 61, 62] (.take 9 [9, 10, 11, 12, 13, 14, 15, 16, 17, 18, 19, 20, 21, 22, 23, 24, 25, 26, 27, 28, 29, 30, 31, 32, 33, 34, 35, 36, 37, 38, 39, 40, 41, 42, 43, 44, 45, 46, 47, 48, 49, 50, 51, 52, 53, 54, 55, 56, 57, 58, 59, 60, 61, 62] (.take 10 [10, 11, 12, 13, 14, 15, 16, 17, 18, 19, 20, 21, 22, 23, 24, 25, 26, 27, 28, 29, 30, 31, 32, 33, 34, 35, 36, 37, 38, 39, 40, 41, 42, 43, 44, 45, 46, 47, 48, 49, 50, 51, 52, 53, 54, 55, 56, 57, 58, 59, 60, 61, 62] (.take 11 [11, 12, 13, 14, 15, 16, 17, 18, 19, 20, 21, 22, 23, 24, 25, 26, 27, 28, 29, 30, 31, 32, 33, 34, 35, 36, 37, 38, 39, 40, 41, 42, 43, 44, 45, 46, 47, 48, 49, 50, 51, 52, 53, 54, 55, 56, 57, 58, 59, 60, 61, 62] (.take 12 [12, 13, 14, 15, 16, 17, 18, 19, 20, 21, 22, 23, 24, 25, 26, 27, 28, 29, 30, 31, 32, 33, 34, 35, 36, 37, 38, 39, 40, 41, 42, 43, 44, 45, 46, 47, 48, 49, 50, 51, 52, 53, 54, 55, 56, 57, 58, 59, 60, 61, 62] (.take 13 [13, 14, 15, 16, 17, 18, 19, 20, 21, 22, 23, 24, 25, 26, 27, 28, 29, 30, 31, 32, 33, 34, 35, 36, 37, 38, 39, 40, 41, 42, 43, 44, 45, 46, 47, 48, 49, 50, 51, 52, 53, 54, 55, 56, 57, 58, 59, 60, 61, 62] (.take 14 [14, 15, 16, 17, 18, 19, 20, 21, 22, 23, 24, 25, 26, 27, 28, 29, 30, 31, 32, 33, 34, 35, 36, 37, 38, 39, 40, 41, 42, 43, 44, 45, 46, 47, 48, 49, 50, 51, 52, 53, 54, 55, 56, 57, 58, 59, 60, 61, 62] (.take 15 [15, 16, 17, 18, 19, 20, 21, 22, 23, 24, 25, 26, 27, 28, 29, 30, 31, 32, 33, 34, 35, 36, 37, 38, 39, 40, 41, 42, 43, 44, 45, 46, 47, 48, 49, 50, 51, 52, 53, 54, 55, 56, 57, 58, 59, 60, 61, 62] (.take 16 [16, 17, 18, 19, 20, 21, 22, 23, 24, 25, 26, 27, 28, 29, 30, 31, 32, 33, 34, 35, 36, 37, 38, 39, 40, 41, 42, 43, 44, 45, 46, 47, 48, 49, 50, 51, 52, 53, 54, 55, 56, 57, 58, 59, 60, 61, 62] (.take 17 [17, 18, 19, 20, 21, 22, 23, 24, 25, 26, 27, 28, 29, 30, 31, 32, 33, 34, 35, 36, 37, 38, 39, 40, 41, 42, 43, 44, 45, 46, 47, 48, 49, 50, 51, 52, 53, 54, 55, 56, 57, 58, 59, 60, 61, 62] (.take 18 [18, 19, 20, 21, 22, 23, 24, 25, 26, 27, 28, 29, 30, 31, 32, 33, 34, 35, 36, 37, 38, 39, 40, 41, 42, 43, 44, 45, 46, 47, 48, 49, 50, 51, 52, 53, 54, 55, 56, 57, 58, 59, 60, 61, 62] (.take 19 [19, 20, 30, 31, 32, 33, 34, 35, 36, 37, 38, 39, 40, 41, 42, 43, 44, 45, 46, 47, 48, 49, 50, 51, 52, 53, 54, 55, 56, 57, 58, 59, 60, 61, 62] (.take 20 [20, 30, 31, 32, 33, 34, 35, 36, 37, 38, 39, 40, 41, 42, 43, 44, 45, 46, 47, 48, 49, 50, 51, 52, 53, 54, 55, 56, 57, 58, 59, 60, 61, 62] (.take 21 [21, 22, 23, 24, 27, 28, 29, 30, 31, 32, 33, 34, 35, 36, 37, 38, 39, 40, 41, 42, 43, 44, 45, 46, 47, 48, 49, 50, 51, 52, 53, 54, 55, 56, 57, 58, 59, 60, 61, 62] (.take 22 [22, 23, 24, 27, 28, 29, 30, 31, 32, 33, 34, 35, 36, 37, 38, 39, 40, 41, 42, 43, 44, 45, 46, 47, 48, 49, 50, 51, 52, 53, 54, 55, 56, 57, 58, 59, 60, 61, 62] (.take 23 [23, 24, 27, 28, 29, 30, 31, 32, 33, 34, 35, 36, 37, 38, 39, 40, 41, 42, 43, 44, 45, 46, 47, 48, 49, 50, 51, 52, 53, 54, 55, 56, 57, 58, 59, 60, 61, 62] (.take 24 [24, 27, 28, 29, 30, 31, 32, 33, 34, 35, 36, 37, 38, 39, 40, 41, 42, 43, 44, 45, 46, 47, 48, 49, 50, 51, 52, 53, 54, 55, 56, 57, 58, 59, 60, 61, 62] (.take 25 [25, 26, 27, 28, 29, 30, 31, 32, 33, 34, 35, 36, 37, 38, 39, 40, 41, 42, 43, 44, 45, 46, 47, 48, 49, 50, 51, 52, 53, 54, 55, 56, 57, 58, 59, 60, 61, 62] (.take 26 [26, 27, 28, 29, 30, 31, 32, 33, 34, 35, 36, 37, 38, 39, 40, 41, 42, 43, 44, 45, 46, 47, 48, 49, 50, 51, 52, 53, 54, 55, 56, 57, 58, 59, 60, 61, 62] (.take 27 [27, 28, 29, 30, 31, 32, 33, 34, 35, 36, 37, 38, 39, 40, 41, 42, 43, 44, 45, 46, 47, 48, 49, 50, 51, 52, 53, 54, 55, 56, 57, 58, 59, 60, 61, 62] (.take 28 [28, 29, 30, 31, 32, 33, 34, 35, 36, 37, 38, 39, 40, 41, 42, 43, 44, 45, 46, 47, 48, 49, 50, 51, 52, 53, 54, 55, 56, 57, 58, 59, 60, 61, 62] (.take 29 [29, 30, 31, 32, 33, 34, 35, 36, 37, 38, 39, 40, 41, 42, 43, 44, 45, 46, 47, 48, 49, 50, 51, 52, 53, 54, 55, 56, 57, 58, 59, 60, 61, 62] (.take 30 [30, 31, 32, 33, 34, 35, 36, 37, 38, 39, 40, 41, 42, 43, 44, 45, 46, 47, 48, 49, 50, 51, 52, 53, 54, 55, 56, 57, 58, 59, 60, 61, 62] (.take 31 [31, 32, 33, 34, 35, 36, 37, 38, 39, 40, 41, 42, 43, 44, 45, 46, 47, 48, 49, 50, 51, 52, 53, 54, 55, 56, 57, 58, 59, 60, 61, 62] (.take 32 [32, 33, 34, 35, 36, 37, 38, 39, 40, 41, 42, 43, 44, 45, 46, 47, 48, 49, 50, 51, 52, 53, 54, 55, 56, 57, 58, 59, 60, 61, 62] (.take 33 [33, 34, 35, 36, 39, 40, 43, 44, 45, 46, 47, 48, 49, 50, 51, 52, 53, 54, 55, 56, 57, 58, 59, 60, 61, 62] (.take 34 [34, 35, 36, 39, 40, 43, 44, 45, 46, 47, 48, 49, 50, 51, 52, 53, 54, 55, 56, 57, 58, 59, 60, 61, 62] (.take 35 [35, 36, 39, 40, 43, 44, 45, 46, 47, 48, 49, 50, 51, 52, 53, 54, 55, 56, 57, 58, 59, 60, 61, 62] (.take 36 [36, 39, 40, 43, 44, 45, 46, 47, 48, 49, 50, 51, 52, 53, 54, 55, 56, 57, 58, 59, 60, 61, 62] (.take 37 [37, 38, 39, 40, 43, 44, 45, 46, 47, 48, 49, 50, 51, 52, 53, 54, 55, 56, 57, 58, 59, 60, 61, 62] (.take 38 [38, 39, 40, 43, 44, 45, 46, 47, 48, 49, 50, 51, 52, 53, 54, 55, 56, 57, 58, 59, 60, 61, 62] (.take 39 [39, 40, 43, 44, 45, 46, 47, 48, 49, 50, 51, 52, 53, 54, 55, 56, 57, 58, 59, 60, 61, 62] (.take 40 [40, 43, 44, 45, 46, 47, 48, 49, 50, 51, 52, 53, 54, 55, 56, 57, 58, 59, 60, 61, 62] (.take 41 [41, 42, 43, 44, 45, 46, 47, 48, 49, 50, 51, 52, 53, 54, 55, 56, 57, 58, 59, 60, 61, 62] (.take 42 [42, 43, 44, 45, 46, 47, 48, 49, 50, 51, 52, 53, 54, 55, 56, 57, 58, 59, 60, 61, 62] (.take 43 [43, 44, 45, 46, 47, 48, 49, 50, 51, 52, 53, 54, 55, 56, 57, 58, 59, 60, 61, 62] (.take 44 [44, 45, 46, 47, 48, 49, 50, 51, 52, 53, 54, 55, 56, 57, 58, 59, 60, 61, 62] (.take 45 [45, 46, 47, 48, 49, 50, 51, 52, 53, 54, 55, 56, 57, 58, 59, 60, 61, 62] (.take 46 [46, 47, 48, 49, 50, 51, 52, 53, 54, 55, 56, 57, 58, 59, 60, 61, 62] (.take 47 [47, 48, 49, 50, 51, 52, 53, 54, 55, 56, 57, 58, 59, 60, 61, 62] (.take 48 [48, 49, 50, 51, 52, 53, 54, 55, 56, 57, 58, 59, 60, 61, 62] (.take 49 [49, 50, 51, 52, 55, 56, 59, 60, 61, 62] (.take 50 [50, 51, 52, 55, 56, 59, 60, 61, 62] (.take 51 [51, 52, 55, 56, 59, 60, 61, 62] (.take 52 [52, 55, 56, 59, 60, 61, 62] (.take 53 [53, 54, 55, 56, 59, 60, 61, 62] (.take 54 [54, 55, 56, 59, 60, 61, 62] (.take 55 [55, 56, 59, 60, 61, 62] (.take 56 [56, 59, 60, 61, 62] (.take 57 [57, 58, 59, 60, 61, 62] (.take 58 [58, 59, 60, 61, 62] (.take 59 [59, 60, 61, 62] (.take 60 [60, 61, 62] (.take 61 [61, 62] (.take 62 [62] .done)))))))))))))))))))))))))))))))))))))))))))))))))))))))))))))))), (21, (.take 0 [0, 1, 11, 12, 2, 3, 6, 7] (.take 1 [1, 2, 11, 12, 3, 6, 7] (.take 2 [2, 3, 11, 12, 6, 7] (.take 3 [3, 6, 11, 12, 7] (.take 4 [4, 5, 11, 12, 6, 7] (.take 5 [5, 6, 11, 12, 7] (.take 6 [6, 7, 11, 12] (.take 7 [7, 11, 12] (.take 8 [8, 9, 11, 12] (.take 9 [9, 11, 12] (.take 10 [10, 11, 12] (.take 11 [11, 12] (.eff false 12 .done)))))))))))))), (27, (.eff true 1000000 (.take 0 [0, 1, 14, 2, 3] (.take 1 [1, 2, 14, 3] (.take 2 [2, 3, 14] (.take 3 [3, 14] (.take 4 [4, 14] (.take 5 [5, 6, 14, 7, 8, 10, 13] (.take 6 [6, 7, 14, 8, 10, 13] (.take 7 [7, 8, 14, 10, 13] (.take 8 [8, 10, 14, 13] (.take 9 [9, 10, 14, 13] (.take 11 [11, 12, 14, 13] (.both (.eff true 10 (.eff true 12 (.eff false 13 (.eff false 14 .done)))) (.eff true 12 (.eff true 10 (.eff false 13 (.eff false 14 .done)))))))))))))))))), (31, (.take 0 [0, 1, 9, 2, 3, 4, 6, 7, 8] (.take 1 [1, 2, 9, 3, 4, 6, 7, 8] (.take 2 [2, 3, 9, 4, 6, 7, 8] (.take 3 [3, 4, 9, 6, 7, 8] (.take 4 [4, 6, 9, 7, 8] (.take 5 [5, 6, 9, 7, 8] (.take 6 [6, 7, 9, 8] (.eff true 7 (.take 8 [8, 9] (.take 9 [9] .done)))))))))))]
def pf35 : PFn := ⟨198, [.t 2], (.seq (.ops false [⟨(some 2), .mov (.c (.v .nilIface)), none⟩] .done)
  (.seq (.ops false [⟨(some 3), .mov (.c (.v (.int .i64 0))), none⟩] .done)
  (.seq (.seq (.ops false [⟨(some 14), .mov (.t 0), none⟩,
     ⟨(some 15), .nilck (.t 14), none⟩,
     ⟨(some 16), .fld 0 (.t 15), none⟩,
     ⟨(some 17), .load none (.t 16), none⟩,
     ⟨(some 18), .len (.t 17), none⟩,
     ⟨(some 19), .mov (.c (.v (.int .i64 0))), none⟩] .done)
   (.block 0 (.loop (.seq (.ops false [⟨(some 20), .bin .lss (.t 19) (.t 18), none⟩] .done)
     (.seq (.cond (.t 20)
       .skip
       (.exit 0))
     (.seq (.block 1 (.seq (.ops false [⟨(some 21), .idx 1 (.t 17) (.t 19), none⟩,
         ⟨(some 22), .load none (.t 21), none⟩,
         ⟨(some 5), .mov (.t 22), none⟩] .done)
       (.seq (.ops false [⟨(some 23), .mov (.t 5), none⟩,
         ⟨(some 24), .len (.t 23), none⟩,
         ⟨(some 25), .mslice 3 [.int .i64] [(.int .i64 0)] 8 (.t 24) (.t 24), none⟩,
         ⟨(some 6), .mov (.t 25), none⟩] .done)
       (.seq (.seq (.ops false [⟨(some 26), .mov (.t 5), none⟩,
          ⟨(some 27), .len (.t 26), none⟩,
          ⟨(some 28), .mov (.c (.v (.int .i64 0))), none⟩] .done)
        (.block 2 (.loop (.seq (.ops false [⟨(some 29), .bin .lss (.t 28) (.t 27), none⟩] .done)
          (.seq (.cond (.t 29)
            .skip
            (.exit 2))
          (.seq (.block 3 (.seq (.ops false [⟨(some 30), .mov (.t 28), none⟩,
              ⟨(some 31), .idx 13 (.t 26) (.t 28), none⟩,
              ⟨(some 32), .load (some 13) (.t 31), none⟩,
              ⟨(some 8), .box 38 (.c (.agg [(.v (.int .i64 0)), (.v (.int .i64 0)), (.v (.int .u32 0)), (.v (.int .u32 0)), (.v (.int .u32 0)), (.v (.bool false)), (.v (.bool false)), (.v (.bool false)), (.v (.int .i64 0)), (.v (.int .i64 0)), (.v (.slice none 0 0)), (.v (.slice none 0 0)), (.v (.slice none 0 0))])), none⟩,
              ⟨(some 7), .mov (.t 30), none⟩,
              ⟨none, .store 13 (.t 8) (.t 32), none⟩] .done)
            (.seq (.ops false [⟨(some 33), .mov (.t 6), none⟩,
              ⟨(some 34), .mov (.t 7), none⟩,
              ⟨(some 35), .idx 1 (.t 33) (.t 34), none⟩,
              ⟨none, .store 1 (.t 35) (.c (.v (.int .i64 (-1)))), none⟩] .done)
            (.seq (.ops false [⟨(some 36), .fld 0 (.t 8), none⟩,
              ⟨(some 37), .load none (.t 36), none⟩,
              ⟨(some 38), .bin .neq (.t 37) (.c (.v (.int .i64 4))), none⟩] .done)
            (.cond (.t 38)
             (.ops false [⟨(some 39), .mov (.t 3), none⟩,
               ⟨(some 40), .bin .add (.t 39) (.c (.v (.int .i64 1))), none⟩,
               ⟨(some 3), .mov (.t 40), none⟩] .done)
             .skip)))))
          (.ops false [⟨(some 41), .bin .add (.t 28) (.c (.v (.int .i64 1))), none⟩,
           ⟨(some 28), .mov (.t 41), none⟩] .done)))))))
       (.seq (.ops false [⟨(some 42), .mov (.t 0), none⟩,
         ⟨(some 43), .mov (.t 0), none⟩,
         ⟨(some 44), .nilck (.t 43), none⟩,
         ⟨(some 45), .fld 3 (.t 44), none⟩,
         ⟨(some 46), .load none (.t 45), none⟩,
         ⟨(some 47), .mov (.t 6), none⟩,
         ⟨(some 48), .bslice 23 [.sl] 1 [(.v (.slice none 0 0))] [(0, 1, (.t 47))], none⟩,
         ⟨(some 49), .append 23 [.sl] [(.slice none 0 0)] 24 (.t 46) (.t 48), none⟩,
         ⟨(some 50), .nilck (.t 42), none⟩,
         ⟨(some 51), .fld 3 (.t 50), none⟩,
         ⟨none, .store 1 (.t 51) (.t 49), none⟩] .done)
       (.ops true [⟨(some 52), .mov (.t 0), none⟩,
        ⟨(some 53), .mov (.t 0), none⟩,
        ⟨(some 54), .nilck (.t 53), none⟩,
        ⟨(some 55), .fld 2 (.t 54), none⟩,
        ⟨(some 56), .load none (.t 55), none⟩,
        ⟨(some 57), .mov (.t 5), none⟩,
        ⟨(some 58), .call 53 [(.t 57)], none⟩,
        ⟨(some 59), .bslice 23 [.sl] 1 [(.v (.slice none 0 0))] [(0, 1, (.t 58))], none⟩,
        ⟨(some 60), .append 23 [.sl] [(.slice none 0 0)] 24 (.t 56) (.t 59), none⟩,
        ⟨(some 61), .nilck (.t 52), none⟩,
        ⟨(some 62), .fld 2 (.t 61), none⟩,
        ⟨none, .store 1 (.t 62) (.t 60), none⟩] (.take 0 [0, 9, 10, 11] (.take 1 [1, 2, 9, 10, 11, 3, 4, 8] (.take 2 [2, 3, 9, 10, 11, 4, 8] (.take 3 [3, 4, 9, 10, 11, 8] (.take 4 [4, 8, 9, 10, 11] (.take 5 [5, 6, 9, 10, 11, 7, 8] (.eff true 6 (.eff true 7 (.eff false 8 (.take 9 [9, 10, 11] (.take 10 [10, 11] (.eff false 11 .done))))))))))))))))))
     (.ops false [⟨(some 63), .bin .add (.t 19) (.c (.v (.int .i64 1))), none⟩,
      ⟨(some 19), .mov (.t 63), none⟩] .done)))))))
  (.seq (.seq (.ops false [⟨(some 64), .mov (.t 0), none⟩,
     ⟨(some 65), .nilck (.t 64), none⟩,
     ⟨(some 66), .fld 1 (.t 65), none⟩,
     ⟨(some 67), .load none (.t 66), none⟩,
     ⟨(some 68), .len (.t 67), none⟩,
     ⟨(some 69), .mov (.c (.v (.int .i64 0))), none⟩] .done)
   (.block 4 (.loop (.seq (.ops false [⟨(some 70), .bin .lss (.t 69) (.t 68), none⟩] .done)
     (.seq (.cond (.t 70)
       .skip
       (.exit 4))
     (.seq (.block 5 (.seq (.ops false [⟨(some 71), .mov (.t 69), none⟩,
         ⟨(some 72), .idx 2 (.t 67) (.t 69), none⟩,
         ⟨(some 73), .load (some 2) (.t 72), none⟩,
         ⟨(some 10), .box 41 (.c (.agg [(.v (.int .i64 0)), (.v (.int .i64 0))])), none⟩,
         ⟨(some 9), .mov (.t 71), none⟩,
         ⟨none, .store 2 (.t 10) (.t 73), none⟩] .done)
       (.seq (.seq (.ops true [⟨(some 74), .fld 0 (.t 10), none⟩,
          ⟨(some 75), .load none (.t 74), none⟩,
          ⟨(some 76), .bin .lss (.t 75) (.c (.v (.int .i64 0))), none⟩,
          ⟨(some 77), .mov (.t 76), none⟩,
          ⟨(some 78), .fld 0 (.t 10), some (77, false)⟩,
          ⟨(some 79), .load none (.t 78), some (77, false)⟩,
          ⟨(some 80), .mov (.t 0), some (77, false)⟩,
          ⟨(some 81), .nilck (.t 80), some (77, false)⟩,
          ⟨(some 82), .fld 0 (.t 81), some (77, false)⟩,
          ⟨(some 83), .load none (.t 82), some (77, false)⟩,
          ⟨(some 84), .len (.t 83), some (77, false)⟩,
          ⟨(some 85), .bin .geq (.t 79) (.t 84), some (77, false)⟩,
          ⟨(some 86), .pick (.t 77) (.c (.v (.bool true))) (.t 85), none⟩,
          ⟨(some 87), .mov (.t 86), none⟩,
          ⟨(some 88), .fld 1 (.t 10), some (87, false)⟩,
          ⟨(some 89), .load none (.t 88), some (87, false)⟩,
          ⟨(some 90), .bin .lss (.t 89) (.c (.v (.int .i64 0))), some (87, false)⟩,
          ⟨(some 91), .pick (.t 87) (.c (.v (.bool true))) (.t 90), none⟩,
          ⟨(some 92), .mov (.t 91), none⟩,
          ⟨(some 93), .fld 1 (.t 10), some (92, false)⟩,
          ⟨(some 94), .load none (.t 93), some (92, false)⟩,
          ⟨(some 95), .mov (.t 0), some (92, false)⟩,
          ⟨(some 96), .nilck (.t 95), some (92, false)⟩,
          ⟨(some 97), .fld 0 (.t 96), some (92, false)⟩,
          ⟨(some 98), .load none (.t 97), some (92, false)⟩,
          ⟨(some 99), .fld 0 (.t 10), some (92, false)⟩,
          ⟨(some 100), .load none (.t 99), some (92, false)⟩,
          ⟨(some 101), .idx 1 (.t 98) (.t 100), some (92, false)⟩,
          ⟨(some 102), .load none (.t 101), some (92, false)⟩,
          ⟨(some 103), .len (.t 102), some (92, false)⟩,
          ⟨(some 104), .bin .geq (.t 94) (.t 103), some (92, false)⟩,
          ⟨(some 105), .pick (.t 92) (.c (.v (.bool true))) (.t 104), none⟩,
          ⟨(some 106), .mov (.t 105), none⟩,
          ⟨(some 107), .mov (.t 0), some (106, false)⟩,
          ⟨(some 108), .nilck (.t 107), some (106, false)⟩,
          ⟨(some 109), .fld 0 (.t 108), some (106, false)⟩,
          ⟨(some 110), .load none (.t 109), some (106, false)⟩,
          ⟨(some 111), .fld 0 (.t 10), some (106, false)⟩,
          ⟨(some 112), .load none (.t 111), some (106, false)⟩,
          ⟨(some 113), .idx 1 (.t 110) (.t 112), some (106, false)⟩,
          ⟨(some 114), .load none (.t 113), some (106, false)⟩,
          ⟨(some 115), .fld 1 (.t 10), some (106, false)⟩,
          ⟨(some 116), .load none (.t 115), some (106, false)⟩,
          ⟨(some 117), .idx 13 (.t 114) (.t 116), some (106, false)⟩,
          ⟨(some 118), .fld 0 (.t 117), some (106, false)⟩,
          ⟨(some 119), .load none (.t 118), some (106, false)⟩,
          ⟨(some 120), .bin .eql (.t 119) (.c (.v (.int .i64 4))), some (106, false)⟩,
          ⟨(some 121), .pick (.t 106) (.c (.v (.bool true))) (.t 120), none⟩,
          ⟨(some 122), .mov (.t 121), none⟩,
          ⟨(some 123), .mov (.t 0), some (122, false)⟩,
          ⟨(some 124), .nilck (.t 123), some (122, false)⟩,
          ⟨(some 125), .fld 3 (.t 124), some (122, false)⟩,
          ⟨(some 126), .load none (.t 125), some (122, false)⟩,
          ⟨(some 127), .fld 0 (.t 10), some (122, false)⟩,
          ⟨(some 128), .load none (.t 127), some (122, false)⟩,
          ⟨(some 129), .idx 1 (.t 126) (.t 128), some (122, false)⟩,
          ⟨(some 130), .load none (.t 129), some (122, false)⟩,
          ⟨(some 131), .fld 1 (.t 10), some (122, false)⟩,
          ⟨(some 132), .load none (.t 131), some (122, false)⟩,
          ⟨(some 133), .idx 1 (.t 130) (.t 132), some (122, false)⟩,
          ⟨(some 134), .load none (.t 133), some (122, false)⟩,
          ⟨(some 135), .bin .geq (.t 134) (.c (.v (.int .i64 0))), some (122, false)⟩,
          ⟨(some 136), .pick (.t 122) (.c (.v (.bool true))) (.t 135), none⟩] (.take 0 [0, 1, 2, 3, 4, 5, 6, 7, 8, 9, 10, 11, 12, 13, 14, 15, 16, 17, 18, 19, 20, 21, 22, 23, 24, 25, 26, 27, 28, 29, 30, 31, 32, 33, 34, 35, 36, 37, 38, 39, 40, 41, 42, 43, 44, 45, 46, 47, 48, 49, 50, 51, 52, 53, 54, 55, 56, 57, 58, 59, 60, 61, 62] (.take 1 [1, 2, 3, 4, 5, 6, 7, 8, 9, 10, 11, 12, 13, 14, 15, 16, 17, 18, 19, 20, 21, 22, 23, 24, 25, 26, 27, 28, 29, 30, 31, 32, 33, 34, 35, 36, 37, 38, 39, 40, 41, 42, 43, 44, 45, 46, 47, 48, 49, 50, 51, 52, 53, 54, 55, 56, 57, 58, 59, 60, 61, 62] (.take 2 [2, 3, 4, 5, 6, 7, 8, 9, 10, 11, 12, 13, 14, 15, 16, 17, 18, 19, 20, 21, 22, 23, 24, 25, 26, 27, 28, 29, 30, 31, 32, 33, 34, 35, 36, 37, 38, 39, 40, 41, 42, 43, 44, 45, 46, 47, 48, 49, 50, 51, 52, 53, 54, 55, 56, 57, 58, 59, 60, 61, 62] (.take 3 [3, 4, 5, 6, 7, 8, 9, 10, 11, 12, 13, 14, 15, 16, 17, 18, 19, 20, 21, 22, 23, 24, 25, 26, 27, 28, 29, 30, 31, 32, 33, 34, 35, 36, 37, 38, 39, 40, 41, 42, 43, 44, 45, 46, 47, 48, 49, 50, 51, 52, 53, 54, 55, 56, 57, 58, 59, 60, 61, 62] (.take 4 [4, 5, 11, 12, 13, 14, 15, 16, 17, 18, 19, 20, 21, 22, 23, 24, 25, 26, 27, 28, 29, 30, 31, 32, 33, 34, 35, 36, 37, 38, 39, 40, 41, 42, 43, 44, 45, 46, 47, 48, 49, 50, 51, 52, 53, 54, 55, 56, 57, 58, 59, 60, 61, 62] (.take 5 [5, 11, 12, 13, 14, 15, 16, 17, 18, 19, 20, 21, 22, 23, 24, 25, 26, 27, 28, 29, 30, 31, 32, 33, 34, 35, 36, 37, 38, 39, 40, 41, 42, 43, 44, 45, 46, 47, 48, 49, 50, 51, 52, 53, 54, 55, 56, 57, 58, 59, 60, 61, 62] (.take 6 [6, 7, 8, 9, 10, 11, 12, 13, 14, 15, 16, 17, 18, 19, 20, 21, 22, 23, 24, 25, 26, 27, 28, 29, 30, 31, 32, 33, 34, 35, 36, 37, 38, 39, 40, 41, 42, 43, 44, 45, 46, 47, 48, 49, 50, 51, 52, 53, 54, 55, 56, 57, 58, 59, 60, 61, 62] (.take 7 [7, 8, 9, 10, 11, 12, 13, 14, 15, 16, 17, 18, 19, 20, 21, 22, 23, 24, 25, 26, 27, 28, 29, 30, 31, 32, 33, 34, 35, 36, 37, 38, 39, 40, 41, 42, 43, 44, 45, 46, 47, 48, 49, 50, 51, 52, 53, 54, 55, 56, 57, 58, 59, 60, 61, 62] (.take 8 [8, 9, 10, 11, 12, 13, 14, 15, 16, 17, 18, 19, 20, 21, 22, 23, 24, 25, 26, 27, 28, 29, 30, 31, 32, 33, 34, 35, 36, 37, 38, 39, 40, 41, 42, 43, 44, 45, 46, 47, 48, 49, 50, 51, 52, 53, 54, 55, 56, 57, 58, 59, 60, 61, 62] (.take 9 [9, 10, 11, 12, 13, 14, 15, 16, 17, 18, 19, 20, 21, 22, 23, 24, 25, 26, 27, 28, 29, 30, 31, 32, 33, 34, 35, 36, 37, 38, 39, 40, 41, 42, 43, 44, 45, 46, 47, 48, 49, 50, 51, 52, 53, 54, 55, 56, 57, 58, 59, 60, 61, 62] (.take 10 [10, 11, 12, 13, 14, 15, 16, 17, 18, 19, 20, 21, 22, 23, 24, 25, 26, 27, 28, 29, 30, 31, 32, 33, 34, 35, 36, 37, 38, 39, 40, 41, 42, 43, 44, 45, 46, 47, 48, 49, 50, 51, 52, 53, 54, 55, 56, 57, 58, 59, 60, 61, 62] (.take 11 [11, 12, 13, 14, 15, 16, 17, 18, 19, 20, 21, 22, 23, 24, 25, 26, 27, 28, 29, 30, 31, 32, 33, 34, 35, 36, 37, 38, 39, 40, 41, 42, 43, 44, 45, 46, 47, 48, 49, 50, 51, 52, 53, 54, 55, 56, 57, 58, 59, 60, 61, 62] (.take 12 [12, 13, 14, 15, 16, 17, 18, 19, 20, 21, 22, 23, 24, 25, 26, 27, 28, 29, 30, 31, 32, 33, 34, 35, 36, 37, 38, 39, 40, 41, 42, 43, 44, 45, 46, 47, 48, 49, 50, 51, 52, 53, 54, 55, 56, 57, 58, 59, 60, 61, 62] (.take 13 [13, 14, 15, 16, 17, 18, 19, 20, 21, 22, 23, 24, 25, 26, 27, 28, 29, 30, 31, 32, 33, 34, 35, 36, 37, 38, 39, 40, 41, 42, 43, 44, 45, 46, 47, 48, 49, 50, 51, 52, 53, 54, 55, 56, 57, 58, 59, 60, 61, 62] (.take 14 [14, 15, 16, 17, 18, 19, 20, 21, 22, 23, 24, 25, 26, 27, 28, 29, 30, 31, 32, 33, 34, 35, 36, 37, 38, 39, 40, 41, 42, 43, 44, 45, 46, 47, 48, 49, 50, 51, 52, 53, 54, 55, 56, 57, 58, 59, 60, 61, 62] (.take 15 [15, 16, 17, 18, 19, 20, 21, 22, 23, 24, 25, 26, 27, 28, 29, 30, 31, 32, 33, 34, 35, 36, 37, 38, 39, 40, 41, 42, 43, 44, 45, 46, 47, 48, 49, 50, 51, 52, 53, 54, 55, 56, 57, 58, 59, 60, 61, 62] (.take 16 [16, 17, 18, 19, 20, 21, 22, 23, 24, 25, 26, 27, 28, 29, 30, 31, 32, 33, 34, 35, 36, 37, 38, 39, 40, 41, 42, 43, 44, 45, 46, 47, 48, 49, 50, 51, 52, 53, 54, 55, 56, 57, 58, 59, 60, 61, 62] (.take 17 [17, 18, 19, 20, 21, 22, 23, 24, 25, 26, 27, 28, 29, 30, 31, 32, 33, 34, 35, 36, 37, 38, 39, 40, 41, 42, 43, 44, 45, 46, 47, 48, 49, 50, 51, 52, 53, 54, 55, 56, 57, 58, 59, 60, 61, 62] (.take 18 [18, 19, 20, 21, 22, 23, 24, 25, 26, 27, 28, 29, 30, 31, 32, 33, 34, 35, 36, 37, 38, 39, 40, 41, 42, 43, 44, 45, 46, 47, 48, 49, 50, 51, 52, 53, 54, 55, 56, 57, 58, 59, 60, 61, 62] (.take 19 [19, 20, 30, 31, 32, 33, 34, 35, 36, 37, 38, 39, 40, 41, 42, 43, 44, 45, 46, 47, 48, 49, 50, 51, 52, 53, 54, 55, 56, 57, 58, 59, 60, 61, 62] (.take 20 [20, 30, 31, 32, 33, 34, 35, 36, 37, 38, 39, 40, 41, 42, 43, 44, 45, 46, 47, 48, 49, 50, 51, 52, 53, 54, 55, 56, 57, 58, 59, 60, 61, 62] (.take 21 [21, 22, 23, 24, 27, 28, 29, 30, 31, 32, 33, 34, 35, 36, 37, 38, 39, 40, 41, 42, 43, 44, 45, 46, 47, 48, 49, 50, 51, 52, 53, 54, 55, 56, 57, 58, 59, 60, 61, 62] (.take 22 [22, 23, 24, 27, 28, 29, 30, 31, 32, 33, 34, 35, 36, 37, 38, 39, 40, 41, 42, 43, 44, 45, 46, 47, 48, 49, 50, 51, 52, 53, 54, 55, 56, 57, 58, 59, 60, 61, 62] (.take 23 [23, 24, 27, 28, 29, 30, 31, 32, 33, 34, 35, 36, 37, 38, 39, 40, 41, 42, 43, 44, 45, 46, 47, 48, 49, 50, 51, 52, 53, 54, 55, 56, 57, 58, 59, 60, 61, 62] (.take 24 [24, 27, 28, 29, 30, 31, 32, 33, 34, 35, 36, 37, 38, 39, 40, 41, 42, 43, 44, 45, 46, 47, 48, 49, 50, 51, 52, 53, 54, 55, 56, 57, 58, 59, 60, 61, 62] (.take 25 [25, 26, 27, 28, 29, 30, 31, 32, 33, 34, 35, 36, 37, 38, 39, 40, 41, 42, 43, 44, 45, 46, 47, 48, 49, 50, 51, 52, 53, 54, 55, 56, 57, 58, 59, 60, 61, 62] (.take 26 [26, 27, 28, 29, 30, 31, 32, 33, 34, 35, 36, 37, 38, 39, 40, 41, 42, 43, 44, 45, 46, 47, 48, 49, 50, 51, 52, 53, 54, 55, 56, 57, 58, 59, 60, 61, 62] (.take 27 [27, 28, 29, 30, 31, 32, 33, 34, 35, 36, 37, 38, 39, 40, 41, 42, 43, 44, 45, 46, 47, 48, 49, 50, 51, 52, 53, 54, 55, 56, 57, 58, 59, 60, 61, 62] (.take 28 [28, 29, 30, 31, 32, 33, 34, 35, 36, 37, 38, 39, 40, 41, 42, 43, 44, 45, 46, 47, 48, 49, 50, 51, 52, 53, 54, 55, 56, 57, 58, 59, 60, 61, 62] (.take 29 [29, 30, 31, 32, 33, 34, 35, 36, 37, 38, 39, 40, 41, 42, 43, 44, 45, 46, 47, 48, 49, 50, 51, 52, 53, 54, 55, 56, 57, 58, 59, 60, 61, 62] (.take 30 [30, 31, 32, 33, 34, 35, 36, 37, 38, 39, 40, 41, 42, 43, 44, 45, 46, 47, 48, 49, 50, 51, 52, 53, 54, 55, 56, 57, 58, 59, 60, 61, 62] (.take 31 [31, 32, 33, 34, 35, 36, 37, 38, 39, 40, 41, 42, 43, 44, 45, 46, 47, 48, 49, 50, 51, 52, 53, 54, 55, 56, 57, 58, 59, 60, 61, 62] (.take 32 [32, 33, 34, 35, 36, 37, 38, 39, 40, 41, 42, 43, 44, 45, 46, 47, 48, 49, 50, 51, 52, 53, 54, 55, 56, 57, 58, 59, 60, 61, 62] (.take 33 [33, 34, 35, 36, 39, 40, 43, 44, 45, 46, 47, 48, 49, 50, 51, 52, 53, 54, 55, 56, 57, 58, 59, 60, 61, 62] (.take 34 [34, 35, 36, 39, 40, 43, 44, 45, 46, 47, 48, 49, 50, 51, 52, 53, 54, 55, 56, 57, 58, 59, 60, 61, 62] (.take 35 [35, 36, 39, 40, 43, 44, 45, 46, 47, 48, 49, 50, 51, 52, 53, 54, 55, 56, 57, 58, 59, 60, 61, 62] (.take 36 [36, 39, 40, 43, 44, 45, 46, 47, 48, 49, 50, 51, 52, 53, 54, 55, 56, 57, 58, 59, 60, 61, 62] (.take 37 [37, 38, 39, 40, 43, 44, 45, 46, 47, 48, 49, 50, 51, 52, 53, 54, 55, 56, 57, 58, 59, 60, 61, 62] (.take 38 [38, 39, 40, 43, 44, 45, 46, 47, 48, 49, 50, 51, 52, 53, 54, 55, 56, 57, 58, 59, 60, 61, 62] (.take 39 [39, 40, 43, 44, 45, 46, 47, 48, 49, 50, 51, 52, 53, 54, 55, 56, 57, 58, 59, 60, 61, 62] (.take 40 [40, 43, 44, 45, 46, 47, 48, 49, 50, 51, 52, 53, 54, 55, 56, 57, 58, 59, 60, 61, 62] (.take 41 [41, 42, 43, 44, 45, 46, 47, 48, 49, 50, 51, 52, 53, 54, 55, 56, 57, 58, 59, 60, 61, 62] (.take 42 [42, 43, 44, 45, 46, 47, 48, 49, 50, 51, 52, 53, 54, 55, 56, 57, 58, 59, 60, 61, 62] (.take 43 [43, 44, 45, 46, 47, 48, 49, 50, 51, 52, 53, 54, 55, 56, 57, 58, 59, 60, 61, 62] (.take 44 [44, 45, 46, 47, 48, 49, 50, 51, 52, 53, 54, 55, 56, 57, 58, 59, 60, 61, 62] (.take 45 [45, 46, 47, 48, 49, 50, 51, 52, 53, 54, 55, 56, 57, 58, 59, 60, 61, 62] (.take 46 [46, 47, 48, 49, 50, 51, 52, 53, 54, 55, 56, 57, 58, 59, 60, 61, 62] (.take 47 [47, 48, 49, 50, 51, 52, 53, 54, 55, 56, 57, 58, 59, 60, 61, 62] (.take 48 [48, 49, 50, 51, 52, 53, 54, 55, 56, 57, 58, 59, 60, 61, 62] (.take 49 [49, 50, 51, 52, 55, 56, 59, 60, 61, 62] (.take 50 [50, 51, 52, 55, 56, 59, 60, 61, 62] (.take 51 [51, 52, 55, 56, 59, 60, 61, 62] (.take 52 [52, 55, 56, 59, 60, 61, 62] (.take 53 [53, 54, 55, 56, 59, 60, 61, 62] (.take 54 [54, 55, 56, 59, 60, 61, 62] (.take 55 [55, 56, 59, 60, 61, 62] (.take 56 [56, 59, 60, 61, 62] (.take 57 [57, 58, 59, 60, 61, 62] (.take 58 [58, 59, 60, 61, 62] (.take 59 [59, 60, 61, 62] (.take 60 [60, 61, 62] (.take 61 [61, 62] (.take 62 [62] .done))))))))))))))))))))))))))))))))))))))))))))))))))))))))))))))))
        (.cond (.t 136)
         (.seq (.ops false [⟨(some 137), .mov (.t 9), none⟩,
            ⟨(some 138), .load none (.c (.v (.pointer (some ⟨2, 0, none⟩)))), none⟩,
            ⟨(some 139), .build [(.v (.int .i64 0)), (.v .nilIface)] [(0, 1, (.t 137)), (1, 1, (.t 138))], none⟩,
            ⟨(some 140), .box 99 (.t 139), none⟩,
            ⟨(some 141), .iface 97 (.t 140), none⟩,
            ⟨(some 2), .mov (.t 141), none⟩] .done)
          .ret)
         .skip))
       (.seq (.ops true [⟨(some 142), .mov (.t 0), none⟩,
         ⟨(some 143), .nilck (.t 142), none⟩,
         ⟨(some 144), .fld 3 (.t 143), none⟩,
         ⟨(some 145), .load none (.t 144), none⟩,
         ⟨(some 146), .fld 0 (.t 10), none⟩,
         ⟨(some 147), .load none (.t 146), none⟩,
         ⟨(some 148), .idx 1 (.t 145) (.t 147), none⟩,
         ⟨(some 149), .load none (.t 148), none⟩,
         ⟨(some 150), .fld 1 (.t 10), none⟩,
         ⟨(some 151), .load none (.t 150), none⟩,
         ⟨(some 152), .mov (.t 9), none⟩,
         ⟨(some 153), .idx 1 (.t 149) (.t 151), none⟩,
         ⟨none, .store 1 (.t 153) (.t 152), none⟩] (.take 0 [0, 1, 11, 12, 2, 3, 6, 7] (.take 1 [1, 2, 11, 12, 3, 6, 7] (.take 2 [2, 3, 11, 12, 6, 7] (.take 3 [3, 6, 11, 12, 7] (.take 4 [4, 5, 11, 12, 6, 7] (.take 5 [5, 6, 11, 12, 7] (.take 6 [6, 7, 11, 12] (.take 7 [7, 11, 12] (.take 8 [8, 9, 11, 12] (.take 9 [9, 11, 12] (.take 10 [10, 11, 12] (.take 11 [11, 12] (.eff false 12 .done))))))))))))))
       (.seq (.ops false [⟨(some 154), .mov (.t 0), none⟩,
         ⟨(some 155), .mov (.t 9), none⟩,
         ⟨(some 156), .call 55 [(.t 154), (.t 155)], none⟩,
         ⟨(some 11), .box 38 (.c (.agg [(.v (.int .i64 0)), (.v (.int .i64 0)), (.v (.int .u32 0)), (.v (.int .u32 0)), (.v (.int .u32 0)), (.v (.bool false)), (.v (.bool false)), (.v (.bool false)), (.v (.int .i64 0)), (.v (.int .i64 0)), (.v (.slice none 0 0)), (.v (.slice none 0 0)), (.v (.slice none 0 0))])), none⟩,
         ⟨none, .store 13 (.t 11) (.t 156), none⟩] .done)
       (.seq (.ops false [⟨(some 157), .load (some 13) (.t 11), none⟩,
         ⟨(some 158), .call 56 [(.t 157)], none⟩] .done)
       (.cond (.t 158)
        (.seq (.ops false [⟨(some 159), .load (some 13) (.t 11), none⟩,
           ⟨(some 160), .call 57 [(.t 159)], none⟩,
           ⟨(some 161), .len (.t 160), none⟩,
           ⟨(some 162), .mov (.c (.v (.int .i64 0))), none⟩] .done)
         (.block 6 (.loop (.seq (.ops false [⟨(some 163), .bin .lss (.t 162) (.t 161), none⟩] .done)
           (.seq (.cond (.t 163)
             .skip
             (.exit 6))
           (.seq (.block 7 (.seq (.ops false [⟨(some 164), .idx 1 (.t 160) (.t 162), none⟩,
               ⟨(some 165), .load none (.t 164), none⟩,
               ⟨(some 13), .mov (.t 165), none⟩] .done)
             (.cut (.ops true [⟨(some 166), .mov (.t 0), none⟩,
               ⟨(some 167), .nilck (.t 166), none⟩,
               ⟨(some 168), .fld 4 (.t 167), none⟩,
               ⟨(some 169), .load none (.t 168), none⟩,
               ⟨(some 170), .mov (.t 13), none⟩,
               ⟨(some 171), .mov (.t 0), none⟩,
               ⟨(some 172), .nilck (.t 171), none⟩,
               ⟨(some 173), .fld 4 (.t 172), none⟩,
               ⟨(some 174), .load none (.t 173), none⟩,
               ⟨(some 175), .mov (.t 13), none⟩,
               ⟨(some 176), .mapget (.one .u32) none (.slice none 0 0) (.t 174) (.t 175), none⟩,
               ⟨(some 177), .mov (.t 9), none⟩,
               ⟨(some 178), .bslice 3 [.int .i64] 1 [(.v (.int .i64 0))] [(0, 1, (.t 177))], none⟩,
               ⟨(some 179), .append 3 [.int .i64] [(.int .i64 0)] 8 (.t 176) (.t 178), none⟩,
               ⟨none, .mapput (.one .u32) (.t 169) (.t 170) (.t 179), none⟩] (.take 0 [0, 1, 14, 2, 3] (.take 1 [1, 2, 14, 3] (.take 2 [2, 3, 14] (.take 3 [3, 14] (.take 4 [4, 14] (.take 5 [5, 6, 14, 7, 8, 10, 13] (.take 6 [6, 7, 14, 8, 10, 13] (.take 7 [7, 8, 14, 10, 13] (.take 8 [8, 10, 14, 13] (.take 9 [9, 10, 14, 13] (.take 11 [11, 12, 14, 13] (.both (.eff true 10 (.eff true 12 (.eff false 13 (.eff false 14 .done)))) (.eff true 12 (.eff true 10 (.eff false 13 (.eff false 14 .done))))))))))))))))))))
           (.ops false [⟨(some 180), .bin .add (.t 162) (.c (.v (.int .i64 1))), none⟩,
            ⟨(some 162), .mov (.t 180), none⟩] .done)))))))
        .skip)))))))
     (.ops false [⟨(some 181), .bin .add (.t 69) (.c (.v (.int .i64 1))), none⟩,
      ⟨(some 69), .mov (.t 181), none⟩] .done)))))))
  (.seq (.seq (.ops false [⟨(some 182), .mov (.t 0), none⟩,
     ⟨(some 183), .nilck (.t 182), none⟩,
     ⟨(some 184), .fld 1 (.t 183), none⟩,
     ⟨(some 185), .load none (.t 184), none⟩,
     ⟨(some 186), .len (.t 185), none⟩,
     ⟨(some 187), .mov (.t 3), none⟩,
     ⟨(some 188), .bin .lss (.t 186) (.t 187), none⟩] .done)
   (.cond (.t 188)
    (.seq (.ops true [⟨(some 189), .mov (.t 0), none⟩,
       ⟨(some 190), .nilck (.t 189), none⟩,
       ⟨(some 191), .fld 1 (.t 190), none⟩,
       ⟨(some 192), .load none (.t 191), none⟩,
       ⟨(some 193), .len (.t 192), none⟩,
       ⟨(some 194), .load none (.c (.v (.pointer (some ⟨2, 0, none⟩)))), none⟩,
       ⟨(some 195), .build [(.v (.int .i64 0)), (.v .nilIface)] [(0, 1, (.t 193)), (1, 1, (.t 194))], none⟩,
       ⟨(some 196), .box 99 (.t 195), none⟩,
       ⟨(some 197), .iface 97 (.t 196), none⟩,
       ⟨(some 2), .mov (.t 197), none⟩] (.take 0 [0, 1, 9, 2, 3, 4, 6, 7, 8] (.take 1 [1, 2, 9, 3, 4, 6, 7, 8] (.take 2 [2, 3, 9, 4, 6, 7, 8] (.take 3 [3, 4, 9, 6, 7, 8] (.take 4 [4, 6, 9, 7, 8] (.take 5 [5, 6, 9, 7, 8] (.take 6 [6, 7, 9, 8] (.eff true 7 (.take 8 [8, 9] (.take 9 [9] .done)))))))))))
     .ret)
    .skip))
  (.seq (.ops false [⟨(some 2), .mov (.c (.v .nilIface)), none⟩] .done)
  .ret))))))⟩
theorem pf35_eq : (Tryd.f35.body.map fun c => (cfn Tryd.prog pl35 Tryd.f35 c, guardsAll pl35 c)) = some (pf35, true) := by kernel_rfl

/-- (*corral/wmo.checker).stays  sizes [(4, 19), (8, 30)] -/
def pl36 : Nat → DT := dtGet [(4, (.take 0 [0, 1, 16, 17, 2, 3, 6, 7] (.take 1 [1, 2, 16, 17, 3, 6, 7] (.take 2 [2, 3, 16, 17, 6, 7] (.take 3 [3, 6, 16, 17, 7] (.take 4 [4, 5, 16, 17, 6, 7] (.take 5 [5, 6, 16, 17, 7] (.take 6 [6, 7, 16, 17] (.take 7 [7, 16, 17] (.take 8 [8, 9, 17, 10, 11, 14, 15] (.take 9 [9, 10, 17, 11, 14, 15] (.take 10 [10, 11, 17, 14, 15] (.take 11 [11, 14, 17, 15] (.take 12 [12, 13, 17, 14, 15] (.take 13 [13, 14, 17, 15] (.take 14 [14, 15, 17] (.take 15 [15, 17] (.take 16 [16, 17] (.take 17 [17] .done))))))))))))))))))), (8, (.take 0 [0, 2, 3, 4, 5, 6, 7, 8, 9, 10, 11, 12, 13, 14, 15, 16, 17, 18, 19, 20, 21, 22, 23, 24, 25, 26, 27, 28] (.take 1 [1, 2, 3, 4, 5, 6, 7, 8, 9, 10, 11, 12, 13, 14, 15, 16, 17, 18, 19, 20, 21, 22, 23, 24, 25, 26, 27, 28] (.take 2 [2, 3, 4, 5, 6, 7, 8, 9, 10, 11, 12, 13, 14, 15, 16, 17, 18, 19, 20, 21, 22, 23, 24, 25, 26, 27, 28] (.take 3 [3, 4, 5, 6, 7, 8, 9, 10, 11, 12, 13, 14, 15, 16, 17, 18, 19, 20, 21, 22, 23, 24, 25, 26, 27, 28] (.take 4 [4, 5, 6, 7, 8, 9, 10, 11, 12, 13, 14, 15, 16, 17, 18, 19, 20, 21, 22, 23, 24, 25, 26, 27, 28] (.take 5 [5, 6, 7, 8, 9, 10, 11, 12, 13, 14, 15, 16, 17, 18, 19, 20, 21, 22, 23, 24, 25, 26, 27, 28] (.take 6 [6, 8, 9, 11, 12, 13, 14, 15, 16, 17, 18, 19, 20, 21, 22, 23, 24, 25, 26, 27, 28] (.take 7 [7, 8, 9, 11, 12, 13, 14, 15, 16, 17, 18, 19, 20, 21, 22, 23, 24, 25, 26, 27, 28] (.take 8 [8, 9, 11, 12, 13, 14, 15, 16, 17, 18, 19, 20, 21, 22, 23, 24, 25, 26, 27, 28] (.take 9 [9, 11, 12, 13, 14, 15, 16, 17, 18, 19, 20, 21, 22, 23, 24, 25, 26, 27, 28] (.take 10 [10, 11, 12, 13, 14, 15, 16, 17, 18, 19, 20, 21, 22, 23, 24, 25, 26, 27, 28] (.take 11 [11, 12, 13, 14, 15, 16, 17, 18, 19, 20, 21, 22, 23, 24, 25, 26, 27, 28] (.take 12 [12, 13, 14, 15, 16, 17, 18, 19, 20, 21, 22, 23, 24, 25, 26, 27, 28] (.take 13 [13, 14, 15, 16, 17, 18, 19, 20, 21, 22, 23, 24, 25, 26, 27, 28] (.take 14 [14, 26, 27, 28] (.take 15 [15, 16, 17, 18, 21, 22, 26, 27, 28] (.take 16 [16, 17, 18, 21, 22, 26, 27, 28] (.take 17 [17, 18, 21, 22, 26, 27, 28] (.take 18 [18, 21, 22, 26, 27, 28] (.take 19 [19, 20, 21, 22, 26, 27, 28] (.take 20 [20, 21, 22, 26, 27, 28] (.take 21 [21, 22, 26, 27, 28] (.take 22 [22, 26, 27, 28] (.take 23 [23, 24, 26, 27, 28] (.take 24 [24, 26, 27, 28] (.take 25 [25, 26, 27, 28] (.eff true 26 (.take 27 [27, 28] (.take 28 [28] .done))))))))))))))))))))))))))))))]
def pf36 : PFn := ⟨78, [.t 2], (.seq (.ops false [⟨(some 2), .mov (.c (.v .nilIface)), none⟩] .done)
  (.seq (.seq (.ops false [⟨(some 8), .mov (.t 0), none⟩,
     ⟨(some 9), .nilck (.t 8), none⟩,
     ⟨(some 10), .fld 1 (.t 9), none⟩,
     ⟨(some 11), .load none (.t 10), none⟩,
     ⟨(some 12), .len (.t 11), none⟩,
     ⟨(some 13), .mov (.c (.v (.int .i64 0))), none⟩] .done)
   (.block 0 (.loop (.seq (.ops false [⟨(some 14), .bin .lss (.t 13) (.t 12), none⟩] .done)
     (.seq (.cond (.t 14)
       .skip
       (.exit 0))
     (.seq (.block 1 (.seq (.ops false [⟨(some 15), .mov (.t 13), none⟩,
         ⟨(some 16), .idx 2 (.t 11) (.t 13), none⟩,
         ⟨(some 17), .load (some 2) (.t 16), none⟩,
         ⟨(some 4), .box 41 (.c (.agg [(.v (.int .i64 0)), (.v (.int .i64 0))])), none⟩,
         ⟨(some 3), .mov (.t 15), none⟩,
         ⟨none, .store 2 (.t 4) (.t 17), none⟩] .done)
       (.seq (.ops true [⟨(some 18), .mov (.t 0), none⟩,
         ⟨(some 19), .nilck (.t 18), none⟩,
         ⟨(some 20), .fld 0 (.t 19), none⟩,
         ⟨(some 21), .load none (.t 20), none⟩,
         ⟨(some 22), .fld 0 (.t 4), none⟩,
         ⟨(some 23), .load none (.t 22), none⟩,
         ⟨(some 24), .idx 1 (.t 21) (.t 23), none⟩,
         ⟨(some 25), .load none (.t 24), none⟩,
         ⟨(some 26), .mov (.t 0), none⟩,
         ⟨(some 27), .nilck (.t 26), none⟩,
         ⟨(some 28), .fld 3 (.t 27), none⟩,
         ⟨(some 29), .load none (.t 28), none⟩,
         ⟨(some 30), .fld 0 (.t 4), none⟩,
         ⟨(some 31), .load none (.t 30), none⟩,
         ⟨(some 32), .idx 1 (.t 29) (.t 31), none⟩,
         ⟨(some 33), .load none (.t 32), none⟩,
         ⟨(some 5), .mov (.t 25), none⟩,
         ⟨(some 6), .mov (.t 33), none⟩] (.take 0 [0, 1, 16, 17, 2, 3, 6, 7] (.take 1 [1, 2, 16, 17, 3, 6, 7] (.take 2 [2, 3, 16, 17, 6, 7] (.take 3 [3, 6, 16, 17, 7] (.take 4 [4, 5, 16, 17, 6, 7] (.take 5 [5, 6, 16, 17, 7] (.take 6 [6, 7, 16, 17] (.take 7 [7, 16, 17] (.take 8 [8, 9, 17, 10, 11, 14, 15] (.take 9 [9, 10, 17, 11, 14, 15] (.take 10 [10, 11, 17, 14, 15] (.take 11 [11, 14, 17, 15] (.take 12 [12, 13, 17, 14, 15] (.take 13 [13, 14, 17, 15] (.take 14 [14, 15, 17] (.take 15 [15, 17] (.take 16 [16, 17] (.take 17 [17] .done)))))))))))))))))))
       (.seq (.ops false [⟨(some 34), .fld 1 (.t 4), none⟩,
         ⟨(some 35), .load none (.t 34), none⟩,
         ⟨(some 36), .bin .add (.t 35) (.c (.v (.int .i64 1))), none⟩,
         ⟨(some 7), .mov (.t 36), none⟩] .done)
       (.block 2 (.loop (.seq (.seq (.ops false [⟨(some 37), .mov (.t 7), none⟩,
            ⟨(some 38), .mov (.t 5), none⟩,
            ⟨(some 39), .len (.t 38), none⟩,
            ⟨(some 40), .bin .lss (.t 37) (.t 39), none⟩] .done)
          (.cond (.t 40)
           .skip
           (.exit 2)))
         (.seq (.block 3 (.seq (.ops true [⟨(some 43), .mov (.t 6), none⟩,
             ⟨(some 44), .mov (.t 7), none⟩,
             ⟨(some 45), .idx 1 (.t 43) (.t 44), none⟩,
             ⟨(some 46), .load none (.t 45), none⟩,
             ⟨(some 47), .bin .geq (.t 46) (.c (.v (.int .i64 0))), none⟩,
             ⟨(some 48), .mov (.t 47), none⟩,
             ⟨(some 49), .mov (.t 6), some (48, true)⟩,
             ⟨(some 50), .mov (.t 7), some (48, true)⟩,
             ⟨(some 51), .idx 1 (.t 49) (.t 50), some (48, true)⟩,
             ⟨(some 52), .load none (.t 51), some (48, true)⟩,
             ⟨(some 53), .mov (.t 3), some (48, true)⟩,
             ⟨(some 54), .bin .lss (.t 52) (.t 53), some (48, true)⟩,
             ⟨(some 55), .pick (.t 48) (.t 54) (.c (.v (.bool false))), none⟩,
             ⟨(some 56), .mov (.t 55), none⟩,
             ⟨(some 57), .mov (.t 5), some (56, true)⟩,
             ⟨(some 58), .mov (.t 0), some (56, true)⟩,
             ⟨(some 59), .nilck (.t 58), some (56, true)⟩,
             ⟨(some 60), .fld 2 (.t 59), some (56, true)⟩,
             ⟨(some 61), .load none (.t 60), some (56, true)⟩,
             ⟨(some 62), .fld 0 (.t 4), some (56, true)⟩,
             ⟨(some 63), .load none (.t 62), some (56, true)⟩,
             ⟨(some 64), .idx 1 (.t 61) (.t 63), some (56, true)⟩,
             ⟨(some 65), .load none (.t 64), some (56, true)⟩,
             ⟨(some 66), .fld 1 (.t 4), some (56, true)⟩,
             ⟨(some 67), .load none (.t 66), some (56, true)⟩,
             ⟨(some 68), .mov (.t 7), some (56, true)⟩,
             ⟨(some 69), .call 58 [(.t 57), (.t 65), (.t 67), (.t 68)], some (56, true)⟩,
             ⟨(some 70), .bin .neq (.t 69) (.c (.v (.int .i64 0))), some (56, true)⟩,
             ⟨(some 71), .pick (.t 56) (.t 70) (.c (.v (.bool false))), none⟩] (.take 0 [0, 2, 3, 4, 5, 6, 7, 8, 9, 10, 11, 12, 13, 14, 15, 16, 17, 18, 19, 20, 21, 22, 23, 24, 25, 26, 27, 28] (.take 1 [1, 2, 3, 4, 5, 6, 7, 8, 9, 10, 11, 12, 13, 14, 15, 16, 17, 18, 19, 20, 21, 22, 23, 24, 25, 26, 27, 28] (.take 2 [2, 3, 4, 5, 6, 7, 8, 9, 10, 11, 12, 13, 14, 15, 16, 17, 18, 19, 20, 21, 22, 23, 24, 25, 26, 27, 28] (.take 3 [3, 4, 5, 6, 7, 8, 9, 10, 11, 12, 13, 14, 15, 16, 17, 18, 19, 20, 21, 22, 23, 24, 25, 26, 27, 28] (.take 4 [4, 5, 6, 7, 8, 9, 10, 11, 12, 13, 14, 15, 16, 17, 18, 19, 20, 21, 22, 23, 24, 25, 26, 27, 28] (.take 5 [5, 6, 7, 8, 9, 10, 11, 12, 13, 14, 15, 16, 17, 18, 19, 20, 21, 22, 23, 24, 25, 26, 27, 28] (.take 6 [6, 8, 9, 11, 12, 13, 14, 15, 16, 17, 18, 19, 20, 21, 22, 23, 24, 25, 26, 27, 28] (.take 7 [7, 8, 9, 11, 12, 13, 14, 15, 16, 17, 18, 19, 20, 21, 22, 23, 24, 25, 26, 27, 28] (.take 8 [8, 9, 11, 12, 13, 14, 15, 16, 17, 18, 19, 20, 21, 22, 23, 24, 25, 26, 27, 28] (.take 9 [9, 11, 12, 13, 14, 15, 16, 17, 18, 19, 20, 21, 22, 23, 24, 25, 26, 27, 28] (.take 10 [10, 11, 12, 13, 14, 15, 16, 17, 18, 19, 20, 21, 22, 23, 24, 25, 26, 27, 28] (.take 11 [11, 12, 13, 14, 15, 16, 17, 18, 19, 20, 21, 22, 23, 24, 25, 26, 27, 28] (.take 12 [12, 13, 14, 15, 16, 17, 18, 19, 20, 21, 22, 23, 24, 25, 26, 27, 28] (.take 13 [13, 14, 15, 16, 17, 18, 19, 20, 21, 22, 23, 24, 25, 26, 27, 28] (.take 14 [14, 26, 27, 28] (.take 15 [15, 16, 17, 18, 21, 22, 26, 27, 28] (.take 16 [16, 17, 18, 21, 22, 26, 27, 28] (.take 17 [17, 18, 21, 22, 26, 27, 28] (.take 18 [18, 21, 22, 26, 27, 28] (.take 19 [19, 20, 21, 22, 26, 27, 28] (.take 20 [20, 21, 22, 26, 27, 28] (.take 21 [21, 22, 26, 27, 28] (.take 22 [22, 26, 27, 28] (.take 23 [23, 24, 26, 27, 28] (.take 24 [24, 26, 27, 28] (.take 25 [25, 26, 27, 28] (.eff true 26 (.take 27 [27, 28] (.take 28 [28] .done))))))))))))))))))))))))))))))
           (.cond (.t 71)
            (.seq (.ops false [⟨(some 72), .mov (.t 3), none⟩,
               ⟨(some 73), .load none (.c (.v (.pointer (some ⟨2, 0, none⟩)))), none⟩,
               ⟨(some 74), .build [(.v (.int .i64 0)), (.v .nilIface)] [(0, 1, (.t 72)), (1, 1, (.t 73))], none⟩,
               ⟨(some 75), .box 99 (.t 74), none⟩,
               ⟨(some 76), .iface 97 (.t 75), none⟩,
               ⟨(some 2), .mov (.t 76), none⟩] .done)
             .ret)
            .skip)))
         (.ops false [⟨(some 41), .mov (.t 7), none⟩,
          ⟨(some 42), .bin .add (.t 41) (.c (.v (.int .i64 1))), none⟩,
          ⟨(some 7), .mov (.t 42), none⟩] .done)))))))))
     (.ops false [⟨(some 77), .bin .add (.t 13) (.c (.v (.int .i64 1))), none⟩,
      ⟨(some 13), .mov (.t 77), none⟩] .done)))))))
  (.seq (.ops false [⟨(some 2), .mov (.c (.v .nilIface)), none⟩] .done)
  .ret)))⟩
theorem pf36_eq : (Tryd.f36.body.map fun c => (cfn Tryd.prog pl36 Tryd.f36 c, guardsAll pl36 c)) = some (pf36, true) := by kernel_rfl

/-- (*corral/wmo.checker).values  sizes [(23, 8)] -/
def pl37 : Nat → DT := dtGet [(23, (.take 0 [0, 1, 6, 2, 3] (.take 1 [1, 2, 6, 3] (.take 2 [2, 3, 6] (.take 3 [3, 6] (.take 4 [4, 6] (.take 5 [5, 6] (.eff false 6 .done))))))))]
def pf37 : PFn := ⟨100, [.t 2], (.seq (.ops false [⟨(some 2), .mov (.c (.v .nilIface)), none⟩] .done)
  (.seq (.seq (.ops false [⟨(some 13), .mov (.t 0), none⟩,
     ⟨(some 14), .nilck (.t 13), none⟩,
     ⟨(some 15), .fld 1 (.t 14), none⟩,
     ⟨(some 16), .load none (.t 15), none⟩,
     ⟨(some 17), .len (.t 16), none⟩,
     ⟨(some 18), .mov (.c (.v (.int .i64 0))), none⟩] .done)
   (.block 0 (.loop (.seq (.ops false [⟨(some 19), .bin .lss (.t 18) (.t 17), none⟩] .done)
     (.seq (.cond (.t 19)
       .skip
       (.exit 0))
     (.seq (.block 1 (.seq (.ops false [⟨(some 20), .mov (.t 18), none⟩,
         ⟨(some 21), .idx 2 (.t 16) (.t 18), none⟩,
         ⟨(some 22), .load (some 2) (.t 21), none⟩,
         ⟨(some 4), .box 41 (.c (.agg [(.v (.int .i64 0)), (.v (.int .i64 0))])), none⟩,
         ⟨(some 3), .mov (.t 20), none⟩,
         ⟨none, .store 2 (.t 4) (.t 22), none⟩] .done)
       (.seq (.ops false [⟨(some 23), .mov (.t 0), none⟩,
         ⟨(some 24), .mov (.t 3), none⟩,
         ⟨(some 25), .call 55 [(.t 23), (.t 24)], none⟩,
         ⟨(some 5), .box 38 (.c (.agg [(.v (.int .i64 0)), (.v (.int .i64 0)), (.v (.int .u32 0)), (.v (.int .u32 0)), (.v (.int .u32 0)), (.v (.bool false)), (.v (.bool false)), (.v (.bool false)), (.v (.int .i64 0)), (.v (.int .i64 0)), (.v (.slice none 0 0)), (.v (.slice none 0 0)), (.v (.slice none 0 0))])), none⟩,
         ⟨none, .store 13 (.t 5) (.t 25), none⟩] .done)
       (.seq (.seq (.ops false [⟨(some 26), .load (some 13) (.t 5), none⟩,
          ⟨(some 27), .call 59 [(.t 26)], none⟩,
          ⟨(some 28), .un .not (.t 27), none⟩] .done)
        (.cond (.t 28)
         (.exit 1)
         .skip))
       (.seq (.ops false [⟨(some 6), .box 104 (.c (.agg [(.v (.int .i64 0)), (.v (.int .i64 0)), (.v (.int .i64 0)), (.v (.int .i64 0))])), none⟩] .done)
       (.seq (.ops false [⟨(some 29), .fld 4 (.t 5), none⟩,
         ⟨(some 30), .load none (.t 29), none⟩,
         ⟨(some 31), .conv .u64 (.t 30), none⟩,
         ⟨(some 32), .fld 1 (.t 5), none⟩,
         ⟨(some 33), .load none (.t 32), none⟩,
         ⟨(some 34), .bin .mul (.c (.v (.int .i64 8))) (.t 33), none⟩,
         ⟨(some 35), .bin .shr (.t 31) (.t 34), none⟩,
         ⟨(some 36), .bin .eql (.t 35) (.c (.v (.int .u64 0))), none⟩,
         ⟨(some 7), .mov (.t 36), none⟩] .done)
       (.seq (.seq (.ops false [⟨(some 37), .load (some 13) (.t 5), none⟩,
          ⟨(some 38), .call 57 [(.t 37)], none⟩,
          ⟨(some 39), .len (.t 38), none⟩,
          ⟨(some 40), .mov (.c (.v (.int .i64 0))), none⟩] .done)
        (.block 2 (.loop (.seq (.ops false [⟨(some 41), .bin .lss (.t 40) (.t 39), none⟩] .done)
          (.seq (.cond (.t 41)
            .skip
            (.exit 2))
          (.seq (.block 3 (.seq (.ops false [⟨(some 42), .mov (.t 40), none⟩,
              ⟨(some 43), .idx 1 (.t 38) (.t 40), none⟩,
              ⟨(some 44), .load none (.t 43), none⟩,
              ⟨(some 8), .mov (.t 42), none⟩,
              ⟨(some 9), .mov (.t 44), none⟩] .done)
            (.seq (.ops false [⟨(some 45), .mov (.t 0), none⟩,
              ⟨(some 46), .mov (.t 3), none⟩,
              ⟨(some 47), .mov (.t 9), none⟩,
              ⟨(some 48), .call 60 [(.t 45), (.t 46), (.t 47)], none⟩,
              ⟨(some 10), .mov (.t 48), none⟩] .done)
            (.seq (.ops false [⟨(some 49), .mov (.t 8), none⟩,
              ⟨(some 50), .mov (.t 10), none⟩,
              ⟨(some 51), .idxa 4 1 (.t 6) (.t 49), none⟩,
              ⟨none, .store 1 (.t 51) (.t 50), none⟩] .done)
            (.seq (.ops false [⟨(some 11), .mov (.c (.v (.int .u8 0))), none⟩] .done)
            (.seq (.seq (.ops false [⟨(some 52), .mov (.t 10), none⟩,
               ⟨(some 53), .bin .geq (.t 52) (.c (.v (.int .i64 0))), none⟩] .done)
             (.cond (.t 53)
              (.seq (.ops false [⟨(some 54), .mov (.t 0), none⟩,
                 ⟨(some 55), .mov (.t 10), none⟩,
                 ⟨(some 56), .call 55 [(.t 54), (.t 55)], none⟩,
                 ⟨(some 12), .box 38 (.c (.agg [(.v (.int .i64 0)), (.v (.int .i64 0)), (.v (.int .u32 0)), (.v (.int .u32 0)), (.v (.int .u32 0)), (.v (.bool false)), (.v (.bool false)), (.v (.bool false)), (.v (.int .i64 0)), (.v (.int .i64 0)), (.v (.slice none 0 0)), (.v (.slice none 0 0)), (.v (.slice none 0 0))])), none⟩,
                 ⟨none, .store 13 (.t 12) (.t 56), none⟩] .done)
               (.ops false [⟨(some 57), .fld 3 (.t 12), none⟩,
                ⟨(some 58), .load none (.t 57), none⟩,
                ⟨(some 59), .fld 2 (.t 12), none⟩,
                ⟨(some 60), .load none (.t 59), none⟩,
                ⟨(some 61), .mov (.t 9), none⟩,
                ⟨(some 62), .call 61 [(.t 58), (.t 60), (.t 61)], none⟩,
                ⟨(some 11), .mov (.t 62), none⟩] .done))
              (.seq (.ops false [⟨(some 63), .mov (.t 0), none⟩,
                 ⟨(some 64), .nilck (.t 63), none⟩,
                 ⟨(some 65), .fld 6 (.t 64), none⟩,
                 ⟨(some 66), .load none (.t 65), none⟩,
                 ⟨(some 67), .eqp 2 true true (.t 66) (.c (.v .nilFunc)), none⟩] .done)
               (.cond (.t 67)
                (.ops false [⟨(some 68), .mov (.t 0), none⟩,
                  ⟨(some 69), .nilck (.t 68), none⟩,
                  ⟨(some 70), .fld 6 (.t 69), none⟩,
                  ⟨(some 71), .load none (.t 70), none⟩,
                  ⟨(some 72), .mov (.t 9), none⟩,
                  ⟨(some 73), .callv (.t 71) [(.t 72)], none⟩,
                  ⟨(some 11), .mov (.t 73), none⟩] .done)
                .skip))))
            (.ops false [⟨(some 74), .mov (.t 7), none⟩,
             ⟨(some 75), .mov (.t 74), none⟩,
             ⟨(some 76), .fld 4 (.t 5), some (75, true)⟩,
             ⟨(some 77), .load none (.t 76), some (75, true)⟩,
             ⟨(some 78), .fld 2 (.t 5), some (75, true)⟩,
             ⟨(some 79), .load none (.t 78), some (75, true)⟩,
             ⟨(some 80), .mov (.t 9), some (75, true)⟩,
             ⟨(some 81), .call 61 [(.t 77), (.t 79), (.t 80)], some (75, true)⟩,
             ⟨(some 82), .mov (.t 11), some (75, true)⟩,
             ⟨(some 83), .bin .eql (.t 81) (.t 82), some (75, true)⟩,
             ⟨(some 84), .pick (.t 75) (.t 83) (.c (.v (.bool false))), none⟩,
             ⟨(some 7), .mov (.t 84), none⟩] .done)))))))
          (.ops false [⟨(some 85), .bin .add (.t 40) (.c (.v (.int .i64 1))), none⟩,
           ⟨(some 40), .mov (.t 85), none⟩] .done)))))))
       (.seq (.seq (.ops false [⟨(some 86), .mov (.t 7), none⟩,
          ⟨(some 87), .un .not (.t 86), none⟩] .done)
        (.cond (.t 87)
         (.seq (.ops false [⟨(some 88), .mov (.t 3), none⟩,
            ⟨(some 89), .load none (.c (.v (.pointer (some ⟨3, 0, none⟩)))), none⟩,
            ⟨(some 90), .build [(.v (.int .i64 0)), (.v .nilIface)] [(0, 1, (.t 88)), (1, 1, (.t 89))], none⟩,
            ⟨(some 91), .box 99 (.t 90), none⟩,
            ⟨(some 92), .iface 97 (.t 91), none⟩,
            ⟨(some 2), .mov (.t 92), none⟩] .done)
          .ret)
         .skip))
       (.ops true [⟨(some 93), .mov (.t 0), none⟩,
        ⟨(some 94), .nilck (.t 93), none⟩,
        ⟨(some 95), .fld 5 (.t 94), none⟩,
        ⟨(some 96), .load none (.t 95), none⟩,
        ⟨(some 97), .load (some 2) (.t 4), none⟩,
        ⟨(some 98), .load (some 4) (.t 6), none⟩,
        ⟨none, .mapput .two (.t 96) (.t 97) (.t 98), none⟩] (.take 0 [0, 1, 6, 2, 3] (.take 1 [1, 2, 6, 3] (.take 2 [2, 3, 6] (.take 3 [3, 6] (.take 4 [4, 6] (.take 5 [5, 6] (.eff false 6 .done))))))))))))))))
     (.ops false [⟨(some 99), .bin .add (.t 18) (.c (.v (.int .i64 1))), none⟩,
      ⟨(some 18), .mov (.t 99), none⟩] .done)))))))
  (.seq (.ops false [⟨(some 2), .mov (.c (.v .nilIface)), none⟩] .done)
  .ret)))⟩
theorem pf37_eq : (Tryd.f37.body.map fun c => (cfn Tryd.prog pl37 Tryd.f37 c, guardsAll pl37 c)) = some (pf37, true) := by kernel_rfl

/-- (*corral/wmo.checker).alone  sizes [(4, 14), (6, 18), (7, 15), (13, 24)] -/
def pl38 : Nat → DT := dtGet [(4, (.take 0 [0, 1, 12, 2, 3, 6, 7, 10, 11] (.take 1 [1, 2, 12, 3, 6, 7, 10, 11] (.take 2 [2, 3, 12, 6, 7, 10, 11] (.take 3 [3, 6, 12, 7, 10, 11] (.take 4 [4, 5, 12, 6, 7, 10, 11] (.take 5 [5, 6, 12, 7, 10, 11] (.take 6 [6, 7, 12, 10, 11] (.take 7 [7, 10, 12, 11] (.take 8 [8, 9, 12, 10, 11] (.take 9 [9, 10, 12, 11] (.take 10 [10, 11, 12] (.take 11 [11, 12] (.take 12 [12] .done)))))))))))))), (6, (.eff true 1000000 (.take 0 [0, 1, 10, 2, 3, 8] (.take 1 [1, 2, 10, 3, 8] (.take 2 [2, 3, 10, 8] (.take 3 [3, 8, 10] (.take 4 [4, 5, 10, 7, 8] (.take 5 [5, 7, 10, 8] (.take 6 [6, 7, 10, 8] (.take 7 [7, 8, 10] (.both (.eff true 8 (.eff true 9 (.eff false 10 .done))) (.eff true 9 (.eff true 8 (.eff false 10 .done)))))))))))))), (7, (.take 0 [0, 1, 2, 3, 6, 7, 9, 10, 11, 12] (.take 1 [1, 2, 3, 6, 7, 9, 10, 11, 12] (.take 2 [2, 3, 6, 7, 9, 10, 11, 12] (.take 3 [3, 6, 7, 9, 10, 11, 12] (.take 4 [4, 5, 6, 7, 9, 10, 11, 12] (.take 5 [5, 6, 7, 9, 10, 11, 12] (.take 6 [6, 7, 9, 10, 11, 12] (.take 7 [7, 9, 10, 11, 12] (.take 8 [8, 9, 10, 11, 12] (.take 9 [9, 10, 11, 12] (.take 10 [10, 11, 12] (.take 13 [13] (.eff true 11 (.take 12 [12] .done))))))))))))))), (13, (.take 0 [0, 4, 5, 6, 7, 8, 9, 10, 11, 12, 13, 14, 15, 16, 17, 18, 19, 20, 21, 22] (.take 1 [1, 2, 3, 4, 5, 6, 7, 8, 9, 10, 11, 12, 13, 14, 15, 16, 17, 18, 19, 20, 21, 22] (.take 2 [2, 3, 4, 5, 6, 7, 8, 9, 10, 11, 12, 13, 14, 15, 16, 17, 18, 19, 20, 21, 22] (.take 3 [3, 4, 5, 6, 7, 8, 9, 10, 11, 12, 13, 14, 15, 16, 17, 18, 19, 20, 21, 22] (.take 4 [4, 5, 6, 7, 8, 9, 10, 11, 12, 13, 14, 15, 16, 17, 18, 19, 20, 21, 22] (.take 5 [5, 6, 7, 8, 9, 10, 11, 12, 13, 14, 15, 16, 17, 18, 19, 20, 21, 22] (.take 6 [6, 8, 9, 10, 11, 12, 13, 14, 15, 16, 17, 18, 19, 20, 21, 22] (.take 7 [7, 8, 9, 10, 11, 12, 13, 14, 15, 16, 17, 18, 19, 20, 21, 22] (.take 8 [8, 9, 10, 11, 12, 13, 14, 15, 16, 17, 18, 19, 20, 21, 22] (.take 9 [9, 10, 11, 12, 13, 14, 15, 16, 17, 18, 19, 20, 21, 22] (.take 10 [10, 11, 12, 13, 14, 15, 16, 17, 18, 19, 20, 21, 22] (.take 11 [11, 12, 13, 14, 16, 17, 18, 21, 22] (.take 12 [12, 13, 14, 16, 17, 18, 21, 22] (.take 13 [13, 14, 16, 17, 18, 21, 22] (.take 14 [14, 16, 17, 18, 21, 22] (.take 15 [15, 16, 17, 18, 21, 22] (.take 16 [16, 17, 18, 21, 22] (.take 17 [17, 18, 21, 22] (.take 18 [18, 21, 22] (.take 19 [19, 20, 21, 22] (.take 20 [20, 21, 22] (.take 21 [21, 22] (.take 22 [22] .done))))))))))))))))))))))))]
def pf38 : PFn := ⟨104, [.t 2], (.seq (.ops false [⟨(some 2), .mov (.c (.v .nilIface)), none⟩] .done)
  (.seq (.seq (.ops false [⟨(some 11), .mov (.t 0), none⟩,
     ⟨(some 12), .nilck (.t 11), none⟩,
     ⟨(some 13), .fld 1 (.t 12), none⟩,
     ⟨(some 14), .load none (.t 13), none⟩,
     ⟨(some 15), .len (.t 14), none⟩,
     ⟨(some 16), .mov (.c (.v (.int .i64 0))), none⟩] .done)
   (.block 0 (.loop (.seq (.ops false [⟨(some 17), .bin .lss (.t 16) (.t 15), none⟩] .done)
     (.seq (.cond (.t 17)
       .skip
       (.exit 0))
     (.seq (.block 1 (.seq (.ops false [⟨(some 18), .mov (.t 16), none⟩,
         ⟨(some 19), .idx 2 (.t 14) (.t 16), none⟩,
         ⟨(some 20), .load (some 2) (.t 19), none⟩,
         ⟨(some 4), .box 41 (.c (.agg [(.v (.int .i64 0)), (.v (.int .i64 0))])), none⟩,
         ⟨(some 3), .mov (.t 18), none⟩,
         ⟨none, .store 2 (.t 4) (.t 20), none⟩] .done)
       (.seq (.ops true [⟨(some 21), .mov (.t 0), none⟩,
         ⟨(some 22), .nilck (.t 21), none⟩,
         ⟨(some 23), .fld 2 (.t 22), none⟩,
         ⟨(some 24), .load none (.t 23), none⟩,
         ⟨(some 25), .fld 0 (.t 4), none⟩,
         ⟨(some 26), .load none (.t 25), none⟩,
         ⟨(some 27), .idx 1 (.t 24) (.t 26), none⟩,
         ⟨(some 28), .load none (.t 27), none⟩,
         ⟨(some 29), .fld 1 (.t 4), none⟩,
         ⟨(some 30), .load none (.t 29), none⟩,
         ⟨(some 31), .idx 1 (.t 28) (.t 30), none⟩,
         ⟨(some 32), .load none (.t 31), none⟩,
         ⟨(some 5), .mov (.t 32), none⟩] (.take 0 [0, 1, 12, 2, 3, 6, 7, 10, 11] (.take 1 [1, 2, 12, 3, 6, 7, 10, 11] (.take 2 [2, 3, 12, 6, 7, 10, 11] (.take 3 [3, 6, 12, 7, 10, 11] (.take 4 [4, 5, 12, 6, 7, 10, 11] (.take 5 [5, 6, 12, 7, 10, 11] (.take 6 [6, 7, 12, 10, 11] (.take 7 [7, 10, 12, 11] (.take 8 [8, 9, 12, 10, 11] (.take 9 [9, 10, 12, 11] (.take 10 [10, 11, 12] (.take 11 [11, 12] (.take 12 [12] .done))))))))))))))
       (.seq (.seq (.ops false [⟨(some 33), .mov (.t 5), none⟩,
          ⟨(some 34), .bin .lss (.t 33) (.c (.v (.int .i64 0))), none⟩] .done)
        (.cond (.t 34)
         (.exit 1)
         .skip))
       (.seq (.cut (.ops true [⟨(some 35), .mov (.t 0), none⟩,
          ⟨(some 36), .nilck (.t 35), none⟩,
          ⟨(some 37), .fld 5 (.t 36), none⟩,
          ⟨(some 38), .load none (.t 37), none⟩,
          ⟨(some 39), .fld 0 (.t 4), none⟩,
          ⟨(some 40), .load none (.t 39), none⟩,
          ⟨(some 41), .mov (.t 5), none⟩,
          ⟨(some 42), .build [(.v (.int .i64 0)), (.v (.int .i64 0))] [(0, 1, (.t 40)), (1, 1, (.t 41))], none⟩,
          ⟨(some 43), .mapget .two (some 4) (.agg #[(.int .i64 0), (.int .i64 0), (.int .i64 0), (.int .i64 0)]) (.t 38) (.t 42), none⟩,
          ⟨(some 6), .box 104 (.c (.agg [(.v (.int .i64 0)), (.v (.int .i64 0)), (.v (.int .i64 0)), (.v (.int .i64 0))])), none⟩,
          ⟨none, .store 4 (.t 6) (.t 43), none⟩] (.take 0 [0, 1, 10, 2, 3, 8] (.take 1 [1, 2, 10, 3, 8] (.take 2 [2, 3, 10, 8] (.take 3 [3, 8, 10] (.take 4 [4, 5, 10, 7, 8] (.take 5 [5, 7, 10, 8] (.take 6 [6, 7, 10, 8] (.take 7 [7, 8, 10] (.both (.eff true 8 (.eff true 9 (.eff false 10 .done))) (.eff true 9 (.eff true 8 (.eff false 10 .done))))))))))))))
       (.seq (.ops true [⟨(some 44), .mov (.t 0), none⟩,
         ⟨(some 45), .nilck (.t 44), none⟩,
         ⟨(some 46), .fld 0 (.t 45), none⟩,
         ⟨(some 47), .load none (.t 46), none⟩,
         ⟨(some 48), .fld 0 (.t 4), none⟩,
         ⟨(some 49), .load none (.t 48), none⟩,
         ⟨(some 50), .idx 1 (.t 47) (.t 49), none⟩,
         ⟨(some 51), .load none (.t 50), none⟩,
         ⟨(some 52), .mov (.t 5), none⟩,
         ⟨(some 53), .idx 13 (.t 51) (.t 52), none⟩,
         ⟨(some 54), .load (some 13) (.t 53), none⟩,
         ⟨(some 55), .call 57 [(.t 54)], none⟩,
         ⟨(some 56), .len (.t 55), none⟩,
         ⟨(some 57), .mov (.c (.v (.int .i64 0))), none⟩] (.take 0 [0, 1, 2, 3, 6, 7, 9, 10, 11, 12] (.take 1 [1, 2, 3, 6, 7, 9, 10, 11, 12] (.take 2 [2, 3, 6, 7, 9, 10, 11, 12] (.take 3 [3, 6, 7, 9, 10, 11, 12] (.take 4 [4, 5, 6, 7, 9, 10, 11, 12] (.take 5 [5, 6, 7, 9, 10, 11, 12] (.take 6 [6, 7, 9, 10, 11, 12] (.take 7 [7, 9, 10, 11, 12] (.take 8 [8, 9, 10, 11, 12] (.take 9 [9, 10, 11, 12] (.take 10 [10, 11, 12] (.take 13 [13] (.eff true 11 (.take 12 [12] .done)))))))))))))))
       (.block 2 (.loop (.seq (.ops false [⟨(some 58), .bin .lss (.t 57) (.t 56), none⟩] .done)
         (.seq (.cond (.t 58)
           .skip
           (.exit 2))
         (.seq (.block 3 (.seq (.ops false [⟨(some 59), .mov (.t 57), none⟩,
             ⟨(some 60), .idx 1 (.t 55) (.t 57), none⟩,
             ⟨(some 61), .load none (.t 60), none⟩,
             ⟨(some 7), .mov (.t 59), none⟩,
             ⟨(some 8), .mov (.t 61), none⟩] .done)
           (.seq (.ops false [⟨(some 62), .mov (.t 0), none⟩,
             ⟨(some 63), .nilck (.t 62), none⟩,
             ⟨(some 64), .fld 4 (.t 63), none⟩,
             ⟨(some 65), .load none (.t 64), none⟩,
             ⟨(some 66), .mov (.t 8), none⟩,
             ⟨(some 67), .mapget (.one .u32) none (.slice none 0 0) (.t 65) (.t 66), none⟩,
             ⟨(some 68), .len (.t 67), none⟩,
             ⟨(some 69), .mov (.c (.v (.int .i64 0))), none⟩] .done)
           (.block 4 (.loop (.seq (.ops false [⟨(some 70), .bin .lss (.t 69) (.t 68), none⟩] .done)
             (.seq (.cond (.t 70)
               .skip
               (.exit 4))
             (.seq (.block 5 (.seq (.ops false [⟨(some 71), .idx 1 (.t 67) (.t 69), none⟩,
                 ⟨(some 72), .load none (.t 71), none⟩,
                 ⟨(some 10), .mov (.t 72), none⟩] .done)
               (.seq (.ops true [⟨(some 73), .mov (.t 10), none⟩,
                 ⟨(some 74), .mov (.t 7), none⟩,
                 ⟨(some 75), .idxa 4 1 (.t 6) (.t 74), none⟩,
                 ⟨(some 76), .load none (.t 75), none⟩,
                 ⟨(some 77), .bin .gtr (.t 73) (.t 76), none⟩,
                 ⟨(some 78), .mov (.t 77), none⟩,
                 ⟨(some 79), .mov (.t 10), some (78, true)⟩,
                 ⟨(some 80), .mov (.t 3), some (78, true)⟩,
                 ⟨(some 81), .bin .lss (.t 79) (.t 80), some (78, true)⟩,
                 ⟨(some 82), .pick (.t 78) (.t 81) (.c (.v (.bool false))), none⟩,
                 ⟨(some 83), .mov (.t 82), none⟩,
                 ⟨(some 84), .mov (.t 0), some (83, true)⟩,
                 ⟨(some 85), .nilck (.t 84), some (83, true)⟩,
                 ⟨(some 86), .fld 1 (.t 85), some (83, true)⟩,
                 ⟨(some 87), .load none (.t 86), some (83, true)⟩,
                 ⟨(some 88), .mov (.t 10), some (83, true)⟩,
                 ⟨(some 89), .idx 2 (.t 87) (.t 88), some (83, true)⟩,
                 ⟨(some 90), .fld 0 (.t 89), some (83, true)⟩,
                 ⟨(some 91), .load none (.t 90), some (83, true)⟩,
                 ⟨(some 92), .fld 0 (.t 4), some (83, true)⟩,
                 ⟨(some 93), .load none (.t 92), some (83, true)⟩,
                 ⟨(some 94), .bin .neq (.t 91) (.t 93), some (83, true)⟩,
                 ⟨(some 95), .pick (.t 83) (.t 94) (.c (.v (.bool false))), none⟩] (.take 0 [0, 4, 5, 6, 7, 8, 9, 10, 11, 12, 13, 14, 15, 16, 17, 18, 19, 20, 21, 22] (.take 1 [1, 2, 3, 4, 5, 6, 7, 8, 9, 10, 11, 12, 13, 14, 15, 16, 17, 18, 19, 20, 21, 22] (.take 2 [2, 3, 4, 5, 6, 7, 8, 9, 10, 11, 12, 13, 14, 15, 16, 17, 18, 19, 20, 21, 22] (.take 3 [3, 4, 5, 6, 7, 8, 9, 10, 11, 12, 13, 14, 15, 16, 17, 18, 19, 20, 21, 22] (.take 4 [4, 5, 6, 7, 8, 9, 10, 11, 12, 13, 14, 15, 16, 17, 18, 19, 20, 21, 22] (.take 5 [5, 6, 7, 8, 9, 10, 11, 12, 13, 14, 15, 16, 17, 18, 19, 20, 21, 22] (.take 6 [6, 8, 9, 10, 11, 12, 13, 14, 15, 16, 17, 18, 19, 20, 21, 22] (.take 7 [7, 8, 9, 10, 11, 12, 13, 14, 15, 16, 17, 18, 19, 20, 21, 22] (.take 8 [8, 9, 10, 11, 12, 13, 14, 15, 16, 17, 18, 19, 20, 21, 22] (.take 9 [9, 10, 11, 12, 13, 14, 15, 16, 17, 18, 19, 20, 21, 22] (.take 10 [10, 11, 12, 13, 14, 15, 16, 17, 18, 19, 20, 21, 22] (.take 11 [11, 12, 13, 14, 16, 17, 18, 21, 22] (.take 12 [12, 13, 14, 16, 17, 18, 21, 22] (.take 13 [13, 14, 16, 17, 18, 21, 22] (.take 14 [14, 16, 17, 18, 21, 22] (.take 15 [15, 16, 17, 18, 21, 22] (.take 16 [16, 17, 18, 21, 22] (.take 17 [17, 18, 21, 22] (.take 18 [18, 21, 22] (.take 19 [19, 20, 21, 22] (.take 20 [20, 21, 22] (.take 21 [21, 22] (.take 22 [22] .done))))))))))))))))))))))))
               (.cond (.t 95)
                (.seq (.ops false [⟨(some 96), .mov (.t 3), none⟩,
                   ⟨(some 97), .load none (.c (.v (.pointer (some ⟨2, 0, none⟩)))), none⟩,
                   ⟨(some 98), .build [(.v (.int .i64 0)), (.v .nilIface)] [(0, 1, (.t 96)), (1, 1, (.t 97))], none⟩,
                   ⟨(some 99), .box 99 (.t 98), none⟩,
                   ⟨(some 100), .iface 97 (.t 99), none⟩,
                   ⟨(some 2), .mov (.t 100), none⟩] .done)
                 .ret)
                .skip))))
             (.ops false [⟨(some 101), .bin .add (.t 69) (.c (.v (.int .i64 1))), none⟩,
              ⟨(some 69), .mov (.t 101), none⟩] .done)))))))))
         (.ops false [⟨(some 102), .bin .add (.t 57) (.c (.v (.int .i64 1))), none⟩,
          ⟨(some 57), .mov (.t 102), none⟩] .done))))))))))))
     (.ops false [⟨(some 103), .bin .add (.t 16) (.c (.v (.int .i64 1))), none⟩,
      ⟨(some 16), .mov (.t 103), none⟩] .done)))))))
  (.seq (.ops false [⟨(some 2), .mov (.c (.v .nilIface)), none⟩] .done)
  .ret)))⟩
theorem pf38_eq : (Tryd.f38.body.map fun c => (cfn Tryd.prog pl38 Tryd.f38 c, guardsAll pl38 c)) = some (pf38, true) := by kernel_rfl

/-- corral/corralsee.Fault  sizes [] -/
def pl39 : Nat → DT := dtGet []
def pf39 : PFn := ⟨8, [.cell 2 (some 2)], (.seq (.ops false [⟨(some 2), .box 27 (.c (.agg [(.v (.int .i64 0)), (.v (.slice none 0 0))])), none⟩] .done)
  (.seq (.seq (.ops false [⟨(some 3), .mov (.t 0), none⟩,
     ⟨(some 4), .eqp 1 true false (.t 3) (.c (.v .nilIface)), none⟩] .done)
   (.cond (.t 4)
    (.seq (.ops false [⟨(some 5), .call 30 [], none⟩,
       ⟨none, .store 2 (.t 2) (.t 5), none⟩] .done)
     .ret)
    .skip))
  (.seq (.ops false [⟨(some 6), .mov (.t 0), none⟩,
    ⟨(some 7), .call 62 [(.t 6), (.c (.v (.int .i64 9)))], none⟩,
    ⟨none, .store 2 (.t 2) (.t 7), none⟩] .done)
  .ret)))⟩
theorem pf39_eq : (Tryd.f39.body.map fun c => (cfn Tryd.prog pl39 Tryd.f39 c, guardsAll pl39 c)) = some (pf39, true) := by kernel_rfl

/-- corral/corralref.SameFault  sizes [] -/
def pl40 : Nat → DT := dtGet []
def pf40 : PFn := ⟨19, [.t 4], (.seq (.ops false [⟨(some 2), .box 27 (.t 0), none⟩,
    ⟨(some 3), .box 27 (.t 1), none⟩,
    ⟨(some 4), .mov (.c (.v (.bool false))), none⟩] .done)
  (.seq (.ops false [⟨(some 6), .fld 1 (.t 2), none⟩,
    ⟨(some 7), .load none (.t 6), none⟩,
    ⟨(some 8), .fld 1 (.t 3), none⟩,
    ⟨(some 9), .load none (.t 8), none⟩,
    ⟨(some 10), .call 63 [(.t 7), (.t 9)], none⟩,
    ⟨(some 5), .mov (.t 10), none⟩] .done)
  (.seq (.ops false [⟨(some 11), .fld 0 (.t 2), none⟩,
    ⟨(some 12), .load none (.t 11), none⟩,
    ⟨(some 13), .fld 0 (.t 3), none⟩,
    ⟨(some 14), .load none (.t 13), none⟩,
    ⟨(some 15), .bin .eql (.t 12) (.t 14), none⟩,
    ⟨(some 16), .mov (.t 15), none⟩,
    ⟨(some 17), .mov (.t 5), some (16, true)⟩,
    ⟨(some 18), .pick (.t 16) (.t 17) (.c (.v (.bool false))), none⟩,
    ⟨(some 4), .mov (.t 18), none⟩] .done)
  .ret)))⟩
theorem pf40_eq : (Tryd.f40.body.map fun c => (cfn Tryd.prog pl40 Tryd.f40 c, guardsAll pl40 c)) = some (pf40, true) := by kernel_rfl

/-- corral/ppo.Pairs  sizes [] -/
def pl53 : Nat → DT := dtGet []
def pf53 : PFn := ⟨45, [.t 2], (.seq (.ops false [⟨(some 2), .mov (.c (.v (.slice none 0 0))), none⟩] .done)
  (.seq (.ops false [⟨(some 7), .mov (.t 0), none⟩,
    ⟨(some 8), .len (.t 7), none⟩,
    ⟨(some 9), .mslice 3 [.int .i64] [(.int .i64 0)] 8 (.t 8) (.t 8), none⟩,
    ⟨(some 3), .mov (.t 9), none⟩] .done)
  (.seq (.ops false [⟨(some 4), .mov (.c (.v (.int .i64 (-1)))), none⟩] .done)
  (.seq (.seq (.ops false [⟨(some 10), .mov (.t 0), none⟩,
     ⟨(some 11), .len (.t 10), none⟩,
     ⟨(some 12), .mov (.c (.v (.int .i64 0))), none⟩] .done)
   (.block 0 (.loop (.seq (.ops false [⟨(some 13), .bin .lss (.t 12) (.t 11), none⟩] .done)
     (.seq (.cond (.t 13)
       .skip
       (.exit 0))
     (.seq (.block 1 (.seq (.ops false [⟨(some 14), .mov (.t 12), none⟩,
         ⟨(some 15), .idx 13 (.t 10) (.t 12), none⟩,
         ⟨(some 16), .load (some 13) (.t 15), none⟩,
         ⟨(some 6), .box 38 (.c (.agg [(.v (.int .i64 0)), (.v (.int .i64 0)), (.v (.int .u32 0)), (.v (.int .u32 0)), (.v (.int .u32 0)), (.v (.bool false)), (.v (.bool false)), (.v (.bool false)), (.v (.int .i64 0)), (.v (.int .i64 0)), (.v (.slice none 0 0)), (.v (.slice none 0 0)), (.v (.slice none 0 0))])), none⟩,
         ⟨(some 5), .mov (.t 14), none⟩,
         ⟨none, .store 13 (.t 6) (.t 16), none⟩] .done)
       (.seq (.ops false [⟨(some 17), .mov (.t 3), none⟩,
         ⟨(some 18), .mov (.t 5), none⟩,
         ⟨(some 19), .idx 1 (.t 17) (.t 18), none⟩,
         ⟨none, .store 1 (.t 19) (.c (.v (.int .i64 (-1)))), none⟩] .done)
       (.seq (.seq (.ops false [⟨(some 20), .fld 5 (.t 6), none⟩,
          ⟨(some 21), .load none (.t 20), none⟩,
          ⟨(some 22), .un .not (.t 21), none⟩] .done)
        (.cond (.t 22)
         (.exit 1)
         .skip))
       (.seq (.seq (.ops false [⟨(some 23), .fld 0 (.t 6), none⟩,
          ⟨(some 24), .load none (.t 23), none⟩,
          ⟨(some 25), .bin .eql (.t 24) (.c (.v (.int .i64 2))), none⟩,
          ⟨(some 26), .mov (.t 25), none⟩,
          ⟨(some 27), .mov (.t 4), some (26, true)⟩,
          ⟨(some 28), .bin .geq (.t 27) (.c (.v (.int .i64 0))), some (26, true)⟩,
          ⟨(some 29), .pick (.t 26) (.t 28) (.c (.v (.bool false))), none⟩,
          ⟨(some 30), .mov (.t 29), none⟩,
          ⟨(some 31), .mov (.t 0), some (30, true)⟩,
          ⟨(some 32), .mov (.t 4), some (30, true)⟩,
          ⟨(some 33), .idx 13 (.t 31) (.t 32), some (30, true)⟩,
          ⟨(some 34), .fld 0 (.t 33), some (30, true)⟩,
          ⟨(some 35), .load none (.t 34), some (30, true)⟩,
          ⟨(some 36), .bin .eql (.t 35) (.c (.v (.int .i64 1))), some (30, true)⟩,
          ⟨(some 37), .pick (.t 30) (.t 36) (.c (.v (.bool false))), none⟩] .done)
        (.cond (.t 37)
         (.ops false [⟨(some 38), .mov (.t 3), none⟩,
           ⟨(some 39), .mov (.t 5), none⟩,
           ⟨(some 40), .mov (.t 4), none⟩,
           ⟨(some 41), .idx 1 (.t 38) (.t 39), none⟩,
           ⟨none, .store 1 (.t 41) (.t 40), none⟩] .done)
         .skip))
       (.ops false [⟨(some 42), .mov (.t 5), none⟩,
        ⟨(some 4), .mov (.t 42), none⟩] .done))))))
     (.ops false [⟨(some 43), .bin .add (.t 12) (.c (.v (.int .i64 1))), none⟩,
      ⟨(some 12), .mov (.t 43), none⟩] .done)))))))
  (.seq (.ops false [⟨(some 44), .mov (.t 3), none⟩,
    ⟨(some 2), .mov (.t 44), none⟩] .done)
  .ret)))))⟩
theorem pf53_eq : (Tryd.f53.body.map fun c => (cfn Tryd.prog pl53 Tryd.f53 c, guardsAll pl53 c)) = some (pf53, true) := by kernel_rfl

/-- corral/wmo.fair  sizes [(16, 24)] -/
def pl54 : Nat → DT := dtGet [(16, (.take 0 [0, 1, 22, 2, 3, 4, 5, 6, 7, 8, 9, 10, 11, 20, 21, 12, 13, 14, 15, 16, 17, 18, 19] (.take 1 [1, 2, 22, 3, 4, 5, 6, 7, 8, 9, 10, 11, 20, 21, 12, 13, 14, 15, 16, 17, 18, 19] (.take 2 [2, 3, 22, 4, 5, 6, 7, 8, 9, 10, 11, 20, 21, 12, 13, 14, 15, 16, 17, 18, 19] (.take 3 [3, 4, 5, 6, 7, 22, 8, 9, 10, 11, 20, 21, 12, 13, 14, 15, 16, 17, 18, 19] (.take 4 [4, 5, 22, 6, 8, 7, 9, 10, 11, 20, 21, 12, 13, 14, 15, 16, 17, 18, 19] (.eff true 5 (.take 6 [6, 7, 22, 8, 9, 10, 11, 20, 21, 12, 13, 14, 15, 16, 17, 18, 19] (.take 7 [7, 8, 22, 9, 10, 11, 20, 21, 12, 13, 14, 15, 16, 17, 18, 19] (.take 8 [8, 9, 10, 11, 20, 21, 22, 12, 13, 14, 15, 16, 17, 18, 19] (.take 9 [9, 10, 22, 11, 12, 13, 14, 15, 16, 17, 18, 19, 20, 21] (.take 10 [10, 11, 22, 12, 13, 14, 15, 16, 17, 18, 19, 20, 21] (.take 11 [11, 12, 13, 14, 15, 16, 17, 18, 19, 20, 22, 21] (.take 12 [12, 14, 22, 15, 16, 19, 20, 21] (.take 13 [13, 14, 22, 15, 16, 19, 20, 21] (.take 14 [14, 15, 22, 16, 19, 20, 21] (.take 15 [15, 16, 22, 19, 20, 21] (.take 16 [16, 19, 22, 20, 21] (.take 17 [17, 18, 22, 19, 20, 21] (.take 18 [18, 19, 22, 20, 21] (.take 19 [19, 20, 22, 21] (.take 20 [20, 21, 22] (.take 21 [21, 22] (.take 22 [22] .done))))))))))))))))))))))))]
def pf54 : PFn := ⟨123, [.t 6], (.seq (.ops false [⟨(some 6), .mov (.c (.v (.bool false))), none⟩] .done)
  (.seq (.ops false [⟨(some 10), .mov (.t 0), none⟩,
    ⟨(some 11), .mov (.t 1), none⟩,
    ⟨(some 12), .idx 13 (.t 10) (.t 11), none⟩,
    ⟨(some 13), .load (some 13) (.t 12), none⟩,
    ⟨(some 7), .box 38 (.c (.agg [(.v (.int .i64 0)), (.v (.int .i64 0)), (.v (.int .u32 0)), (.v (.int .u32 0)), (.v (.int .u32 0)), (.v (.bool false)), (.v (.bool false)), (.v (.bool false)), (.v (.int .i64 0)), (.v (.int .i64 0)), (.v (.slice none 0 0)), (.v (.slice none 0 0)), (.v (.slice none 0 0))])), none⟩,
    ⟨none, .store 13 (.t 7) (.t 13), none⟩] .done)
  (.seq (.seq (.ops false [⟨(some 14), .fld 10 (.t 7), none⟩,
     ⟨(some 15), .load none (.t 14), none⟩,
     ⟨(some 16), .fld 11 (.t 7), none⟩,
     ⟨(some 17), .load none (.t 16), none⟩,
     ⟨(some 18), .fld 12 (.t 7), none⟩,
     ⟨(some 19), .load none (.t 18), none⟩,
     ⟨(some 20), .bslice 23 [.sl] 3 [(.v (.slice none 0 0)), (.v (.slice none 0 0)), (.v (.slice none 0 0))] [(0, 1, (.t 15)), (1, 1, (.t 17)), (2, 1, (.t 19))], none⟩,
     ⟨(some 21), .call 73 [(.t 20)], none⟩,
     ⟨(some 22), .len (.t 21), none⟩,
     ⟨(some 23), .mov (.c (.v (.int .i64 0))), none⟩] .done)
   (.block 0 (.loop (.seq (.ops false [⟨(some 24), .bin .lss (.t 23) (.t 22), none⟩] .done)
     (.seq (.cond (.t 24)
       .skip
       (.exit 0))
     (.seq (.block 1 (.seq (.ops false [⟨(some 25), .idx 1 (.t 21) (.t 23), none⟩,
         ⟨(some 26), .load none (.t 25), none⟩,
         ⟨(some 9), .mov (.t 26), none⟩] .done)
       (.seq (.ops false [⟨(some 27), .mov (.t 9), none⟩,
         ⟨(some 28), .bin .lss (.t 27) (.c (.v (.int .i64 0))), none⟩,
         ⟨(some 29), .mov (.t 28), none⟩,
         ⟨(some 30), .mov (.t 9), some (29, false)⟩,
         ⟨(some 31), .mov (.t 1), some (29, false)⟩,
         ⟨(some 32), .bin .geq (.t 30) (.t 31), some (29, false)⟩,
         ⟨(some 33), .pick (.t 29) (.c (.v (.bool true))) (.t 32), none⟩] .done)
       (.cond (.t 33)
        (.seq (.ops false [⟨(some 6), .mov (.c (.v (.bool false))), none⟩] .done)
         .ret)
        .skip))))
     (.ops false [⟨(some 34), .bin .add (.t 23) (.c (.v (.int .i64 1))), none⟩,
      ⟨(some 23), .mov (.t 34), none⟩] .done)))))))
  (.seq (.block 2 (.seq (.ops false [⟨(some 36), .fld 0 (.t 7), none⟩,
      ⟨(some 37), .load none (.t 36), none⟩,
      ⟨(some 38), .bin .lss (.t 37) (.c (.v (.int .i64 1))), none⟩,
      ⟨(some 39), .mov (.t 38), none⟩,
      ⟨(some 40), .fld 0 (.t 7), some (39, false)⟩,
      ⟨(some 41), .load none (.t 40), some (39, false)⟩,
      ⟨(some 42), .bin .gtr (.t 41) (.c (.v (.int .i64 4))), some (39, false)⟩,
      ⟨(some 43), .pick (.t 39) (.c (.v (.bool true))) (.t 42), none⟩,
      ⟨(some 35), .mov (.t 43), none⟩] .done)
    (.cond (.t 35)
     (.seq (.ops false [⟨(some 6), .mov (.c (.v (.bool false))), none⟩] .done)
      .ret)
     (.seq (.ops false [⟨(some 45), .fld 0 (.t 7), none⟩,
        ⟨(some 46), .load none (.t 45), none⟩,
        ⟨(some 47), .bin .eql (.t 46) (.c (.v (.int .i64 4))), none⟩,
        ⟨(some 44), .mov (.t 47), none⟩] .done)
      (.cond (.t 44)
       (.seq (.ops false [⟨(some 48), .fld 1 (.t 7), none⟩,
          ⟨(some 49), .load none (.t 48), none⟩,
          ⟨(some 50), .bin .eql (.t 49) (.c (.v (.int .i64 0))), none⟩,
          ⟨(some 51), .mov (.t 50), none⟩,
          ⟨(some 52), .fld 5 (.t 7), some (51, true)⟩,
          ⟨(some 53), .load none (.t 52), some (51, true)⟩,
          ⟨(some 54), .un .not (.t 53), some (51, true)⟩,
          ⟨(some 55), .pick (.t 51) (.t 54) (.c (.v (.bool false))), none⟩,
          ⟨(some 6), .mov (.t 55), none⟩] .done)
        .ret)
       (.seq (.ops false [⟨(some 57), .fld 1 (.t 7), none⟩,
          ⟨(some 58), .load none (.t 57), none⟩,
          ⟨(some 59), .bin .neq (.t 58) (.c (.v (.int .i64 1))), none⟩,
          ⟨(some 60), .mov (.t 59), none⟩,
          ⟨(some 61), .fld 1 (.t 7), some (60, true)⟩,
          ⟨(some 62), .load none (.t 61), some (60, true)⟩,
          ⟨(some 63), .bin .neq (.t 62) (.c (.v (.int .i64 2))), some (60, true)⟩,
          ⟨(some 64), .pick (.t 60) (.t 63) (.c (.v (.bool false))), none⟩,
          ⟨(some 65), .mov (.t 64), none⟩,
          ⟨(some 66), .fld 1 (.t 7), some (65, true)⟩,
          ⟨(some 67), .load none (.t 66), some (65, true)⟩,
          ⟨(some 68), .bin .neq (.t 67) (.c (.v (.int .i64 4))), some (65, true)⟩,
          ⟨(some 69), .pick (.t 65) (.t 68) (.c (.v (.bool false))), none⟩,
          ⟨(some 70), .mov (.t 69), none⟩,
          ⟨(some 71), .fld 2 (.t 7), some (70, false)⟩,
          ⟨(some 72), .load none (.t 71), some (70, false)⟩,
          ⟨(some 73), .fld 1 (.t 7), some (70, false)⟩,
          ⟨(some 74), .load none (.t 73), some (70, false)⟩,
          ⟨(some 75), .conv .u32 (.t 74), some (70, false)⟩,
          ⟨(some 76), .bin .rem (.t 72) (.t 75), some (70, false)⟩,
          ⟨(some 77), .bin .neq (.t 76) (.c (.v (.int .u32 0))), some (70, false)⟩,
          ⟨(some 78), .pick (.t 70) (.c (.v (.bool true))) (.t 77), none⟩,
          ⟨(some 56), .mov (.t 78), none⟩] .done)
        (.cond (.t 56)
         (.seq (.ops false [⟨(some 6), .mov (.c (.v (.bool false))), none⟩] .done)
          .ret)
         (.seq (.ops false [⟨(some 80), .fld 5 (.t 7), none⟩,
            ⟨(some 81), .load none (.t 80), none⟩,
            ⟨(some 82), .mov (.t 81), none⟩,
            ⟨(some 83), .fld 0 (.t 7), some (82, false)⟩,
            ⟨(some 84), .load none (.t 83), some (82, false)⟩,
            ⟨(some 85), .bin .eql (.t 84) (.c (.v (.int .i64 3))), some (82, false)⟩,
            ⟨(some 86), .pick (.t 82) (.c (.v (.bool true))) (.t 85), none⟩,
            ⟨(some 87), .mov (.t 86), none⟩,
            ⟨(some 88), .fld 1 (.t 7), some (87, true)⟩,
            ⟨(some 89), .load none (.t 88), some (87, true)⟩,
            ⟨(some 90), .bin .neq (.t 89) (.c (.v (.int .i64 4))), some (87, true)⟩,
            ⟨(some 91), .pick (.t 87) (.t 90) (.c (.v (.bool false))), none⟩,
            ⟨(some 92), .mov (.t 91), none⟩,
            ⟨(some 93), .fld 5 (.t 7), some (92, false)⟩,
            ⟨(some 94), .load none (.t 93), some (92, false)⟩,
            ⟨(some 95), .mov (.t 94), some (92, false)⟩,
            ⟨(some 96), .fld 0 (.t 7), some (95, true)⟩,
            ⟨(some 97), .load none (.t 96), some (95, true)⟩,
            ⟨(some 98), .bin .eql (.t 97) (.c (.v (.int .i64 3))), some (95, true)⟩,
            ⟨(some 99), .pick (.t 95) (.t 98) (.c (.v (.bool false))), some (92, false)⟩,
            ⟨(some 100), .pick (.t 92) (.c (.v (.bool true))) (.t 99), none⟩,
            ⟨(some 79), .mov (.t 100), none⟩] .done)
          (.cond (.t 79)
           (.seq (.ops false [⟨(some 6), .mov (.c (.v (.bool false))), none⟩] .done)
            .ret)
           .skip)))))))))
  (.seq (.ops true [⟨(some 101), .fld 5 (.t 7), none⟩,
    ⟨(some 102), .load none (.t 101), none⟩,
    ⟨(some 103), .un .not (.t 102), none⟩,
    ⟨(some 104), .mov (.t 103), none⟩,
    ⟨(some 105), .load (some 13) (.t 7), some (104, false)⟩,
    ⟨(some 106), .call 56 [(.t 105)], some (104, false)⟩,
    ⟨(some 107), .un .not (.t 106), some (104, false)⟩,
    ⟨(some 108), .pick (.t 104) (.c (.v (.bool true))) (.t 107), none⟩,
    ⟨(some 109), .mov (.t 108), none⟩,
    ⟨(some 110), .mov (.t 2), some (109, false)⟩,
    ⟨(some 111), .bin .geq (.t 110) (.c (.v (.int .i64 0))), some (109, false)⟩,
    ⟨(some 112), .mov (.t 111), some (109, false)⟩,
    ⟨(some 113), .mov (.t 0), some (112, true)⟩,
    ⟨(some 114), .mov (.t 2), some (112, true)⟩,
    ⟨(some 115), .idx 13 (.t 113) (.t 114), some (112, true)⟩,
    ⟨(some 116), .fld 2 (.t 115), some (112, true)⟩,
    ⟨(some 117), .load none (.t 116), some (112, true)⟩,
    ⟨(some 118), .fld 2 (.t 7), some (112, true)⟩,
    ⟨(some 119), .load none (.t 118), some (112, true)⟩,
    ⟨(some 120), .bin .eql (.t 117) (.t 119), some (112, true)⟩,
    ⟨(some 121), .pick (.t 112) (.t 120) (.c (.v (.bool false))), some (109, false)⟩,
    ⟨(some 122), .pick (.t 109) (.c (.v (.bool true))) (.t 121), none⟩,
    ⟨(some 6), .mov (.t 122), none⟩] (.take 0 [0, 1, 22, 2, 3, 4, 5, 6, 7, 8, 9, 10, 11, 20, 21, 12, 13, 14, 15, 16, 17, 18, 19] (.take 1 [1, 2, 22, 3, 4, 5, 6, 7, 8, 9, 10, 11, 20, 21, 12, 13, 14, 15, 16, 17, 18, 19] (.take 2 [2, 3, 22, 4, 5, 6, 7, 8, 9, 10, 11, 20, 21, 12, 13, 14, 15, 16, 17, 18, 19] (.take 3 [3, 4, 5, 6, 7, 22, 8, 9, 10, 11, 20, 21, 12, 13, 14, 15, 16, 17, 18, 19] (.take 4 [4, 5, 22, 6, 8, 7, 9, 10, 11, 20, 21, 12, 13, 14, 15, 16, 17, 18, 19] (.eff true 5 (.take 6 [6, 7, 22, 8, 9, 10, 11, 20, 21, 12, 13, 14, 15, 16, 17, 18, 19] (.take 7 [7, 8, 22, 9, 10, 11, 20, 21, 12, 13, 14, 15, 16, 17, 18, 19] (.take 8 [8, 9, 10, 11, 20, 21, 22, 12, 13, 14, 15, 16, 17, 18, 19] (.take 9 [9, 10, 22, 11, 12, 13, 14, 15, 16, 17, 18, 19, 20, 21] (.take 10 [10, 11, 22, 12, 13, 14, 15, 16, 17, 18, 19, 20, 21] (.take 11 [11, 12, 13, 14, 15, 16, 17, 18, 19, 20, 22, 21] (.take 12 [12, 14, 22, 15, 16, 19, 20, 21] (.take 13 [13, 14, 22, 15, 16, 19, 20, 21] (.take 14 [14, 15, 22, 16, 19, 20, 21] (.take 15 [15, 16, 22, 19, 20, 21] (.take 16 [16, 19, 22, 20, 21] (.take 17 [17, 18, 22, 19, 20, 21] (.take 18 [18, 19, 22, 20, 21] (.take 19 [19, 20, 22, 21] (.take 20 [20, 21, 22] (.take 21 [21, 22] (.take 22 [22] .done))))))))))))))))))))))))
  .ret)))))⟩
theorem pf54_eq : (Tryd.f54.body.map fun c => (cfn Tryd.prog pl54 Tryd.f54 c, guardsAll pl54 c)) = some (pf54, true) := by kernel_rfl

/-- (*corral/wmo.checker).op  sizes [(1, 26)] -/
def pl55 : Nat → DT := dtGet [(1, (.take 0 [0, 1, 24, 2, 3, 12, 13, 22, 23] (.take 1 [1, 2, 24, 3, 12, 13, 22, 23] (.take 2 [2, 3, 24, 12, 13, 22, 23] (.take 3 [3, 12, 24, 13, 22, 23] (.take 4 [4, 5, 24, 6, 7, 9, 10, 11, 12, 13, 22, 23] (.take 5 [5, 6, 24, 7, 9, 10, 11, 12, 13, 22, 23] (.take 6 [6, 7, 24, 9, 10, 11, 12, 13, 22, 23] (.take 7 [7, 9, 24, 10, 11, 12, 13, 22, 23] (.take 8 [8, 9, 24, 10, 11, 12, 13, 22, 23] (.take 9 [9, 10, 24, 11, 12, 13, 22, 23] (.take 10 [10, 11, 24, 12, 13, 22, 23] (.take 11 [11, 12, 24, 13, 22, 23] (.take 12 [12, 13, 24, 22, 23] (.take 13 [13, 22, 24, 23] (.take 14 [14, 15, 24, 16, 17, 19, 20, 21, 22, 23] (.take 15 [15, 16, 24, 17, 19, 20, 21, 22, 23] (.take 16 [16, 17, 24, 19, 20, 21, 22, 23] (.take 17 [17, 19, 24, 20, 21, 22, 23] (.take 18 [18, 19, 24, 20, 21, 22, 23] (.take 19 [19, 20, 24, 21, 22, 23] (.take 20 [20, 21, 24, 22, 23] (.take 21 [21, 22, 24, 23] (.take 22 [22, 23, 24] (.take 23 [23, 24] (.eff false 24 .done))))))))))))))))))))))))))]
def pf55 : PFn := ⟨29, [.cell 4 (some 13)], (.seq (.ops false [⟨(some 4), .box 38 (.c (.agg [(.v (.int .i64 0)), (.v (.int .i64 0)), (.v (.int .u32 0)), (.v (.int .u32 0)), (.v (.int .u32 0)), (.v (.bool false)), (.v (.bool false)), (.v (.bool false)), (.v (.int .i64 0)), (.v (.int .i64 0)), (.v (.slice none 0 0)), (.v (.slice none 0 0)), (.v (.slice none 0 0))])), none⟩] .done)
  (.seq (.ops true [⟨(some 5), .mov (.t 0), none⟩,
    ⟨(some 6), .nilck (.t 5), none⟩,
    ⟨(some 7), .fld 0 (.t 6), none⟩,
    ⟨(some 8), .load none (.t 7), none⟩,
    ⟨(some 9), .mov (.t 0), none⟩,
    ⟨(some 10), .nilck (.t 9), none⟩,
    ⟨(some 11), .fld 1 (.t 10), none⟩,
    ⟨(some 12), .load none (.t 11), none⟩,
    ⟨(some 13), .mov (.t 1), none⟩,
    ⟨(some 14), .idx 2 (.t 12) (.t 13), none⟩,
    ⟨(some 15), .fld 0 (.t 14), none⟩,
    ⟨(some 16), .load none (.t 15), none⟩,
    ⟨(some 17), .idx 1 (.t 8) (.t 16), none⟩,
    ⟨(some 18), .load none (.t 17), none⟩,
    ⟨(some 19), .mov (.t 0), none⟩,
    ⟨(some 20), .nilck (.t 19), none⟩,
    ⟨(some 21), .fld 1 (.t 20), none⟩,
    ⟨(some 22), .load none (.t 21), none⟩,
    ⟨(some 23), .mov (.t 1), none⟩,
    ⟨(some 24), .idx 2 (.t 22) (.t 23), none⟩,
    ⟨(some 25), .fld 1 (.t 24), none⟩,
    ⟨(some 26), .load none (.t 25), none⟩,
    ⟨(some 27), .idx 13 (.t 18) (.t 26), none⟩,
    ⟨(some 28), .load (some 13) (.t 27), none⟩,
    ⟨none, .store 13 (.t 4) (.t 28), none⟩] (.take 0 [0, 1, 24, 2, 3, 12, 13, 22, 23] (.take 1 [1, 2, 24, 3, 12, 13, 22, 23] (.take 2 [2, 3, 24, 12, 13, 22, 23] (.take 3 [3, 12, 24, 13, 22, 23] (.take 4 [4, 5, 24, 6, 7, 9, 10, 11, 12, 13, 22, 23] (.take 5 [5, 6, 24, 7, 9, 10, 11, 12, 13, 22, 23] (.take 6 [6, 7, 24, 9, 10, 11, 12, 13, 22, 23] (.take 7 [7, 9, 24, 10, 11, 12, 13, 22, 23] (.take 8 [8, 9, 24, 10, 11, 12, 13, 22, 23] (.take 9 [9, 10, 24, 11, 12, 13, 22, 23] (.take 10 [10, 11, 24, 12, 13, 22, 23] (.take 11 [11, 12, 24, 13, 22, 23] (.take 12 [12, 13, 24, 22, 23] (.take 13 [13, 22, 24, 23] (.take 14 [14, 15, 24, 16, 17, 19, 20, 21, 22, 23] (.take 15 [15, 16, 24, 17, 19, 20, 21, 22, 23] (.take 16 [16, 17, 24, 19, 20, 21, 22, 23] (.take 17 [17, 19, 24, 20, 21, 22, 23] (.take 18 [18, 19, 24, 20, 21, 22, 23] (.take 19 [19, 20, 24, 21, 22, 23] (.take 20 [20, 21, 24, 22, 23] (.take 21 [21, 22, 24, 23] (.take 22 [22, 23, 24] (.take 23 [23, 24] (.eff false 24 .done))))))))))))))))))))))))))
  .ret))⟩
theorem pf55_eq : (Tryd.f55.body.map fun c => (cfn Tryd.prog pl55 Tryd.f55 c, guardsAll pl55 c)) = some (pf55, true) := by kernel_rfl

/-- corral/wmo.writes  sizes [] -/
def pl56 : Nat → DT := dtGet []
def pf56 : PFn := ⟨11, [.t 2], (.seq (.ops false [⟨(some 1), .box 38 (.t 0), none⟩,
    ⟨(some 2), .mov (.c (.v (.bool false))), none⟩] .done)
  (.seq (.ops false [⟨(some 3), .fld 0 (.t 1), none⟩,
    ⟨(some 4), .load none (.t 3), none⟩,
    ⟨(some 5), .bin .eql (.t 4) (.c (.v (.int .i64 2))), none⟩,
    ⟨(some 6), .mov (.t 5), none⟩,
    ⟨(some 7), .fld 0 (.t 1), some (6, false)⟩,
    ⟨(some 8), .load none (.t 7), some (6, false)⟩,
    ⟨(some 9), .bin .eql (.t 8) (.c (.v (.int .i64 3))), some (6, false)⟩,
    ⟨(some 10), .pick (.t 6) (.c (.v (.bool true))) (.t 9), none⟩,
    ⟨(some 2), .mov (.t 10), none⟩] .done)
  .ret))⟩
theorem pf56_eq : (Tryd.f56.body.map fun c => (cfn Tryd.prog pl56 Tryd.f56 c, guardsAll pl56 c)) = some (pf56, true) := by kernel_rfl

/-- corral/wmo.bytes  sizes [] -/
def pl57 : Nat → DT := dtGet []
def pf57 : PFn := ⟨20, [.t 2], (.seq (.ops false [⟨(some 1), .box 38 (.t 0), none⟩,
    ⟨(some 2), .mov (.c (.v (.slice none 0 0))), none⟩] .done)
  (.seq (.ops false [⟨(some 3), .mov (.c (.v (.slice none 0 0))), none⟩] .done)
  (.seq (.seq (.ops false [⟨(some 5), .fld 1 (.t 1), none⟩,
     ⟨(some 6), .load none (.t 5), none⟩,
     ⟨(some 7), .mov (.c (.v (.int .i64 0))), none⟩] .done)
   (.block 0 (.loop (.seq (.ops false [⟨(some 8), .bin .lss (.t 7) (.t 6), none⟩] .done)
     (.seq (.cond (.t 8)
       .skip
       (.exit 0))
     (.seq (.block 1 (.seq (.ops false [⟨(some 9), .mov (.t 7), none⟩,
         ⟨(some 4), .mov (.t 9), none⟩] .done)
       (.ops false [⟨(some 10), .mov (.t 3), none⟩,
        ⟨(some 11), .fld 2 (.t 1), none⟩,
        ⟨(some 12), .load none (.t 11), none⟩,
        ⟨(some 13), .mov (.t 4), none⟩,
        ⟨(some 14), .conv .u32 (.t 13), none⟩,
        ⟨(some 15), .bin .add (.t 12) (.t 14), none⟩,
        ⟨(some 16), .bslice 36 [.int .u32] 1 [(.v (.int .u32 0))] [(0, 1, (.t 15))], none⟩,
        ⟨(some 17), .append 36 [.int .u32] [(.int .u32 0)] 4 (.t 10) (.t 16), none⟩,
        ⟨(some 3), .mov (.t 17), none⟩] .done)))
     (.ops false [⟨(some 18), .bin .add (.t 7) (.c (.v (.int .i64 1))), none⟩,
      ⟨(some 7), .mov (.t 18), none⟩] .done)))))))
  (.seq (.ops false [⟨(some 19), .mov (.t 3), none⟩,
    ⟨(some 2), .mov (.t 19), none⟩] .done)
  .ret))))⟩
theorem pf57_eq : (Tryd.f57.body.map fun c => (cfn Tryd.prog pl57 Tryd.f57 c, guardsAll pl57 c)) = some (pf57, true) := by kernel_rfl

/-- corral/ppo.With  sizes [(1, 20), (2, 2), (5, 2), (7, 2), (9, 2), (17, 2), (25, 2), (27, 2), (29, 2)] -/
def pl58 : Nat → DT := dtGet [(1, (.eff true 1000000 (.take 0 [0, 2, 10, 11, 3] (.take 1 [1, 2, 10, 11, 3] (.take 2 [2, 3, 10, 11] (.take 3 [3, 10, 11] (.take 4 [4, 6, 11, 7] (.take 5 [5, 6, 11, 7] (.take 6 [6, 7, 11] (.take 7 [7, 11] (.both (.eff true 8 (.eff true 9 (.eff false 10 (.eff false 11 .done)))) (.eff true 9 (.eff true 8 (.eff false 10 (.eff false 11 .done))))))))))))))), (2, (.eff true 1000000 .done)), (5, (.eff true 1000000 .done)), (7, (.eff true 1000000 .done)), (9, (.eff true 1000000 .done)), (17, (.eff true 1000000 .done)), (25, (.eff true 1000000 .done)), (27, (.eff true 1000000 .done)), (29, (.eff true 1000000 .done))]
def pf58 : PFn := ⟨145, [.t 8], (.seq (.ops false [⟨(some 8), .mov (.c (.v (.int .i64 0))), none⟩] .done)
  (.seq (.cut (.ops true [⟨(some 12), .mov (.t 0), none⟩,
     ⟨(some 13), .mov (.t 2), none⟩,
     ⟨(some 14), .idx 13 (.t 12) (.t 13), none⟩,
     ⟨(some 15), .load (some 13) (.t 14), none⟩,
     ⟨(some 16), .mov (.t 0), none⟩,
     ⟨(some 17), .mov (.t 3), none⟩,
     ⟨(some 18), .idx 13 (.t 16) (.t 17), none⟩,
     ⟨(some 19), .load (some 13) (.t 18), none⟩,
     ⟨(some 9), .box 38 (.c (.agg [(.v (.int .i64 0)), (.v (.int .i64 0)), (.v (.int .u32 0)), (.v (.int .u32 0)), (.v (.int .u32 0)), (.v (.bool false)), (.v (.bool false)), (.v (.bool false)), (.v (.int .i64 0)), (.v (.int .i64 0)), (.v (.slice none 0 0)), (.v (.slice none 0 0)), (.v (.slice none 0 0))])), none⟩,
     ⟨(some 10), .box 38 (.c (.agg [(.v (.int .i64 0)), (.v (.int .i64 0)), (.v (.int .u32 0)), (.v (.int .u32 0)), (.v (.int .u32 0)), (.v (.bool false)), (.v (.bool false)), (.v (.bool false)), (.v (.int .i64 0)), (.v (.int .i64 0)), (.v (.slice none 0 0)), (.v (.slice none 0 0)), (.v (.slice none 0 0))])), none⟩,
     ⟨none, .store 13 (.t 9) (.t 15), none⟩,
     ⟨none, .store 13 (.t 10) (.t 19), none⟩] (.take 0 [0, 2, 10, 11, 3] (.take 1 [1, 2, 10, 11, 3] (.take 2 [2, 3, 10, 11] (.take 3 [3, 10, 11] (.take 4 [4, 6, 11, 7] (.take 5 [5, 6, 11, 7] (.take 6 [6, 7, 11] (.take 7 [7, 11] (.both (.eff true 8 (.eff true 9 (.eff false 10 (.eff false 11 .done)))) (.eff true 9 (.eff true 8 (.eff false 10 (.eff false 11 .done)))))))))))))))
  (.seq (.seq (.cut (.ops false [⟨(some 20), .fld 0 (.t 9), none⟩,
      ⟨(some 21), .load none (.t 20), none⟩,
      ⟨(some 22), .bin .eql (.t 21) (.c (.v (.int .i64 4))), none⟩,
      ⟨(some 23), .mov (.t 22), none⟩,
      ⟨(some 24), .fld 0 (.t 10), some (23, false)⟩,
      ⟨(some 25), .load none (.t 24), some (23, false)⟩,
      ⟨(some 26), .bin .eql (.t 25) (.c (.v (.int .i64 4))), some (23, false)⟩,
      ⟨(some 27), .pick (.t 23) (.c (.v (.bool true))) (.t 26), none⟩] .done))
   (.cond (.t 27)
    (.seq (.ops false [⟨(some 8), .mov (.c (.v (.int .i64 0))), none⟩] .done)
     .ret)
    .skip))
  (.seq (.ops false [⟨(some 28), .mov (.t 0), none⟩,
    ⟨(some 29), .mov (.t 2), none⟩,
    ⟨(some 30), .bin .add (.t 29) (.c (.v (.int .i64 1))), none⟩,
    ⟨(some 31), .mov (.t 3), none⟩,
    ⟨(some 32), .slice 13 (.t 28) (some (.t 30)) (some (.t 31)) none, none⟩,
    ⟨(some 11), .mov (.t 32), none⟩] .done)
  (.seq (.block 0 (.seq (.cut (.ops false [⟨(some 34), .load (some 13) (.t 10), none⟩,
       ⟨(some 35), .call 74 [(.t 34)], none⟩,
       ⟨(some 36), .mov (.t 35), none⟩,
       ⟨(some 37), .load (some 13) (.t 9), some (36, true)⟩,
       ⟨(some 38), .load (some 13) (.t 10), some (36, true)⟩,
       ⟨(some 39), .bslice 38 [.int .i64, .int .i64, .int .u32, .int .u32, .int .u32, .bool, .bool, .bool, .int .i64, .int .i64, .sl, .sl, .sl] 2 [(.v (.int .i64 0)), (.v (.int .i64 0)), (.v (.int .u32 0)), (.v (.int .u32 0)), (.v (.int .u32 0)), (.v (.bool false)), (.v (.bool false)), (.v (.bool false)), (.v (.int .i64 0)), (.v (.int .i64 0)), (.v (.slice none 0 0)), (.v (.slice none 0 0)), (.v (.slice none 0 0)), (.v (.int .i64 0)), (.v (.int .i64 0)), (.v (.int .u32 0)), (.v (.int .u32 0)), (.v (.int .u32 0)), (.v (.bool false)), (.v (.bool false)), (.v (.bool false)), (.v (.int .i64 0)), (.v (.int .i64 0)), (.v (.slice none 0 0)), (.v (.slice none 0 0)), (.v (.slice none 0 0))] [(0, 13, (.t 37)), (13, 13, (.t 38))], some (36, true)⟩,
       ⟨(some 40), .call 75 [(.t 39)], some (36, true)⟩,
       ⟨(some 41), .pick (.t 36) (.t 40) (.c (.v (.bool false))), none⟩,
       ⟨(some 33), .mov (.t 41), none⟩] .done))
    (.cond (.t 33)
     (.seq (.ops false [⟨(some 8), .mov (.c (.v (.int .i64 1))), none⟩] .done)
      .ret)
     (.seq (.cut (.ops false [⟨(some 43), .load (some 13) (.t 9), none⟩,
         ⟨(some 44), .call 76 [(.t 43)], none⟩,
         ⟨(some 45), .mov (.t 44), none⟩,
         ⟨(some 46), .load (some 13) (.t 10), some (45, true)⟩,
         ⟨(some 47), .call 76 [(.t 46)], some (45, true)⟩,
         ⟨(some 48), .pick (.t 45) (.t 47) (.c (.v (.bool false))), none⟩,
         ⟨(some 49), .mov (.t 48), none⟩,
         ⟨(some 50), .load (some 13) (.t 9), some (49, true)⟩,
         ⟨(some 51), .load (some 13) (.t 10), some (49, true)⟩,
         ⟨(some 52), .bslice 38 [.int .i64, .int .i64, .int .u32, .int .u32, .int .u32, .bool, .bool, .bool, .int .i64, .int .i64, .sl, .sl, .sl] 2 [(.v (.int .i64 0)), (.v (.int .i64 0)), (.v (.int .u32 0)), (.v (.int .u32 0)), (.v (.int .u32 0)), (.v (.bool false)), (.v (.bool false)), (.v (.bool false)), (.v (.int .i64 0)), (.v (.int .i64 0)), (.v (.slice none 0 0)), (.v (.slice none 0 0)), (.v (.slice none 0 0)), (.v (.int .i64 0)), (.v (.int .i64 0)), (.v (.int .u32 0)), (.v (.int .u32 0)), (.v (.int .u32 0)), (.v (.bool false)), (.v (.bool false)), (.v (.bool false)), (.v (.int .i64 0)), (.v (.int .i64 0)), (.v (.slice none 0 0)), (.v (.slice none 0 0)), (.v (.slice none 0 0))] [(0, 13, (.t 50)), (13, 13, (.t 51))], some (49, true)⟩,
         ⟨(some 53), .call 75 [(.t 52)], some (49, true)⟩,
         ⟨(some 54), .pick (.t 49) (.t 53) (.c (.v (.bool false))), none⟩,
         ⟨(some 55), .mov (.t 54), none⟩,
         ⟨(some 56), .mov (.t 11), some (55, true)⟩,
         ⟨(some 57), .load (some 13) (.t 9), some (55, true)⟩,
         ⟨(some 58), .load (some 13) (.t 10), some (55, true)⟩,
         ⟨(some 59), .call 77 [(.t 56), (.t 57), (.t 58)], some (55, true)⟩,
         ⟨(some 60), .un .not (.t 59), some (55, true)⟩,
         ⟨(some 61), .pick (.t 55) (.t 60) (.c (.v (.bool false))), none⟩,
         ⟨(some 42), .mov (.t 61), none⟩] .done))
      (.cond (.t 42)
       (.seq (.ops false [⟨(some 8), .mov (.c (.v (.int .i64 2))), none⟩] .done)
        .ret)
       (.seq (.cut (.ops false [⟨(some 63), .fld 0 (.t 9), none⟩,
           ⟨(some 64), .load none (.t 63), none⟩,
           ⟨(some 65), .bin .eql (.t 64) (.c (.v (.int .i64 3))), none⟩,
           ⟨(some 66), .mov (.t 65), none⟩,
           ⟨(some 67), .fld 5 (.t 9), some (66, false)⟩,
           ⟨(some 68), .load none (.t 67), some (66, false)⟩,
           ⟨(some 69), .mov (.t 68), some (66, false)⟩,
           ⟨(some 70), .load (some 13) (.t 9), some (69, true)⟩,
           ⟨(some 71), .call 74 [(.t 70)], some (69, true)⟩,
           ⟨(some 72), .pick (.t 69) (.t 71) (.c (.v (.bool false))), some (66, false)⟩,
           ⟨(some 73), .pick (.t 66) (.c (.v (.bool true))) (.t 72), none⟩,
           ⟨(some 74), .mov (.t 73), none⟩,
           ⟨(some 75), .load (some 13) (.t 10), some (74, true)⟩,
           ⟨(some 76), .call 76 [(.t 75)], some (74, true)⟩,
           ⟨(some 77), .pick (.t 74) (.t 76) (.c (.v (.bool false))), none⟩,
           ⟨(some 78), .mov (.t 77), none⟩,
           ⟨(some 79), .load (some 13) (.t 9), some (78, true)⟩,
           ⟨(some 80), .load (some 13) (.t 10), some (78, true)⟩,
           ⟨(some 81), .bslice 38 [.int .i64, .int .i64, .int .u32, .int .u32, .int .u32, .bool, .bool, .bool, .int .i64, .int .i64, .sl, .sl, .sl] 2 [(.v (.int .i64 0)), (.v (.int .i64 0)), (.v (.int .u32 0)), (.v (.int .u32 0)), (.v (.int .u32 0)), (.v (.bool false)), (.v (.bool false)), (.v (.bool false)), (.v (.int .i64 0)), (.v (.int .i64 0)), (.v (.slice none 0 0)), (.v (.slice none 0 0)), (.v (.slice none 0 0)), (.v (.int .i64 0)), (.v (.int .i64 0)), (.v (.int .u32 0)), (.v (.int .u32 0)), (.v (.int .u32 0)), (.v (.bool false)), (.v (.bool false)), (.v (.bool false)), (.v (.int .i64 0)), (.v (.int .i64 0)), (.v (.slice none 0 0)), (.v (.slice none 0 0)), (.v (.slice none 0 0))] [(0, 13, (.t 79)), (13, 13, (.t 80))], some (78, true)⟩,
           ⟨(some 82), .call 75 [(.t 81)], some (78, true)⟩,
           ⟨(some 83), .pick (.t 78) (.t 82) (.c (.v (.bool false))), none⟩,
           ⟨(some 62), .mov (.t 83), none⟩] .done))
        (.cond (.t 62)
         (.seq (.ops false [⟨(some 8), .mov (.c (.v (.int .i64 3))), none⟩] .done)
          .ret)
         (.seq (.ops false [⟨(some 85), .mov (.t 11), none⟩,
            ⟨(some 86), .load (some 13) (.t 9), none⟩,
            ⟨(some 87), .load (some 13) (.t 10), none⟩,
            ⟨(some 88), .call 78 [(.t 85), (.t 86), (.t 87)], none⟩,
            ⟨(some 84), .mov (.t 88), none⟩] .done)
          (.cond (.t 84)
           (.seq (.ops false [⟨(some 8), .mov (.c (.v (.int .i64 4))), none⟩] .done)
            .ret)
           (.seq (.ops false [⟨(some 90), .fld 6 (.t 9), none⟩,
              ⟨(some 91), .load none (.t 90), none⟩,
              ⟨(some 89), .mov (.t 91), none⟩] .done)
            (.cond (.t 89)
             (.seq (.ops false [⟨(some 8), .mov (.c (.v (.int .i64 5))), none⟩] .done)
              .ret)
             (.seq (.ops false [⟨(some 93), .fld 7 (.t 10), none⟩,
                ⟨(some 94), .load none (.t 93), none⟩,
                ⟨(some 92), .mov (.t 94), none⟩] .done)
              (.cond (.t 92)
               (.seq (.ops false [⟨(some 8), .mov (.c (.v (.int .i64 6))), none⟩] .done)
                .ret)
               (.seq (.cut (.ops false [⟨(some 96), .load (some 13) (.t 9), none⟩,
                   ⟨(some 97), .call 79 [(.t 96)], none⟩,
                   ⟨(some 98), .mov (.t 97), none⟩,
                   ⟨(some 99), .load (some 13) (.t 10), some (98, true)⟩,
                   ⟨(some 100), .call 79 [(.t 99)], some (98, true)⟩,
                   ⟨(some 101), .pick (.t 98) (.t 100) (.c (.v (.bool false))), none⟩,
                   ⟨(some 95), .mov (.t 101), none⟩] .done))
                (.cond (.t 95)
                 (.seq (.ops false [⟨(some 8), .mov (.c (.v (.int .i64 7))), none⟩] .done)
                  .ret)
                 (.seq (.ops false [⟨(some 103), .mov (.t 1), none⟩,
                    ⟨(some 104), .mov (.t 3), none⟩,
                    ⟨(some 105), .idx 1 (.t 103) (.t 104), none⟩,
                    ⟨(some 106), .load none (.t 105), none⟩,
                    ⟨(some 107), .mov (.t 2), none⟩,
                    ⟨(some 108), .bin .eql (.t 106) (.t 107), none⟩,
                    ⟨(some 102), .mov (.t 108), none⟩] .done)
                  (.cond (.t 102)
                   (.seq (.ops false [⟨(some 8), .mov (.c (.v (.int .i64 8))), none⟩] .done)
                    .ret)
                   (.seq (.ops false [⟨(some 110), .fld 10 (.t 10), none⟩,
                      ⟨(some 111), .load none (.t 110), none⟩,
                      ⟨(some 112), .mov (.t 2), none⟩,
                      ⟨(some 113), .call 80 [(.t 111), (.t 112)], none⟩,
                      ⟨(some 109), .mov (.t 113), none⟩] .done)
                    (.cond (.t 109)
                     (.seq (.ops false [⟨(some 8), .mov (.c (.v (.int .i64 9))), none⟩] .done)
                      .ret)
                     (.seq (.ops false [⟨(some 115), .fld 11 (.t 10), none⟩,
                        ⟨(some 116), .load none (.t 115), none⟩,
                        ⟨(some 117), .mov (.t 2), none⟩,
                        ⟨(some 118), .call 80 [(.t 116), (.t 117)], none⟩,
                        ⟨(some 114), .mov (.t 118), none⟩] .done)
                      (.cond (.t 114)
                       (.seq (.ops false [⟨(some 8), .mov (.c (.v (.int .i64 10))), none⟩] .done)
                        .ret)
                       (.seq (.cut (.ops false [⟨(some 120), .load (some 13) (.t 10), none⟩,
                           ⟨(some 121), .call 74 [(.t 120)], none⟩,
                           ⟨(some 122), .mov (.t 121), none⟩,
                           ⟨(some 123), .fld 12 (.t 10), some (122, true)⟩,
                           ⟨(some 124), .load none (.t 123), some (122, true)⟩,
                           ⟨(some 125), .mov (.t 2), some (122, true)⟩,
                           ⟨(some 126), .call 80 [(.t 124), (.t 125)], some (122, true)⟩,
                           ⟨(some 127), .pick (.t 122) (.t 126) (.c (.v (.bool false))), none⟩,
                           ⟨(some 119), .mov (.t 127), none⟩] .done))
                        (.cond (.t 119)
                         (.seq (.ops false [⟨(some 8), .mov (.c (.v (.int .i64 11))), none⟩] .done)
                          .ret)
                         (.seq (.cut (.ops false [⟨(some 129), .load (some 13) (.t 10), none⟩,
                             ⟨(some 130), .call 76 [(.t 129)], none⟩,
                             ⟨(some 131), .mov (.t 130), none⟩,
                             ⟨(some 132), .mov (.t 0), some (131, true)⟩,
                             ⟨(some 133), .mov (.t 2), some (131, true)⟩,
                             ⟨(some 134), .mov (.t 3), some (131, true)⟩,
                             ⟨(some 135), .call 81 [(.t 132), (.t 133), (.t 134)], some (131, true)⟩,
                             ⟨(some 136), .pick (.t 131) (.t 135) (.c (.v (.bool false))), none⟩,
                             ⟨(some 128), .mov (.t 136), none⟩] .done))
                          (.cond (.t 128)
                           (.seq (.ops false [⟨(some 8), .mov (.c (.v (.int .i64 12))), none⟩] .done)
                            .ret)
                           (.seq (.cut (.ops false [⟨(some 138), .load (some 13) (.t 10), none⟩,
                               ⟨(some 139), .call 74 [(.t 138)], none⟩,
                               ⟨(some 140), .mov (.t 139), none⟩,
                               ⟨(some 141), .mov (.t 11), some (140, true)⟩,
                               ⟨(some 142), .mov (.t 2), some (140, true)⟩,
                               ⟨(some 143), .call 82 [(.t 141), (.t 142)], some (140, true)⟩,
                               ⟨(some 144), .pick (.t 140) (.t 143) (.c (.v (.bool false))), none⟩,
                               ⟨(some 137), .mov (.t 144), none⟩] .done))
                            (.cond (.t 137)
                             (.seq (.ops false [⟨(some 8), .mov (.c (.v (.int .i64 13))), none⟩] .done)
                              .ret)
                             .skip)))))))))))))))))))))))))))
  (.seq (.ops false [⟨(some 8), .mov (.c (.v (.int .i64 0))), none⟩] .done)
  .ret))))))⟩
theorem pf58_eq : (Tryd.f58.body.map fun c => (cfn Tryd.prog pl58 Tryd.f58 c, guardsAll pl58 c)) = some (pf58, true) := by kernel_rfl

/-- corral/wmo.reads  sizes [] -/
def pl59 : Nat → DT := dtGet []
def pf59 : PFn := ⟨11, [.t 2], (.seq (.ops false [⟨(some 1), .box 38 (.t 0), none⟩,
    ⟨(some 2), .mov (.c (.v (.bool false))), none⟩] .done)
  (.seq (.ops false [⟨(some 3), .fld 0 (.t 1), none⟩,
    ⟨(some 4), .load none (.t 3), none⟩,
    ⟨(some 5), .bin .eql (.t 4) (.c (.v (.int .i64 1))), none⟩,
    ⟨(some 6), .mov (.t 5), none⟩,
    ⟨(some 7), .fld 0 (.t 1), some (6, false)⟩,
    ⟨(some 8), .load none (.t 7), some (6, false)⟩,
    ⟨(some 9), .bin .eql (.t 8) (.c (.v (.int .i64 3))), some (6, false)⟩,
    ⟨(some 10), .pick (.t 6) (.c (.v (.bool true))) (.t 9), none⟩,
    ⟨(some 2), .mov (.t 10), none⟩] .done)
  .ret))⟩
theorem pf59_eq : (Tryd.f59.body.map fun c => (cfn Tryd.prog pl59 Tryd.f59 c, guardsAll pl59 c)) = some (pf59, true) := by kernel_rfl

/-- (*corral/wmo.checker).source  sizes [(6, 30)] -/
def pl60 : Nat → DT := dtGet [(6, (.take 0 [0, 2, 3, 4, 5, 6, 7, 8, 9, 10, 11, 12, 13, 14, 15, 27, 28, 16, 17, 18, 19, 20, 21, 22, 23, 24, 25, 26] (.take 1 [1, 2, 3, 4, 5, 6, 7, 8, 9, 10, 11, 12, 13, 14, 15, 27, 28, 16, 17, 18, 19, 20, 21, 22, 23, 24, 25, 26] (.take 2 [2, 3, 4, 5, 6, 7, 8, 9, 10, 11, 12, 13, 14, 15, 27, 28, 16, 17, 18, 19, 20, 21, 22, 23, 24, 25, 26] (.take 3 [3, 4, 5, 6, 7, 8, 9, 10, 11, 12, 13, 14, 15, 27, 28, 16, 17, 18, 19, 20, 21, 22, 23, 24, 25, 26] (.take 4 [4, 5, 6, 7, 9, 10, 11, 14, 15, 16, 17, 18, 19, 20, 21, 22, 23, 24, 25, 26, 27, 28] (.take 5 [5, 6, 7, 9, 10, 11, 14, 15, 16, 17, 18, 19, 20, 21, 22, 23, 24, 25, 26, 27, 28] (.take 6 [6, 7, 9, 10, 11, 14, 15, 16, 17, 18, 19, 20, 21, 22, 23, 24, 25, 26, 27, 28] (.take 7 [7, 9, 10, 11, 14, 15, 16, 17, 18, 19, 20, 21, 22, 23, 24, 25, 26, 27, 28] (.take 8 [8, 9, 10, 11, 14, 15, 16, 17, 18, 19, 20, 21, 22, 23, 24, 25, 26, 27, 28] (.take 9 [9, 10, 11, 14, 15, 16, 17, 18, 19, 20, 21, 22, 23, 24, 25, 26, 27, 28] (.take 10 [10, 11, 14, 15, 16, 17, 18, 19, 20, 21, 22, 23, 24, 25, 26, 27, 28] (.take 11 [11, 14, 15, 16, 17, 18, 19, 20, 21, 22, 23, 24, 25, 26, 27, 28] (.take 12 [12, 13, 14, 15, 16, 17, 18, 19, 20, 21, 22, 23, 24, 25, 26, 27, 28] (.take 13 [13, 14, 15, 16, 17, 18, 19, 20, 21, 22, 23, 24, 25, 26, 27, 28] (.take 14 [14, 15, 16, 17, 18, 19, 20, 21, 22, 23, 24, 25, 26, 27, 28] (.take 15 [15, 16, 17, 18, 19, 20, 21, 22, 23, 24, 25, 26, 27, 28] (.take 16 [16, 17, 18, 19, 21, 22, 23, 26, 27, 28] (.take 17 [17, 18, 19, 21, 22, 23, 26, 27, 28] (.take 18 [18, 19, 21, 22, 23, 26, 27, 28] (.take 19 [19, 21, 22, 23, 26, 27, 28] (.take 20 [20, 21, 22, 23, 26, 27, 28] (.take 21 [21, 22, 23, 26, 27, 28] (.take 22 [22, 23, 26, 27, 28] (.take 23 [23, 26, 27, 28] (.take 24 [24, 25, 26, 27, 28] (.take 25 [25, 26, 27, 28] (.take 26 [26, 27, 28] (.take 27 [27, 28] (.take 28 [28] .done))))))))))))))))))))))))))))))]
def pf60 : PFn := ⟨63, [.t 6], (.seq (.ops false [⟨(some 6), .mov (.c (.v (.int .i64 0))), none⟩] .done)
  (.seq (.ops false [⟨(some 11), .mov (.t 0), none⟩,
    ⟨(some 12), .nilck (.t 11), none⟩,
    ⟨(some 13), .fld 1 (.t 12), none⟩,
    ⟨(some 14), .load none (.t 13), none⟩,
    ⟨(some 15), .mov (.t 1), none⟩,
    ⟨(some 16), .idx 2 (.t 14) (.t 15), none⟩,
    ⟨(some 17), .load (some 2) (.t 16), none⟩,
    ⟨(some 7), .box 41 (.c (.agg [(.v (.int .i64 0)), (.v (.int .i64 0))])), none⟩,
    ⟨none, .store 2 (.t 7) (.t 17), none⟩] .done)
  (.seq (.ops false [⟨(some 8), .mov (.c (.v (.int .i64 (-1)))), none⟩] .done)
  (.seq (.seq (.ops false [⟨(some 18), .mov (.t 0), none⟩,
     ⟨(some 19), .nilck (.t 18), none⟩,
     ⟨(some 20), .fld 4 (.t 19), none⟩,
     ⟨(some 21), .load none (.t 20), none⟩,
     ⟨(some 22), .mov (.t 2), none⟩,
     ⟨(some 23), .mapget (.one .u32) none (.slice none 0 0) (.t 21) (.t 22), none⟩,
     ⟨(some 24), .len (.t 23), none⟩,
     ⟨(some 25), .mov (.c (.v (.int .i64 0))), none⟩] .done)
   (.block 0 (.loop (.seq (.ops false [⟨(some 26), .bin .lss (.t 25) (.t 24), none⟩] .done)
     (.seq (.cond (.t 26)
       .skip
       (.exit 0))
     (.seq (.block 1 (.seq (.ops false [⟨(some 27), .idx 1 (.t 23) (.t 25), none⟩,
         ⟨(some 28), .load none (.t 27), none⟩,
         ⟨(some 10), .mov (.t 28), none⟩] .done)
       (.seq (.ops true [⟨(some 29), .mov (.t 10), none⟩,
         ⟨(some 30), .mov (.t 1), none⟩,
         ⟨(some 31), .bin .lss (.t 29) (.t 30), none⟩,
         ⟨(some 32), .mov (.t 31), none⟩,
         ⟨(some 33), .mov (.t 0), some (32, false)⟩,
         ⟨(some 34), .nilck (.t 33), some (32, false)⟩,
         ⟨(some 35), .fld 1 (.t 34), some (32, false)⟩,
         ⟨(some 36), .load none (.t 35), some (32, false)⟩,
         ⟨(some 37), .mov (.t 10), some (32, false)⟩,
         ⟨(some 38), .idx 2 (.t 36) (.t 37), some (32, false)⟩,
         ⟨(some 39), .fld 0 (.t 38), some (32, false)⟩,
         ⟨(some 40), .load none (.t 39), some (32, false)⟩,
         ⟨(some 41), .fld 0 (.t 7), some (32, false)⟩,
         ⟨(some 42), .load none (.t 41), some (32, false)⟩,
         ⟨(some 43), .bin .eql (.t 40) (.t 42), some (32, false)⟩,
         ⟨(some 44), .mov (.t 43), some (32, false)⟩,
         ⟨(some 45), .mov (.t 0), some (44, true)⟩,
         ⟨(some 46), .nilck (.t 45), some (44, true)⟩,
         ⟨(some 47), .fld 1 (.t 46), some (44, true)⟩,
         ⟨(some 48), .load none (.t 47), some (44, true)⟩,
         ⟨(some 49), .mov (.t 10), some (44, true)⟩,
         ⟨(some 50), .idx 2 (.t 48) (.t 49), some (44, true)⟩,
         ⟨(some 51), .fld 1 (.t 50), some (44, true)⟩,
         ⟨(some 52), .load none (.t 51), some (44, true)⟩,
         ⟨(some 53), .fld 1 (.t 7), some (44, true)⟩,
         ⟨(some 54), .load none (.t 53), some (44, true)⟩,
         ⟨(some 55), .bin .lss (.t 52) (.t 54), some (44, true)⟩,
         ⟨(some 56), .pick (.t 44) (.t 55) (.c (.v (.bool false))), some (32, false)⟩,
         ⟨(some 57), .pick (.t 32) (.c (.v (.bool true))) (.t 56), none⟩] (.take 0 [0, 2, 3, 4, 5, 6, 7, 8, 9, 10, 11, 12, 13, 14, 15, 27, 28, 16, 17, 18, 19, 20, 21, 22, 23, 24, 25, 26] (.take 1 [1, 2, 3, 4, 5, 6, 7, 8, 9, 10, 11, 12, 13, 14, 15, 27, 28, 16, 17, 18, 19, 20, 21, 22, 23, 24, 25, 26] (.take 2 [2, 3, 4, 5, 6, 7, 8, 9, 10, 11, 12, 13, 14, 15, 27, 28, 16, 17, 18, 19, 20, 21, 22, 23, 24, 25, 26] (.take 3 [3, 4, 5, 6, 7, 8, 9, 10, 11, 12, 13, 14, 15, 27, 28, 16, 17, 18, 19, 20, 21, 22, 23, 24, 25, 26] (.take 4 [4, 5, 6, 7, 9, 10, 11, 14, 15, 16, 17, 18, 19, 20, 21, 22, 23, 24, 25, 26, 27, 28] (.take 5 [5, 6, 7, 9, 10, 11, 14, 15, 16, 17, 18, 19, 20, 21, 22, 23, 24, 25, 26, 27, 28] (.take 6 [6, 7, 9, 10, 11, 14, 15, 16, 17, 18, 19, 20, 21, 22, 23, 24, 25, 26, 27, 28] (.take 7 [7, 9, 10, 11, 14, 15, 16, 17, 18, 19, 20, 21, 22, 23, 24, 25, 26, 27, 28] (.take 8 [8, 9, 10, 11, 14, 15, 16, 17, 18, 19, 20, 21, 22, 23, 24, 25, 26, 27, 28] (.take 9 [9, 10, 11, 14, 15, 16, 17, 18, 19, 20, 21, 22, 23, 24, 25, 26, 27, 28] (.take 10 [10, 11, 14, 15, 16, 17, 18, 19, 20, 21, 22, 23, 24, 25, 26, 27, 28] (.take 11 [11, 14, 15, 16, 17, 18, 19, 20, 21, 22, 23, 24, 25, 26, 27, 28] (.take 12 [12, 13, 14, 15, 16, 17, 18, 19, 20, 21, 22, 23, 24, 25, 26, 27, 28] (.take 13 [13, 14, 15, 16, 17, 18, 19, 20, 21, 22, 23, 24, 25, 26, 27, 28] (.take 14 [14, 15, 16, 17, 18, 19, 20, 21, 22, 23, 24, 25, 26, 27, 28] (.take 15 [15, 16, 17, 18, 19, 20, 21, 22, 23, 24, 25, 26, 27, 28] (.take 16 [16, 17, 18, 19, 21, 22, 23, 26, 27, 28] (.take 17 [17, 18, 19, 21, 22, 23, 26, 27, 28] (.take 18 [18, 19, 21, 22, 23, 26, 27, 28] (.take 19 [19, 21, 22, 23, 26, 27, 28] (.take 20 [20, 21, 22, 23, 26, 27, 28] (.take 21 [21, 22, 23, 26, 27, 28] (.take 22 [22, 23, 26, 27, 28] (.take 23 [23, 26, 27, 28] (.take 24 [24, 25, 26, 27, 28] (.take 25 [25, 26, 27, 28] (.take 26 [26, 27, 28] (.take 27 [27, 28] (.take 28 [28] .done))))))))))))))))))))))))))))))
       (.cond (.t 57)
        (.ops false [⟨(some 58), .mov (.t 8), none⟩,
          ⟨(some 59), .mov (.t 10), none⟩,
          ⟨(some 60), .minmax true [(.t 58), (.t 59)], none⟩,
          ⟨(some 8), .mov (.t 60), none⟩] .done)
        .skip))))
     (.ops false [⟨(some 61), .bin .add (.t 25) (.c (.v (.int .i64 1))), none⟩,
      ⟨(some 25), .mov (.t 61), none⟩] .done)))))))
  (.seq (.ops false [⟨(some 62), .mov (.t 8), none⟩,
    ⟨(some 6), .mov (.t 62), none⟩] .done)
  .ret)))))⟩
theorem pf60_eq : (Tryd.f60.body.map fun c => (cfn Tryd.prog pl60 Tryd.f60 c, guardsAll pl60 c)) = some (pf60, true) := by kernel_rfl

/-- corral/wmo.byteOf  sizes [] -/
def pl61 : Nat → DT := dtGet []
def pf61 : PFn := ⟨14, [.t 6], (.seq (.ops false [⟨(some 6), .mov (.c (.v (.int .u8 0))), none⟩] .done)
  (.seq (.ops false [⟨(some 7), .mov (.t 0), none⟩,
    ⟨(some 8), .mov (.t 2), none⟩,
    ⟨(some 9), .mov (.t 1), none⟩,
    ⟨(some 10), .bin .sub (.t 8) (.t 9), none⟩,
    ⟨(some 11), .bin .mul (.c (.v (.int .u32 8))) (.t 10), none⟩,
    ⟨(some 12), .bin .shr (.t 7) (.t 11), none⟩,
    ⟨(some 13), .conv .u8 (.t 12), none⟩,
    ⟨(some 6), .mov (.t 13), none⟩] .done)
  .ret))⟩
theorem pf61_eq : (Tryd.f61.body.map fun c => (cfn Tryd.prog pl61 Tryd.f61 c, guardsAll pl61 c)) = some (pf61, true) := by kernel_rfl

/-- corral/corralsee.fault  sizes [(9, 13)] -/
def pl62 : Nat → DT := dtGet [(9, (.take 0 [0, 1, 11, 10] (.take 1 [1, 10, 11] (.take 2 [2, 3, 11, 4, 5, 6, 9, 10] (.take 3 [3, 4, 11, 5, 6, 9, 10] (.take 4 [4, 5, 11, 6, 9, 10] (.take 5 [5, 6, 11, 9, 10] (.take 7 [7, 8, 11, 9, 10] (.take 8 [8, 9, 11, 10] (.eff true 6 (.eff false 9 (.take 10 [10, 11] (.eff false 11 .done)))))))))))))]
def pf62 : PFn := ⟨42, [.cell 4 (some 2)], (.seq (.ops false [⟨(some 4), .box 27 (.c (.agg [(.v (.int .i64 0)), (.v (.slice none 0 0))])), none⟩] .done)
  (.seq (.seq (.ops false [⟨(some 7), .mov (.t 0), none⟩,
     ⟨(some 8), .eqp 1 true false (.t 7) (.c (.v .nilIface)), none⟩,
     ⟨(some 9), .mov (.t 8), none⟩,
     ⟨(some 10), .mov (.t 1), some (9, false)⟩,
     ⟨(some 11), .bin .eql (.t 10) (.c (.v (.int .i64 0))), some (9, false)⟩,
     ⟨(some 12), .pick (.t 9) (.c (.v (.bool true))) (.t 11), none⟩] .done)
   (.cond (.t 12)
    (.seq (.ops false [⟨(some 13), .call 27 [(.c (.v (.int .i64 (-1))))], none⟩,
       ⟨none, .store 2 (.t 4) (.t 13), none⟩] .done)
     .ret)
    .skip))
  (.seq (.seq (.ops false [⟨(some 14), .mov (.t 0), none⟩] .done)
   (.block 0 (.seq (.ops false [⟨(some 15), .tassert 97 true (.v (.pointer none)) (.t 14), none⟩,
      ⟨(some 16), .ext (.t 15) 1, none⟩,
      ⟨(some 17), .ext (.t 15) 0, none⟩] .done)
    (.cond (.t 16)
     (.seq (.ops false [⟨(some 5), .mov (.t 17), none⟩] .done)
      (.seq (.seq (.ops false [⟨(some 18), .mov (.t 5), none⟩,
         ⟨(some 19), .eqp 0 true false (.t 18) (.c (.v (.pointer none))), none⟩] .done)
       (.cond (.t 19)
        (.seq (.ops false [⟨(some 20), .call 27 [(.c (.v (.int .i64 (-1))))], none⟩,
           ⟨none, .store 2 (.t 4) (.t 20), none⟩] .done)
         .ret)
        .skip))
      (.seq (.ops false [⟨(some 21), .mov (.t 5), none⟩,
        ⟨(some 22), .nilck (.t 21), none⟩,
        ⟨(some 23), .fld 1 (.t 22), none⟩,
        ⟨(some 24), .load none (.t 23), none⟩,
        ⟨(some 25), .mov (.t 1), none⟩,
        ⟨(some 26), .bin .sub (.t 25) (.c (.v (.int .i64 1))), none⟩,
        ⟨(some 27), .call 62 [(.t 24), (.t 26)], none⟩,
        ⟨(some 6), .box 27 (.c (.agg [(.v (.int .i64 0)), (.v (.slice none 0 0))])), none⟩,
        ⟨none, .store 2 (.t 6) (.t 27), none⟩] .done)
      (.seq (.ops true [⟨(some 28), .fld 0 (.t 6), none⟩,
        ⟨(some 29), .load none (.t 28), none⟩,
        ⟨(some 30), .mov (.t 5), none⟩,
        ⟨(some 31), .nilck (.t 30), none⟩,
        ⟨(some 32), .fld 0 (.t 31), none⟩,
        ⟨(some 33), .load none (.t 32), none⟩,
        ⟨(some 34), .bslice 3 [.int .i64] 1 [(.v (.int .i64 0))] [(0, 1, (.t 33))], none⟩,
        ⟨(some 35), .fld 1 (.t 6), none⟩,
        ⟨(some 36), .load none (.t 35), none⟩,
        ⟨(some 37), .append 3 [.int .i64] [(.int .i64 0)] 8 (.t 34) (.t 36), none⟩,
        ⟨(some 38), .build [(.v (.int .i64 0)), (.v (.slice none 0 0))] [(0, 1, (.t 29)), (1, 1, (.t 37))], none⟩,
        ⟨none, .store 2 (.t 4) (.t 38), none⟩] (.take 0 [0, 1, 11, 10] (.take 1 [1, 10, 11] (.take 2 [2, 3, 11, 4, 5, 6, 9, 10] (.take 3 [3, 4, 11, 5, 6, 9, 10] (.take 4 [4, 5, 11, 6, 9, 10] (.take 5 [5, 6, 11, 9, 10] (.take 7 [7, 8, 11, 9, 10] (.take 8 [8, 9, 11, 10] (.eff true 6 (.eff false 9 (.take 10 [10, 11] (.eff false 11 .done)))))))))))))
      .ret))))
     .skip))))
  (.seq (.ops false [⟨(some 39), .mov (.t 0), none⟩,
    ⟨(some 40), .call 83 [(.t 39)], none⟩,
    ⟨(some 41), .call 27 [(.t 40)], none⟩,
    ⟨none, .store 2 (.t 4) (.t 41), none⟩] .done)
  .ret))))⟩
theorem pf62_eq : (Tryd.f62.body.map fun c => (cfn Tryd.prog pl62 Tryd.f62 c, guardsAll pl62 c)) = some (pf62, true) := by kernel_rfl

/-- corral/corralref.SameInts  sizes [(6, 11)] -/
def pl63 : Nat → DT := dtGet [(6, (.take 0 [0, 2, 9, 3, 8] (.take 1 [1, 2, 9, 3, 8] (.take 2 [2, 3, 9, 8] (.take 3 [3, 8, 9] (.take 4 [4, 6, 9, 7, 8] (.take 5 [5, 6, 9, 7, 8] (.take 6 [6, 7, 9, 8] (.take 7 [7, 8, 9] (.take 8 [8, 9] (.take 9 [9] .done)))))))))))]
def pf63 : PFn := ⟨29, [.t 4], (.seq (.ops false [⟨(some 4), .mov (.c (.v (.bool false))), none⟩] .done)
  (.seq (.seq (.ops false [⟨(some 7), .mov (.t 0), none⟩,
     ⟨(some 8), .len (.t 7), none⟩,
     ⟨(some 9), .mov (.t 1), none⟩,
     ⟨(some 10), .len (.t 9), none⟩,
     ⟨(some 11), .bin .neq (.t 8) (.t 10), none⟩] .done)
   (.cond (.t 11)
    (.seq (.ops false [⟨(some 4), .mov (.c (.v (.bool false))), none⟩] .done)
     .ret)
    .skip))
  (.seq (.seq (.ops false [⟨(some 5), .mov (.c (.v (.int .i64 0))), none⟩] .done)
   (.block 0 (.loop (.seq (.seq (.ops false [⟨(some 12), .mov (.t 5), none⟩,
        ⟨(some 13), .mov (.t 0), none⟩,
        ⟨(some 14), .len (.t 13), none⟩,
        ⟨(some 15), .bin .lss (.t 12) (.t 14), none⟩] .done)
      (.cond (.t 15)
       .skip
       (.exit 0)))
     (.seq (.block 1 (.seq (.ops true [⟨(some 18), .mov (.t 0), none⟩,
         ⟨(some 19), .mov (.t 5), none⟩,
         ⟨(some 20), .idx 1 (.t 18) (.t 19), none⟩,
         ⟨(some 21), .load none (.t 20), none⟩,
         ⟨(some 22), .mov (.t 1), none⟩,
         ⟨(some 23), .mov (.t 5), none⟩,
         ⟨(some 24), .idx 1 (.t 22) (.t 23), none⟩,
         ⟨(some 25), .load none (.t 24), none⟩,
         ⟨(some 26), .bin .eql (.t 21) (.t 25), none⟩,
         ⟨(some 6), .mov (.t 26), none⟩] (.take 0 [0, 2, 9, 3, 8] (.take 1 [1, 2, 9, 3, 8] (.take 2 [2, 3, 9, 8] (.take 3 [3, 8, 9] (.take 4 [4, 6, 9, 7, 8] (.take 5 [5, 6, 9, 7, 8] (.take 6 [6, 7, 9, 8] (.take 7 [7, 8, 9] (.take 8 [8, 9] (.take 9 [9] .done)))))))))))
       (.seq (.ops false [⟨(some 27), .mov (.t 6), none⟩,
         ⟨(some 28), .un .not (.t 27), none⟩] .done)
       (.cond (.t 28)
        (.seq (.ops false [⟨(some 4), .mov (.c (.v (.bool false))), none⟩] .done)
         .ret)
        .skip))))
     (.ops false [⟨(some 16), .mov (.t 5), none⟩,
      ⟨(some 17), .bin .add (.t 16) (.c (.v (.int .i64 1))), none⟩,
      ⟨(some 5), .mov (.t 17), none⟩] .done))))))
  (.seq (.ops false [⟨(some 4), .mov (.c (.v (.bool true))), none⟩] .done)
  .ret))))⟩
theorem pf63_eq : (Tryd.f63.body.map fun c => (cfn Tryd.prog pl63 Tryd.f63 c, guardsAll pl63 c)) = some (pf63, true) := by kernel_rfl

/-- slices.Concat[[]int,int]  sizes [] -/
def pl73 : Nat → DT := dtGet []
def pf73 : PFn := ⟨36, [.t 2], (.seq (.ops false [⟨(some 2), .mov (.c (.v (.slice none 0 0))), none⟩] .done)
  (.seq (.ops false [⟨(some 3), .mov (.c (.v (.int .i64 0))), none⟩] .done)
  (.seq (.seq (.ops false [⟨(some 9), .mov (.t 0), none⟩,
     ⟨(some 10), .len (.t 9), none⟩,
     ⟨(some 11), .mov (.c (.v (.int .i64 0))), none⟩] .done)
   (.block 0 (.loop (.seq (.ops false [⟨(some 12), .bin .lss (.t 11) (.t 10), none⟩] .done)
     (.seq (.cond (.t 12)
       .skip
       (.exit 0))
     (.seq (.block 1 (.seq (.ops false [⟨(some 13), .idx 1 (.t 9) (.t 11), none⟩,
         ⟨(some 14), .load none (.t 13), none⟩,
         ⟨(some 5), .mov (.t 14), none⟩] .done)
       (.seq (.ops false [⟨(some 15), .mov (.t 3), none⟩,
         ⟨(some 16), .mov (.t 5), none⟩,
         ⟨(some 17), .len (.t 16), none⟩,
         ⟨(some 18), .bin .add (.t 15) (.t 17), none⟩,
         ⟨(some 3), .mov (.t 18), none⟩] .done)
       (.seq (.ops false [⟨(some 19), .mov (.t 3), none⟩,
         ⟨(some 20), .bin .lss (.t 19) (.c (.v (.int .i64 0))), none⟩] .done)
       (.cond (.t 20)
        (.ops false [⟨(some 21), .iface 9 (.c (.v (.string ⟨#[108, 101, 110, 32, 111, 117, 116, 32, 111, 102, 32, 114, 97, 110, 103, 101]⟩))), none⟩,
          ⟨none, .bad "an operation", none⟩] .done)
        .skip)))))
     (.ops false [⟨(some 22), .bin .add (.t 11) (.c (.v (.int .i64 1))), none⟩,
      ⟨(some 11), .mov (.t 22), none⟩] .done)))))))
  (.seq (.ops false [⟨(some 23), .mov (.t 3), none⟩,
    ⟨(some 24), .call 90 [(.c (.v (.slice none 0 0))), (.t 23)], none⟩,
    ⟨(some 6), .mov (.t 24), none⟩] .done)
  (.seq (.seq (.ops false [⟨(some 25), .mov (.t 0), none⟩,
     ⟨(some 26), .len (.t 25), none⟩,
     ⟨(some 27), .mov (.c (.v (.int .i64 0))), none⟩] .done)
   (.block 2 (.loop (.seq (.ops false [⟨(some 28), .bin .lss (.t 27) (.t 26), none⟩] .done)
     (.seq (.cond (.t 28)
       .skip
       (.exit 2))
     (.seq (.block 3 (.seq (.ops false [⟨(some 29), .idx 1 (.t 25) (.t 27), none⟩,
         ⟨(some 30), .load none (.t 29), none⟩,
         ⟨(some 8), .mov (.t 30), none⟩] .done)
       (.ops false [⟨(some 31), .mov (.t 6), none⟩,
        ⟨(some 32), .mov (.t 8), none⟩,
        ⟨(some 33), .append 3 [.int .i64] [(.int .i64 0)] 8 (.t 31) (.t 32), none⟩,
        ⟨(some 6), .mov (.t 33), none⟩] .done)))
     (.ops false [⟨(some 34), .bin .add (.t 27) (.c (.v (.int .i64 1))), none⟩,
      ⟨(some 27), .mov (.t 34), none⟩] .done)))))))
  (.seq (.ops false [⟨(some 35), .mov (.t 6), none⟩,
    ⟨(some 2), .mov (.t 35), none⟩] .done)
  .ret))))))⟩
theorem pf73_eq : (Tryd.f73.body.map fun c => (cfn Tryd.prog pl73 Tryd.f73 c, guardsAll pl73 c)) = some (pf73, true) := by kernel_rfl

/-- corral/ppo.writes  sizes [] -/
def pl74 : Nat → DT := dtGet []
def pf74 : PFn := ⟨11, [.t 2], (.seq (.ops false [⟨(some 1), .box 38 (.t 0), none⟩,
    ⟨(some 2), .mov (.c (.v (.bool false))), none⟩] .done)
  (.seq (.ops false [⟨(some 3), .fld 0 (.t 1), none⟩,
    ⟨(some 4), .load none (.t 3), none⟩,
    ⟨(some 5), .bin .eql (.t 4) (.c (.v (.int .i64 2))), none⟩,
    ⟨(some 6), .mov (.t 5), none⟩,
    ⟨(some 7), .fld 0 (.t 1), some (6, false)⟩,
    ⟨(some 8), .load none (.t 7), some (6, false)⟩,
    ⟨(some 9), .bin .eql (.t 8) (.c (.v (.int .i64 3))), some (6, false)⟩,
    ⟨(some 10), .pick (.t 6) (.c (.v (.bool true))) (.t 9), none⟩,
    ⟨(some 2), .mov (.t 10), none⟩] .done)
  .ret))⟩
theorem pf74_eq : (Tryd.f74.body.map fun c => (cfn Tryd.prog pl74 Tryd.f74 c, guardsAll pl74 c)) = some (pf74, true) := by kernel_rfl

/-- corral/ppo.meet  sizes [] -/
def pl75 : Nat → DT := dtGet []
def pf75 : PFn := ⟨38, [.t 2], (.seq (.ops false [⟨(some 2), .mov (.c (.v (.bool false))), none⟩] .done)
  (.seq (.ops false [⟨(some 10), .mov (.t 0), none⟩,
    ⟨(some 11), .idx 13 (.t 10) (.c (.v (.int .i64 0))), none⟩,
    ⟨(some 12), .load (some 13) (.t 11), none⟩,
    ⟨(some 13), .call 91 [(.t 12)], none⟩,
    ⟨(some 9), .mov (.t 13), none⟩,
    ⟨(some 14), .ext (.t 9) 0, none⟩,
    ⟨(some 15), .ext (.t 9) 1, none⟩,
    ⟨(some 3), .mov (.t 14), none⟩,
    ⟨(some 4), .mov (.t 15), none⟩] .done)
  (.seq (.seq (.ops false [⟨(some 16), .mov (.t 0), none⟩,
     ⟨(some 17), .slice 13 (.t 16) (some (.c (.v (.int .i64 1)))) none none, none⟩,
     ⟨(some 18), .len (.t 17), none⟩,
     ⟨(some 19), .mov (.c (.v (.int .i64 0))), none⟩] .done)
   (.block 0 (.loop (.seq (.ops false [⟨(some 20), .bin .lss (.t 19) (.t 18), none⟩] .done)
     (.seq (.cond (.t 20)
       .skip
       (.exit 0))
     (.seq (.block 1 (.seq (.ops false [⟨(some 21), .idx 13 (.t 17) (.t 19), none⟩,
         ⟨(some 22), .load (some 13) (.t 21), none⟩,
         ⟨(some 6), .box 38 (.c (.agg [(.v (.int .i64 0)), (.v (.int .i64 0)), (.v (.int .u32 0)), (.v (.int .u32 0)), (.v (.int .u32 0)), (.v (.bool false)), (.v (.bool false)), (.v (.bool false)), (.v (.int .i64 0)), (.v (.int .i64 0)), (.v (.slice none 0 0)), (.v (.slice none 0 0)), (.v (.slice none 0 0))])), none⟩,
         ⟨none, .store 13 (.t 6) (.t 22), none⟩] .done)
       (.seq (.ops false [⟨(some 24), .load (some 13) (.t 6), none⟩,
         ⟨(some 25), .call 91 [(.t 24)], none⟩,
         ⟨(some 23), .mov (.t 25), none⟩,
         ⟨(some 26), .ext (.t 23) 0, none⟩,
         ⟨(some 27), .ext (.t 23) 1, none⟩,
         ⟨(some 7), .mov (.t 26), none⟩,
         ⟨(some 8), .mov (.t 27), none⟩] .done)
       (.ops false [⟨(some 28), .mov (.t 3), none⟩,
        ⟨(some 29), .mov (.t 7), none⟩,
        ⟨(some 30), .minmax true [(.t 28), (.t 29)], none⟩,
        ⟨(some 31), .mov (.t 4), none⟩,
        ⟨(some 32), .mov (.t 8), none⟩,
        ⟨(some 33), .minmax false [(.t 31), (.t 32)], none⟩,
        ⟨(some 3), .mov (.t 30), none⟩,
        ⟨(some 4), .mov (.t 33), none⟩] .done))))
     (.ops false [⟨(some 34), .bin .add (.t 19) (.c (.v (.int .i64 1))), none⟩,
      ⟨(some 19), .mov (.t 34), none⟩] .done)))))))
  (.seq (.ops false [⟨(some 35), .mov (.t 3), none⟩,
    ⟨(some 36), .mov (.t 4), none⟩,
    ⟨(some 37), .bin .lss (.t 35) (.t 36), none⟩,
    ⟨(some 2), .mov (.t 37), none⟩] .done)
  .ret))))⟩
theorem pf75_eq : (Tryd.f75.body.map fun c => (cfn Tryd.prog pl75 Tryd.f75 c, guardsAll pl75 c)) = some (pf75, true) := by kernel_rfl

/-- corral/ppo.reads  sizes [] -/
def pl76 : Nat → DT := dtGet []
def pf76 : PFn := ⟨11, [.t 2], (.seq (.ops false [⟨(some 1), .box 38 (.t 0), none⟩,
    ⟨(some 2), .mov (.c (.v (.bool false))), none⟩] .done)
  (.seq (.ops false [⟨(some 3), .fld 0 (.t 1), none⟩,
    ⟨(some 4), .load none (.t 3), none⟩,
    ⟨(some 5), .bin .eql (.t 4) (.c (.v (.int .i64 1))), none⟩,
    ⟨(some 6), .mov (.t 5), none⟩,
    ⟨(some 7), .fld 0 (.t 1), some (6, false)⟩,
    ⟨(some 8), .load none (.t 7), some (6, false)⟩,
    ⟨(some 9), .bin .eql (.t 8) (.c (.v (.int .i64 3))), some (6, false)⟩,
    ⟨(some 10), .pick (.t 6) (.c (.v (.bool true))) (.t 9), none⟩,
    ⟨(some 2), .mov (.t 10), none⟩] .done)
  .ret))⟩
theorem pf76_eq : (Tryd.f76.body.map fun c => (cfn Tryd.prog pl76 Tryd.f76 c, guardsAll pl76 c)) = some (pf76, true) := by kernel_rfl

/-- corral/ppo.over  sizes [] -/
def pl77 : Nat → DT := dtGet []
def pf77 : PFn := ⟨25, [.t 6], (.seq (.ops false [⟨(some 4), .box 38 (.t 1), none⟩,
    ⟨(some 5), .box 38 (.t 2), none⟩,
    ⟨(some 6), .mov (.c (.v (.bool false))), none⟩] .done)
  (.seq (.seq (.ops false [⟨(some 9), .mov (.t 0), none⟩,
     ⟨(some 10), .len (.t 9), none⟩,
     ⟨(some 11), .mov (.c (.v (.int .i64 0))), none⟩] .done)
   (.block 0 (.loop (.seq (.ops false [⟨(some 12), .bin .lss (.t 11) (.t 10), none⟩] .done)
     (.seq (.cond (.t 12)
       .skip
       (.exit 0))
     (.seq (.block 1 (.seq (.ops false [⟨(some 13), .idx 13 (.t 9) (.t 11), none⟩,
         ⟨(some 14), .load (some 13) (.t 13), none⟩,
         ⟨(some 8), .box 38 (.c (.agg [(.v (.int .i64 0)), (.v (.int .i64 0)), (.v (.int .u32 0)), (.v (.int .u32 0)), (.v (.int .u32 0)), (.v (.bool false)), (.v (.bool false)), (.v (.bool false)), (.v (.int .i64 0)), (.v (.int .i64 0)), (.v (.slice none 0 0)), (.v (.slice none 0 0)), (.v (.slice none 0 0))])), none⟩,
         ⟨none, .store 13 (.t 8) (.t 14), none⟩] .done)
       (.seq (.ops false [⟨(some 15), .load (some 13) (.t 8), none⟩,
         ⟨(some 16), .call 74 [(.t 15)], none⟩,
         ⟨(some 17), .mov (.t 16), none⟩,
         ⟨(some 18), .load (some 13) (.t 8), some (17, true)⟩,
         ⟨(some 19), .load (some 13) (.t 4), some (17, true)⟩,
         ⟨(some 20), .load (some 13) (.t 5), some (17, true)⟩,
         ⟨(some 21), .bslice 38 [.int .i64, .int .i64, .int .u32, .int .u32, .int .u32, .bool, .bool, .bool, .int .i64, .int .i64, .sl, .sl, .sl] 3 [(.v (.int .i64 0)), (.v (.int .i64 0)), (.v (.int .u32 0)), (.v (.int .u32 0)), (.v (.int .u32 0)), (.v (.bool false)), (.v (.bool false)), (.v (.bool false)), (.v (.int .i64 0)), (.v (.int .i64 0)), (.v (.slice none 0 0)), (.v (.slice none 0 0)), (.v (.slice none 0 0)), (.v (.int .i64 0)), (.v (.int .i64 0)), (.v (.int .u32 0)), (.v (.int .u32 0)), (.v (.int .u32 0)), (.v (.bool false)), (.v (.bool false)), (.v (.bool false)), (.v (.int .i64 0)), (.v (.int .i64 0)), (.v (.slice none 0 0)), (.v (.slice none 0 0)), (.v (.slice none 0 0)), (.v (.int .i64 0)), (.v (.int .i64 0)), (.v (.int .u32 0)), (.v (.int .u32 0)), (.v (.int .u32 0)), (.v (.bool false)), (.v (.bool false)), (.v (.bool false)), (.v (.int .i64 0)), (.v (.int .i64 0)), (.v (.slice none 0 0)), (.v (.slice none 0 0)), (.v (.slice none 0 0))] [(0, 13, (.t 18)), (13, 13, (.t 19)), (26, 13, (.t 20))], some (17, true)⟩,
         ⟨(some 22), .call 75 [(.t 21)], some (17, true)⟩,
         ⟨(some 23), .pick (.t 17) (.t 22) (.c (.v (.bool false))), none⟩] .done)
       (.cond (.t 23)
        (.seq (.ops false [⟨(some 6), .mov (.c (.v (.bool true))), none⟩] .done)
         .ret)
        .skip))))
     (.ops false [⟨(some 24), .bin .add (.t 11) (.c (.v (.int .i64 1))), none⟩,
      ⟨(some 11), .mov (.t 24), none⟩] .done)))))))
  (.seq (.ops false [⟨(some 6), .mov (.c (.v (.bool false))), none⟩] .done)
  .ret)))⟩
theorem pf77_eq : (Tryd.f77.body.map fun c => (cfn Tryd.prog pl77 Tryd.f77 c, guardsAll pl77 c)) = some (pf77, true) := by kernel_rfl

/-- corral/ppo.barred  sizes [] -/
def pl78 : Nat → DT := dtGet []
def pf78 : PFn := ⟨31, [.t 6], (.seq (.ops false [⟨(some 4), .box 38 (.t 1), none⟩,
    ⟨(some 5), .box 38 (.t 2), none⟩,
    ⟨(some 6), .mov (.c (.v (.bool false))), none⟩] .done)
  (.seq (.seq (.ops false [⟨(some 9), .mov (.t 0), none⟩,
     ⟨(some 10), .len (.t 9), none⟩,
     ⟨(some 11), .mov (.c (.v (.int .i64 0))), none⟩] .done)
   (.block 0 (.loop (.seq (.ops false [⟨(some 12), .bin .lss (.t 11) (.t 10), none⟩] .done)
     (.seq (.cond (.t 12)
       .skip
       (.exit 0))
     (.seq (.block 1 (.seq (.ops false [⟨(some 13), .idx 13 (.t 9) (.t 11), none⟩,
         ⟨(some 14), .load (some 13) (.t 13), none⟩,
         ⟨(some 8), .box 38 (.c (.agg [(.v (.int .i64 0)), (.v (.int .i64 0)), (.v (.int .u32 0)), (.v (.int .u32 0)), (.v (.int .u32 0)), (.v (.bool false)), (.v (.bool false)), (.v (.bool false)), (.v (.int .i64 0)), (.v (.int .i64 0)), (.v (.slice none 0 0)), (.v (.slice none 0 0)), (.v (.slice none 0 0))])), none⟩,
         ⟨none, .store 13 (.t 8) (.t 14), none⟩] .done)
       (.seq (.ops false [⟨(some 15), .fld 0 (.t 8), none⟩,
         ⟨(some 16), .load none (.t 15), none⟩,
         ⟨(some 17), .bin .eql (.t 16) (.c (.v (.int .i64 4))), none⟩,
         ⟨(some 18), .mov (.t 17), none⟩,
         ⟨(some 19), .fld 8 (.t 8), some (18, true)⟩,
         ⟨(some 20), .load none (.t 19), some (18, true)⟩,
         ⟨(some 21), .load (some 13) (.t 4), some (18, true)⟩,
         ⟨(some 22), .call 92 [(.t 20), (.t 21)], some (18, true)⟩,
         ⟨(some 23), .pick (.t 18) (.t 22) (.c (.v (.bool false))), none⟩,
         ⟨(some 24), .mov (.t 23), none⟩,
         ⟨(some 25), .fld 9 (.t 8), some (24, true)⟩,
         ⟨(some 26), .load none (.t 25), some (24, true)⟩,
         ⟨(some 27), .load (some 13) (.t 5), some (24, true)⟩,
         ⟨(some 28), .call 92 [(.t 26), (.t 27)], some (24, true)⟩,
         ⟨(some 29), .pick (.t 24) (.t 28) (.c (.v (.bool false))), none⟩] .done)
       (.cond (.t 29)
        (.seq (.ops false [⟨(some 6), .mov (.c (.v (.bool true))), none⟩] .done)
         .ret)
        .skip))))
     (.ops false [⟨(some 30), .bin .add (.t 11) (.c (.v (.int .i64 1))), none⟩,
      ⟨(some 11), .mov (.t 30), none⟩] .done)))))))
  (.seq (.ops false [⟨(some 6), .mov (.c (.v (.bool false))), none⟩] .done)
  .ret)))⟩
theorem pf78_eq : (Tryd.f78.body.map fun c => (cfn Tryd.prog pl78 Tryd.f78 c, guardsAll pl78 c)) = some (pf78, true) := by kernel_rfl

/-- corral/ppo.marked  sizes [] -/
def pl79 : Nat → DT := dtGet []
def pf79 : PFn := ⟨9, [.t 2], (.seq (.ops false [⟨(some 1), .box 38 (.t 0), none⟩,
    ⟨(some 2), .mov (.c (.v (.bool false))), none⟩] .done)
  (.seq (.ops false [⟨(some 3), .fld 6 (.t 1), none⟩,
    ⟨(some 4), .load none (.t 3), none⟩,
    ⟨(some 5), .mov (.t 4), none⟩,
    ⟨(some 6), .fld 7 (.t 1), some (5, false)⟩,
    ⟨(some 7), .load none (.t 6), some (5, false)⟩,
    ⟨(some 8), .pick (.t 5) (.c (.v (.bool true))) (.t 7), none⟩,
    ⟨(some 2), .mov (.t 8), none⟩] .done)
  .ret))⟩
theorem pf79_eq : (Tryd.f79.body.map fun c => (cfn Tryd.prog pl79 Tryd.f79 c, guardsAll pl79 c)) = some (pf79, true) := by kernel_rfl

/-- slices.Contains[[]int,int]  sizes [] -/
def pl80 : Nat → DT := dtGet []
def pf80 : PFn := ⟨9, [.t 4], (.seq (.ops false [⟨(some 4), .mov (.c (.v (.bool false))), none⟩] .done)
  (.seq (.ops false [⟨(some 5), .mov (.t 0), none⟩,
    ⟨(some 6), .mov (.t 1), none⟩,
    ⟨(some 7), .call 93 [(.t 5), (.t 6)], none⟩,
    ⟨(some 8), .bin .geq (.t 7) (.c (.v (.int .i64 0))), none⟩,
    ⟨(some 4), .mov (.t 8), none⟩] .done)
  .ret))⟩
theorem pf80_eq : (Tryd.f80.body.map fun c => (cfn Tryd.prog pl80 Tryd.f80 c, guardsAll pl80 c)) = some (pf80, true) := by kernel_rfl

/-- corral/ppo.through  sizes [(5, 39)] -/
def pl81 : Nat → DT := dtGet [(5, (.eff true 1000000 (.take 0 [0, 1, 2, 3, 4, 5, 6, 7, 12, 13, 8, 9, 10, 11, 14, 15, 16, 17, 18, 19, 20, 21, 22, 23, 24, 25, 26, 27, 28, 29, 30, 31, 32, 33, 34, 35, 36] (.eff true 1 (.take 2 [2, 3, 4, 5, 6, 7, 12, 13, 8, 9, 10, 11, 14, 15, 16, 17, 18, 19, 20, 21, 22, 23, 24, 25, 26, 27, 28, 29, 30, 31, 32, 33, 34, 35, 36] (.take 3 [3, 4, 6, 7, 8, 9, 10, 11, 12, 13, 14, 15, 16, 17, 18, 19, 20, 21, 22, 23, 24, 25, 26, 27, 28, 29, 30, 31, 32, 33, 34, 35, 36] (.take 4 [4, 6, 7, 8, 9, 10, 11, 12, 13, 14, 15, 16, 17, 18, 19, 20, 21, 22, 23, 24, 25, 26, 27, 28, 29, 30, 31, 32, 33, 34, 35, 36] (.take 5 [5, 6, 7, 8, 9, 10, 11, 12, 13, 14, 15, 16, 17, 18, 19, 20, 21, 22, 23, 24, 25, 26, 27, 28, 29, 30, 31, 32, 33, 34, 35, 36] (.eff true 6 (.take 7 [7, 8, 9, 10, 11, 12, 13, 14, 15, 16, 17, 18, 19, 20, 21, 22, 23, 24, 25, 26, 27, 28, 29, 30, 31, 32, 33, 34, 35, 36] (.take 8 [8, 9, 11, 12, 14, 13, 15, 16, 17, 18, 19, 20, 21, 22, 23, 24, 25, 26, 27, 28, 29, 30, 31, 32, 33, 34, 35, 36] (.take 9 [9, 11, 12, 14, 13, 15, 16, 17, 18, 19, 20, 21, 22, 23, 24, 25, 26, 27, 28, 29, 30, 31, 32, 33, 34, 35, 36] (.take 10 [10, 11, 12, 14, 13, 15, 16, 17, 18, 19, 20, 21, 22, 23, 24, 25, 26, 27, 28, 29, 30, 31, 32, 33, 34, 35, 36] (.eff true 11 (.take 12 [12, 13, 14, 15, 16, 17, 18, 19, 20, 21, 22, 23, 24, 25, 26, 27, 28, 29, 30, 31, 32, 33, 34, 35, 36] (.take 13 [13, 14, 15, 16, 17, 18, 19, 20, 21, 22, 23, 24, 25, 26, 27, 28, 29, 30, 31, 32, 33, 34, 35, 36] (.take 14 [14, 15, 16, 17, 18, 19, 20, 21, 22, 23, 24, 25, 26, 27, 28, 29, 30, 31, 32, 33, 34, 35, 36] (.take 15 [15, 20, 21, 22, 23, 24, 25, 26, 27, 28, 29, 30, 31, 32, 33, 34, 35, 36] (.take 16 [16, 18, 19, 20, 21, 22, 23, 24, 25, 26, 27, 28, 29, 30, 31, 32, 33, 34, 35, 36] (.take 17 [17, 18, 19, 20, 21, 22, 23, 24, 25, 26, 27, 28, 29, 30, 31, 32, 33, 34, 35, 36] (.take 18 [18, 19, 20, 21, 22, 23, 24, 25, 26, 27, 28, 29, 30, 31, 32, 33, 34, 35, 36] (.take 19 [19, 20, 21, 22, 23, 24, 25, 26, 27, 28, 29, 30, 31, 32, 33, 34, 35, 36] (.eff true 20 (.eff true 21 (.take 22 [22, 23, 24, 25, 26, 27, 28, 29, 30, 31, 32, 33, 34, 35, 36] (.take 23 [23, 24, 25, 26, 27, 28, 29, 30, 31, 32, 33, 34, 35, 36] (.take 24 [24, 28, 34, 35, 36] (.take 25 [25, 26, 28, 34, 35, 36] (.take 26 [26, 28, 34, 35, 36] (.take 27 [27, 28, 34, 35, 36] (.take 28 [28, 34, 35, 36] (.take 29 [29, 34, 35, 36] (.take 30 [30, 32, 33, 34, 35, 36] (.take 31 [31, 32, 33, 34, 35, 36] (.take 32 [32, 33, 34, 35, 36] (.take 33 [33, 34, 35, 36] (.eff true 34 (.take 35 [35, 36] (.take 36 [36] .done)))))))))))))))))))))))))))))))))))))))]
def pf81 : PFn := ⟨57, [.t 6], (.seq (.ops false [⟨(some 6), .mov (.c (.v (.bool false))), none⟩] .done)
  (.seq (.seq (.ops false [⟨(some 9), .mov (.t 1), none⟩,
     ⟨(some 10), .bin .add (.t 9) (.c (.v (.int .i64 1))), none⟩,
     ⟨(some 7), .mov (.t 10), none⟩] .done)
   (.block 0 (.loop (.seq (.seq (.ops false [⟨(some 11), .mov (.t 7), none⟩,
        ⟨(some 12), .mov (.t 2), none⟩,
        ⟨(some 13), .bin .lss (.t 11) (.t 12), none⟩] .done)
      (.cond (.t 13)
       .skip
       (.exit 0)))
     (.seq (.block 1 (.seq (.ops false [⟨(some 16), .mov (.t 0), none⟩,
         ⟨(some 17), .mov (.t 7), none⟩,
         ⟨(some 18), .idx 13 (.t 16) (.t 17), none⟩,
         ⟨(some 19), .load (some 13) (.t 18), none⟩,
         ⟨(some 8), .box 38 (.c (.agg [(.v (.int .i64 0)), (.v (.int .i64 0)), (.v (.int .u32 0)), (.v (.int .u32 0)), (.v (.int .u32 0)), (.v (.bool false)), (.v (.bool false)), (.v (.bool false)), (.v (.int .i64 0)), (.v (.int .i64 0)), (.v (.slice none 0 0)), (.v (.slice none 0 0)), (.v (.slice none 0 0))])), none⟩,
         ⟨none, .store 13 (.t 8) (.t 19), none⟩] .done)
       (.seq (.cut (.ops true [⟨(some 20), .load (some 13) (.t 8), none⟩,
          ⟨(some 21), .call 74 [(.t 20)], none⟩,
          ⟨(some 22), .mov (.t 21), none⟩,
          ⟨(some 23), .fld 10 (.t 8), some (22, true)⟩,
          ⟨(some 24), .load none (.t 23), some (22, true)⟩,
          ⟨(some 25), .mov (.t 1), some (22, true)⟩,
          ⟨(some 26), .call 80 [(.t 24), (.t 25)], some (22, true)⟩,
          ⟨(some 27), .mov (.t 26), some (22, true)⟩,
          ⟨(some 28), .fld 11 (.t 8), some (27, false)⟩,
          ⟨(some 29), .load none (.t 28), some (27, false)⟩,
          ⟨(some 30), .mov (.t 1), some (27, false)⟩,
          ⟨(some 31), .call 80 [(.t 29), (.t 30)], some (27, false)⟩,
          ⟨(some 32), .pick (.t 27) (.c (.v (.bool true))) (.t 31), some (22, true)⟩,
          ⟨(some 33), .pick (.t 22) (.t 32) (.c (.v (.bool false))), none⟩,
          ⟨(some 34), .mov (.t 33), none⟩,
          ⟨(some 35), .load (some 13) (.t 8), some (34, true)⟩,
          ⟨(some 36), .mov (.t 0), some (34, true)⟩,
          ⟨(some 37), .mov (.t 2), some (34, true)⟩,
          ⟨(some 38), .idx 13 (.t 36) (.t 37), some (34, true)⟩,
          ⟨(some 39), .load (some 13) (.t 38), some (34, true)⟩,
          ⟨(some 40), .bslice 38 [.int .i64, .int .i64, .int .u32, .int .u32, .int .u32, .bool, .bool, .bool, .int .i64, .int .i64, .sl, .sl, .sl] 2 [(.v (.int .i64 0)), (.v (.int .i64 0)), (.v (.int .u32 0)), (.v (.int .u32 0)), (.v (.int .u32 0)), (.v (.bool false)), (.v (.bool false)), (.v (.bool false)), (.v (.int .i64 0)), (.v (.int .i64 0)), (.v (.slice none 0 0)), (.v (.slice none 0 0)), (.v (.slice none 0 0)), (.v (.int .i64 0)), (.v (.int .i64 0)), (.v (.int .u32 0)), (.v (.int .u32 0)), (.v (.int .u32 0)), (.v (.bool false)), (.v (.bool false)), (.v (.bool false)), (.v (.int .i64 0)), (.v (.int .i64 0)), (.v (.slice none 0 0)), (.v (.slice none 0 0)), (.v (.slice none 0 0))] [(0, 13, (.t 35)), (13, 13, (.t 39))], some (34, true)⟩,
          ⟨(some 41), .call 75 [(.t 40)], some (34, true)⟩,
          ⟨(some 42), .pick (.t 34) (.t 41) (.c (.v (.bool false))), none⟩,
          ⟨(some 43), .mov (.t 42), none⟩,
          ⟨(some 44), .mov (.t 0), some (43, true)⟩,
          ⟨(some 45), .mov (.t 7), some (43, true)⟩,
          ⟨(some 46), .bin .add (.t 45) (.c (.v (.int .i64 1))), some (43, true)⟩,
          ⟨(some 47), .mov (.t 2), some (43, true)⟩,
          ⟨(some 48), .slice 13 (.t 44) (some (.t 46)) (some (.t 47)) none, some (43, true)⟩,
          ⟨(some 49), .load (some 13) (.t 8), some (43, true)⟩,
          ⟨(some 50), .mov (.t 0), some (43, true)⟩,
          ⟨(some 51), .mov (.t 2), some (43, true)⟩,
          ⟨(some 52), .idx 13 (.t 50) (.t 51), some (43, true)⟩,
          ⟨(some 53), .load (some 13) (.t 52), some (43, true)⟩,
          ⟨(some 54), .call 77 [(.t 48), (.t 49), (.t 53)], some (43, true)⟩,
          ⟨(some 55), .un .not (.t 54), some (43, true)⟩,
          ⟨(some 56), .pick (.t 43) (.t 55) (.c (.v (.bool false))), none⟩] (.take 0 [0, 1, 2, 3, 4, 5, 6, 7, 12, 13, 8, 9, 10, 11, 14, 15, 16, 17, 18, 19, 20, 21, 22, 23, 24, 25, 26, 27, 28, 29, 30, 31, 32, 33, 34, 35, 36] (.eff true 1 (.take 2 [2, 3, 4, 5, 6, 7, 12, 13, 8, 9, 10, 11, 14, 15, 16, 17, 18, 19, 20, 21, 22, 23, 24, 25, 26, 27, 28, 29, 30, 31, 32, 33, 34, 35, 36] (.take 3 [3, 4, 6, 7, 8, 9, 10, 11, 12, 13, 14, 15, 16, 17, 18, 19, 20, 21, 22, 23, 24, 25, 26, 27, 28, 29, 30, 31, 32, 33, 34, 35, 36] (.take 4 [4, 6, 7, 8, 9, 10, 11, 12, 13, 14, 15, 16, 17, 18, 19, 20, 21, 22, 23, 24, 25, 26, 27, 28, 29, 30, 31, 32, 33, 34, 35, 36] (.take 5 [5, 6, 7, 8, 9, 10, 11, 12, 13, 14, 15, 16, 17, 18, 19, 20, 21, 22, 23, 24, 25, 26, 27, 28, 29, 30, 31, 32, 33, 34, 35, 36] (.eff true 6 (.take 7 [7, 8, 9, 10, 11, 12, 13, 14, 15, 16, 17, 18, 19, 20, 21, 22, 23, 24, 25, 26, 27, 28, 29, 30, 31, 32, 33, 34, 35, 36] (.take 8 [8, 9, 11, 12, 14, 13, 15, 16, 17, 18, 19, 20, 21, 22, 23, 24, 25, 26, 27, 28, 29, 30, 31, 32, 33, 34, 35, 36] (.take 9 [9, 11, 12, 14, 13, 15, 16, 17, 18, 19, 20, 21, 22, 23, 24, 25, 26, 27, 28, 29, 30, 31, 32, 33, 34, 35, 36] (.take 10 [10, 11, 12, 14, 13, 15, 16, 17, 18, 19, 20, 21, 22, 23, 24, 25, 26, 27, 28, 29, 30, 31, 32, 33, 34, 35, 36] (.eff true 11 (.take 12 [12, 13, 14, 15, 16, 17, 18, 19, 20, 21, 22, 23, 24, 25, 26, 27, 28, 29, 30, 31, 32, 33, 34, 35, 36] (.take 13 [13, 14, 15, 16, 17, 18, 19, 20, 21, 22, 23, 24, 25, 26, 27, 28, 29, 30, 31, 32, 33, 34, 35, 36] (.take 14 [14, 15, 16, 17, 18, 19, 20, 21, 22, 23, 24, 25, 26, 27, 28, 29, 30, 31, 32, 33, 34, 35, 36] (.take 15 [15, 20, 21, 22, 23, 24, 25, 26, 27, 28, 29, 30, 31, 32, 33, 34, 35, 36] (.take 16 [16, 18, 19, 20, 21, 22, 23, 24, 25, 26, 27, 28, 29, 30, 31, 32, 33, 34, 35, 36] (.take 17 [17, 18, 19, 20, 21, 22, 23, 24, 25, 26, 27, 28, 29, 30, 31, 32, 33, 34, 35, 36] (.take 18 [18, 19, 20, 21, 22, 23, 24, 25, 26, 27, 28, 29, 30, 31, 32, 33, 34, 35, 36] (.take 19 [19, 20, 21, 22, 23, 24, 25, 26, 27, 28, 29, 30, 31, 32, 33, 34, 35, 36] (.eff true 20 (.eff true 21 (.take 22 [22, 23, 24, 25, 26, 27, 28, 29, 30, 31, 32, 33, 34, 35, 36] (.take 23 [23, 24, 25, 26, 27, 28, 29, 30, 31, 32, 33, 34, 35, 36] (.take 24 [24, 28, 34, 35, 36] (.take 25 [25, 26, 28, 34, 35, 36] (.take 26 [26, 28, 34, 35, 36] (.take 27 [27, 28, 34, 35, 36] (.take 28 [28, 34, 35, 36] (.take 29 [29, 34, 35, 36] (.take 30 [30, 32, 33, 34, 35, 36] (.take 31 [31, 32, 33, 34, 35, 36] (.take 32 [32, 33, 34, 35, 36] (.take 33 [33, 34, 35, 36] (.eff true 34 (.take 35 [35, 36] (.take 36 [36] .done)))))))))))))))))))))))))))))))))))))))
       (.cond (.t 56)
        (.seq (.ops false [⟨(some 6), .mov (.c (.v (.bool true))), none⟩] .done)
         .ret)
        .skip))))
     (.ops false [⟨(some 14), .mov (.t 7), none⟩,
      ⟨(some 15), .bin .add (.t 14) (.c (.v (.int .i64 1))), none⟩,
      ⟨(some 7), .mov (.t 15), none⟩] .done))))))
  (.seq (.ops false [⟨(some 6), .mov (.c (.v (.bool false))), none⟩] .done)
  .ret)))⟩
theorem pf81_eq : (Tryd.f81.body.map fun c => (cfn Tryd.prog pl81 Tryd.f81 c, guardsAll pl81 c)) = some (pf81, true) := by kernel_rfl

/-- corral/ppo.placed  sizes [] -/
def pl82 : Nat → DT := dtGet []
def pf82 : PFn := ⟨23, [.t 4], (.seq (.ops false [⟨(some 4), .mov (.c (.v (.bool false))), none⟩] .done)
  (.seq (.seq (.ops false [⟨(some 7), .mov (.t 0), none⟩,
     ⟨(some 8), .len (.t 7), none⟩,
     ⟨(some 9), .mov (.c (.v (.int .i64 0))), none⟩] .done)
   (.block 0 (.loop (.seq (.ops false [⟨(some 10), .bin .lss (.t 9) (.t 8), none⟩] .done)
     (.seq (.cond (.t 10)
       .skip
       (.exit 0))
     (.seq (.block 1 (.seq (.ops false [⟨(some 11), .idx 13 (.t 7) (.t 9), none⟩,
         ⟨(some 12), .load (some 13) (.t 11), none⟩,
         ⟨(some 6), .box 38 (.c (.agg [(.v (.int .i64 0)), (.v (.int .i64 0)), (.v (.int .u32 0)), (.v (.int .u32 0)), (.v (.int .u32 0)), (.v (.bool false)), (.v (.bool false)), (.v (.bool false)), (.v (.int .i64 0)), (.v (.int .i64 0)), (.v (.slice none 0 0)), (.v (.slice none 0 0)), (.v (.slice none 0 0))])), none⟩,
         ⟨none, .store 13 (.t 6) (.t 12), none⟩] .done)
       (.seq (.ops false [⟨(some 13), .fld 0 (.t 6), none⟩,
         ⟨(some 14), .load none (.t 13), none⟩,
         ⟨(some 15), .bin .neq (.t 14) (.c (.v (.int .i64 4))), none⟩,
         ⟨(some 16), .mov (.t 15), none⟩,
         ⟨(some 17), .fld 10 (.t 6), some (16, true)⟩,
         ⟨(some 18), .load none (.t 17), some (16, true)⟩,
         ⟨(some 19), .mov (.t 1), some (16, true)⟩,
         ⟨(some 20), .call 80 [(.t 18), (.t 19)], some (16, true)⟩,
         ⟨(some 21), .pick (.t 16) (.t 20) (.c (.v (.bool false))), none⟩] .done)
       (.cond (.t 21)
        (.seq (.ops false [⟨(some 4), .mov (.c (.v (.bool true))), none⟩] .done)
         .ret)
        .skip))))
     (.ops false [⟨(some 22), .bin .add (.t 9) (.c (.v (.int .i64 1))), none⟩,
      ⟨(some 9), .mov (.t 22), none⟩] .done)))))))
  (.seq (.ops false [⟨(some 4), .mov (.c (.v (.bool false))), none⟩] .done)
  .ret)))⟩
theorem pf82_eq : (Tryd.f82.body.map fun c => (cfn Tryd.prog pl82 Tryd.f82 c, guardsAll pl82 c)) = some (pf82, true) := by kernel_rfl

/-- corral/corralsee.sentinel  sizes [] -/
def pl83 : Nat → DT := dtGet []
def pf83 : PFn := ⟨20, [.t 2], (.seq (.ops false [⟨(some 2), .mov (.c (.v (.int .i64 0))), none⟩] .done)
  (.seq (.ops false [⟨(some 5), .call 94 [], none⟩,
    ⟨(some 3), .mov (.t 5), none⟩] .done)
  (.seq (.seq (.ops false [⟨(some 4), .mov (.c (.v (.int .i64 0))), none⟩] .done)
   (.block 0 (.loop (.seq (.seq (.ops false [⟨(some 6), .mov (.t 4), none⟩,
        ⟨(some 7), .mov (.t 3), none⟩,
        ⟨(some 8), .len (.t 7), none⟩,
        ⟨(some 9), .bin .lss (.t 6) (.t 8), none⟩] .done)
      (.cond (.t 9)
       .skip
       (.exit 0)))
     (.seq (.block 1 (.seq (.ops false [⟨(some 12), .mov (.t 0), none⟩,
         ⟨(some 13), .mov (.t 3), none⟩,
         ⟨(some 14), .mov (.t 4), none⟩,
         ⟨(some 15), .idx 1 (.t 13) (.t 14), none⟩,
         ⟨(some 16), .load none (.t 15), none⟩,
         ⟨(some 17), .call 95 [(.t 12), (.t 16)], none⟩] .done)
       (.cond (.t 17)
        (.seq (.ops false [⟨(some 18), .mov (.t 4), none⟩,
           ⟨(some 19), .bin .add (.c (.v (.int .i64 101))) (.t 18), none⟩,
           ⟨(some 2), .mov (.t 19), none⟩] .done)
         .ret)
        .skip)))
     (.ops false [⟨(some 10), .mov (.t 4), none⟩,
      ⟨(some 11), .bin .add (.t 10) (.c (.v (.int .i64 1))), none⟩,
      ⟨(some 4), .mov (.t 11), none⟩] .done))))))
  (.seq (.ops false [⟨(some 2), .mov (.c (.v (.int .i64 (-1)))), none⟩] .done)
  .ret))))⟩
theorem pf83_eq : (Tryd.f83.body.map fun c => (cfn Tryd.prog pl83 Tryd.f83 c, guardsAll pl83 c)) = some (pf83, true) := by kernel_rfl

/-- slices.Grow[[]int,int]  sizes [] -/
def pl90 : Nat → DT := dtGet []
def pf90 : PFn := ⟨27, [.t 4], (.seq (.ops false [⟨(some 4), .mov (.c (.v (.slice none 0 0))), none⟩] .done)
  (.seq (.seq (.ops false [⟨(some 5), .mov (.t 1), none⟩,
     ⟨(some 6), .bin .lss (.t 5) (.c (.v (.int .i64 0))), none⟩] .done)
   (.cond (.t 6)
    (.ops false [⟨(some 7), .iface 9 (.c (.v (.string ⟨#[99, 97, 110, 110, 111, 116, 32, 98, 101, 32, 110, 101, 103, 97, 116, 105, 118, 101]⟩))), none⟩,
      ⟨none, .bad "an operation", none⟩] .done)
    .skip))
  (.seq (.seq (.ops false [⟨(some 8), .mov (.t 1), none⟩,
     ⟨(some 9), .mov (.t 0), none⟩,
     ⟨(some 10), .cap (.t 9), none⟩,
     ⟨(some 11), .mov (.t 0), none⟩,
     ⟨(some 12), .len (.t 11), none⟩,
     ⟨(some 13), .bin .sub (.t 10) (.t 12), none⟩,
     ⟨(some 14), .bin .sub (.t 8) (.t 13), none⟩,
     ⟨(some 1), .mov (.t 14), none⟩] .done)
   (.seq (.ops false [⟨(some 15), .mov (.t 1), none⟩,
     ⟨(some 16), .bin .gtr (.t 15) (.c (.v (.int .i64 0))), none⟩] .done)
   (.cond (.t 16)
    (.ops false [⟨(some 17), .mov (.t 0), none⟩,
      ⟨(some 18), .mov (.t 0), none⟩,
      ⟨(some 19), .cap (.t 18), none⟩,
      ⟨(some 20), .slice 1 (.t 17) none (some (.t 19)) none, none⟩,
      ⟨(some 21), .mov (.t 1), none⟩,
      ⟨(some 22), .appendz 3 [.int .i64] [(.int .i64 0)] 8 (.t 20) (.t 21), none⟩,
      ⟨(some 23), .mov (.t 0), none⟩,
      ⟨(some 24), .len (.t 23), none⟩,
      ⟨(some 25), .slice 1 (.t 22) none (some (.t 24)) none, none⟩,
      ⟨(some 0), .mov (.t 25), none⟩] .done)
    .skip)))
  (.seq (.ops false [⟨(some 26), .mov (.t 0), none⟩,
    ⟨(some 4), .mov (.t 26), none⟩] .done)
  .ret))))⟩
theorem pf90_eq : (Tryd.f90.body.map fun c => (cfn Tryd.prog pl90 Tryd.f90 c, guardsAll pl90 c)) = some (pf90, true) := by kernel_rfl

/-- corral/ppo.span  sizes [(3, 12)] -/
def pl91 : Nat → DT := dtGet [(3, (.take 0 [0, 1, 9, 10, 2] (.take 1 [1, 2, 9, 10] (.take 2 [2, 9, 10] (.take 3 [3, 4, 10, 5, 8] (.take 4 [4, 5, 10, 8] (.take 5 [5, 8, 10] (.take 6 [6, 7, 10, 8] (.take 7 [7, 8, 10] (.take 8 [8, 10] (.take 9 [9, 10] (.take 10 [10] .done))))))))))))]
def pf91 : PFn := ⟨16, [.t 2, .t 3], (.seq (.ops false [⟨(some 1), .box 38 (.t 0), none⟩,
    ⟨(some 2), .mov (.c (.v (.int .i64 0))), none⟩,
    ⟨(some 3), .mov (.c (.v (.int .i64 0))), none⟩] .done)
  (.seq (.seq (.ops false [⟨(some 4), .fld 0 (.t 1), none⟩,
     ⟨(some 5), .load none (.t 4), none⟩,
     ⟨(some 6), .bin .eql (.t 5) (.c (.v (.int .i64 4))), none⟩] .done)
   (.cond (.t 6)
    (.seq (.ops false [⟨(some 2), .mov (.c (.v (.int .i64 0))), none⟩,
       ⟨(some 3), .mov (.c (.v (.int .i64 0))), none⟩] .done)
     .ret)
    .skip))
  (.seq (.ops true [⟨(some 7), .fld 2 (.t 1), none⟩,
    ⟨(some 8), .load none (.t 7), none⟩,
    ⟨(some 9), .conv .i64 (.t 8), none⟩,
    ⟨(some 10), .fld 2 (.t 1), none⟩,
    ⟨(some 11), .load none (.t 10), none⟩,
    ⟨(some 12), .conv .i64 (.t 11), none⟩,
    ⟨(some 13), .fld 1 (.t 1), none⟩,
    ⟨(some 14), .load none (.t 13), none⟩,
    ⟨(some 15), .bin .add (.t 12) (.t 14), none⟩,
    ⟨(some 2), .mov (.t 9), none⟩,
    ⟨(some 3), .mov (.t 15), none⟩] (.take 0 [0, 1, 9, 10, 2] (.take 1 [1, 2, 9, 10] (.take 2 [2, 9, 10] (.take 3 [3, 4, 10, 5, 8] (.take 4 [4, 5, 10, 8] (.take 5 [5, 8, 10] (.take 6 [6, 7, 10, 8] (.take 7 [7, 8, 10] (.take 8 [8, 10] (.take 9 [9, 10] (.take 10 [10] .done))))))))))))
  .ret)))⟩
theorem pf91_eq : (Tryd.f91.body.map fun c => (cfn Tryd.prog pl91 Tryd.f91 c, guardsAll pl91 c)) = some (pf91, true) := by kernel_rfl

/-- corral/ppo.by  sizes [] -/
def pl92 : Nat → DT := dtGet []
def pf92 : PFn := ⟨21, [.t 4], (.seq (.ops false [⟨(some 3), .box 38 (.t 1), none⟩,
    ⟨(some 4), .mov (.c (.v (.bool false))), none⟩] .done)
  (.seq (.ops false [⟨(some 5), .load (some 13) (.t 3), none⟩,
    ⟨(some 6), .call 76 [(.t 5)], none⟩,
    ⟨(some 7), .mov (.t 6), none⟩,
    ⟨(some 8), .mov (.t 0), some (7, true)⟩,
    ⟨(some 9), .bin .and (.t 8) (.c (.v (.int .i64 1))), some (7, true)⟩,
    ⟨(some 10), .bin .neq (.t 9) (.c (.v (.int .i64 0))), some (7, true)⟩,
    ⟨(some 11), .pick (.t 7) (.t 10) (.c (.v (.bool false))), none⟩,
    ⟨(some 12), .mov (.t 11), none⟩,
    ⟨(some 13), .load (some 13) (.t 3), some (12, false)⟩,
    ⟨(some 14), .call 74 [(.t 13)], some (12, false)⟩,
    ⟨(some 15), .mov (.t 14), some (12, false)⟩,
    ⟨(some 16), .mov (.t 0), some (15, true)⟩,
    ⟨(some 17), .bin .and (.t 16) (.c (.v (.int .i64 2))), some (15, true)⟩,
    ⟨(some 18), .bin .neq (.t 17) (.c (.v (.int .i64 0))), some (15, true)⟩,
    ⟨(some 19), .pick (.t 15) (.t 18) (.c (.v (.bool false))), some (12, false)⟩,
    ⟨(some 20), .pick (.t 12) (.c (.v (.bool true))) (.t 19), none⟩,
    ⟨(some 4), .mov (.t 20), none⟩] .done)
  .ret))⟩
theorem pf92_eq : (Tryd.f92.body.map fun c => (cfn Tryd.prog pl92 Tryd.f92 c, guardsAll pl92 c)) = some (pf92, true) := by kernel_rfl

/-- slices.Index[[]int,int]  sizes [] -/
def pl93 : Nat → DT := dtGet []
def pf93 : PFn := ⟨19, [.t 4], (.seq (.ops false [⟨(some 4), .mov (.c (.v (.int .i64 0))), none⟩] .done)
  (.seq (.seq (.ops false [⟨(some 6), .mov (.t 0), none⟩,
     ⟨(some 7), .len (.t 6), none⟩,
     ⟨(some 8), .mov (.c (.v (.int .i64 0))), none⟩] .done)
   (.block 0 (.loop (.seq (.ops false [⟨(some 9), .bin .lss (.t 8) (.t 7), none⟩] .done)
     (.seq (.cond (.t 9)
       .skip
       (.exit 0))
     (.seq (.block 1 (.seq (.ops false [⟨(some 10), .mov (.t 8), none⟩,
         ⟨(some 5), .mov (.t 10), none⟩] .done)
       (.seq (.ops false [⟨(some 11), .mov (.t 1), none⟩,
         ⟨(some 12), .mov (.t 0), none⟩,
         ⟨(some 13), .mov (.t 5), none⟩,
         ⟨(some 14), .idx 1 (.t 12) (.t 13), none⟩,
         ⟨(some 15), .load none (.t 14), none⟩,
         ⟨(some 16), .bin .eql (.t 11) (.t 15), none⟩] .done)
       (.cond (.t 16)
        (.seq (.ops false [⟨(some 17), .mov (.t 5), none⟩,
           ⟨(some 4), .mov (.t 17), none⟩] .done)
         .ret)
        .skip))))
     (.ops false [⟨(some 18), .bin .add (.t 8) (.c (.v (.int .i64 1))), none⟩,
      ⟨(some 8), .mov (.t 18), none⟩] .done)))))))
  (.seq (.ops false [⟨(some 4), .mov (.c (.v (.int .i64 (-1)))), none⟩] .done)
  .ret)))⟩
theorem pf93_eq : (Tryd.f93.body.map fun c => (cfn Tryd.prog pl93 Tryd.f93 c, guardsAll pl93 c)) = some (pf93, true) := by kernel_rfl

/-- corral/corralsee.sentinels  sizes [] -/
def pl94 : Nat → DT := dtGet []
def pf94 : PFn := ⟨13, [.t 0], (.seq (.ops false [⟨(some 0), .mov (.c (.v (.slice none 0 0))), none⟩] .done)
  (.seq (.ops false [⟨(some 1), .load none (.c (.v (.pointer (some ⟨0, 0, none⟩)))), none⟩,
    ⟨(some 2), .load none (.c (.v (.pointer (some ⟨4, 0, none⟩)))), none⟩,
    ⟨(some 3), .load none (.c (.v (.pointer (some ⟨5, 0, none⟩)))), none⟩,
    ⟨(some 4), .load none (.c (.v (.pointer (some ⟨1, 0, none⟩)))), none⟩,
    ⟨(some 5), .load none (.c (.v (.pointer (some ⟨6, 0, none⟩)))), none⟩,
    ⟨(some 6), .load none (.c (.v (.pointer (some ⟨7, 0, none⟩)))), none⟩,
    ⟨(some 7), .load none (.c (.v (.pointer (some ⟨8, 0, none⟩)))), none⟩,
    ⟨(some 8), .load none (.c (.v (.pointer (some ⟨9, 0, none⟩)))), none⟩,
    ⟨(some 9), .load none (.c (.v (.pointer (some ⟨10, 0, none⟩)))), none⟩,
    ⟨(some 10), .load none (.c (.v (.pointer (some ⟨2, 0, none⟩)))), none⟩,
    ⟨(some 11), .load none (.c (.v (.pointer (some ⟨3, 0, none⟩)))), none⟩,
    ⟨(some 12), .bslice 45 [.raw] 11 [(.v .nilIface), (.v .nilIface), (.v .nilIface), (.v .nilIface), (.v .nilIface), (.v .nilIface), (.v .nilIface), (.v .nilIface), (.v .nilIface), (.v .nilIface), (.v .nilIface)] [(0, 1, (.t 1)), (1, 1, (.t 2)), (2, 1, (.t 3)), (3, 1, (.t 4)), (4, 1, (.t 5)), (5, 1, (.t 6)), (6, 1, (.t 7)), (7, 1, (.t 8)), (8, 1, (.t 9)), (9, 1, (.t 10)), (10, 1, (.t 11))], none⟩,
    ⟨(some 0), .mov (.t 12), none⟩] .done)
  .ret))⟩
theorem pf94_eq : (Tryd.f94.body.map fun c => (cfn Tryd.prog pl94 Tryd.f94 c, guardsAll pl94 c)) = some (pf94, true) := by kernel_rfl

/-- corral/corralsee.Alike  sizes [] -/
def pl95 : Nat → DT := dtGet []
def pf95 : PFn := ⟨20, [.t 4], (.seq (.ops false [⟨(some 4), .mov (.c (.v (.bool false))), none⟩] .done)
  (.seq (.seq (.ops false [⟨(some 5), .mov (.t 0), none⟩,
     ⟨(some 6), .eqp 1 true false (.t 5) (.c (.v .nilIface)), none⟩,
     ⟨(some 7), .mov (.t 6), none⟩,
     ⟨(some 8), .mov (.t 1), some (7, false)⟩,
     ⟨(some 9), .eqp 1 true false (.t 8) (.c (.v .nilIface)), some (7, false)⟩,
     ⟨(some 10), .pick (.t 7) (.c (.v (.bool true))) (.t 9), none⟩] .done)
   (.cond (.t 10)
    (.seq (.ops false [⟨(some 11), .mov (.t 0), none⟩,
       ⟨(some 12), .eqp 1 true false (.t 11) (.c (.v .nilIface)), none⟩,
       ⟨(some 13), .mov (.t 12), none⟩,
       ⟨(some 14), .mov (.t 1), some (13, true)⟩,
       ⟨(some 15), .eqp 1 true false (.t 14) (.c (.v .nilIface)), some (13, true)⟩,
       ⟨(some 16), .pick (.t 13) (.t 15) (.c (.v (.bool false))), none⟩,
       ⟨(some 4), .mov (.t 16), none⟩] .done)
     .ret)
    .skip))
  (.seq (.ops false [⟨(some 17), .mov (.t 0), none⟩,
    ⟨(some 18), .mov (.t 1), none⟩,
    ⟨(some 19), .eqp 1 false false (.t 17) (.t 18), none⟩,
    ⟨(some 4), .mov (.t 19), none⟩] .done)
  .ret)))⟩
theorem pf95_eq : (Tryd.f95.body.map fun c => (cfn Tryd.prog pl95 Tryd.f95 c, guardsAll pl95 c)) = some (pf95, true) := by kernel_rfl

theorem at12 : Tryd.prog.funcs[12]? = some Tryd.f12 ∧ (Tryd.f12.name == "runtime.NumGoroutine") = false := ⟨by kernel_rfl, by kernel_rfl⟩
theorem at16 : Tryd.prog.funcs[16]? = some Tryd.f16 ∧ (Tryd.f16.name == "runtime.NumGoroutine") = false := ⟨by kernel_rfl, by kernel_rfl⟩
theorem at17 : Tryd.prog.funcs[17]? = some Tryd.f17 ∧ (Tryd.f17.name == "runtime.NumGoroutine") = false := ⟨by kernel_rfl, by kernel_rfl⟩
theorem at18 : Tryd.prog.funcs[18]? = some Tryd.f18 ∧ (Tryd.f18.name == "runtime.NumGoroutine") = false := ⟨by kernel_rfl, by kernel_rfl⟩
theorem at19 : Tryd.prog.funcs[19]? = some Tryd.f19 ∧ (Tryd.f19.name == "runtime.NumGoroutine") = false := ⟨by kernel_rfl, by kernel_rfl⟩
theorem at20 : Tryd.prog.funcs[20]? = some Tryd.f20 ∧ (Tryd.f20.name == "runtime.NumGoroutine") = false := ⟨by kernel_rfl, by kernel_rfl⟩
theorem at27 : Tryd.prog.funcs[27]? = some Tryd.f27 ∧ (Tryd.f27.name == "runtime.NumGoroutine") = false := ⟨by kernel_rfl, by kernel_rfl⟩
theorem at30 : Tryd.prog.funcs[30]? = some Tryd.f30 ∧ (Tryd.f30.name == "runtime.NumGoroutine") = false := ⟨by kernel_rfl, by kernel_rfl⟩
theorem at32 : Tryd.prog.funcs[32]? = some Tryd.f32 ∧ (Tryd.f32.name == "runtime.NumGoroutine") = false := ⟨by kernel_rfl, by kernel_rfl⟩
theorem at33 : Tryd.prog.funcs[33]? = some Tryd.f33 ∧ (Tryd.f33.name == "runtime.NumGoroutine") = false := ⟨by kernel_rfl, by kernel_rfl⟩
theorem at34 : Tryd.prog.funcs[34]? = some Tryd.f34 ∧ (Tryd.f34.name == "runtime.NumGoroutine") = false := ⟨by kernel_rfl, by kernel_rfl⟩
theorem at35 : Tryd.prog.funcs[35]? = some Tryd.f35 ∧ (Tryd.f35.name == "runtime.NumGoroutine") = false := ⟨by kernel_rfl, by kernel_rfl⟩
theorem at36 : Tryd.prog.funcs[36]? = some Tryd.f36 ∧ (Tryd.f36.name == "runtime.NumGoroutine") = false := ⟨by kernel_rfl, by kernel_rfl⟩
theorem at37 : Tryd.prog.funcs[37]? = some Tryd.f37 ∧ (Tryd.f37.name == "runtime.NumGoroutine") = false := ⟨by kernel_rfl, by kernel_rfl⟩
theorem at38 : Tryd.prog.funcs[38]? = some Tryd.f38 ∧ (Tryd.f38.name == "runtime.NumGoroutine") = false := ⟨by kernel_rfl, by kernel_rfl⟩
theorem at39 : Tryd.prog.funcs[39]? = some Tryd.f39 ∧ (Tryd.f39.name == "runtime.NumGoroutine") = false := ⟨by kernel_rfl, by kernel_rfl⟩
theorem at40 : Tryd.prog.funcs[40]? = some Tryd.f40 ∧ (Tryd.f40.name == "runtime.NumGoroutine") = false := ⟨by kernel_rfl, by kernel_rfl⟩
theorem at53 : Tryd.prog.funcs[53]? = some Tryd.f53 ∧ (Tryd.f53.name == "runtime.NumGoroutine") = false := ⟨by kernel_rfl, by kernel_rfl⟩
theorem at54 : Tryd.prog.funcs[54]? = some Tryd.f54 ∧ (Tryd.f54.name == "runtime.NumGoroutine") = false := ⟨by kernel_rfl, by kernel_rfl⟩
theorem at55 : Tryd.prog.funcs[55]? = some Tryd.f55 ∧ (Tryd.f55.name == "runtime.NumGoroutine") = false := ⟨by kernel_rfl, by kernel_rfl⟩
theorem at56 : Tryd.prog.funcs[56]? = some Tryd.f56 ∧ (Tryd.f56.name == "runtime.NumGoroutine") = false := ⟨by kernel_rfl, by kernel_rfl⟩
theorem at57 : Tryd.prog.funcs[57]? = some Tryd.f57 ∧ (Tryd.f57.name == "runtime.NumGoroutine") = false := ⟨by kernel_rfl, by kernel_rfl⟩
theorem at58 : Tryd.prog.funcs[58]? = some Tryd.f58 ∧ (Tryd.f58.name == "runtime.NumGoroutine") = false := ⟨by kernel_rfl, by kernel_rfl⟩
theorem at59 : Tryd.prog.funcs[59]? = some Tryd.f59 ∧ (Tryd.f59.name == "runtime.NumGoroutine") = false := ⟨by kernel_rfl, by kernel_rfl⟩
theorem at60 : Tryd.prog.funcs[60]? = some Tryd.f60 ∧ (Tryd.f60.name == "runtime.NumGoroutine") = false := ⟨by kernel_rfl, by kernel_rfl⟩
theorem at61 : Tryd.prog.funcs[61]? = some Tryd.f61 ∧ (Tryd.f61.name == "runtime.NumGoroutine") = false := ⟨by kernel_rfl, by kernel_rfl⟩
theorem at62 : Tryd.prog.funcs[62]? = some Tryd.f62 ∧ (Tryd.f62.name == "runtime.NumGoroutine") = false := ⟨by kernel_rfl, by kernel_rfl⟩
theorem at63 : Tryd.prog.funcs[63]? = some Tryd.f63 ∧ (Tryd.f63.name == "runtime.NumGoroutine") = false := ⟨by kernel_rfl, by kernel_rfl⟩
theorem at73 : Tryd.prog.funcs[73]? = some Tryd.f73 ∧ (Tryd.f73.name == "runtime.NumGoroutine") = false := ⟨by kernel_rfl, by kernel_rfl⟩
theorem at74 : Tryd.prog.funcs[74]? = some Tryd.f74 ∧ (Tryd.f74.name == "runtime.NumGoroutine") = false := ⟨by kernel_rfl, by kernel_rfl⟩
theorem at75 : Tryd.prog.funcs[75]? = some Tryd.f75 ∧ (Tryd.f75.name == "runtime.NumGoroutine") = false := ⟨by kernel_rfl, by kernel_rfl⟩
theorem at76 : Tryd.prog.funcs[76]? = some Tryd.f76 ∧ (Tryd.f76.name == "runtime.NumGoroutine") = false := ⟨by kernel_rfl, by kernel_rfl⟩
theorem at77 : Tryd.prog.funcs[77]? = some Tryd.f77 ∧ (Tryd.f77.name == "runtime.NumGoroutine") = false := ⟨by kernel_rfl, by kernel_rfl⟩
theorem at78 : Tryd.prog.funcs[78]? = some Tryd.f78 ∧ (Tryd.f78.name == "runtime.NumGoroutine") = false := ⟨by kernel_rfl, by kernel_rfl⟩
theorem at79 : Tryd.prog.funcs[79]? = some Tryd.f79 ∧ (Tryd.f79.name == "runtime.NumGoroutine") = false := ⟨by kernel_rfl, by kernel_rfl⟩
theorem at80 : Tryd.prog.funcs[80]? = some Tryd.f80 ∧ (Tryd.f80.name == "runtime.NumGoroutine") = false := ⟨by kernel_rfl, by kernel_rfl⟩
theorem at81 : Tryd.prog.funcs[81]? = some Tryd.f81 ∧ (Tryd.f81.name == "runtime.NumGoroutine") = false := ⟨by kernel_rfl, by kernel_rfl⟩
theorem at82 : Tryd.prog.funcs[82]? = some Tryd.f82 ∧ (Tryd.f82.name == "runtime.NumGoroutine") = false := ⟨by kernel_rfl, by kernel_rfl⟩
theorem at83 : Tryd.prog.funcs[83]? = some Tryd.f83 ∧ (Tryd.f83.name == "runtime.NumGoroutine") = false := ⟨by kernel_rfl, by kernel_rfl⟩
theorem at90 : Tryd.prog.funcs[90]? = some Tryd.f90 ∧ (Tryd.f90.name == "runtime.NumGoroutine") = false := ⟨by kernel_rfl, by kernel_rfl⟩
theorem at91 : Tryd.prog.funcs[91]? = some Tryd.f91 ∧ (Tryd.f91.name == "runtime.NumGoroutine") = false := ⟨by kernel_rfl, by kernel_rfl⟩
theorem at92 : Tryd.prog.funcs[92]? = some Tryd.f92 ∧ (Tryd.f92.name == "runtime.NumGoroutine") = false := ⟨by kernel_rfl, by kernel_rfl⟩
theorem at93 : Tryd.prog.funcs[93]? = some Tryd.f93 ∧ (Tryd.f93.name == "runtime.NumGoroutine") = false := ⟨by kernel_rfl, by kernel_rfl⟩
theorem at94 : Tryd.prog.funcs[94]? = some Tryd.f94 ∧ (Tryd.f94.name == "runtime.NumGoroutine") = false := ⟨by kernel_rfl, by kernel_rfl⟩
theorem at95 : Tryd.prog.funcs[95]? = some Tryd.f95 ∧ (Tryd.f95.name == "runtime.NumGoroutine") = false := ⟨by kernel_rfl, by kernel_rfl⟩
def tab : List (Nat × PFn) := [(12, pf12), (16, pf16), (17, pf17), (18, pf18), (19, pf19), (20, pf20), (27, pf27), (30, pf30), (32, pf32), (33, pf33), (34, pf34), (35, pf35), (36, pf36), (37, pf37), (38, pf38), (39, pf39), (40, pf40), (53, pf53), (54, pf54), (55, pf55), (56, pf56), (57, pf57), (58, pf58), (59, pf59), (60, pf60), (61, pf61), (62, pf62), (63, pf63), (73, pf73), (74, pf74), (75, pf75), (76, pf76), (77, pf77), (78, pf78), (79, pf79), (80, pf80), (81, pf81), (82, pf82), (83, pf83), (90, pf90), (91, pf91), (92, pf92), (93, pf93), (94, pf94), (95, pf95)]
theorem tab_ok : TabOK Tryd.prog tab :=
  .cons mixed at12 pf12_eq (.cons mixed at16 pf16_eq (.cons mixed at17 pf17_eq (.cons mixed at18 pf18_eq (.cons mixed at19 pf19_eq (.cons mixed at20 pf20_eq (.cons mixed at27 pf27_eq (.cons mixed at30 pf30_eq (.cons mixed at32 pf32_eq (.cons mixed at33 pf33_eq (.cons mixed at34 pf34_eq (.cons mixed at35 pf35_eq (.cons mixed at36 pf36_eq (.cons mixed at37 pf37_eq (.cons mixed at38 pf38_eq (.cons mixed at39 pf39_eq (.cons mixed at40 pf40_eq (.cons mixed at53 pf53_eq (.cons mixed at54 pf54_eq (.cons mixed at55 pf55_eq (.cons mixed at56 pf56_eq (.cons mixed at57 pf57_eq (.cons mixed at58 pf58_eq (.cons mixed at59 pf59_eq (.cons mixed at60 pf60_eq (.cons mixed at61 pf61_eq (.cons mixed at62 pf62_eq (.cons mixed at63 pf63_eq (.cons mixed at73 pf73_eq (.cons mixed at74 pf74_eq (.cons mixed at75 pf75_eq (.cons mixed at76 pf76_eq (.cons mixed at77 pf77_eq (.cons mixed at78 pf78_eq (.cons mixed at79 pf79_eq (.cons mixed at80 pf80_eq (.cons mixed at81 pf81_eq (.cons mixed at82 pf82_eq (.cons mixed at83 pf83_eq (.cons mixed at90 pf90_eq (.cons mixed at91 pf91_eq (.cons mixed at92 pf92_eq (.cons mixed at93 pf93_eq (.cons mixed at94 pf94_eq (.cons mixed at95 pf95_eq (.nil)))))))))))))))))))))))))))))))))))))))))))))
noncomputable def G0 : Nat → Option Trans := tabG (tget []) (tget tab) 5
theorem G0_ok : GOK Tryd.prog G0 := tabG_ok .nil tab_ok 5
end Go.Proofs.YtkfkoldaeplckaaDoor
