/-
  The programs of the functions that the laws reach, read off the given program by the kernel.
-/
import Derived.Test.YthomcgclkbmnkaaDoorProg
import Derived.Test.YthomcgclkbmnkaaDoorVcs
namespace Go.Proofs.YthomcgclkbmnkaaDoor
open Go Go.Vc
set_option maxRecDepth 100000
theorem mixed : Tryd.prog.follows .mixedOrders = true := by kernel_rfl
/-- corral/corrallaw16.NetWhole  sizes [] -/
def pl3 : Nat → DT := dtGet []
def pf3 : PFn := ⟨106, [.t 4], (.seq (.ops false [⟨(some 4), .mov (.c (.v (.bool false))), none⟩] .done)
  (.seq (.ops false [⟨(some 14), .call 7 [], none⟩,
    ⟨(some 5), .mov (.t 14), none⟩] .done)
  (.seq (.seq (.ops false [⟨(some 15), .mov (.t 5), none⟩,
     ⟨(some 16), .un .not (.t 15), none⟩] .done)
   (.cond (.t 16)
    (.seq (.ops false [⟨(some 4), .mov (.c (.v (.bool false))), none⟩] .done)
     .ret)
    .skip))
  (.seq (.ops false [⟨(some 17), .mov (.t 0), none⟩,
    ⟨(some 18), .bin .rem (.t 17) (.c (.v (.int .i64 20))), none⟩,
    ⟨(some 19), .bin .add (.t 18) (.c (.v (.int .i64 20))), none⟩,
    ⟨(some 20), .bin .rem (.t 19) (.c (.v (.int .i64 20))), none⟩,
    ⟨(some 0), .mov (.t 20), none⟩] .done)
  (.seq (.ops false [⟨(some 21), .mov (.t 1), none⟩,
    ⟨(some 22), .bin .rem (.t 21) (.c (.v (.int .i64 20))), none⟩,
    ⟨(some 23), .bin .add (.t 22) (.c (.v (.int .i64 20))), none⟩,
    ⟨(some 24), .bin .rem (.t 23) (.c (.v (.int .i64 20))), none⟩,
    ⟨(some 1), .mov (.t 24), none⟩] .done)
  (.seq (.ops false [⟨(some 26), .call 8 [(.c (.v (.int .i64 2))), (.c (.v (.int .i64 30)))], none⟩,
    ⟨(some 25), .mov (.t 26), none⟩,
    ⟨(some 27), .ext (.t 25) 0, none⟩,
    ⟨(some 28), .ext (.t 25) 1, none⟩,
    ⟨(some 6), .mov (.t 27), none⟩,
    ⟨(some 7), .mov (.t 28), none⟩] .done)
  (.seq (.seq (.ops false [⟨(some 29), .mov (.t 6), none⟩,
     ⟨(some 30), .eqp 0 true false (.t 29) (.c (.v (.pointer none))), none⟩,
     ⟨(some 31), .mov (.t 30), none⟩,
     ⟨(some 32), .mov (.t 7), some (31, false)⟩,
     ⟨(some 33), .eqp 1 true true (.t 32) (.c (.v .nilIface)), some (31, false)⟩,
     ⟨(some 34), .pick (.t 31) (.c (.v (.bool true))) (.t 33), none⟩] .done)
   (.cond (.t 34)
    (.seq (.ops false [⟨(some 4), .mov (.c (.v (.bool false))), none⟩] .done)
     .ret)
    .skip))
  (.seq (.ops false [⟨(some 8), .mov (.c (.v (.slice none 0 0))), none⟩] .done)
  (.seq (.seq (.ops false [⟨(some 9), .mov (.c (.v (.int .i64 0))), none⟩] .done)
   (.block 0 (.loop (.seq (.seq (.ops false [⟨(some 35), .mov (.t 9), none⟩,
        ⟨(some 36), .mov (.t 0), none⟩,
        ⟨(some 37), .bin .lss (.t 35) (.t 36), none⟩] .done)
      (.cond (.t 37)
       .skip
       (.exit 0)))
     (.seq (.block 1 (.seq (.ops false [⟨(some 40), .mov (.t 9), none⟩,
         ⟨(some 41), .bin .rem (.t 40) (.c (.v (.int .i64 2))), none⟩,
         ⟨(some 42), .mov (.t 9), none⟩,
         ⟨(some 43), .build [(.v (.int .i64 0)), (.v (.int .i64 0)), (.v (.int .i64 0)), (.v (.int .i64 0)), (.v (.int .u32 0)), (.v (.int .u32 0)), (.v (.int .u32 0)), (.v (.int .u32 0)), (.v (.bool false)), (.v (.bool false)), (.v (.bool false))] [(0, 1, (.c (.v (.int .i64 1)))), (2, 1, (.t 41)), (3, 1, (.c (.v (.int .i64 (-1))))), (1, 1, (.t 42))], none⟩,
         ⟨(some 10), .box 33 (.c (.agg [(.v (.int .i64 0)), (.v (.int .i64 0)), (.v (.int .i64 0)), (.v (.int .i64 0)), (.v (.int .u32 0)), (.v (.int .u32 0)), (.v (.int .u32 0)), (.v (.int .u32 0)), (.v (.bool false)), (.v (.bool false)), (.v (.bool false))])), none⟩,
         ⟨none, .store 11 (.t 10) (.t 43), none⟩] .done)
       (.seq (.seq (.ops false [⟨(some 44), .mov (.t 9), none⟩,
          ⟨(some 45), .mov (.t 1), none⟩,
          ⟨(some 46), .bin .eql (.t 44) (.t 45), none⟩] .done)
        (.cond (.t 46)
         (.ops false [⟨(some 47), .fld 1 (.t 10), none⟩,
           ⟨none, .store 1 (.t 47) (.c (.v (.int .i64 (-1)))), none⟩] .done)
         .skip))
       (.ops false [⟨(some 48), .mov (.t 8), none⟩,
        ⟨(some 49), .load (some 11) (.t 10), none⟩,
        ⟨(some 50), .bslice 33 [.int .i64, .int .i64, .int .i64, .int .i64, .int .u32, .int .u32, .int .u32, .int .u32, .bool, .bool, .bool] 1 [(.v (.int .i64 0)), (.v (.int .i64 0)), (.v (.int .i64 0)), (.v (.int .i64 0)), (.v (.int .u32 0)), (.v (.int .u32 0)), (.v (.int .u32 0)), (.v (.int .u32 0)), (.v (.bool false)), (.v (.bool false)), (.v (.bool false))] [(0, 11, (.t 49))], none⟩,
        ⟨(some 51), .append 33 [.int .i64, .int .i64, .int .i64, .int .i64, .int .u32, .int .u32, .int .u32, .int .u32, .bool, .bool, .bool] [(.int .i64 0), (.int .i64 0), (.int .i64 0), (.int .i64 0), (.int .u32 0), (.int .u32 0), (.int .u32 0), (.int .u32 0), (.bool false), (.bool false), (.bool false)] 56 (.t 48) (.t 50), none⟩,
        ⟨(some 8), .mov (.t 51), none⟩] .done))))
     (.ops false [⟨(some 38), .mov (.t 9), none⟩,
      ⟨(some 39), .bin .add (.t 38) (.c (.v (.int .i64 1))), none⟩,
      ⟨(some 9), .mov (.t 39), none⟩] .done))))))
  (.seq (.ops false [⟨(some 52), .mov (.t 6), none⟩,
    ⟨(some 53), .mov (.t 8), none⟩,
    ⟨(some 54), .call 9 [(.t 52), (.t 53)], none⟩,
    ⟨(some 11), .mov (.t 54), none⟩] .done)
  (.seq (.seq (.ops false [⟨(some 55), .mov (.t 1), none⟩,
     ⟨(some 56), .mov (.t 0), none⟩,
     ⟨(some 57), .bin .lss (.t 55) (.t 56), none⟩] .done)
   (.cond (.t 57)
    (.seq (.ops false [⟨(some 58), .mov (.t 5), none⟩,
       ⟨(some 59), .mov (.t 58), none⟩,
       ⟨(some 60), .mov (.t 11), some (59, true)⟩,
       ⟨(some 61), .mov (.t 1), some (59, true)⟩,
       ⟨(some 62), .call 11 [(.c (.v (.int .i64 103))), (.t 61)], some (59, true)⟩,
       ⟨(some 63), .call 10 [(.t 60), (.t 62)], some (59, true)⟩,
       ⟨(some 64), .pick (.t 59) (.t 63) (.c (.v (.bool false))), none⟩,
       ⟨(some 65), .mov (.t 64), none⟩,
       ⟨(some 66), .mov (.t 6), some (65, true)⟩,
       ⟨(some 67), .call 12 [(.t 66)], some (65, true)⟩,
       ⟨(some 68), .bin .eql (.t 67) (.c (.v (.int .i64 0))), some (65, true)⟩,
       ⟨(some 69), .pick (.t 65) (.t 68) (.c (.v (.bool false))), none⟩,
       ⟨(some 4), .mov (.t 69), none⟩] .done)
     .ret)
    .skip))
  (.seq (.ops false [⟨(some 70), .mov (.t 6), none⟩,
    ⟨(some 71), .call 13 [(.t 70)], none⟩,
    ⟨(some 12), .mov (.t 71), none⟩] .done)
  (.seq (.seq (.ops false [⟨(some 13), .mov (.c (.v (.int .i64 0))), none⟩] .done)
   (.block 2 (.loop (.seq (.seq (.ops false [⟨(some 72), .mov (.t 13), none⟩,
        ⟨(some 73), .mov (.t 12), none⟩,
        ⟨(some 74), .len (.t 73), none⟩,
        ⟨(some 75), .bin .lss (.t 72) (.t 74), none⟩] .done)
      (.cond (.t 75)
       .skip
       (.exit 2)))
     (.seq (.block 3 (.seq (.ops false [⟨(some 78), .mov (.t 12), none⟩,
         ⟨(some 79), .mov (.t 13), none⟩,
         ⟨(some 80), .idx 12 (.t 78) (.t 79), none⟩,
         ⟨(some 81), .fld 0 (.t 80), none⟩,
         ⟨(some 82), .load none (.t 81), none⟩,
         ⟨(some 83), .mov (.t 13), none⟩,
         ⟨(some 84), .bin .neq (.t 82) (.t 83), none⟩,
         ⟨(some 85), .mov (.t 84), none⟩,
         ⟨(some 86), .mov (.t 12), some (85, false)⟩,
         ⟨(some 87), .mov (.t 13), some (85, false)⟩,
         ⟨(some 88), .idx 12 (.t 86) (.t 87), some (85, false)⟩,
         ⟨(some 89), .fld 1 (.t 88), some (85, false)⟩,
         ⟨(some 90), .fld 1 (.t 89), some (85, false)⟩,
         ⟨(some 91), .load none (.t 90), some (85, false)⟩,
         ⟨(some 92), .mov (.t 13), some (85, false)⟩,
         ⟨(some 93), .bin .neq (.t 91) (.t 92), some (85, false)⟩,
         ⟨(some 94), .pick (.t 85) (.c (.v (.bool true))) (.t 93), none⟩] .done)
       (.cond (.t 94)
        (.seq (.ops false [⟨(some 4), .mov (.c (.v (.bool false))), none⟩] .done)
         .ret)
        .skip)))
     (.ops false [⟨(some 76), .mov (.t 13), none⟩,
      ⟨(some 77), .bin .add (.t 76) (.c (.v (.int .i64 1))), none⟩,
      ⟨(some 13), .mov (.t 77), none⟩] .done))))))
  (.seq (.ops false [⟨(some 95), .mov (.t 5), none⟩,
    ⟨(some 96), .mov (.t 95), none⟩,
    ⟨(some 97), .mov (.t 11), some (96, true)⟩,
    ⟨(some 98), .eqp 1 true false (.t 97) (.c (.v .nilIface)), some (96, true)⟩,
    ⟨(some 99), .pick (.t 96) (.t 98) (.c (.v (.bool false))), none⟩,
    ⟨(some 100), .mov (.t 99), none⟩,
    ⟨(some 101), .mov (.t 12), some (100, true)⟩,
    ⟨(some 102), .len (.t 101), some (100, true)⟩,
    ⟨(some 103), .mov (.t 0), some (100, true)⟩,
    ⟨(some 104), .bin .eql (.t 102) (.t 103), some (100, true)⟩,
    ⟨(some 105), .pick (.t 100) (.t 104) (.c (.v (.bool false))), none⟩,
    ⟨(some 4), .mov (.t 105), none⟩] .done)
  .ret))))))))))))))⟩
theorem pf3_eq : (Tryd.f3.body.map fun c => (cfn Tryd.prog pl3 Tryd.f3 c, guardsAll pl3 c)) = some (pf3, true) := by kernel_rfl

/-- corral/corrallaw16.NetLinks  sizes [] -/
def pl4 : Nat → DT := dtGet []
def pf4 : PFn := ⟨154, [.t 8], (.seq (.ops false [⟨(some 8), .mov (.c (.v (.bool false))), none⟩] .done)
  (.seq (.ops false [⟨(some 19), .call 7 [], none⟩,
    ⟨(some 9), .mov (.t 19), none⟩] .done)
  (.seq (.seq (.ops false [⟨(some 20), .mov (.t 9), none⟩,
     ⟨(some 21), .un .not (.t 20), none⟩] .done)
   (.cond (.t 21)
    (.seq (.ops false [⟨(some 8), .mov (.c (.v (.bool false))), none⟩] .done)
     .ret)
    .skip))
  (.seq (.ops false [⟨(some 22), .mov (.t 3), none⟩,
    ⟨(some 23), .bin .rem (.t 22) (.c (.v (.int .i64 64))), none⟩,
    ⟨(some 24), .bin .add (.t 23) (.c (.v (.int .i64 64))), none⟩,
    ⟨(some 25), .bin .rem (.t 24) (.c (.v (.int .i64 64))), none⟩,
    ⟨(some 26), .bin .add (.t 25) (.c (.v (.int .i64 1))), none⟩,
    ⟨(some 3), .mov (.t 26), none⟩] .done)
  (.seq (.ops false [⟨(some 28), .mov (.t 3), none⟩,
    ⟨(some 29), .call 8 [(.c (.v (.int .i64 3))), (.t 28)], none⟩,
    ⟨(some 27), .mov (.t 29), none⟩,
    ⟨(some 30), .ext (.t 27) 0, none⟩,
    ⟨(some 31), .ext (.t 27) 1, none⟩,
    ⟨(some 10), .mov (.t 30), none⟩,
    ⟨(some 11), .mov (.t 31), none⟩] .done)
  (.seq (.seq (.ops false [⟨(some 32), .mov (.t 10), none⟩,
     ⟨(some 33), .eqp 0 true false (.t 32) (.c (.v (.pointer none))), none⟩,
     ⟨(some 34), .mov (.t 33), none⟩,
     ⟨(some 35), .mov (.t 11), some (34, false)⟩,
     ⟨(some 36), .eqp 1 true true (.t 35) (.c (.v .nilIface)), some (34, false)⟩,
     ⟨(some 37), .pick (.t 34) (.c (.v (.bool true))) (.t 36), none⟩] .done)
   (.cond (.t 37)
    (.seq (.ops false [⟨(some 8), .mov (.c (.v (.bool false))), none⟩] .done)
     .ret)
    .skip))
  (.seq (.ops false [⟨(some 38), .mov (.t 0), none⟩,
    ⟨(some 39), .mov (.t 1), none⟩,
    ⟨(some 40), .mov (.t 2), none⟩,
    ⟨(some 41), .build [(.v (.int .i64 0)), (.v (.int .i64 0)), (.v (.int .i64 0)), (.v (.int .i64 0)), (.v (.int .u32 0)), (.v (.int .u32 0)), (.v (.int .u32 0)), (.v (.int .u32 0)), (.v (.bool false)), (.v (.bool false)), (.v (.bool false))] [(0, 1, (.t 38)), (2, 1, (.t 39)), (3, 1, (.t 40))], none⟩,
    ⟨(some 12), .box 33 (.c (.agg [(.v (.int .i64 0)), (.v (.int .i64 0)), (.v (.int .i64 0)), (.v (.int .i64 0)), (.v (.int .u32 0)), (.v (.int .u32 0)), (.v (.int .u32 0)), (.v (.int .u32 0)), (.v (.bool false)), (.v (.bool false)), (.v (.bool false))])), none⟩,
    ⟨none, .store 11 (.t 12) (.t 41), none⟩] .done)
  (.seq (.ops false [⟨(some 42), .mov (.t 0), none⟩,
    ⟨(some 43), .call 14 [(.t 42)], none⟩,
    ⟨(some 13), .mov (.t 43), none⟩] .done)
  (.seq (.ops false [⟨(some 44), .mov (.t 1), none⟩,
    ⟨(some 45), .bin .geq (.t 44) (.c (.v (.int .i64 0))), none⟩,
    ⟨(some 46), .mov (.t 45), none⟩,
    ⟨(some 47), .mov (.t 1), some (46, true)⟩,
    ⟨(some 48), .bin .lss (.t 47) (.c (.v (.int .i64 3))), some (46, true)⟩,
    ⟨(some 49), .pick (.t 46) (.t 48) (.c (.v (.bool false))), none⟩,
    ⟨(some 50), .mov (.t 49), none⟩,
    ⟨(some 51), .mov (.t 2), some (50, true)⟩,
    ⟨(some 52), .bin .eql (.t 51) (.c (.v (.int .i64 (-1)))), some (50, true)⟩,
    ⟨(some 53), .pick (.t 50) (.t 52) (.c (.v (.bool false))), none⟩,
    ⟨(some 54), .mov (.t 53), none⟩,
    ⟨(some 55), .mov (.t 13), some (54, true)⟩,
    ⟨(some 56), .bin .eql (.t 55) (.c (.v (.int .i64 0))), some (54, true)⟩,
    ⟨(some 57), .mov (.t 56), some (54, true)⟩,
    ⟨(some 58), .mov (.t 13), some (57, false)⟩,
    ⟨(some 59), .bin .eql (.t 58) (.c (.v (.int .i64 2))), some (57, false)⟩,
    ⟨(some 60), .pick (.t 57) (.c (.v (.bool true))) (.t 59), some (54, true)⟩,
    ⟨(some 61), .pick (.t 54) (.t 60) (.c (.v (.bool false))), none⟩,
    ⟨(some 14), .mov (.t 61), none⟩] .done)
  (.seq (.ops false [⟨(some 62), .mov (.t 1), none⟩,
    ⟨(some 63), .bin .eql (.t 62) (.c (.v (.int .i64 (-1)))), none⟩,
    ⟨(some 64), .mov (.t 63), none⟩,
    ⟨(some 65), .mov (.t 2), some (64, true)⟩,
    ⟨(some 66), .bin .geq (.t 65) (.c (.v (.int .i64 0))), some (64, true)⟩,
    ⟨(some 67), .pick (.t 64) (.t 66) (.c (.v (.bool false))), none⟩,
    ⟨(some 68), .mov (.t 67), none⟩,
    ⟨(some 69), .mov (.t 2), some (68, true)⟩,
    ⟨(some 70), .bin .lss (.t 69) (.c (.v (.int .i64 3))), some (68, true)⟩,
    ⟨(some 71), .pick (.t 68) (.t 70) (.c (.v (.bool false))), none⟩,
    ⟨(some 72), .mov (.t 71), none⟩,
    ⟨(some 73), .mov (.t 13), some (72, true)⟩,
    ⟨(some 74), .bin .eql (.t 73) (.c (.v (.int .i64 1))), some (72, true)⟩,
    ⟨(some 75), .pick (.t 72) (.t 74) (.c (.v (.bool false))), none⟩,
    ⟨(some 15), .mov (.t 75), none⟩] .done)
  (.seq (.ops false [⟨(some 76), .mov (.t 10), none⟩,
    ⟨(some 77), .load (some 11) (.t 12), none⟩,
    ⟨(some 78), .bslice 33 [.int .i64, .int .i64, .int .i64, .int .i64, .int .u32, .int .u32, .int .u32, .int .u32, .bool, .bool, .bool] 1 [(.v (.int .i64 0)), (.v (.int .i64 0)), (.v (.int .i64 0)), (.v (.int .i64 0)), (.v (.int .u32 0)), (.v (.int .u32 0)), (.v (.int .u32 0)), (.v (.int .u32 0)), (.v (.bool false)), (.v (.bool false)), (.v (.bool false))] [(0, 11, (.t 77))], none⟩,
    ⟨(some 79), .call 9 [(.t 76), (.t 78)], none⟩,
    ⟨(some 16), .mov (.t 79), none⟩] .done)
  (.seq (.seq (.ops false [⟨(some 80), .mov (.t 13), none⟩,
     ⟨(some 81), .bin .lss (.t 80) (.c (.v (.int .i64 0))), none⟩] .done)
   (.cond (.t 81)
    (.seq (.ops false [⟨(some 82), .mov (.t 9), none⟩,
       ⟨(some 83), .mov (.t 82), none⟩,
       ⟨(some 84), .mov (.t 16), some (83, true)⟩,
       ⟨(some 85), .call 11 [(.c (.v (.int .i64 102))), (.c (.v (.int .i64 0)))], some (83, true)⟩,
       ⟨(some 86), .call 10 [(.t 84), (.t 85)], some (83, true)⟩,
       ⟨(some 87), .pick (.t 83) (.t 86) (.c (.v (.bool false))), none⟩,
       ⟨(some 88), .mov (.t 87), none⟩,
       ⟨(some 89), .mov (.t 0), some (88, true)⟩,
       ⟨(some 90), .bin .lss (.t 89) (.c (.v (.int .i64 1))), some (88, true)⟩,
       ⟨(some 91), .mov (.t 90), some (88, true)⟩,
       ⟨(some 92), .mov (.t 0), some (91, false)⟩,
       ⟨(some 93), .bin .gtr (.t 92) (.c (.v (.int .i64 12))), some (91, false)⟩,
       ⟨(some 94), .pick (.t 91) (.c (.v (.bool true))) (.t 93), some (88, true)⟩,
       ⟨(some 95), .pick (.t 88) (.t 94) (.c (.v (.bool false))), none⟩,
       ⟨(some 8), .mov (.t 95), none⟩] .done)
     .ret)
    .skip))
  (.seq (.seq (.ops false [⟨(some 96), .mov (.t 14), none⟩,
     ⟨(some 97), .un .not (.t 96), none⟩,
     ⟨(some 98), .mov (.t 97), none⟩,
     ⟨(some 99), .mov (.t 15), some (98, true)⟩,
     ⟨(some 100), .un .not (.t 99), some (98, true)⟩,
     ⟨(some 101), .pick (.t 98) (.t 100) (.c (.v (.bool false))), none⟩] .done)
   (.cond (.t 101)
    (.seq (.ops false [⟨(some 102), .mov (.t 9), none⟩,
       ⟨(some 103), .mov (.t 102), none⟩,
       ⟨(some 104), .mov (.t 16), some (103, true)⟩,
       ⟨(some 105), .call 11 [(.c (.v (.int .i64 103))), (.c (.v (.int .i64 0)))], some (103, true)⟩,
       ⟨(some 106), .call 10 [(.t 104), (.t 105)], some (103, true)⟩,
       ⟨(some 107), .pick (.t 103) (.t 106) (.c (.v (.bool false))), none⟩,
       ⟨(some 108), .mov (.t 107), none⟩,
       ⟨(some 109), .mov (.t 10), some (108, true)⟩,
       ⟨(some 110), .mov (.t 1), some (108, true)⟩,
       ⟨(some 111), .mov (.t 2), some (108, true)⟩,
       ⟨(some 112), .mov (.t 13), some (108, true)⟩,
       ⟨(some 113), .call 15 [(.t 109), (.t 110), (.t 111), (.t 112)], some (108, true)⟩,
       ⟨(some 114), .bin .eql (.t 113) (.c (.v (.int .i64 0))), some (108, true)⟩,
       ⟨(some 115), .pick (.t 108) (.t 114) (.c (.v (.bool false))), none⟩,
       ⟨(some 8), .mov (.t 115), none⟩] .done)
     .ret)
    .skip))
  (.seq (.seq (.ops false [⟨(some 116), .mov (.t 16), none⟩,
     ⟨(some 117), .eqp 1 true true (.t 116) (.c (.v .nilIface)), none⟩,
     ⟨(some 118), .mov (.t 117), none⟩,
     ⟨(some 119), .mov (.t 10), some (118, false)⟩,
     ⟨(some 120), .mov (.t 1), some (118, false)⟩,
     ⟨(some 121), .mov (.t 2), some (118, false)⟩,
     ⟨(some 122), .mov (.t 13), some (118, false)⟩,
     ⟨(some 123), .call 15 [(.t 119), (.t 120), (.t 121), (.t 122)], some (118, false)⟩,
     ⟨(some 124), .mov (.t 3), some (118, false)⟩,
     ⟨(some 125), .bin .sub (.t 124) (.c (.v (.int .i64 1))), some (118, false)⟩,
     ⟨(some 126), .bin .neq (.t 123) (.t 125), some (118, false)⟩,
     ⟨(some 127), .pick (.t 118) (.c (.v (.bool true))) (.t 126), none⟩] .done)
   (.cond (.t 127)
    (.seq (.ops false [⟨(some 8), .mov (.c (.v (.bool false))), none⟩] .done)
     .ret)
    .skip))
  (.seq (.seq (.ops false [⟨(some 17), .mov (.c (.v (.int .i64 1))), none⟩] .done)
   (.block 0 (.loop (.seq (.seq (.ops false [⟨(some 128), .mov (.t 17), none⟩,
        ⟨(some 129), .mov (.t 3), none⟩,
        ⟨(some 130), .bin .lss (.t 128) (.t 129), none⟩] .done)
      (.cond (.t 130)
       .skip
       (.exit 0)))
     (.seq (.block 1 (.seq (.ops false [⟨(some 133), .mov (.t 10), none⟩,
         ⟨(some 134), .load (some 11) (.t 12), none⟩,
         ⟨(some 135), .bslice 33 [.int .i64, .int .i64, .int .i64, .int .i64, .int .u32, .int .u32, .int .u32, .int .u32, .bool, .bool, .bool] 1 [(.v (.int .i64 0)), (.v (.int .i64 0)), (.v (.int .i64 0)), (.v (.int .i64 0)), (.v (.int .u32 0)), (.v (.int .u32 0)), (.v (.int .u32 0)), (.v (.int .u32 0)), (.v (.bool false)), (.v (.bool false)), (.v (.bool false))] [(0, 11, (.t 134))], none⟩,
         ⟨(some 136), .call 9 [(.t 133), (.t 135)], none⟩,
         ⟨(some 137), .eqp 1 true true (.t 136) (.c (.v .nilIface)), none⟩] .done)
       (.cond (.t 137)
        (.seq (.ops false [⟨(some 8), .mov (.c (.v (.bool false))), none⟩] .done)
         .ret)
        .skip)))
     (.ops false [⟨(some 131), .mov (.t 17), none⟩,
      ⟨(some 132), .bin .add (.t 131) (.c (.v (.int .i64 1))), none⟩,
      ⟨(some 17), .mov (.t 132), none⟩] .done))))))
  (.seq (.ops false [⟨(some 138), .mov (.t 10), none⟩,
    ⟨(some 139), .load (some 11) (.t 12), none⟩,
    ⟨(some 140), .bslice 33 [.int .i64, .int .i64, .int .i64, .int .i64, .int .u32, .int .u32, .int .u32, .int .u32, .bool, .bool, .bool] 1 [(.v (.int .i64 0)), (.v (.int .i64 0)), (.v (.int .i64 0)), (.v (.int .i64 0)), (.v (.int .u32 0)), (.v (.int .u32 0)), (.v (.int .u32 0)), (.v (.int .u32 0)), (.v (.bool false)), (.v (.bool false)), (.v (.bool false))] [(0, 11, (.t 139))], none⟩,
    ⟨(some 141), .call 9 [(.t 138), (.t 140)], none⟩,
    ⟨(some 18), .mov (.t 141), none⟩] .done)
  (.seq (.ops false [⟨(some 142), .mov (.t 9), none⟩,
    ⟨(some 143), .mov (.t 142), none⟩,
    ⟨(some 144), .mov (.t 18), some (143, true)⟩,
    ⟨(some 145), .call 11 [(.c (.v (.int .i64 107))), (.c (.v (.int .i64 0)))], some (143, true)⟩,
    ⟨(some 146), .call 10 [(.t 144), (.t 145)], some (143, true)⟩,
    ⟨(some 147), .pick (.t 143) (.t 146) (.c (.v (.bool false))), none⟩,
    ⟨(some 148), .mov (.t 147), none⟩,
    ⟨(some 149), .mov (.t 10), some (148, true)⟩,
    ⟨(some 150), .call 12 [(.t 149)], some (148, true)⟩,
    ⟨(some 151), .mov (.t 3), some (148, true)⟩,
    ⟨(some 152), .bin .eql (.t 150) (.t 151), some (148, true)⟩,
    ⟨(some 153), .pick (.t 148) (.t 152) (.c (.v (.bool false))), none⟩,
    ⟨(some 8), .mov (.t 153), none⟩] .done)
  .ret)))))))))))))))))⟩
theorem pf4_eq : (Tryd.f4.body.map fun c => (cfn Tryd.prog pl4 Tryd.f4 c, guardsAll pl4 c)) = some (pf4, true) := by kernel_rfl

/-- corral/corrallaw16.NetKeeps  sizes [(24, 19)] -/
def pl5 : Nat → DT := dtGet [(24, (.take 0 [0, 5, 6, 7, 8, 16, 17, 9, 10, 11, 12, 13, 14, 15] (.take 1 [1, 3, 4, 5, 6, 7, 8, 16, 17, 9, 10, 11, 12, 13, 14, 15] (.take 2 [2, 3, 4, 5, 6, 7, 8, 16, 17, 9, 10, 11, 12, 13, 14, 15] (.take 3 [3, 4, 5, 6, 7, 8, 16, 17, 9, 10, 11, 12, 13, 14, 15] (.take 4 [4, 5, 6, 7, 8, 16, 17, 9, 10, 11, 12, 13, 14, 15] (.take 5 [5, 6, 7, 8, 16, 17, 9, 10, 11, 12, 13, 14, 15] (.take 6 [6, 7, 8, 16, 17, 9, 10, 11, 12, 13, 14, 15] (.take 7 [7, 8, 9, 10, 11, 12, 13, 14, 15, 16, 17] (.take 8 [8, 9, 10, 11, 12, 13, 14, 15, 16, 17] (.take 9 [9, 14, 15, 16, 17] (.take 10 [10, 12, 13, 14, 15, 16, 17] (.take 11 [11, 12, 13, 14, 15, 16, 17] (.take 12 [12, 13, 14, 15, 16, 17] (.take 13 [13, 14, 15, 16, 17] (.eff true 14 (.take 15 [15, 16, 17] (.take 16 [16, 17] (.take 17 [17] .done)))))))))))))))))))]
def pf5 : PFn := ⟨130, [.t 4], (.seq (.ops false [⟨(some 4), .mov (.c (.v (.bool false))), none⟩] .done)
  (.seq (.ops false [⟨(some 16), .call 7 [], none⟩,
    ⟨(some 5), .mov (.t 16), none⟩] .done)
  (.seq (.seq (.ops false [⟨(some 17), .mov (.t 5), none⟩,
     ⟨(some 18), .un .not (.t 17), none⟩] .done)
   (.cond (.t 18)
    (.seq (.ops false [⟨(some 4), .mov (.c (.v (.bool false))), none⟩] .done)
     .ret)
    .skip))
  (.seq (.seq (.ops false [⟨(some 19), .mov (.t 0), none⟩,
     ⟨(some 20), .len (.t 19), none⟩,
     ⟨(some 21), .bin .gtr (.t 20) (.c (.v (.int .i64 60))), none⟩,
     ⟨(some 22), .mov (.t 21), none⟩,
     ⟨(some 23), .mov (.t 1), some (22, false)⟩,
     ⟨(some 24), .len (.t 23), some (22, false)⟩,
     ⟨(some 25), .bin .gtr (.t 24) (.c (.v (.int .i64 60))), some (22, false)⟩,
     ⟨(some 26), .pick (.t 22) (.c (.v (.bool true))) (.t 25), none⟩,
     ⟨(some 27), .mov (.t 26), none⟩,
     ⟨(some 28), .mov (.t 5), some (27, false)⟩,
     ⟨(some 29), .un .not (.t 28), some (27, false)⟩,
     ⟨(some 30), .pick (.t 27) (.c (.v (.bool true))) (.t 29), none⟩] .done)
   (.cond (.t 30)
    (.seq (.ops false [⟨(some 31), .mov (.t 5), none⟩,
       ⟨(some 4), .mov (.t 31), none⟩] .done)
     .ret)
    .skip))
  (.seq (.ops false [⟨(some 33), .call 8 [(.c (.v (.int .i64 4))), (.c (.v (.int .i64 64)))], none⟩,
    ⟨(some 32), .mov (.t 33), none⟩,
    ⟨(some 34), .ext (.t 32) 0, none⟩,
    ⟨(some 35), .ext (.t 32) 1, none⟩,
    ⟨(some 6), .mov (.t 34), none⟩,
    ⟨(some 7), .mov (.t 35), none⟩] .done)
  (.seq (.seq (.ops false [⟨(some 36), .mov (.t 6), none⟩,
     ⟨(some 37), .eqp 0 true false (.t 36) (.c (.v (.pointer none))), none⟩,
     ⟨(some 38), .mov (.t 37), none⟩,
     ⟨(some 39), .mov (.t 7), some (38, false)⟩,
     ⟨(some 40), .eqp 1 true true (.t 39) (.c (.v .nilIface)), some (38, false)⟩,
     ⟨(some 41), .pick (.t 38) (.c (.v (.bool true))) (.t 40), none⟩] .done)
   (.cond (.t 41)
    (.seq (.ops false [⟨(some 4), .mov (.c (.v (.bool false))), none⟩] .done)
     .ret)
    .skip))
  (.seq (.ops false [⟨(some 8), .mov (.c (.v (.slice none 0 0))), none⟩] .done)
  (.seq (.seq (.ops false [⟨(some 9), .mov (.c (.v (.int .i64 0))), none⟩] .done)
   (.block 0 (.loop (.seq (.seq (.ops false [⟨(some 42), .mov (.t 9), none⟩,
        ⟨(some 43), .mov (.t 0), none⟩,
        ⟨(some 44), .len (.t 43), none⟩,
        ⟨(some 45), .bin .lss (.t 42) (.t 44), none⟩] .done)
      (.cond (.t 45)
       .skip
       (.exit 0)))
     (.seq (.block 1 (.seq (.ops false [⟨(some 48), .mov (.t 6), none⟩,
         ⟨(some 49), .mov (.t 0), none⟩,
         ⟨(some 50), .mov (.t 9), none⟩,
         ⟨(some 51), .idx 11 (.t 49) (.t 50), none⟩,
         ⟨(some 52), .load (some 11) (.t 51), none⟩,
         ⟨(some 53), .bslice 33 [.int .i64, .int .i64, .int .i64, .int .i64, .int .u32, .int .u32, .int .u32, .int .u32, .bool, .bool, .bool] 1 [(.v (.int .i64 0)), (.v (.int .i64 0)), (.v (.int .i64 0)), (.v (.int .i64 0)), (.v (.int .u32 0)), (.v (.int .u32 0)), (.v (.int .u32 0)), (.v (.int .u32 0)), (.v (.bool false)), (.v (.bool false)), (.v (.bool false))] [(0, 11, (.t 52))], none⟩,
         ⟨(some 54), .call 9 [(.t 48), (.t 53)], none⟩,
         ⟨(some 55), .eqp 1 true false (.t 54) (.c (.v .nilIface)), none⟩] .done)
       (.cond (.t 55)
        (.ops false [⟨(some 56), .mov (.t 8), none⟩,
          ⟨(some 57), .mov (.t 0), none⟩,
          ⟨(some 58), .mov (.t 9), none⟩,
          ⟨(some 59), .idx 11 (.t 57) (.t 58), none⟩,
          ⟨(some 60), .load (some 11) (.t 59), none⟩,
          ⟨(some 61), .bslice 33 [.int .i64, .int .i64, .int .i64, .int .i64, .int .u32, .int .u32, .int .u32, .int .u32, .bool, .bool, .bool] 1 [(.v (.int .i64 0)), (.v (.int .i64 0)), (.v (.int .i64 0)), (.v (.int .i64 0)), (.v (.int .u32 0)), (.v (.int .u32 0)), (.v (.int .u32 0)), (.v (.int .u32 0)), (.v (.bool false)), (.v (.bool false)), (.v (.bool false))] [(0, 11, (.t 60))], none⟩,
          ⟨(some 62), .append 33 [.int .i64, .int .i64, .int .i64, .int .i64, .int .u32, .int .u32, .int .u32, .int .u32, .bool, .bool, .bool] [(.int .i64 0), (.int .i64 0), (.int .i64 0), (.int .i64 0), (.int .u32 0), (.int .u32 0), (.int .u32 0), (.int .u32 0), (.bool false), (.bool false), (.bool false)] 56 (.t 56) (.t 61), none⟩,
          ⟨(some 8), .mov (.t 62), none⟩] .done)
        .skip)))
     (.ops false [⟨(some 46), .mov (.t 9), none⟩,
      ⟨(some 47), .bin .add (.t 46) (.c (.v (.int .i64 1))), none⟩,
      ⟨(some 9), .mov (.t 47), none⟩] .done))))))
  (.seq (.ops false [⟨(some 63), .mov (.t 8), none⟩,
    ⟨(some 64), .len (.t 63), none⟩,
    ⟨(some 65), .mslice 4 [.bool] [(.bool false)] 1 (.t 64) (.t 64), none⟩,
    ⟨(some 10), .mov (.t 65), none⟩] .done)
  (.seq (.ops false [⟨(some 66), .mov (.t 8), none⟩,
    ⟨(some 67), .len (.t 66), none⟩,
    ⟨(some 11), .mov (.t 67), none⟩] .done)
  (.seq (.seq (.ops false [⟨(some 12), .mov (.c (.v (.int .i64 0))), none⟩] .done)
   (.block 2 (.loop (.seq (.seq (.ops false [⟨(some 68), .mov (.t 11), none⟩,
        ⟨(some 69), .bin .gtr (.t 68) (.c (.v (.int .i64 0))), none⟩] .done)
      (.cond (.t 69)
       .skip
       (.exit 2)))
     (.seq (.block 3 (.seq (.ops false [⟨(some 72), .mov (.t 12), none⟩,
         ⟨(some 73), .mov (.t 8), none⟩,
         ⟨(some 74), .len (.t 73), none⟩,
         ⟨(some 75), .bin .rem (.t 72) (.t 74), none⟩,
         ⟨(some 13), .mov (.t 75), none⟩] .done)
       (.seq (.seq (.ops false [⟨(some 76), .mov (.t 12), none⟩,
          ⟨(some 77), .mov (.t 1), none⟩,
          ⟨(some 78), .len (.t 77), none⟩,
          ⟨(some 79), .bin .lss (.t 76) (.t 78), none⟩] .done)
        (.cond (.t 79)
         (.ops false [⟨(some 80), .mov (.t 1), none⟩,
           ⟨(some 81), .mov (.t 12), none⟩,
           ⟨(some 82), .idx 1 (.t 80) (.t 81), none⟩,
           ⟨(some 83), .load none (.t 82), none⟩,
           ⟨(some 84), .mov (.t 8), none⟩,
           ⟨(some 85), .len (.t 84), none⟩,
           ⟨(some 86), .call 16 [(.t 83), (.t 85)], none⟩,
           ⟨(some 13), .mov (.t 86), none⟩] .done)
         .skip))
       (.seq (.ops false [⟨(some 88), .mov (.t 6), none⟩,
         ⟨(some 89), .mov (.t 13), none⟩,
         ⟨(some 90), .call 17 [(.t 88), (.t 89)], none⟩,
         ⟨(some 87), .mov (.t 90), none⟩,
         ⟨(some 91), .ext (.t 87) 0, none⟩,
         ⟨(some 92), .ext (.t 87) 1, none⟩,
         ⟨(some 14), .box 33 (.c (.agg [(.v (.int .i64 0)), (.v (.int .i64 0)), (.v (.int .i64 0)), (.v (.int .i64 0)), (.v (.int .u32 0)), (.v (.int .u32 0)), (.v (.int .u32 0)), (.v (.int .u32 0)), (.v (.bool false)), (.v (.bool false)), (.v (.bool false))])), none⟩,
         ⟨none, .store 11 (.t 14) (.t 91), none⟩,
         ⟨(some 15), .mov (.t 92), none⟩] .done)
       (.seq (.seq (.ops true [⟨(some 93), .mov (.t 15), none⟩,
          ⟨(some 94), .mov (.t 10), none⟩,
          ⟨(some 95), .mov (.t 13), none⟩,
          ⟨(some 96), .idx 1 (.t 94) (.t 95), none⟩,
          ⟨(some 97), .load none (.t 96), none⟩,
          ⟨(some 98), .eqb false (.t 93) (.t 97), none⟩,
          ⟨(some 99), .mov (.t 98), none⟩,
          ⟨(some 100), .mov (.t 15), some (99, false)⟩,
          ⟨(some 101), .mov (.t 100), some (99, false)⟩,
          ⟨(some 102), .load (some 11) (.t 14), some (101, true)⟩,
          ⟨(some 103), .mov (.t 8), some (101, true)⟩,
          ⟨(some 104), .mov (.t 13), some (101, true)⟩,
          ⟨(some 105), .idx 11 (.t 103) (.t 104), some (101, true)⟩,
          ⟨(some 106), .load (some 11) (.t 105), some (101, true)⟩,
          ⟨(some 107), .call 18 [(.t 102), (.t 106)], some (101, true)⟩,
          ⟨(some 108), .un .not (.t 107), some (101, true)⟩,
          ⟨(some 109), .pick (.t 101) (.t 108) (.c (.v (.bool false))), some (99, false)⟩,
          ⟨(some 110), .pick (.t 99) (.c (.v (.bool true))) (.t 109), none⟩] (.take 0 [0, 5, 6, 7, 8, 16, 17, 9, 10, 11, 12, 13, 14, 15] (.take 1 [1, 3, 4, 5, 6, 7, 8, 16, 17, 9, 10, 11, 12, 13, 14, 15] (.take 2 [2, 3, 4, 5, 6, 7, 8, 16, 17, 9, 10, 11, 12, 13, 14, 15] (.take 3 [3, 4, 5, 6, 7, 8, 16, 17, 9, 10, 11, 12, 13, 14, 15] (.take 4 [4, 5, 6, 7, 8, 16, 17, 9, 10, 11, 12, 13, 14, 15] (.take 5 [5, 6, 7, 8, 16, 17, 9, 10, 11, 12, 13, 14, 15] (.take 6 [6, 7, 8, 16, 17, 9, 10, 11, 12, 13, 14, 15] (.take 7 [7, 8, 9, 10, 11, 12, 13, 14, 15, 16, 17] (.take 8 [8, 9, 10, 11, 12, 13, 14, 15, 16, 17] (.take 9 [9, 14, 15, 16, 17] (.take 10 [10, 12, 13, 14, 15, 16, 17] (.take 11 [11, 12, 13, 14, 15, 16, 17] (.take 12 [12, 13, 14, 15, 16, 17] (.take 13 [13, 14, 15, 16, 17] (.eff true 14 (.take 15 [15, 16, 17] (.take 16 [16, 17] (.take 17 [17] .done)))))))))))))))))))
        (.cond (.t 110)
         (.seq (.ops false [⟨(some 4), .mov (.c (.v (.bool false))), none⟩] .done)
          .ret)
         .skip))
       (.seq (.ops false [⟨(some 111), .mov (.t 15), none⟩] .done)
       (.cond (.t 111)
        (.seq (.ops false [⟨(some 112), .mov (.t 10), none⟩,
           ⟨(some 113), .mov (.t 13), none⟩,
           ⟨(some 114), .idx 1 (.t 112) (.t 113), none⟩,
           ⟨none, .store 1 (.t 114) (.c (.v (.bool true))), none⟩] .done)
         (.ops false [⟨(some 115), .mov (.t 11), none⟩,
          ⟨(some 116), .bin .sub (.t 115) (.c (.v (.int .i64 1))), none⟩,
          ⟨(some 11), .mov (.t 116), none⟩] .done))
        .skip)))))))
     (.ops false [⟨(some 70), .mov (.t 12), none⟩,
      ⟨(some 71), .bin .add (.t 70) (.c (.v (.int .i64 1))), none⟩,
      ⟨(some 12), .mov (.t 71), none⟩] .done))))))
  (.seq (.ops false [⟨(some 117), .mov (.t 6), none⟩,
    ⟨(some 118), .call 12 [(.t 117)], none⟩,
    ⟨(some 119), .bin .eql (.t 118) (.c (.v (.int .i64 0))), none⟩,
    ⟨(some 120), .mov (.t 119), none⟩,
    ⟨(some 121), .mov (.t 6), some (120, true)⟩,
    ⟨(some 122), .call 13 [(.t 121)], some (120, true)⟩,
    ⟨(some 123), .len (.t 122), some (120, true)⟩,
    ⟨(some 124), .bin .eql (.t 123) (.c (.v (.int .i64 0))), some (120, true)⟩,
    ⟨(some 125), .pick (.t 120) (.t 124) (.c (.v (.bool false))), none⟩,
    ⟨(some 126), .mov (.t 125), none⟩,
    ⟨(some 127), .call 14 [(.c (.v (.int .i64 0)))], some (126, true)⟩,
    ⟨(some 128), .bin .eql (.t 127) (.c (.v (.int .i64 (-1)))), some (126, true)⟩,
    ⟨(some 129), .pick (.t 126) (.t 128) (.c (.v (.bool false))), none⟩,
    ⟨(some 4), .mov (.t 129), none⟩] .done)
  .ret))))))))))))⟩
theorem pf5_eq : (Tryd.f5.body.map fun c => (cfn Tryd.prog pl5 Tryd.f5 c, guardsAll pl5 c)) = some (pf5, true) := by kernel_rfl

/-- corral/corrallaw16.NetPlays  sizes [(19, 6), (20, 10), (24, 17), (30, 32)] -/
def pl6 : Nat → DT := dtGet [(19, (.take 1 [1, 2, 4, 3] (.take 2 [2, 3, 4] (.eff true 0 (.eff false 3 (.take 4 [4] .done)))))), (20, (.take 0 [0, 2, 6, 7, 8] (.take 1 [1, 2, 6, 7, 8] (.take 3 [3, 6, 7, 8] (.take 4 [4, 5, 6, 7, 8] (.take 5 [5, 6, 7, 8] (.eff false 2 (.eff false 6 (.eff false 7 (.take 8 [8] .done)))))))))), (24, (.take 0 [0, 1, 15, 2, 3, 12, 13, 14] (.take 1 [1, 2, 15, 3, 12, 13, 14] (.take 2 [2, 3, 15, 12, 13, 14] (.take 3 [3, 12, 15, 13, 14] (.take 4 [4, 5, 15, 11, 12, 13, 14] (.take 5 [5, 11, 15, 12, 13, 14] (.take 6 [6, 7, 15, 8, 9, 10, 11, 12, 13, 14] (.take 7 [7, 8, 15, 9, 10, 11, 12, 13, 14] (.take 8 [8, 9, 15, 10, 11, 12, 13, 14] (.take 9 [9, 10, 15, 11, 12, 13, 14] (.take 10 [10, 11, 15, 12, 13, 14] (.eff true 11 (.take 12 [12, 13, 15, 14] (.take 13 [13, 14, 15] (.take 14 [14, 15] (.take 15 [15] .done))))))))))))))))), (30, (.take 0 [0, 1, 7, 8, 9, 10, 11, 12, 13, 14, 15, 16, 17, 18, 19, 20, 21, 22, 23, 24, 25, 26, 27, 28, 29, 30] (.take 2 [2, 3, 4, 5, 6, 7, 8, 9, 10, 11, 12, 13, 14, 15, 16, 17, 18, 19, 20, 21, 22, 23, 24, 25, 26, 27, 28, 29, 30] (.take 3 [3, 4, 5, 6, 7, 8, 9, 10, 11, 12, 13, 14, 15, 16, 17, 18, 19, 20, 21, 22, 23, 24, 25, 26, 27, 28, 29, 30] (.take 4 [4, 5, 6, 7, 8, 9, 10, 11, 12, 13, 14, 15, 16, 17, 18, 19, 20, 21, 22, 23, 24, 25, 26, 27, 28, 29, 30] (.take 5 [5, 6, 7, 8, 9, 10, 11, 12, 13, 14, 15, 16, 17, 18, 19, 20, 21, 22, 23, 24, 25, 26, 27, 28, 29, 30] (.take 6 [6, 7, 8, 9, 10, 11, 12, 13, 14, 15, 16, 17, 18, 19, 20, 21, 22, 23, 24, 25, 26, 27, 28, 29, 30] (.eff true 1 (.take 7 [7, 8, 9, 10, 11, 12, 13, 14, 15, 16, 17, 18, 19, 20, 21, 22, 23, 24, 25, 26, 27, 28, 29, 30] (.take 8 [8, 9, 10, 11, 12, 13, 14, 15, 16, 17, 18, 19, 20, 21, 22, 23, 24, 25, 26, 27, 28, 29, 30] (.take 9 [9, 10, 15, 16, 18, 17, 19, 20, 21, 22, 23, 24, 25, 26, 27, 28, 29, 30] (.take 11 [11, 12, 13, 14, 15, 16, 18, 17, 19, 20, 21, 22, 23, 24, 25, 26, 27, 28, 29, 30] (.take 12 [12, 13, 14, 15, 16, 18, 17, 19, 20, 21, 22, 23, 24, 25, 26, 27, 28, 29, 30] (.take 13 [13, 14, 15, 16, 18, 17, 19, 20, 21, 22, 23, 24, 25, 26, 27, 28, 29, 30] (.take 14 [14, 15, 16, 18, 17, 19, 20, 21, 22, 23, 24, 25, 26, 27, 28, 29, 30] (.eff true 10 (.eff true 15 (.take 16 [16, 17, 18, 19, 20, 21, 22, 23, 24, 25, 26, 27, 28, 29, 30] (.take 17 [17, 18, 19, 20, 21, 22, 23, 24, 25, 26, 27, 28, 29, 30] (.take 18 [18, 19, 20, 21, 22, 23, 24, 25, 26, 27, 28, 29, 30] (.take 19 [19, 23, 28, 29, 30] (.take 20 [20, 23, 28, 29, 30] (.take 21 [21, 23, 28, 29, 30] (.take 22 [22, 23, 28, 29, 30] (.take 24 [24, 28, 29, 30] (.take 25 [25, 28, 29, 30] (.take 26 [26, 28, 29, 30] (.take 27 [27, 28, 29, 30] (.eff true 23 (.eff true 28 (.take 29 [29, 30] (.take 30 [30] .done))))))))))))))))))))))))))))))))]
def pf6 : PFn := ⟨253, [.t 14], (.seq (.ops false [⟨(some 14), .mov (.c (.v (.bool false))), none⟩] .done)
  (.seq (.ops false [⟨(some 32), .call 7 [], none⟩,
    ⟨(some 15), .mov (.t 32), none⟩] .done)
  (.seq (.seq (.ops false [⟨(some 33), .mov (.t 15), none⟩,
     ⟨(some 34), .un .not (.t 33), none⟩] .done)
   (.cond (.t 34)
    (.seq (.ops false [⟨(some 14), .mov (.c (.v (.bool false))), none⟩] .done)
     .ret)
    .skip))
  (.seq (.seq (.ops false [⟨(some 35), .mov (.t 2), none⟩,
     ⟨(some 36), .len (.t 35), none⟩,
     ⟨(some 37), .bin .gtr (.t 36) (.c (.v (.int .i64 60))), none⟩,
     ⟨(some 38), .mov (.t 37), none⟩,
     ⟨(some 39), .mov (.t 15), some (38, false)⟩,
     ⟨(some 40), .un .not (.t 39), some (38, false)⟩,
     ⟨(some 41), .pick (.t 38) (.c (.v (.bool true))) (.t 40), none⟩] .done)
   (.cond (.t 41)
    (.seq (.ops false [⟨(some 42), .mov (.t 15), none⟩,
       ⟨(some 14), .mov (.t 42), none⟩] .done)
     .ret)
    .skip))
  (.seq (.ops false [⟨(some 44), .mov (.t 0), none⟩,
    ⟨(some 45), .mov (.t 1), none⟩,
    ⟨(some 46), .call 8 [(.t 44), (.t 45)], none⟩,
    ⟨(some 43), .mov (.t 46), none⟩,
    ⟨(some 47), .ext (.t 43) 0, none⟩,
    ⟨(some 48), .ext (.t 43) 1, none⟩,
    ⟨(some 16), .mov (.t 47), none⟩,
    ⟨(some 17), .mov (.t 48), none⟩] .done)
  (.seq (.seq (.ops false [⟨(some 49), .mov (.t 0), none⟩,
     ⟨(some 50), .bin .lss (.t 49) (.c (.v (.int .i64 1))), none⟩,
     ⟨(some 51), .mov (.t 50), none⟩,
     ⟨(some 52), .mov (.t 0), some (51, false)⟩,
     ⟨(some 53), .bin .gtr (.t 52) (.c (.v (.int .i64 4))), some (51, false)⟩,
     ⟨(some 54), .pick (.t 51) (.c (.v (.bool true))) (.t 53), none⟩,
     ⟨(some 55), .mov (.t 54), none⟩,
     ⟨(some 56), .mov (.t 1), some (55, false)⟩,
     ⟨(some 57), .bin .lss (.t 56) (.c (.v (.int .i64 1))), some (55, false)⟩,
     ⟨(some 58), .pick (.t 55) (.c (.v (.bool true))) (.t 57), none⟩,
     ⟨(some 59), .mov (.t 58), none⟩,
     ⟨(some 60), .mov (.t 1), some (59, false)⟩,
     ⟨(some 61), .bin .gtr (.t 60) (.c (.v (.int .i64 64))), some (59, false)⟩,
     ⟨(some 62), .pick (.t 59) (.c (.v (.bool true))) (.t 61), none⟩] .done)
   (.cond (.t 62)
    (.seq (.ops false [⟨(some 63), .mov (.t 16), none⟩,
       ⟨(some 64), .eqp 0 true false (.t 63) (.c (.v (.pointer none))), none⟩,
       ⟨(some 65), .mov (.t 64), none⟩,
       ⟨(some 66), .mov (.t 17), some (65, true)⟩,
       ⟨(some 67), .call 19 [(.t 66), (.c (.v (.int .i64 106)))], some (65, true)⟩,
       ⟨(some 68), .pick (.t 65) (.t 67) (.c (.v (.bool false))), none⟩,
       ⟨(some 14), .mov (.t 68), none⟩] .done)
     .ret)
    .skip))
  (.seq (.seq (.ops false [⟨(some 69), .mov (.t 16), none⟩,
     ⟨(some 70), .eqp 0 true false (.t 69) (.c (.v (.pointer none))), none⟩,
     ⟨(some 71), .mov (.t 70), none⟩,
     ⟨(some 72), .mov (.t 17), some (71, false)⟩,
     ⟨(some 73), .eqp 1 true true (.t 72) (.c (.v .nilIface)), some (71, false)⟩,
     ⟨(some 74), .pick (.t 71) (.c (.v (.bool true))) (.t 73), none⟩] .done)
   (.cond (.t 74)
    (.seq (.ops false [⟨(some 14), .mov (.c (.v (.bool false))), none⟩] .done)
     .ret)
    .skip))
  (.seq (.ops false [⟨(some 75), .mov (.t 0), none⟩,
    ⟨(some 76), .mov (.t 1), none⟩,
    ⟨(some 77), .build [(.v (.int .i64 0)), (.v (.int .i64 0)), (.v (.int .i64 0)), (.v (.slice none 0 0))] [(0, 1, (.t 75)), (1, 1, (.t 76))], none⟩,
    ⟨(some 78), .box 60 (.t 77), none⟩,
    ⟨(some 18), .mov (.t 78), none⟩] .done)
  (.seq (.seq (.ops false [⟨(some 19), .mov (.c (.v (.int .i64 0))), none⟩] .done)
   (.block 0 (.loop (.seq (.seq (.ops false [⟨(some 79), .mov (.t 19), none⟩,
        ⟨(some 80), .mov (.t 2), none⟩,
        ⟨(some 81), .len (.t 80), none⟩,
        ⟨(some 82), .bin .lss (.t 79) (.t 81), none⟩] .done)
      (.cond (.t 82)
       .skip
       (.exit 0)))
     (.seq (.block 1 (.seq (.ops false [⟨(some 85), .mov (.t 2), none⟩,
         ⟨(some 86), .mov (.t 19), none⟩,
         ⟨(some 87), .idx 4 (.t 85) (.t 86), none⟩,
         ⟨(some 88), .load (some 4) (.t 87), none⟩,
         ⟨(some 20), .box 62 (.c (.agg [(.v (.int .i64 0)), (.v (.int .i64 0)), (.v (.bool false)), (.v (.slice none 0 0))])), none⟩,
         ⟨none, .store 4 (.t 20) (.t 88), none⟩] .done)
       (.seq (.seq (.ops false [⟨(some 89), .fld 3 (.t 20), none⟩,
          ⟨(some 90), .load none (.t 89), none⟩,
          ⟨(some 91), .len (.t 90), none⟩,
          ⟨(some 92), .bin .gtr (.t 91) (.c (.v (.int .i64 20))), none⟩] .done)
        (.cond (.t 92)
         (.seq (.ops false [⟨(some 14), .mov (.c (.v (.bool true))), none⟩] .done)
          .ret)
         .skip))
       (.seq (.seq (.ops false [⟨(some 93), .fld 0 (.t 20), none⟩,
          ⟨(some 94), .load none (.t 93), none⟩,
          ⟨(some 95), .bin .eql (.t 94) (.c (.v (.int .i64 1))), none⟩] .done)
        (.cond (.t 95)
         (.seq (.ops true [⟨(some 96), .mslice 33 [.int .i64, .int .i64, .int .i64, .int .i64, .int .u32, .int .u32, .int .u32, .int .u32, .bool, .bool, .bool] [(.int .i64 0), (.int .i64 0), (.int .i64 0), (.int .i64 0), (.int .u32 0), (.int .u32 0), (.int .u32 0), (.int .u32 0), (.bool false), (.bool false), (.bool false)] 56 (.c (.v (.int .i64 0))) (.c (.v (.int .i64 30))), none⟩,
            ⟨(some 97), .fld 3 (.t 20), none⟩,
            ⟨(some 98), .load none (.t 97), none⟩,
            ⟨(some 99), .append 33 [.int .i64, .int .i64, .int .i64, .int .i64, .int .u32, .int .u32, .int .u32, .int .u32, .bool, .bool, .bool] [(.int .i64 0), (.int .i64 0), (.int .i64 0), (.int .i64 0), (.int .u32 0), (.int .u32 0), (.int .u32 0), (.int .u32 0), (.bool false), (.bool false), (.bool false)] 56 (.t 96) (.t 98), none⟩,
            ⟨(some 21), .mov (.t 99), none⟩] (.take 1 [1, 2, 4, 3] (.take 2 [2, 3, 4] (.eff true 0 (.eff false 3 (.take 4 [4] .done))))))
          (.seq (.ops true [⟨(some 100), .mov (.t 16), none⟩,
            ⟨(some 101), .mov (.t 21), none⟩,
            ⟨(some 102), .call 9 [(.t 100), (.t 101)], none⟩,
            ⟨(some 103), .mov (.t 18), none⟩,
            ⟨(some 104), .fld 3 (.t 20), none⟩,
            ⟨(some 105), .load none (.t 104), none⟩,
            ⟨(some 106), .call 20 [(.t 103), (.t 105)], none⟩,
            ⟨(some 107), .call 10 [(.t 102), (.t 106)], none⟩,
            ⟨(some 108), .un .not (.t 107), none⟩] (.take 0 [0, 2, 6, 7, 8] (.take 1 [1, 2, 6, 7, 8] (.take 3 [3, 6, 7, 8] (.take 4 [4, 5, 6, 7, 8] (.take 5 [5, 6, 7, 8] (.eff false 2 (.eff false 6 (.eff false 7 (.take 8 [8] .done))))))))))
          (.cond (.t 108)
           (.seq (.ops false [⟨(some 14), .mov (.c (.v (.bool false))), none⟩] .done)
            .ret)
           .skip)))
         (.seq (.ops false [⟨(some 109), .fld 1 (.t 20), none⟩,
            ⟨(some 110), .load none (.t 109), none⟩,
            ⟨(some 22), .mov (.t 110), none⟩] .done)
          (.seq (.seq (.ops false [⟨(some 111), .fld 2 (.t 20), none⟩,
             ⟨(some 112), .load none (.t 111), none⟩,
             ⟨(some 113), .mov (.t 112), none⟩,
             ⟨(some 114), .mov (.t 18), some (113, true)⟩,
             ⟨(some 115), .nilck (.t 114), some (113, true)⟩,
             ⟨(some 116), .fld 3 (.t 115), some (113, true)⟩,
             ⟨(some 117), .load none (.t 116), some (113, true)⟩,
             ⟨(some 118), .len (.t 117), some (113, true)⟩,
             ⟨(some 119), .bin .gtr (.t 118) (.c (.v (.int .i64 0))), some (113, true)⟩,
             ⟨(some 120), .pick (.t 113) (.t 119) (.c (.v (.bool false))), none⟩] .done)
           (.cond (.t 120)
            (.ops true [⟨(some 121), .mov (.t 18), none⟩,
              ⟨(some 122), .nilck (.t 121), none⟩,
              ⟨(some 123), .fld 3 (.t 122), none⟩,
              ⟨(some 124), .load none (.t 123), none⟩,
              ⟨(some 125), .fld 1 (.t 20), none⟩,
              ⟨(some 126), .load none (.t 125), none⟩,
              ⟨(some 127), .mov (.t 18), none⟩,
              ⟨(some 128), .nilck (.t 127), none⟩,
              ⟨(some 129), .fld 3 (.t 128), none⟩,
              ⟨(some 130), .load none (.t 129), none⟩,
              ⟨(some 131), .len (.t 130), none⟩,
              ⟨(some 132), .call 16 [(.t 126), (.t 131)], none⟩,
              ⟨(some 133), .idx 12 (.t 124) (.t 132), none⟩,
              ⟨(some 134), .fld 0 (.t 133), none⟩,
              ⟨(some 135), .load none (.t 134), none⟩,
              ⟨(some 22), .mov (.t 135), none⟩] (.take 0 [0, 1, 15, 2, 3, 12, 13, 14] (.take 1 [1, 2, 15, 3, 12, 13, 14] (.take 2 [2, 3, 15, 12, 13, 14] (.take 3 [3, 12, 15, 13, 14] (.take 4 [4, 5, 15, 11, 12, 13, 14] (.take 5 [5, 11, 15, 12, 13, 14] (.take 6 [6, 7, 15, 8, 9, 10, 11, 12, 13, 14] (.take 7 [7, 8, 15, 9, 10, 11, 12, 13, 14] (.take 8 [8, 9, 15, 10, 11, 12, 13, 14] (.take 9 [9, 10, 15, 11, 12, 13, 14] (.take 10 [10, 11, 15, 12, 13, 14] (.eff true 11 (.take 12 [12, 13, 15, 14] (.take 13 [13, 14, 15] (.take 14 [14, 15] (.take 15 [15] .done)))))))))))))))))
            .skip))
          (.seq (.ops false [⟨(some 137), .mov (.t 16), none⟩,
            ⟨(some 138), .mov (.t 22), none⟩,
            ⟨(some 139), .call 21 [(.t 137), (.t 138)], none⟩,
            ⟨(some 136), .mov (.t 139), none⟩,
            ⟨(some 140), .ext (.t 136) 0, none⟩,
            ⟨(some 141), .ext (.t 136) 1, none⟩,
            ⟨(some 23), .box 33 (.c (.agg [(.v (.int .i64 0)), (.v (.int .i64 0)), (.v (.int .i64 0)), (.v (.int .i64 0)), (.v (.int .u32 0)), (.v (.int .u32 0)), (.v (.int .u32 0)), (.v (.int .u32 0)), (.v (.bool false)), (.v (.bool false)), (.v (.bool false))])), none⟩,
            ⟨none, .store 11 (.t 23) (.t 140), none⟩,
            ⟨(some 24), .mov (.t 141), none⟩] .done)
          (.seq (.ops false [⟨(some 143), .mov (.t 16), none⟩,
            ⟨(some 144), .mov (.t 22), none⟩,
            ⟨(some 145), .call 17 [(.t 143), (.t 144)], none⟩,
            ⟨(some 142), .mov (.t 145), none⟩,
            ⟨(some 146), .ext (.t 142) 0, none⟩,
            ⟨(some 147), .ext (.t 142) 1, none⟩,
            ⟨(some 25), .box 33 (.c (.agg [(.v (.int .i64 0)), (.v (.int .i64 0)), (.v (.int .i64 0)), (.v (.int .i64 0)), (.v (.int .u32 0)), (.v (.int .u32 0)), (.v (.int .u32 0)), (.v (.int .u32 0)), (.v (.bool false)), (.v (.bool false)), (.v (.bool false))])), none⟩,
            ⟨none, .store 11 (.t 25) (.t 146), none⟩,
            ⟨(some 26), .mov (.t 147), none⟩] .done)
          (.seq (.ops false [⟨(some 149), .mov (.t 18), none⟩,
            ⟨(some 150), .mov (.t 22), none⟩,
            ⟨(some 151), .call 22 [(.t 149), (.t 150)], none⟩,
            ⟨(some 148), .mov (.t 151), none⟩,
            ⟨(some 152), .ext (.t 148) 0, none⟩,
            ⟨(some 153), .ext (.t 148) 1, none⟩,
            ⟨(some 27), .box 33 (.c (.agg [(.v (.int .i64 0)), (.v (.int .i64 0)), (.v (.int .i64 0)), (.v (.int .i64 0)), (.v (.int .u32 0)), (.v (.int .u32 0)), (.v (.int .u32 0)), (.v (.int .u32 0)), (.v (.bool false)), (.v (.bool false)), (.v (.bool false))])), none⟩,
            ⟨none, .store 11 (.t 27) (.t 152), none⟩,
            ⟨(some 28), .mov (.t 153), none⟩] .done)
          (.seq (.ops false [⟨(some 154), .mov (.t 26), none⟩,
            ⟨(some 155), .mov (.t 28), none⟩,
            ⟨(some 156), .eqb true (.t 154) (.t 155), none⟩,
            ⟨(some 157), .mov (.t 156), none⟩,
            ⟨(some 158), .mov (.t 24), some (157, false)⟩,
            ⟨(some 159), .mov (.t 28), some (157, false)⟩,
            ⟨(some 160), .eqb true (.t 158) (.t 159), some (157, false)⟩,
            ⟨(some 161), .pick (.t 157) (.c (.v (.bool true))) (.t 160), none⟩,
            ⟨(some 162), .mov (.t 161), none⟩,
            ⟨(some 163), .load (some 11) (.t 25), some (162, false)⟩,
            ⟨(some 164), .load (some 11) (.t 27), some (162, false)⟩,
            ⟨(some 165), .call 18 [(.t 163), (.t 164)], some (162, false)⟩,
            ⟨(some 166), .un .not (.t 165), some (162, false)⟩,
            ⟨(some 167), .pick (.t 162) (.c (.v (.bool true))) (.t 166), none⟩,
            ⟨(some 168), .mov (.t 167), none⟩,
            ⟨(some 169), .load (some 11) (.t 23), some (168, false)⟩,
            ⟨(some 170), .load (some 11) (.t 27), some (168, false)⟩,
            ⟨(some 171), .call 18 [(.t 169), (.t 170)], some (168, false)⟩,
            ⟨(some 172), .un .not (.t 171), some (168, false)⟩,
            ⟨(some 173), .pick (.t 168) (.c (.v (.bool true))) (.t 172), none⟩] .done)
          (.cond (.t 173)
           (.seq (.ops false [⟨(some 14), .mov (.c (.v (.bool false))), none⟩] .done)
            .ret)
           .skip)))))))))
       (.seq (.ops true [⟨(some 174), .mov (.t 16), none⟩,
         ⟨(some 175), .call 12 [(.t 174)], none⟩,
         ⟨(some 176), .mov (.t 18), none⟩,
         ⟨(some 177), .nilck (.t 176), none⟩,
         ⟨(some 178), .fld 3 (.t 177), none⟩,
         ⟨(some 179), .load none (.t 178), none⟩,
         ⟨(some 180), .len (.t 179), none⟩,
         ⟨(some 181), .bin .neq (.t 175) (.t 180), none⟩,
         ⟨(some 182), .mov (.t 181), none⟩,
         ⟨(some 183), .mov (.t 16), some (182, false)⟩,
         ⟨(some 184), .call 13 [(.t 183)], some (182, false)⟩,
         ⟨(some 185), .mov (.t 18), some (182, false)⟩,
         ⟨(some 186), .nilck (.t 185), some (182, false)⟩,
         ⟨(some 187), .fld 3 (.t 186), some (182, false)⟩,
         ⟨(some 188), .load none (.t 187), some (182, false)⟩,
         ⟨(some 189), .call 23 [(.t 184), (.t 188)], some (182, false)⟩,
         ⟨(some 190), .un .not (.t 189), some (182, false)⟩,
         ⟨(some 191), .pick (.t 182) (.c (.v (.bool true))) (.t 190), none⟩,
         ⟨(some 192), .mov (.t 191), none⟩,
         ⟨(some 193), .mov (.t 16), some (192, false)⟩,
         ⟨(some 194), .mov (.t 3), some (192, false)⟩,
         ⟨(some 195), .mov (.t 4), some (192, false)⟩,
         ⟨(some 196), .mov (.t 5), some (192, false)⟩,
         ⟨(some 197), .call 15 [(.t 193), (.t 194), (.t 195), (.t 196)], some (192, false)⟩,
         ⟨(some 198), .mov (.t 18), some (192, false)⟩,
         ⟨(some 199), .mov (.t 3), some (192, false)⟩,
         ⟨(some 200), .mov (.t 4), some (192, false)⟩,
         ⟨(some 201), .mov (.t 5), some (192, false)⟩,
         ⟨(some 202), .call 24 [(.t 198), (.t 199), (.t 200), (.t 201)], some (192, false)⟩,
         ⟨(some 203), .bin .neq (.t 197) (.t 202), some (192, false)⟩,
         ⟨(some 204), .pick (.t 192) (.c (.v (.bool true))) (.t 203), none⟩] (.take 0 [0, 1, 7, 8, 9, 10, 11, 12, 13, 14, 15, 16, 17, 18, 19, 20, 21, 22, 23, 24, 25, 26, 27, 28, 29, 30] (.take 2 [2, 3, 4, 5, 6, 7, 8, 9, 10, 11, 12, 13, 14, 15, 16, 17, 18, 19, 20, 21, 22, 23, 24, 25, 26, 27, 28, 29, 30] (.take 3 [3, 4, 5, 6, 7, 8, 9, 10, 11, 12, 13, 14, 15, 16, 17, 18, 19, 20, 21, 22, 23, 24, 25, 26, 27, 28, 29, 30] (.take 4 [4, 5, 6, 7, 8, 9, 10, 11, 12, 13, 14, 15, 16, 17, 18, 19, 20, 21, 22, 23, 24, 25, 26, 27, 28, 29, 30] (.take 5 [5, 6, 7, 8, 9, 10, 11, 12, 13, 14, 15, 16, 17, 18, 19, 20, 21, 22, 23, 24, 25, 26, 27, 28, 29, 30] (.take 6 [6, 7, 8, 9, 10, 11, 12, 13, 14, 15, 16, 17, 18, 19, 20, 21, 22, 23, 24, 25, 26, 27, 28, 29, 30] (.eff true 1 (.take 7 [7, 8, 9, 10, 11, 12, 13, 14, 15, 16, 17, 18, 19, 20, 21, 22, 23, 24, 25, 26, 27, 28, 29, 30] (.take 8 [8, 9, 10, 11, 12, 13, 14, 15, 16, 17, 18, 19, 20, 21, 22, 23, 24, 25, 26, 27, 28, 29, 30] (.take 9 [9, 10, 15, 16, 18, 17, 19, 20, 21, 22, 23, 24, 25, 26, 27, 28, 29, 30] (.take 11 [11, 12, 13, 14, 15, 16, 18, 17, 19, 20, 21, 22, 23, 24, 25, 26, 27, 28, 29, 30] (.take 12 [12, 13, 14, 15, 16, 18, 17, 19, 20, 21, 22, 23, 24, 25, 26, 27, 28, 29, 30] (.take 13 [13, 14, 15, 16, 18, 17, 19, 20, 21, 22, 23, 24, 25, 26, 27, 28, 29, 30] (.take 14 [14, 15, 16, 18, 17, 19, 20, 21, 22, 23, 24, 25, 26, 27, 28, 29, 30] (.eff true 10 (.eff true 15 (.take 16 [16, 17, 18, 19, 20, 21, 22, 23, 24, 25, 26, 27, 28, 29, 30] (.take 17 [17, 18, 19, 20, 21, 22, 23, 24, 25, 26, 27, 28, 29, 30] (.take 18 [18, 19, 20, 21, 22, 23, 24, 25, 26, 27, 28, 29, 30] (.take 19 [19, 23, 28, 29, 30] (.take 20 [20, 23, 28, 29, 30] (.take 21 [21, 23, 28, 29, 30] (.take 22 [22, 23, 28, 29, 30] (.take 24 [24, 28, 29, 30] (.take 25 [25, 28, 29, 30] (.take 26 [26, 28, 29, 30] (.take 27 [27, 28, 29, 30] (.eff true 23 (.eff true 28 (.take 29 [29, 30] (.take 30 [30] .done))))))))))))))))))))))))))))))))
       (.cond (.t 204)
        (.seq (.ops false [⟨(some 14), .mov (.c (.v (.bool false))), none⟩] .done)
         .ret)
        .skip))))))
     (.ops false [⟨(some 83), .mov (.t 19), none⟩,
      ⟨(some 84), .bin .add (.t 83) (.c (.v (.int .i64 1))), none⟩,
      ⟨(some 19), .mov (.t 84), none⟩] .done))))))
  (.seq (.seq (.ops false [⟨(some 29), .mov (.c (.v (.int .i64 (-1)))), none⟩] .done)
   (.block 2 (.loop (.seq (.seq (.ops false [⟨(some 205), .mov (.t 29), none⟩,
        ⟨(some 206), .bin .lss (.t 205) (.c (.v (.int .i64 4))), none⟩] .done)
      (.cond (.t 206)
       .skip
       (.exit 2)))
     (.seq (.block 3 (.seq (.ops false [⟨(some 30), .mov (.c (.v (.slice none 0 0))), none⟩] .done)
       (.seq (.seq (.ops false [⟨(some 31), .mov (.c (.v (.int .i64 0))), none⟩] .done)
        (.block 4 (.loop (.seq (.seq (.ops false [⟨(some 209), .mov (.t 31), none⟩,
             ⟨(some 210), .mov (.t 18), none⟩,
             ⟨(some 211), .nilck (.t 210), none⟩,
             ⟨(some 212), .fld 3 (.t 211), none⟩,
             ⟨(some 213), .load none (.t 212), none⟩,
             ⟨(some 214), .len (.t 213), none⟩,
             ⟨(some 215), .bin .lss (.t 209) (.t 214), none⟩] .done)
           (.cond (.t 215)
            .skip
            (.exit 4)))
          (.seq (.block 5 (.seq (.ops false [⟨(some 218), .mov (.t 18), none⟩,
              ⟨(some 219), .nilck (.t 218), none⟩,
              ⟨(some 220), .fld 3 (.t 219), none⟩,
              ⟨(some 221), .load none (.t 220), none⟩,
              ⟨(some 222), .mov (.t 31), none⟩,
              ⟨(some 223), .idx 12 (.t 221) (.t 222), none⟩,
              ⟨(some 224), .fld 1 (.t 223), none⟩,
              ⟨(some 225), .fld 0 (.t 224), none⟩,
              ⟨(some 226), .load none (.t 225), none⟩,
              ⟨(some 227), .call 25 [(.t 226)], none⟩,
              ⟨(some 228), .mov (.t 29), none⟩,
              ⟨(some 229), .bin .eql (.t 227) (.t 228), none⟩] .done)
            (.cond (.t 229)
             (.ops false [⟨(some 230), .mov (.t 30), none⟩,
               ⟨(some 231), .mov (.t 18), none⟩,
               ⟨(some 232), .nilck (.t 231), none⟩,
               ⟨(some 233), .fld 3 (.t 232), none⟩,
               ⟨(some 234), .load none (.t 233), none⟩,
               ⟨(some 235), .mov (.t 31), none⟩,
               ⟨(some 236), .idx 12 (.t 234) (.t 235), none⟩,
               ⟨(some 237), .load (some 12) (.t 236), none⟩,
               ⟨(some 238), .bslice 64 [.int .i64, .int .i64, .int .i64, .int .i64, .int .i64, .int .u32, .int .u32, .int .u32, .int .u32, .bool, .bool, .bool] 1 [(.v (.int .i64 0)), (.v (.int .i64 0)), (.v (.int .i64 0)), (.v (.int .i64 0)), (.v (.int .i64 0)), (.v (.int .u32 0)), (.v (.int .u32 0)), (.v (.int .u32 0)), (.v (.int .u32 0)), (.v (.bool false)), (.v (.bool false)), (.v (.bool false))] [(0, 12, (.t 237))], none⟩,
               ⟨(some 239), .append 64 [.int .i64, .int .i64, .int .i64, .int .i64, .int .i64, .int .u32, .int .u32, .int .u32, .int .u32, .bool, .bool, .bool] [(.int .i64 0), (.int .i64 0), (.int .i64 0), (.int .i64 0), (.int .i64 0), (.int .u32 0), (.int .u32 0), (.int .u32 0), (.int .u32 0), (.bool false), (.bool false), (.bool false)] 64 (.t 230) (.t 238), none⟩,
               ⟨(some 30), .mov (.t 239), none⟩] .done)
             .skip)))
          (.ops false [⟨(some 216), .mov (.t 31), none⟩,
           ⟨(some 217), .bin .add (.t 216) (.c (.v (.int .i64 1))), none⟩,
           ⟨(some 31), .mov (.t 217), none⟩] .done))))))
       (.seq (.ops false [⟨(some 240), .mov (.t 16), none⟩,
         ⟨(some 241), .mov (.t 29), none⟩,
         ⟨(some 242), .mov (.t 30), none⟩,
         ⟨(some 243), .mov (.t 6), none⟩,
         ⟨(some 244), .call 26 [(.t 240), (.t 241), (.t 242), (.t 243)], none⟩,
         ⟨(some 245), .un .not (.t 244), none⟩,
         ⟨(some 246), .mov (.t 245), none⟩,
         ⟨(some 247), .mov (.t 16), some (246, false)⟩,
         ⟨(some 248), .mov (.t 29), some (246, false)⟩,
         ⟨(some 249), .mov (.t 30), some (246, false)⟩,
         ⟨(some 250), .call 26 [(.t 247), (.t 248), (.t 249), (.c (.v (.int .i64 0)))], some (246, false)⟩,
         ⟨(some 251), .un .not (.t 250), some (246, false)⟩,
         ⟨(some 252), .pick (.t 246) (.c (.v (.bool true))) (.t 251), none⟩] .done)
       (.cond (.t 252)
        (.seq (.ops false [⟨(some 14), .mov (.c (.v (.bool false))), none⟩] .done)
         .ret)
        .skip)))))
     (.ops false [⟨(some 207), .mov (.t 29), none⟩,
      ⟨(some 208), .bin .add (.t 207) (.c (.v (.int .i64 1))), none⟩,
      ⟨(some 29), .mov (.t 208), none⟩] .done))))))
  (.seq (.ops false [⟨(some 14), .mov (.c (.v (.bool true))), none⟩] .done)
  .ret)))))))))))⟩
theorem pf6_eq : (Tryd.f6.body.map fun c => (cfn Tryd.prog pl6 Tryd.f6 c, guardsAll pl6 c)) = some (pf6, true) := by kernel_rfl

/-- corral/corrallaw16.first  sizes [] -/
def pl7 : Nat → DT := dtGet []
def pf7 : PFn := ⟨37, [.t 0], (.seq (.ops false [⟨(some 0), .mov (.c (.v (.bool false))), none⟩] .done)
  (.seq (.ops false [⟨(some 7), .call 8 [(.c (.v (.int .i64 2))), (.c (.v (.int .i64 1)))], none⟩,
    ⟨(some 6), .mov (.t 7), none⟩,
    ⟨(some 8), .ext (.t 6) 0, none⟩,
    ⟨(some 9), .ext (.t 6) 1, none⟩,
    ⟨(some 1), .mov (.t 8), none⟩,
    ⟨(some 2), .mov (.t 9), none⟩] .done)
  (.seq (.seq (.ops false [⟨(some 10), .mov (.t 1), none⟩,
     ⟨(some 11), .eqp 0 true false (.t 10) (.c (.v (.pointer none))), none⟩,
     ⟨(some 12), .mov (.t 11), none⟩,
     ⟨(some 13), .mov (.t 2), some (12, false)⟩,
     ⟨(some 14), .eqp 1 true true (.t 13) (.c (.v .nilIface)), some (12, false)⟩,
     ⟨(some 15), .pick (.t 12) (.c (.v (.bool true))) (.t 14), none⟩] .done)
   (.cond (.t 15)
    (.seq (.ops false [⟨(some 0), .mov (.c (.v (.bool false))), none⟩] .done)
     .ret)
    .skip))
  (.seq (.ops false [⟨(some 16), .build [(.v (.int .i64 0)), (.v (.int .i64 0)), (.v (.int .i64 0)), (.v (.int .i64 0)), (.v (.int .u32 0)), (.v (.int .u32 0)), (.v (.int .u32 0)), (.v (.int .u32 0)), (.v (.bool false)), (.v (.bool false)), (.v (.bool false))] [(0, 1, (.c (.v (.int .i64 1)))), (2, 1, (.c (.v (.int .i64 0)))), (3, 1, (.c (.v (.int .i64 (-1)))))], none⟩,
    ⟨(some 3), .box 33 (.c (.agg [(.v (.int .i64 0)), (.v (.int .i64 0)), (.v (.int .i64 0)), (.v (.int .i64 0)), (.v (.int .u32 0)), (.v (.int .u32 0)), (.v (.int .u32 0)), (.v (.int .u32 0)), (.v (.bool false)), (.v (.bool false)), (.v (.bool false))])), none⟩,
    ⟨none, .store 11 (.t 3) (.t 16), none⟩] .done)
  (.seq (.ops false [⟨(some 17), .mov (.t 1), none⟩,
    ⟨(some 18), .load (some 11) (.t 3), none⟩,
    ⟨(some 19), .bslice 33 [.int .i64, .int .i64, .int .i64, .int .i64, .int .u32, .int .u32, .int .u32, .int .u32, .bool, .bool, .bool] 1 [(.v (.int .i64 0)), (.v (.int .i64 0)), (.v (.int .i64 0)), (.v (.int .i64 0)), (.v (.int .u32 0)), (.v (.int .u32 0)), (.v (.int .u32 0)), (.v (.int .u32 0)), (.v (.bool false)), (.v (.bool false)), (.v (.bool false))] [(0, 11, (.t 18))], none⟩,
    ⟨(some 20), .call 9 [(.t 17), (.t 19)], none⟩,
    ⟨(some 4), .mov (.t 20), none⟩] .done)
  (.seq (.ops false [⟨(some 21), .mov (.t 1), none⟩,
    ⟨(some 22), .load (some 11) (.t 3), none⟩,
    ⟨(some 23), .bslice 33 [.int .i64, .int .i64, .int .i64, .int .i64, .int .u32, .int .u32, .int .u32, .int .u32, .bool, .bool, .bool] 1 [(.v (.int .i64 0)), (.v (.int .i64 0)), (.v (.int .i64 0)), (.v (.int .i64 0)), (.v (.int .u32 0)), (.v (.int .u32 0)), (.v (.int .u32 0)), (.v (.int .u32 0)), (.v (.bool false)), (.v (.bool false)), (.v (.bool false))] [(0, 11, (.t 22))], none⟩,
    ⟨(some 24), .call 9 [(.t 21), (.t 23)], none⟩,
    ⟨(some 5), .mov (.t 24), none⟩] .done)
  (.seq (.ops false [⟨(some 25), .mov (.t 4), none⟩,
    ⟨(some 26), .eqp 1 true false (.t 25) (.c (.v .nilIface)), none⟩,
    ⟨(some 27), .mov (.t 26), none⟩,
    ⟨(some 28), .mov (.t 5), some (27, true)⟩,
    ⟨(some 29), .call 11 [(.c (.v (.int .i64 107))), (.c (.v (.int .i64 0)))], some (27, true)⟩,
    ⟨(some 30), .call 10 [(.t 28), (.t 29)], some (27, true)⟩,
    ⟨(some 31), .pick (.t 27) (.t 30) (.c (.v (.bool false))), none⟩,
    ⟨(some 32), .mov (.t 31), none⟩,
    ⟨(some 33), .mov (.t 1), some (32, true)⟩,
    ⟨(some 34), .call 12 [(.t 33)], some (32, true)⟩,
    ⟨(some 35), .bin .eql (.t 34) (.c (.v (.int .i64 1))), some (32, true)⟩,
    ⟨(some 36), .pick (.t 32) (.t 35) (.c (.v (.bool false))), none⟩,
    ⟨(some 0), .mov (.t 36), none⟩] .done)
  .ret)))))))⟩
theorem pf7_eq : (Tryd.f7.body.map fun c => (cfn Tryd.prog pl7 Tryd.f7 c, guardsAll pl7 c)) = some (pf7, true) := by kernel_rfl

/-- corral/net.New  sizes [(2, 4)] -/
def pl8 : Nat → DT := dtGet [(2, (.take 0 [0, 2] (.take 1 [1, 2] (.take 2 [2] .done))))]
def pf8 : PFn := ⟨25, [.t 4, .t 5], (.seq (.ops false [⟨(some 4), .mov (.c (.v (.pointer none))), none⟩,
    ⟨(some 5), .mov (.c (.v .nilIface)), none⟩] .done)
  (.seq (.seq (.ops false [⟨(some 6), .mov (.t 0), none⟩,
     ⟨(some 7), .bin .lss (.t 6) (.c (.v (.int .i64 1))), none⟩,
     ⟨(some 8), .mov (.t 7), none⟩,
     ⟨(some 9), .mov (.t 0), some (8, false)⟩,
     ⟨(some 10), .bin .gtr (.t 9) (.c (.v (.int .i64 4))), some (8, false)⟩,
     ⟨(some 11), .pick (.t 8) (.c (.v (.bool true))) (.t 10), none⟩,
     ⟨(some 12), .mov (.t 11), none⟩,
     ⟨(some 13), .mov (.t 1), some (12, false)⟩,
     ⟨(some 14), .bin .lss (.t 13) (.c (.v (.int .i64 1))), some (12, false)⟩,
     ⟨(some 15), .pick (.t 12) (.c (.v (.bool true))) (.t 14), none⟩,
     ⟨(some 16), .mov (.t 15), none⟩,
     ⟨(some 17), .mov (.t 1), some (16, false)⟩,
     ⟨(some 18), .bin .gtr (.t 17) (.c (.v (.int .i64 64))), some (16, false)⟩,
     ⟨(some 19), .pick (.t 16) (.c (.v (.bool true))) (.t 18), none⟩] .done)
   (.cond (.t 19)
    (.seq (.ops true [⟨(some 20), .load none (.c (.v (.pointer (some ⟨0, 0, none⟩)))), none⟩,
       ⟨(some 4), .mov (.c (.v (.pointer none))), none⟩,
       ⟨(some 5), .mov (.t 20), none⟩] (.take 0 [0, 2] (.take 1 [1, 2] (.take 2 [2] .done))))
     .ret)
    .skip))
  (.seq (.ops false [⟨(some 21), .mov (.t 0), none⟩,
    ⟨(some 22), .mov (.t 1), none⟩,
    ⟨(some 23), .build [(.v (.int .i64 0)), (.v (.int .i64 0)), (.v (.int .i64 0)), (.v (.slice none 0 0))] [(0, 1, (.t 21)), (1, 1, (.t 22))], none⟩,
    ⟨(some 24), .box 69 (.t 23), none⟩,
    ⟨(some 4), .mov (.t 24), none⟩,
    ⟨(some 5), .mov (.c (.v .nilIface)), none⟩] .done)
  .ret)))⟩
theorem pf8_eq : (Tryd.f8.body.map fun c => (cfn Tryd.prog pl8 Tryd.f8 c, guardsAll pl8 c)) = some (pf8, true) := by kernel_rfl

/-- (*corral/net.Net).Send  sizes [(11, 14), (15, 13)] -/
def pl9 : Nat → DT := dtGet [(11, (.take 0 [0, 6, 11, 12] (.take 1 [1, 2, 6, 11, 12] (.take 2 [2, 6, 11, 12] (.take 3 [3, 4, 6, 11, 12] (.take 4 [4, 6, 11, 12] (.take 5 [5, 6, 11, 12] (.take 7 [7, 8, 9, 10, 11, 12] (.take 8 [8, 9, 10, 11, 12] (.take 9 [9, 10, 11, 12] (.take 10 [10, 11, 12] (.eff true 6 (.take 11 [11, 12] (.take 12 [12] .done)))))))))))))), (15, (.take 0 [0, 10, 11] (.take 1 [1, 2, 11, 3, 4, 6, 8, 9, 10] (.take 2 [2, 3, 11, 4, 6, 8, 9, 10] (.take 3 [3, 4, 11, 6, 8, 9, 10] (.take 4 [4, 6, 11, 8, 9, 10] (.take 5 [5, 6, 11, 8, 9, 10] (.take 6 [6, 8, 11, 9, 10] (.take 7 [7, 8, 11, 9, 10] (.take 8 [8, 9, 11, 10] (.eff true 9 (.eff false 10 (.take 11 [11] .done)))))))))))))]
def pf9 : PFn := ⟨90, [.t 4], (.seq (.ops false [⟨(some 4), .mov (.c (.v .nilIface)), none⟩] .done)
  (.seq (.ops false [⟨(some 10), .mov (.t 0), none⟩,
    ⟨(some 11), .nilck (.t 10), none⟩,
    ⟨(some 12), .fld 3 (.t 11), none⟩,
    ⟨(some 13), .load none (.t 12), none⟩,
    ⟨(some 14), .call 27 [(.t 13)], none⟩,
    ⟨(some 5), .mov (.t 14), none⟩] .done)
  (.seq (.seq (.ops false [⟨(some 15), .mov (.t 1), none⟩,
     ⟨(some 16), .len (.t 15), none⟩,
     ⟨(some 17), .mov (.c (.v (.int .i64 0))), none⟩] .done)
   (.block 0 (.loop (.seq (.ops false [⟨(some 18), .bin .lss (.t 17) (.t 16), none⟩] .done)
     (.seq (.cond (.t 18)
       .skip
       (.exit 0))
     (.seq (.block 1 (.seq (.ops false [⟨(some 19), .mov (.t 17), none⟩,
         ⟨(some 20), .idx 11 (.t 15) (.t 17), none⟩,
         ⟨(some 21), .load (some 11) (.t 20), none⟩,
         ⟨(some 7), .box 33 (.c (.agg [(.v (.int .i64 0)), (.v (.int .i64 0)), (.v (.int .i64 0)), (.v (.int .i64 0)), (.v (.int .u32 0)), (.v (.int .u32 0)), (.v (.int .u32 0)), (.v (.int .u32 0)), (.v (.bool false)), (.v (.bool false)), (.v (.bool false))])), none⟩,
         ⟨(some 6), .mov (.t 19), none⟩,
         ⟨none, .store 11 (.t 7) (.t 21), none⟩] .done)
       (.seq (.ops false [⟨(some 22), .fld 0 (.t 7), none⟩,
         ⟨(some 23), .load none (.t 22), none⟩,
         ⟨(some 24), .call 14 [(.t 23)], none⟩,
         ⟨(some 8), .mov (.t 24), none⟩] .done)
       (.seq (.ops false [⟨(some 9), .mov (.c (.v .nilIface)), none⟩] .done)
       (.seq (.block 2 (.seq (.ops false [⟨(some 26), .mov (.t 8), none⟩,
           ⟨(some 27), .bin .eql (.t 26) (.c (.v (.int .i64 (-1)))), none⟩,
           ⟨(some 25), .mov (.t 27), none⟩] .done)
         (.cond (.t 25)
          (.ops false [⟨(some 28), .load none (.c (.v (.pointer (some ⟨1, 0, none⟩)))), none⟩,
            ⟨(some 9), .mov (.t 28), none⟩] .done)
          (.seq (.ops false [⟨(some 30), .mov (.t 0), none⟩,
             ⟨(some 31), .fld 2 (.t 7), none⟩,
             ⟨(some 32), .load none (.t 31), none⟩,
             ⟨(some 33), .fld 3 (.t 7), none⟩,
             ⟨(some 34), .load none (.t 33), none⟩,
             ⟨(some 35), .mov (.t 8), none⟩,
             ⟨(some 36), .call 28 [(.t 30), (.t 32), (.t 34), (.t 35)], none⟩,
             ⟨(some 37), .un .not (.t 36), none⟩,
             ⟨(some 38), .mov (.t 37), none⟩,
             ⟨(some 39), .fld 1 (.t 7), some (38, false)⟩,
             ⟨(some 40), .load none (.t 39), some (38, false)⟩,
             ⟨(some 41), .bin .lss (.t 40) (.c (.v (.int .i64 0))), some (38, false)⟩,
             ⟨(some 42), .pick (.t 38) (.c (.v (.bool true))) (.t 41), none⟩,
             ⟨(some 29), .mov (.t 42), none⟩] .done)
           (.cond (.t 29)
            (.ops false [⟨(some 43), .load none (.c (.v (.pointer (some ⟨2, 0, none⟩)))), none⟩,
              ⟨(some 9), .mov (.t 43), none⟩] .done)
            (.seq (.ops true [⟨(some 45), .mov (.t 5), none⟩,
               ⟨(some 46), .fld 2 (.t 7), none⟩,
               ⟨(some 47), .load none (.t 46), none⟩,
               ⟨(some 48), .fld 3 (.t 7), none⟩,
               ⟨(some 49), .load none (.t 48), none⟩,
               ⟨(some 50), .mov (.t 8), none⟩,
               ⟨(some 51), .call 29 [(.t 45), (.t 47), (.t 49), (.t 50)], none⟩,
               ⟨(some 52), .mov (.t 0), none⟩,
               ⟨(some 53), .nilck (.t 52), none⟩,
               ⟨(some 54), .fld 1 (.t 53), none⟩,
               ⟨(some 55), .load none (.t 54), none⟩,
               ⟨(some 56), .bin .geq (.t 51) (.t 55), none⟩,
               ⟨(some 44), .mov (.t 56), none⟩] (.take 0 [0, 6, 11, 12] (.take 1 [1, 2, 6, 11, 12] (.take 2 [2, 6, 11, 12] (.take 3 [3, 4, 6, 11, 12] (.take 4 [4, 6, 11, 12] (.take 5 [5, 6, 11, 12] (.take 7 [7, 8, 9, 10, 11, 12] (.take 8 [8, 9, 10, 11, 12] (.take 9 [9, 10, 11, 12] (.take 10 [10, 11, 12] (.eff true 6 (.take 11 [11, 12] (.take 12 [12] .done))))))))))))))
             (.cond (.t 44)
              (.ops false [⟨(some 57), .load none (.c (.v (.pointer (some ⟨3, 0, none⟩)))), none⟩,
                ⟨(some 9), .mov (.t 57), none⟩] .done)
              .skip)))))))
       (.seq (.seq (.ops false [⟨(some 58), .mov (.t 9), none⟩,
          ⟨(some 59), .eqp 1 true true (.t 58) (.c (.v .nilIface)), none⟩] .done)
        (.cond (.t 59)
         (.seq (.ops false [⟨(some 60), .mov (.t 6), none⟩,
            ⟨(some 61), .mov (.t 9), none⟩,
            ⟨(some 62), .build [(.v (.int .i64 0)), (.v .nilIface)] [(0, 1, (.t 60)), (1, 1, (.t 61))], none⟩,
            ⟨(some 63), .box 75 (.t 62), none⟩,
            ⟨(some 64), .iface 73 (.t 63), none⟩,
            ⟨(some 4), .mov (.t 64), none⟩] .done)
          .ret)
         .skip))
       (.ops true [⟨(some 65), .mov (.t 5), none⟩,
        ⟨(some 66), .mov (.t 0), none⟩,
        ⟨(some 67), .nilck (.t 66), none⟩,
        ⟨(some 68), .fld 2 (.t 67), none⟩,
        ⟨(some 69), .load none (.t 68), none⟩,
        ⟨(some 70), .mov (.t 6), none⟩,
        ⟨(some 71), .bin .add (.t 69) (.t 70), none⟩,
        ⟨(some 72), .load (some 11) (.t 7), none⟩,
        ⟨(some 73), .build [(.v (.int .i64 0)), (.v (.int .i64 0)), (.v (.int .i64 0)), (.v (.int .i64 0)), (.v (.int .i64 0)), (.v (.int .u32 0)), (.v (.int .u32 0)), (.v (.int .u32 0)), (.v (.int .u32 0)), (.v (.bool false)), (.v (.bool false)), (.v (.bool false))] [(0, 1, (.t 71)), (1, 11, (.t 72))], none⟩,
        ⟨(some 74), .bslice 44 [.int .i64, .int .i64, .int .i64, .int .i64, .int .i64, .int .u32, .int .u32, .int .u32, .int .u32, .bool, .bool, .bool] 1 [(.v (.int .i64 0)), (.v (.int .i64 0)), (.v (.int .i64 0)), (.v (.int .i64 0)), (.v (.int .i64 0)), (.v (.int .u32 0)), (.v (.int .u32 0)), (.v (.int .u32 0)), (.v (.int .u32 0)), (.v (.bool false)), (.v (.bool false)), (.v (.bool false))] [(0, 12, (.t 73))], none⟩,
        ⟨(some 75), .append 44 [.int .i64, .int .i64, .int .i64, .int .i64, .int .i64, .int .u32, .int .u32, .int .u32, .int .u32, .bool, .bool, .bool] [(.int .i64 0), (.int .i64 0), (.int .i64 0), (.int .i64 0), (.int .i64 0), (.int .u32 0), (.int .u32 0), (.int .u32 0), (.int .u32 0), (.bool false), (.bool false), (.bool false)] 64 (.t 65) (.t 74), none⟩,
        ⟨(some 5), .mov (.t 75), none⟩] (.take 0 [0, 10, 11] (.take 1 [1, 2, 11, 3, 4, 6, 8, 9, 10] (.take 2 [2, 3, 11, 4, 6, 8, 9, 10] (.take 3 [3, 4, 11, 6, 8, 9, 10] (.take 4 [4, 6, 11, 8, 9, 10] (.take 5 [5, 6, 11, 8, 9, 10] (.take 6 [6, 8, 11, 9, 10] (.take 7 [7, 8, 11, 9, 10] (.take 8 [8, 9, 11, 10] (.eff true 9 (.eff false 10 (.take 11 [11] .done)))))))))))))))))))
     (.ops false [⟨(some 76), .bin .add (.t 17) (.c (.v (.int .i64 1))), none⟩,
      ⟨(some 17), .mov (.t 76), none⟩] .done)))))))
  (.seq (.ops false [⟨(some 77), .mov (.t 0), none⟩,
    ⟨(some 78), .mov (.t 5), none⟩,
    ⟨(some 79), .nilck (.t 77), none⟩,
    ⟨(some 80), .fld 3 (.t 79), none⟩,
    ⟨none, .store 1 (.t 80) (.t 78), none⟩] .done)
  (.seq (.ops false [⟨(some 81), .mov (.t 0), none⟩,
    ⟨(some 82), .nilck (.t 81), none⟩,
    ⟨(some 83), .fld 2 (.t 82), none⟩,
    ⟨(some 84), .load none (.t 83), none⟩,
    ⟨(some 85), .mov (.t 1), none⟩,
    ⟨(some 86), .len (.t 85), none⟩,
    ⟨(some 87), .bin .add (.t 84) (.t 86), none⟩,
    ⟨(some 88), .nilck (.t 81), none⟩,
    ⟨(some 89), .fld 2 (.t 88), none⟩,
    ⟨none, .store 1 (.t 89) (.t 87), none⟩] .done)
  (.seq (.ops false [⟨(some 4), .mov (.c (.v .nilIface)), none⟩] .done)
  .ret))))))⟩
theorem pf9_eq : (Tryd.f9.body.map fun c => (cfn Tryd.prog pl9 Tryd.f9 c, guardsAll pl9 c)) = some (pf9, true) := by kernel_rfl

/-- corral/corralsee.Same  sizes [] -/
def pl10 : Nat → DT := dtGet []
def pf10 : PFn := ⟨11, [.t 4], (.seq (.ops false [⟨(some 3), .box 38 (.t 1), none⟩,
    ⟨(some 4), .mov (.c (.v (.bool false))), none⟩] .done)
  (.seq (.ops false [⟨(some 6), .mov (.t 0), none⟩,
    ⟨(some 7), .call 30 [(.t 6)], none⟩,
    ⟨(some 5), .box 38 (.c (.agg [(.v (.int .i64 0)), (.v (.slice none 0 0))])), none⟩,
    ⟨none, .store 2 (.t 5) (.t 7), none⟩] .done)
  (.seq (.ops false [⟨(some 8), .load (some 2) (.t 5), none⟩,
    ⟨(some 9), .load (some 2) (.t 3), none⟩,
    ⟨(some 10), .call 31 [(.t 8), (.t 9)], none⟩,
    ⟨(some 4), .mov (.t 10), none⟩] .done)
  .ret)))⟩
theorem pf10_eq : (Tryd.f10.body.map fun c => (cfn Tryd.prog pl10 Tryd.f10 c, guardsAll pl10 c)) = some (pf10, true) := by kernel_rfl

/-- corral/corralref.Placed  sizes [] -/
def pl11 : Nat → DT := dtGet []
def pf11 : PFn := ⟨12, [.cell 4 (some 2)], (.seq (.ops false [⟨(some 4), .box 38 (.c (.agg [(.v (.int .i64 0)), (.v (.slice none 0 0))])), none⟩] .done)
  (.seq (.seq (.ops false [⟨(some 5), .mov (.t 0), none⟩,
     ⟨(some 6), .bin .eql (.t 5) (.c (.v (.int .i64 0))), none⟩] .done)
   (.cond (.t 6)
    (.seq (.ops false [⟨(some 7), .call 32 [], none⟩,
       ⟨none, .store 2 (.t 4) (.t 7), none⟩] .done)
     .ret)
    .skip))
  (.seq (.ops false [⟨(some 8), .mov (.t 0), none⟩,
    ⟨(some 9), .mov (.t 1), none⟩,
    ⟨(some 10), .bslice 3 [.int .i64] 1 [(.v (.int .i64 0))] [(0, 1, (.t 9))], none⟩,
    ⟨(some 11), .build [(.v (.int .i64 0)), (.v (.slice none 0 0))] [(0, 1, (.t 8)), (1, 1, (.t 10))], none⟩,
    ⟨none, .store 2 (.t 4) (.t 11), none⟩] .done)
  .ret)))⟩
theorem pf11_eq : (Tryd.f11.body.map fun c => (cfn Tryd.prog pl11 Tryd.f11 c, guardsAll pl11 c)) = some (pf11, true) := by kernel_rfl

/-- (*corral/net.Net).Len  sizes [] -/
def pl12 : Nat → DT := dtGet []
def pf12 : PFn := ⟨8, [.t 2], (.seq (.ops false [⟨(some 2), .mov (.c (.v (.int .i64 0))), none⟩] .done)
  (.seq (.ops false [⟨(some 3), .mov (.t 0), none⟩,
    ⟨(some 4), .nilck (.t 3), none⟩,
    ⟨(some 5), .fld 3 (.t 4), none⟩,
    ⟨(some 6), .load none (.t 5), none⟩,
    ⟨(some 7), .len (.t 6), none⟩,
    ⟨(some 2), .mov (.t 7), none⟩] .done)
  .ret))⟩
theorem pf12_eq : (Tryd.f12.body.map fun c => (cfn Tryd.prog pl12 Tryd.f12 c, guardsAll pl12 c)) = some (pf12, true) := by kernel_rfl

/-- (*corral/net.Net).All  sizes [] -/
def pl13 : Nat → DT := dtGet []
def pf13 : PFn := ⟨8, [.t 2], (.seq (.ops false [⟨(some 2), .mov (.c (.v (.slice none 0 0))), none⟩] .done)
  (.seq (.ops false [⟨(some 3), .mov (.t 0), none⟩,
    ⟨(some 4), .nilck (.t 3), none⟩,
    ⟨(some 5), .fld 3 (.t 4), none⟩,
    ⟨(some 6), .load none (.t 5), none⟩,
    ⟨(some 7), .call 27 [(.t 6)], none⟩,
    ⟨(some 2), .mov (.t 7), none⟩] .done)
  .ret))⟩
theorem pf13_eq : (Tryd.f13.body.map fun c => (cfn Tryd.prog pl13 Tryd.f13 c, guardsAll pl13 c)) = some (pf13, true) := by kernel_rfl

/-- corral/net.Class  sizes [] -/
def pl14 : Nat → DT := dtGet []
def pf14 : PFn := ⟨19, [.t 2], (.seq (.ops false [⟨(some 2), .mov (.c (.v (.int .i64 0))), none⟩] .done)
  (.seq (.seq (.ops false [⟨(some 3), .mov (.t 0), none⟩] .done)
   (.block 0 (.seq (.seq (.ops false [⟨(some 5), .bin .eql (.t 3) (.c (.v (.int .i64 1))), none⟩,
       ⟨(some 4), .mov (.t 5), none⟩] .done)
     (.cond (.t 4)
      .skip
      (.seq (.ops false [⟨(some 6), .bin .eql (.t 3) (.c (.v (.int .i64 2))), none⟩,
         ⟨(some 4), .mov (.t 6), none⟩] .done)
       (.cond (.t 4)
        .skip
        (.ops false [⟨(some 7), .bin .eql (.t 3) (.c (.v (.int .i64 3))), none⟩,
          ⟨(some 4), .mov (.t 7), none⟩] .done)))))
    (.cond (.t 4)
     (.seq (.ops false [⟨(some 2), .mov (.c (.v (.int .i64 0))), none⟩] .done)
      .ret)
     (.seq (.seq (.ops false [⟨(some 9), .bin .eql (.t 3) (.c (.v (.int .i64 4))), none⟩,
         ⟨(some 8), .mov (.t 9), none⟩] .done)
       (.cond (.t 8)
        .skip
        (.seq (.ops false [⟨(some 10), .bin .eql (.t 3) (.c (.v (.int .i64 5))), none⟩,
           ⟨(some 8), .mov (.t 10), none⟩] .done)
         (.cond (.t 8)
          .skip
          (.seq (.ops false [⟨(some 11), .bin .eql (.t 3) (.c (.v (.int .i64 6))), none⟩,
             ⟨(some 8), .mov (.t 11), none⟩] .done)
           (.cond (.t 8)
            .skip
            (.seq (.ops false [⟨(some 12), .bin .eql (.t 3) (.c (.v (.int .i64 7))), none⟩,
               ⟨(some 8), .mov (.t 12), none⟩] .done)
             (.cond (.t 8)
              .skip
              (.seq (.ops false [⟨(some 13), .bin .eql (.t 3) (.c (.v (.int .i64 8))), none⟩,
                 ⟨(some 8), .mov (.t 13), none⟩] .done)
               (.cond (.t 8)
                .skip
                (.ops false [⟨(some 14), .bin .eql (.t 3) (.c (.v (.int .i64 9))), none⟩,
                  ⟨(some 8), .mov (.t 14), none⟩] .done)))))))))))
      (.cond (.t 8)
       (.seq (.ops false [⟨(some 2), .mov (.c (.v (.int .i64 1))), none⟩] .done)
        .ret)
       (.seq (.seq (.ops false [⟨(some 16), .bin .eql (.t 3) (.c (.v (.int .i64 10))), none⟩,
           ⟨(some 15), .mov (.t 16), none⟩] .done)
         (.cond (.t 15)
          .skip
          (.seq (.ops false [⟨(some 17), .bin .eql (.t 3) (.c (.v (.int .i64 11))), none⟩,
             ⟨(some 15), .mov (.t 17), none⟩] .done)
           (.cond (.t 15)
            .skip
            (.ops false [⟨(some 18), .bin .eql (.t 3) (.c (.v (.int .i64 12))), none⟩,
              ⟨(some 15), .mov (.t 18), none⟩] .done)))))
        (.cond (.t 15)
         (.seq (.ops false [⟨(some 2), .mov (.c (.v (.int .i64 2))), none⟩] .done)
          .ret)
         .skip))))))))
  (.seq (.ops false [⟨(some 2), .mov (.c (.v (.int .i64 (-1)))), none⟩] .done)
  .ret)))⟩
theorem pf14_eq : (Tryd.f14.body.map fun c => (cfn Tryd.prog pl14 Tryd.f14 c, guardsAll pl14 c)) = some (pf14, true) := by kernel_rfl

/-- (*corral/net.Net).Room  sizes [(3, 15)] -/
def pl15 : Nat → DT := dtGet [(3, (.take 0 [0, 1, 13, 2, 3, 12] (.take 1 [1, 2, 13, 3, 12] (.take 2 [2, 3, 13, 12] (.take 3 [3, 12, 13] (.take 4 [4, 5, 13, 6, 7, 11, 12] (.take 5 [5, 6, 13, 7, 11, 12] (.take 6 [6, 7, 13, 11, 12] (.take 7 [7, 11, 13, 12] (.take 8 [8, 11, 13, 12] (.take 9 [9, 11, 13, 12] (.take 10 [10, 11, 13, 12] (.eff true 11 (.take 12 [12, 13] (.take 13 [13] .done)))))))))))))))]
def pf15 : PFn := ⟨28, [.t 8], (.seq (.ops false [⟨(some 8), .mov (.c (.v (.int .i64 0))), none⟩] .done)
  (.seq (.seq (.ops false [⟨(some 9), .mov (.t 0), none⟩,
     ⟨(some 10), .mov (.t 1), none⟩,
     ⟨(some 11), .mov (.t 2), none⟩,
     ⟨(some 12), .mov (.t 3), none⟩,
     ⟨(some 13), .call 28 [(.t 9), (.t 10), (.t 11), (.t 12)], none⟩,
     ⟨(some 14), .un .not (.t 13), none⟩] .done)
   (.cond (.t 14)
    (.seq (.ops false [⟨(some 8), .mov (.c (.v (.int .i64 0))), none⟩] .done)
     .ret)
    .skip))
  (.seq (.ops true [⟨(some 15), .mov (.t 0), none⟩,
    ⟨(some 16), .nilck (.t 15), none⟩,
    ⟨(some 17), .fld 1 (.t 16), none⟩,
    ⟨(some 18), .load none (.t 17), none⟩,
    ⟨(some 19), .mov (.t 0), none⟩,
    ⟨(some 20), .nilck (.t 19), none⟩,
    ⟨(some 21), .fld 3 (.t 20), none⟩,
    ⟨(some 22), .load none (.t 21), none⟩,
    ⟨(some 23), .mov (.t 1), none⟩,
    ⟨(some 24), .mov (.t 2), none⟩,
    ⟨(some 25), .mov (.t 3), none⟩,
    ⟨(some 26), .call 29 [(.t 22), (.t 23), (.t 24), (.t 25)], none⟩,
    ⟨(some 27), .bin .sub (.t 18) (.t 26), none⟩,
    ⟨(some 8), .mov (.t 27), none⟩] (.take 0 [0, 1, 13, 2, 3, 12] (.take 1 [1, 2, 13, 3, 12] (.take 2 [2, 3, 13, 12] (.take 3 [3, 12, 13] (.take 4 [4, 5, 13, 6, 7, 11, 12] (.take 5 [5, 6, 13, 7, 11, 12] (.take 6 [6, 7, 13, 11, 12] (.take 7 [7, 11, 13, 12] (.take 8 [8, 11, 13, 12] (.take 9 [9, 11, 13, 12] (.take 10 [10, 11, 13, 12] (.eff true 11 (.take 12 [12, 13] (.take 13 [13] .done)))))))))))))))
  .ret)))⟩
theorem pf15_eq : (Tryd.f15.body.map fun c => (cfn Tryd.prog pl15 Tryd.f15 c, guardsAll pl15 c)) = some (pf15, true) := by kernel_rfl

/-- corral/corralworld.Number  sizes [] -/
def pl16 : Nat → DT := dtGet []
def pf16 : PFn := ⟨12, [.t 4], (.seq (.ops false [⟨(some 4), .mov (.c (.v (.int .i64 0))), none⟩] .done)
  (.seq (.ops false [⟨(some 5), .mov (.t 0), none⟩,
    ⟨(some 6), .mov (.t 1), none⟩,
    ⟨(some 7), .bin .rem (.t 5) (.t 6), none⟩,
    ⟨(some 8), .mov (.t 1), none⟩,
    ⟨(some 9), .bin .add (.t 7) (.t 8), none⟩,
    ⟨(some 10), .mov (.t 1), none⟩,
    ⟨(some 11), .bin .rem (.t 9) (.t 10), none⟩,
    ⟨(some 4), .mov (.t 11), none⟩] .done)
  .ret))⟩
theorem pf16_eq : (Tryd.f16.body.map fun c => (cfn Tryd.prog pl16 Tryd.f16 c, guardsAll pl16 c)) = some (pf16, true) := by kernel_rfl

/-- (*corral/net.Net).Take  sizes [(4, 20)] -/
def pl17 : Nat → DT := dtGet [(4, (.take 0 [0, 16, 17, 18] (.take 1 [1, 2, 16, 17, 18, 3, 4, 6, 14, 15] (.take 2 [2, 3, 16, 17, 18, 4, 6, 14, 15] (.take 3 [3, 4, 16, 17, 18, 6, 14, 15] (.take 4 [4, 6, 16, 17, 18, 14, 15] (.take 5 [5, 6, 16, 17, 18, 14, 15] (.take 6 [6, 14, 16, 17, 18, 15] (.take 7 [7, 8, 16, 17, 18, 9, 10, 13, 14, 15] (.take 8 [8, 9, 16, 17, 18, 10, 13, 14, 15] (.take 9 [9, 10, 16, 17, 18, 13, 14, 15] (.take 10 [10, 13, 16, 17, 18, 14, 15] (.take 11 [11, 12, 16, 17, 18, 13, 14, 15] (.take 12 [12, 13, 16, 17, 18, 14, 15] (.take 13 [13, 14, 16, 17, 18, 15] (.eff true 14 (.eff false 15 (.take 16 [16, 17, 18] (.take 17 [17, 18] (.eff false 18 .done))))))))))))))))))))]
def pf17 : PFn := ⟨39, [.cell 4 (some 11), .t 5], (.seq (.ops false [⟨(some 4), .box 33 (.c (.agg [(.v (.int .i64 0)), (.v (.int .i64 0)), (.v (.int .i64 0)), (.v (.int .i64 0)), (.v (.int .u32 0)), (.v (.int .u32 0)), (.v (.int .u32 0)), (.v (.int .u32 0)), (.v (.bool false)), (.v (.bool false)), (.v (.bool false))])), none⟩,
    ⟨(some 5), .mov (.c (.v (.bool false))), none⟩] .done)
  (.seq (.ops false [⟨(some 10), .mov (.t 0), none⟩,
    ⟨(some 11), .mov (.t 1), none⟩,
    ⟨(some 12), .call 21 [(.t 10), (.t 11)], none⟩,
    ⟨(some 9), .mov (.t 12), none⟩,
    ⟨(some 13), .ext (.t 9) 0, none⟩,
    ⟨(some 14), .ext (.t 9) 1, none⟩,
    ⟨(some 6), .box 33 (.c (.agg [(.v (.int .i64 0)), (.v (.int .i64 0)), (.v (.int .i64 0)), (.v (.int .i64 0)), (.v (.int .u32 0)), (.v (.int .u32 0)), (.v (.int .u32 0)), (.v (.int .u32 0)), (.v (.bool false)), (.v (.bool false)), (.v (.bool false))])), none⟩,
    ⟨none, .store 11 (.t 6) (.t 13), none⟩,
    ⟨(some 7), .mov (.t 14), none⟩] .done)
  (.seq (.seq (.ops false [⟨(some 15), .mov (.t 7), none⟩] .done)
   (.cond (.t 15)
    (.seq (.ops false [⟨(some 16), .mov (.t 0), none⟩,
       ⟨(some 17), .mov (.t 1), none⟩,
       ⟨(some 18), .call 33 [(.t 16), (.t 17)], none⟩,
       ⟨(some 8), .mov (.t 18), none⟩] .done)
     (.ops true [⟨(some 19), .mov (.t 0), none⟩,
      ⟨(some 20), .mov (.t 0), none⟩,
      ⟨(some 21), .nilck (.t 20), none⟩,
      ⟨(some 22), .fld 3 (.t 21), none⟩,
      ⟨(some 23), .load none (.t 22), none⟩,
      ⟨(some 24), .mov (.t 8), none⟩,
      ⟨(some 25), .slice 12 (.t 23) none (some (.t 24)) none, none⟩,
      ⟨(some 26), .mov (.t 0), none⟩,
      ⟨(some 27), .nilck (.t 26), none⟩,
      ⟨(some 28), .fld 3 (.t 27), none⟩,
      ⟨(some 29), .load none (.t 28), none⟩,
      ⟨(some 30), .mov (.t 8), none⟩,
      ⟨(some 31), .bin .add (.t 30) (.c (.v (.int .i64 1))), none⟩,
      ⟨(some 32), .slice 12 (.t 29) (some (.t 31)) none none, none⟩,
      ⟨(some 33), .bslice 41 [.sl] 2 [(.v (.slice none 0 0)), (.v (.slice none 0 0))] [(0, 1, (.t 25)), (1, 1, (.t 32))], none⟩,
      ⟨(some 34), .call 34 [(.t 33)], none⟩,
      ⟨(some 35), .nilck (.t 19), none⟩,
      ⟨(some 36), .fld 3 (.t 35), none⟩,
      ⟨none, .store 1 (.t 36) (.t 34), none⟩] (.take 0 [0, 16, 17, 18] (.take 1 [1, 2, 16, 17, 18, 3, 4, 6, 14, 15] (.take 2 [2, 3, 16, 17, 18, 4, 6, 14, 15] (.take 3 [3, 4, 16, 17, 18, 6, 14, 15] (.take 4 [4, 6, 16, 17, 18, 14, 15] (.take 5 [5, 6, 16, 17, 18, 14, 15] (.take 6 [6, 14, 16, 17, 18, 15] (.take 7 [7, 8, 16, 17, 18, 9, 10, 13, 14, 15] (.take 8 [8, 9, 16, 17, 18, 10, 13, 14, 15] (.take 9 [9, 10, 16, 17, 18, 13, 14, 15] (.take 10 [10, 13, 16, 17, 18, 14, 15] (.take 11 [11, 12, 16, 17, 18, 13, 14, 15] (.take 12 [12, 13, 16, 17, 18, 14, 15] (.take 13 [13, 14, 16, 17, 18, 15] (.eff true 14 (.eff false 15 (.take 16 [16, 17, 18] (.take 17 [17, 18] (.eff false 18 .done)))))))))))))))))))))
    .skip))
  (.seq (.ops false [⟨(some 37), .load (some 11) (.t 6), none⟩,
    ⟨(some 38), .mov (.t 7), none⟩,
    ⟨none, .store 11 (.t 4) (.t 37), none⟩,
    ⟨(some 5), .mov (.t 38), none⟩] .done)
  .ret))))⟩
theorem pf17_eq : (Tryd.f17.body.map fun c => (cfn Tryd.prog pl17 Tryd.f17 c, guardsAll pl17 c)) = some (pf17, true) := by kernel_rfl

/-- corral/corralref.SameMsg  sizes [] -/
def pl18 : Nat → DT := dtGet []
def pf18 : PFn := ⟨61, [.t 4], (.seq (.ops false [⟨(some 2), .box 33 (.t 0), none⟩,
    ⟨(some 3), .box 33 (.t 1), none⟩,
    ⟨(some 4), .mov (.c (.v (.bool false))), none⟩] .done)
  (.seq (.ops false [⟨(some 6), .fld 4 (.t 2), none⟩,
    ⟨(some 7), .load (some 4) (.t 6), none⟩,
    ⟨(some 8), .fld 4 (.t 3), none⟩,
    ⟨(some 9), .load (some 4) (.t 8), none⟩,
    ⟨(some 10), .call 35 [(.t 7), (.t 9)], none⟩,
    ⟨(some 5), .mov (.t 10), none⟩] .done)
  (.seq (.ops false [⟨(some 11), .mov (.t 5), none⟩,
    ⟨(some 12), .mov (.t 11), none⟩,
    ⟨(some 13), .fld 0 (.t 2), some (12, true)⟩,
    ⟨(some 14), .load none (.t 13), some (12, true)⟩,
    ⟨(some 15), .fld 0 (.t 3), some (12, true)⟩,
    ⟨(some 16), .load none (.t 15), some (12, true)⟩,
    ⟨(some 17), .bin .eql (.t 14) (.t 16), some (12, true)⟩,
    ⟨(some 18), .pick (.t 12) (.t 17) (.c (.v (.bool false))), none⟩,
    ⟨(some 19), .mov (.t 18), none⟩,
    ⟨(some 20), .fld 1 (.t 2), some (19, true)⟩,
    ⟨(some 21), .load none (.t 20), some (19, true)⟩,
    ⟨(some 22), .fld 1 (.t 3), some (19, true)⟩,
    ⟨(some 23), .load none (.t 22), some (19, true)⟩,
    ⟨(some 24), .bin .eql (.t 21) (.t 23), some (19, true)⟩,
    ⟨(some 25), .pick (.t 19) (.t 24) (.c (.v (.bool false))), none⟩,
    ⟨(some 26), .mov (.t 25), none⟩,
    ⟨(some 27), .fld 2 (.t 2), some (26, true)⟩,
    ⟨(some 28), .load none (.t 27), some (26, true)⟩,
    ⟨(some 29), .fld 2 (.t 3), some (26, true)⟩,
    ⟨(some 30), .load none (.t 29), some (26, true)⟩,
    ⟨(some 31), .bin .eql (.t 28) (.t 30), some (26, true)⟩,
    ⟨(some 32), .pick (.t 26) (.t 31) (.c (.v (.bool false))), none⟩,
    ⟨(some 33), .mov (.t 32), none⟩,
    ⟨(some 34), .fld 3 (.t 2), some (33, true)⟩,
    ⟨(some 35), .load none (.t 34), some (33, true)⟩,
    ⟨(some 36), .fld 3 (.t 3), some (33, true)⟩,
    ⟨(some 37), .load none (.t 36), some (33, true)⟩,
    ⟨(some 38), .bin .eql (.t 35) (.t 37), some (33, true)⟩,
    ⟨(some 39), .pick (.t 33) (.t 38) (.c (.v (.bool false))), none⟩,
    ⟨(some 40), .mov (.t 39), none⟩,
    ⟨(some 41), .fld 8 (.t 2), some (40, true)⟩,
    ⟨(some 42), .load none (.t 41), some (40, true)⟩,
    ⟨(some 43), .fld 8 (.t 3), some (40, true)⟩,
    ⟨(some 44), .load none (.t 43), some (40, true)⟩,
    ⟨(some 45), .eqb false (.t 42) (.t 44), some (40, true)⟩,
    ⟨(some 46), .pick (.t 40) (.t 45) (.c (.v (.bool false))), none⟩,
    ⟨(some 47), .mov (.t 46), none⟩,
    ⟨(some 48), .fld 9 (.t 2), some (47, true)⟩,
    ⟨(some 49), .load none (.t 48), some (47, true)⟩,
    ⟨(some 50), .fld 9 (.t 3), some (47, true)⟩,
    ⟨(some 51), .load none (.t 50), some (47, true)⟩,
    ⟨(some 52), .eqb false (.t 49) (.t 51), some (47, true)⟩,
    ⟨(some 53), .pick (.t 47) (.t 52) (.c (.v (.bool false))), none⟩,
    ⟨(some 54), .mov (.t 53), none⟩,
    ⟨(some 55), .fld 10 (.t 2), some (54, true)⟩,
    ⟨(some 56), .load none (.t 55), some (54, true)⟩,
    ⟨(some 57), .fld 10 (.t 3), some (54, true)⟩,
    ⟨(some 58), .load none (.t 57), some (54, true)⟩,
    ⟨(some 59), .eqb false (.t 56) (.t 58), some (54, true)⟩,
    ⟨(some 60), .pick (.t 54) (.t 59) (.c (.v (.bool false))), none⟩,
    ⟨(some 4), .mov (.t 60), none⟩] .done)
  .ret)))⟩
theorem pf18_eq : (Tryd.f18.body.map fun c => (cfn Tryd.prog pl18 Tryd.f18 c, guardsAll pl18 c)) = some (pf18, true) := by kernel_rfl

/-- corral/corralsee.Is  sizes [] -/
def pl19 : Nat → DT := dtGet []
def pf19 : PFn := ⟨9, [.t 4], (.seq (.ops false [⟨(some 4), .mov (.c (.v (.bool false))), none⟩] .done)
  (.seq (.ops false [⟨(some 5), .mov (.t 0), none⟩,
    ⟨(some 6), .mov (.t 1), none⟩,
    ⟨(some 7), .call 36 [(.t 6)], none⟩,
    ⟨(some 8), .call 10 [(.t 5), (.t 7)], none⟩,
    ⟨(some 4), .mov (.t 8), none⟩] .done)
  .ret))⟩
theorem pf19_eq : (Tryd.f19.body.map fun c => (cfn Tryd.prog pl19 Tryd.f19 c, guardsAll pl19 c)) = some (pf19, true) := by kernel_rfl

/-- (*corral/corralref18.Net).Send  sizes [(1, 30), (13, 17)] -/
def pl20 : Nat → DT := dtGet [(1, (.take 0 [0, 1, 28, 2, 3, 26, 27] (.take 1 [1, 2, 28, 3, 26, 27] (.take 2 [2, 3, 28, 26, 27] (.take 3 [3, 26, 28, 27] (.take 4 [4, 5, 28, 6, 7, 26, 27] (.take 5 [5, 6, 28, 7, 26, 27] (.take 6 [6, 7, 28, 26, 27] (.take 7 [7, 26, 28, 27] (.take 8 [8, 9, 28, 10, 11, 26, 27] (.take 9 [9, 10, 28, 11, 26, 27] (.take 10 [10, 11, 28, 26, 27] (.take 11 [11, 26, 28, 27] (.take 12 [12, 13, 28, 14, 15, 16, 19, 20, 25, 26, 27] (.take 13 [13, 14, 28, 15, 16, 19, 20, 25, 26, 27] (.take 14 [14, 15, 28, 16, 19, 20, 25, 26, 27] (.take 15 [15, 16, 28, 19, 20, 25, 26, 27] (.take 16 [16, 19, 28, 20, 25, 26, 27] (.take 17 [17, 18, 28, 19, 20, 25, 26, 27] (.take 18 [18, 19, 28, 20, 25, 26, 27] (.take 19 [19, 20, 28, 25, 26, 27] (.take 21 [21, 22, 28, 23, 24, 25, 26, 27] (.take 22 [22, 23, 28, 24, 25, 26, 27] (.take 23 [23, 24, 28, 25, 26, 27] (.take 24 [24, 25, 28, 26, 27] (.eff true 20 (.eff false 25 (.take 26 [26, 27, 28] (.eff true 27 (.take 28 [28] .done)))))))))))))))))))))))))))))), (13, (.take 0 [0, 13, 14, 15] (.take 1 [1, 2, 13, 14, 15, 3, 4, 12] (.take 2 [2, 3, 13, 14, 15, 4, 12] (.take 3 [3, 4, 13, 14, 15, 12] (.take 4 [4, 12, 13, 14, 15] (.take 5 [5, 6, 13, 14, 15, 7, 8, 10, 11, 12] (.take 6 [6, 7, 13, 14, 15, 8, 10, 11, 12] (.take 7 [7, 8, 13, 14, 15, 10, 11, 12] (.take 8 [8, 10, 13, 14, 15, 11, 12] (.take 9 [9, 10, 13, 14, 15, 11, 12] (.take 10 [10, 11, 13, 14, 15, 12] (.eff true 11 (.eff false 12 (.take 13 [13, 14, 15] (.take 14 [14, 15] (.eff false 15 .done)))))))))))))))))]
def pf20 : PFn := ⟨117, [.cell 4 (some 2)], (.seq (.ops false [⟨(some 4), .box 38 (.c (.agg [(.v (.int .i64 0)), (.v (.slice none 0 0))])), none⟩] .done)
  (.seq (.ops true [⟨(some 9), .mov (.t 0), none⟩,
    ⟨(some 10), .nilck (.t 9), none⟩,
    ⟨(some 11), .fld 0 (.t 10), none⟩,
    ⟨(some 12), .load none (.t 11), none⟩,
    ⟨(some 13), .mov (.t 0), none⟩,
    ⟨(some 14), .nilck (.t 13), none⟩,
    ⟨(some 15), .fld 1 (.t 14), none⟩,
    ⟨(some 16), .load none (.t 15), none⟩,
    ⟨(some 17), .mov (.t 0), none⟩,
    ⟨(some 18), .nilck (.t 17), none⟩,
    ⟨(some 19), .fld 2 (.t 18), none⟩,
    ⟨(some 20), .load none (.t 19), none⟩,
    ⟨(some 21), .mov (.t 0), none⟩,
    ⟨(some 22), .nilck (.t 21), none⟩,
    ⟨(some 23), .fld 3 (.t 22), none⟩,
    ⟨(some 24), .load none (.t 23), none⟩,
    ⟨(some 25), .len (.t 24), none⟩,
    ⟨(some 26), .mov (.t 1), none⟩,
    ⟨(some 27), .len (.t 26), none⟩,
    ⟨(some 28), .bin .add (.t 25) (.t 27), none⟩,
    ⟨(some 29), .mslice 64 [.int .i64, .int .i64, .int .i64, .int .i64, .int .i64, .int .u32, .int .u32, .int .u32, .int .u32, .bool, .bool, .bool] [(.int .i64 0), (.int .i64 0), (.int .i64 0), (.int .i64 0), (.int .i64 0), (.int .u32 0), (.int .u32 0), (.int .u32 0), (.int .u32 0), (.bool false), (.bool false), (.bool false)] 64 (.c (.v (.int .i64 0))) (.t 28), none⟩,
    ⟨(some 30), .mov (.t 0), none⟩,
    ⟨(some 31), .nilck (.t 30), none⟩,
    ⟨(some 32), .fld 3 (.t 31), none⟩,
    ⟨(some 33), .load none (.t 32), none⟩,
    ⟨(some 34), .append 64 [.int .i64, .int .i64, .int .i64, .int .i64, .int .i64, .int .u32, .int .u32, .int .u32, .int .u32, .bool, .bool, .bool] [(.int .i64 0), (.int .i64 0), (.int .i64 0), (.int .i64 0), (.int .i64 0), (.int .u32 0), (.int .u32 0), (.int .u32 0), (.int .u32 0), (.bool false), (.bool false), (.bool false)] 64 (.t 29) (.t 33), none⟩,
    ⟨(some 35), .build [(.v (.int .i64 0)), (.v (.int .i64 0)), (.v (.int .i64 0)), (.v (.slice none 0 0))] [(0, 1, (.t 12)), (1, 1, (.t 16)), (2, 1, (.t 20)), (3, 1, (.t 34))], none⟩,
    ⟨(some 36), .box 60 (.t 35), none⟩,
    ⟨(some 5), .mov (.t 36), none⟩] (.take 0 [0, 1, 28, 2, 3, 26, 27] (.take 1 [1, 2, 28, 3, 26, 27] (.take 2 [2, 3, 28, 26, 27] (.take 3 [3, 26, 28, 27] (.take 4 [4, 5, 28, 6, 7, 26, 27] (.take 5 [5, 6, 28, 7, 26, 27] (.take 6 [6, 7, 28, 26, 27] (.take 7 [7, 26, 28, 27] (.take 8 [8, 9, 28, 10, 11, 26, 27] (.take 9 [9, 10, 28, 11, 26, 27] (.take 10 [10, 11, 28, 26, 27] (.take 11 [11, 26, 28, 27] (.take 12 [12, 13, 28, 14, 15, 16, 19, 20, 25, 26, 27] (.take 13 [13, 14, 28, 15, 16, 19, 20, 25, 26, 27] (.take 14 [14, 15, 28, 16, 19, 20, 25, 26, 27] (.take 15 [15, 16, 28, 19, 20, 25, 26, 27] (.take 16 [16, 19, 28, 20, 25, 26, 27] (.take 17 [17, 18, 28, 19, 20, 25, 26, 27] (.take 18 [18, 19, 28, 20, 25, 26, 27] (.take 19 [19, 20, 28, 25, 26, 27] (.take 21 [21, 22, 28, 23, 24, 25, 26, 27] (.take 22 [22, 23, 28, 24, 25, 26, 27] (.take 23 [23, 24, 28, 25, 26, 27] (.take 24 [24, 25, 28, 26, 27] (.eff true 20 (.eff false 25 (.take 26 [26, 27, 28] (.eff true 27 (.take 28 [28] .done))))))))))))))))))))))))))))))
  (.seq (.seq (.ops false [⟨(some 6), .mov (.c (.v (.int .i64 0))), none⟩] .done)
   (.block 0 (.loop (.seq (.seq (.ops false [⟨(some 37), .mov (.t 6), none⟩,
        ⟨(some 38), .mov (.t 1), none⟩,
        ⟨(some 39), .len (.t 38), none⟩,
        ⟨(some 40), .bin .lss (.t 37) (.t 39), none⟩] .done)
      (.cond (.t 40)
       .skip
       (.exit 0)))
     (.seq (.block 1 (.seq (.ops false [⟨(some 43), .mov (.t 1), none⟩,
         ⟨(some 44), .mov (.t 6), none⟩,
         ⟨(some 45), .idx 11 (.t 43) (.t 44), none⟩,
         ⟨(some 46), .load (some 11) (.t 45), none⟩,
         ⟨(some 7), .box 33 (.c (.agg [(.v (.int .i64 0)), (.v (.int .i64 0)), (.v (.int .i64 0)), (.v (.int .i64 0)), (.v (.int .u32 0)), (.v (.int .u32 0)), (.v (.int .u32 0)), (.v (.int .u32 0)), (.v (.bool false)), (.v (.bool false)), (.v (.bool false))])), none⟩,
         ⟨none, .store 11 (.t 7) (.t 46), none⟩] .done)
       (.seq (.ops false [⟨(some 47), .fld 0 (.t 7), none⟩,
         ⟨(some 48), .load none (.t 47), none⟩,
         ⟨(some 49), .call 25 [(.t 48)], none⟩,
         ⟨(some 8), .mov (.t 49), none⟩] .done)
       (.seq (.seq (.ops false [⟨(some 50), .mov (.t 8), none⟩,
          ⟨(some 51), .bin .lss (.t 50) (.c (.v (.int .i64 0))), none⟩] .done)
        (.cond (.t 51)
         (.seq (.ops false [⟨(some 52), .mov (.t 6), none⟩,
            ⟨(some 53), .call 11 [(.c (.v (.int .i64 102))), (.t 52)], none⟩,
            ⟨none, .store 2 (.t 4) (.t 53), none⟩] .done)
          .ret)
         .skip))
       (.seq (.seq (.ops false [⟨(some 54), .mov (.t 5), none⟩,
          ⟨(some 55), .fld 2 (.t 7), none⟩,
          ⟨(some 56), .load none (.t 55), none⟩,
          ⟨(some 57), .fld 3 (.t 7), none⟩,
          ⟨(some 58), .load none (.t 57), none⟩,
          ⟨(some 59), .mov (.t 8), none⟩,
          ⟨(some 60), .call 37 [(.t 54), (.t 56), (.t 58), (.t 59)], none⟩,
          ⟨(some 61), .un .not (.t 60), none⟩,
          ⟨(some 62), .mov (.t 61), none⟩,
          ⟨(some 63), .fld 1 (.t 7), some (62, false)⟩,
          ⟨(some 64), .load none (.t 63), some (62, false)⟩,
          ⟨(some 65), .bin .lss (.t 64) (.c (.v (.int .i64 0))), some (62, false)⟩,
          ⟨(some 66), .pick (.t 62) (.c (.v (.bool true))) (.t 65), none⟩] .done)
        (.cond (.t 66)
         (.seq (.ops false [⟨(some 67), .mov (.t 6), none⟩,
            ⟨(some 68), .call 11 [(.c (.v (.int .i64 103))), (.t 67)], none⟩,
            ⟨none, .store 2 (.t 4) (.t 68), none⟩] .done)
          .ret)
         .skip))
       (.seq (.seq (.ops false [⟨(some 69), .mov (.t 5), none⟩,
          ⟨(some 70), .fld 2 (.t 7), none⟩,
          ⟨(some 71), .load none (.t 70), none⟩,
          ⟨(some 72), .fld 3 (.t 7), none⟩,
          ⟨(some 73), .load none (.t 72), none⟩,
          ⟨(some 74), .mov (.t 8), none⟩,
          ⟨(some 75), .call 24 [(.t 69), (.t 71), (.t 73), (.t 74)], none⟩,
          ⟨(some 76), .bin .lss (.t 75) (.c (.v (.int .i64 1))), none⟩] .done)
        (.cond (.t 76)
         (.seq (.ops false [⟨(some 77), .mov (.t 6), none⟩,
            ⟨(some 78), .call 11 [(.c (.v (.int .i64 107))), (.t 77)], none⟩,
            ⟨none, .store 2 (.t 4) (.t 78), none⟩] .done)
          .ret)
         .skip))
       (.seq (.ops true [⟨(some 79), .mov (.t 5), none⟩,
         ⟨(some 80), .mov (.t 5), none⟩,
         ⟨(some 81), .nilck (.t 80), none⟩,
         ⟨(some 82), .fld 3 (.t 81), none⟩,
         ⟨(some 83), .load none (.t 82), none⟩,
         ⟨(some 84), .mov (.t 5), none⟩,
         ⟨(some 85), .nilck (.t 84), none⟩,
         ⟨(some 86), .fld 2 (.t 85), none⟩,
         ⟨(some 87), .load none (.t 86), none⟩,
         ⟨(some 88), .load (some 11) (.t 7), none⟩,
         ⟨(some 89), .build [(.v (.int .i64 0)), (.v (.int .i64 0)), (.v (.int .i64 0)), (.v (.int .i64 0)), (.v (.int .i64 0)), (.v (.int .u32 0)), (.v (.int .u32 0)), (.v (.int .u32 0)), (.v (.int .u32 0)), (.v (.bool false)), (.v (.bool false)), (.v (.bool false))] [(0, 1, (.t 87)), (1, 11, (.t 88))], none⟩,
         ⟨(some 90), .bslice 64 [.int .i64, .int .i64, .int .i64, .int .i64, .int .i64, .int .u32, .int .u32, .int .u32, .int .u32, .bool, .bool, .bool] 1 [(.v (.int .i64 0)), (.v (.int .i64 0)), (.v (.int .i64 0)), (.v (.int .i64 0)), (.v (.int .i64 0)), (.v (.int .u32 0)), (.v (.int .u32 0)), (.v (.int .u32 0)), (.v (.int .u32 0)), (.v (.bool false)), (.v (.bool false)), (.v (.bool false))] [(0, 12, (.t 89))], none⟩,
         ⟨(some 91), .append 64 [.int .i64, .int .i64, .int .i64, .int .i64, .int .i64, .int .u32, .int .u32, .int .u32, .int .u32, .bool, .bool, .bool] [(.int .i64 0), (.int .i64 0), (.int .i64 0), (.int .i64 0), (.int .i64 0), (.int .u32 0), (.int .u32 0), (.int .u32 0), (.int .u32 0), (.bool false), (.bool false), (.bool false)] 64 (.t 83) (.t 90), none⟩,
         ⟨(some 92), .nilck (.t 79), none⟩,
         ⟨(some 93), .fld 3 (.t 92), none⟩,
         ⟨none, .store 1 (.t 93) (.t 91), none⟩] (.take 0 [0, 13, 14, 15] (.take 1 [1, 2, 13, 14, 15, 3, 4, 12] (.take 2 [2, 3, 13, 14, 15, 4, 12] (.take 3 [3, 4, 13, 14, 15, 12] (.take 4 [4, 12, 13, 14, 15] (.take 5 [5, 6, 13, 14, 15, 7, 8, 10, 11, 12] (.take 6 [6, 7, 13, 14, 15, 8, 10, 11, 12] (.take 7 [7, 8, 13, 14, 15, 10, 11, 12] (.take 8 [8, 10, 13, 14, 15, 11, 12] (.take 9 [9, 10, 13, 14, 15, 11, 12] (.take 10 [10, 11, 13, 14, 15, 12] (.eff true 11 (.eff false 12 (.take 13 [13, 14, 15] (.take 14 [14, 15] (.eff false 15 .done)))))))))))))))))
       (.ops false [⟨(some 94), .mov (.t 5), none⟩,
        ⟨(some 95), .mov (.t 5), none⟩,
        ⟨(some 96), .nilck (.t 95), none⟩,
        ⟨(some 97), .fld 2 (.t 96), none⟩,
        ⟨(some 98), .load none (.t 97), none⟩,
        ⟨(some 99), .bin .add (.t 98) (.c (.v (.int .i64 1))), none⟩,
        ⟨(some 100), .nilck (.t 94), none⟩,
        ⟨(some 101), .fld 2 (.t 100), none⟩,
        ⟨none, .store 1 (.t 101) (.t 99), none⟩] .done))))))))
     (.ops false [⟨(some 41), .mov (.t 6), none⟩,
      ⟨(some 42), .bin .add (.t 41) (.c (.v (.int .i64 1))), none⟩,
      ⟨(some 6), .mov (.t 42), none⟩] .done))))))
  (.seq (.ops false [⟨(some 102), .mov (.t 0), none⟩,
    ⟨(some 103), .mov (.t 5), none⟩,
    ⟨(some 104), .nilck (.t 103), none⟩,
    ⟨(some 105), .fld 3 (.t 104), none⟩,
    ⟨(some 106), .load none (.t 105), none⟩,
    ⟨(some 107), .nilck (.t 102), none⟩,
    ⟨(some 108), .fld 3 (.t 107), none⟩,
    ⟨none, .store 1 (.t 108) (.t 106), none⟩] .done)
  (.seq (.ops false [⟨(some 109), .mov (.t 0), none⟩,
    ⟨(some 110), .mov (.t 5), none⟩,
    ⟨(some 111), .nilck (.t 110), none⟩,
    ⟨(some 112), .fld 2 (.t 111), none⟩,
    ⟨(some 113), .load none (.t 112), none⟩,
    ⟨(some 114), .nilck (.t 109), none⟩,
    ⟨(some 115), .fld 2 (.t 114), none⟩,
    ⟨none, .store 1 (.t 115) (.t 113), none⟩] .done)
  (.seq (.ops false [⟨(some 116), .call 32 [], none⟩,
    ⟨none, .store 2 (.t 4) (.t 116), none⟩] .done)
  .ret))))))⟩
theorem pf20_eq : (Tryd.f20.body.map fun c => (cfn Tryd.prog pl20 Tryd.f20 c, guardsAll pl20 c)) = some (pf20, true) := by kernel_rfl

/-- (*corral/net.Net).Head  sizes [] -/
def pl21 : Nat → DT := dtGet []
def pf21 : PFn := ⟨21, [.cell 4 (some 11), .t 5], (.seq (.ops false [⟨(some 4), .box 33 (.c (.agg [(.v (.int .i64 0)), (.v (.int .i64 0)), (.v (.int .i64 0)), (.v (.int .i64 0)), (.v (.int .u32 0)), (.v (.int .u32 0)), (.v (.int .u32 0)), (.v (.int .u32 0)), (.v (.bool false)), (.v (.bool false)), (.v (.bool false))])), none⟩,
    ⟨(some 5), .mov (.c (.v (.bool false))), none⟩] .done)
  (.seq (.ops false [⟨(some 7), .mov (.t 0), none⟩,
    ⟨(some 8), .mov (.t 1), none⟩,
    ⟨(some 9), .call 33 [(.t 7), (.t 8)], none⟩,
    ⟨(some 6), .mov (.t 9), none⟩] .done)
  (.seq (.seq (.ops false [⟨(some 10), .mov (.t 6), none⟩,
     ⟨(some 11), .bin .lss (.t 10) (.c (.v (.int .i64 0))), none⟩] .done)
   (.cond (.t 11)
    (.seq (.ops false [⟨(some 12), .build [(.v (.int .i64 0)), (.v (.int .i64 0)), (.v (.int .i64 0)), (.v (.int .i64 0)), (.v (.int .u32 0)), (.v (.int .u32 0)), (.v (.int .u32 0)), (.v (.int .u32 0)), (.v (.bool false)), (.v (.bool false)), (.v (.bool false))] [], none⟩,
       ⟨none, .store 11 (.t 4) (.t 12), none⟩,
       ⟨(some 5), .mov (.c (.v (.bool false))), none⟩] .done)
     .ret)
    .skip))
  (.seq (.ops false [⟨(some 13), .mov (.t 0), none⟩,
    ⟨(some 14), .nilck (.t 13), none⟩,
    ⟨(some 15), .fld 3 (.t 14), none⟩,
    ⟨(some 16), .load none (.t 15), none⟩,
    ⟨(some 17), .mov (.t 6), none⟩,
    ⟨(some 18), .idx 12 (.t 16) (.t 17), none⟩,
    ⟨(some 19), .fld 1 (.t 18), none⟩,
    ⟨(some 20), .load (some 11) (.t 19), none⟩,
    ⟨none, .store 11 (.t 4) (.t 20), none⟩,
    ⟨(some 5), .mov (.c (.v (.bool true))), none⟩] .done)
  .ret))))⟩
theorem pf21_eq : (Tryd.f21.body.map fun c => (cfn Tryd.prog pl21 Tryd.f21 c, guardsAll pl21 c)) = some (pf21, true) := by kernel_rfl

/-- (*corral/corralref18.Net).Take  sizes [(6, 45)] -/
def pl22 : Nat → DT := dtGet [(6, (.take 0 [0, 22, 23, 24] (.take 1 [1, 2, 22, 23, 24, 3, 4, 5, 6, 13, 21] (.take 2 [2, 3, 22, 23, 24, 4, 5, 6, 13, 21] (.take 3 [3, 4, 22, 23, 24, 5, 6, 13, 21] (.take 4 [4, 5, 22, 23, 24, 6, 13, 21] (.take 5 [5, 6, 22, 23, 24, 13, 21] (.take 7 [7, 8, 22, 23, 24, 9, 10, 12, 13, 21] (.take 8 [8, 9, 22, 23, 24, 10, 12, 13, 21] (.take 9 [9, 10, 22, 23, 24, 12, 13, 21] (.take 10 [10, 12, 22, 23, 24, 13, 21] (.take 11 [11, 12, 22, 23, 24, 13, 21] (.take 12 [12, 13, 22, 23, 24, 21] (.take 14 [14, 15, 22, 23, 24, 16, 17, 20, 21] (.take 15 [15, 16, 22, 23, 24, 17, 20, 21] (.take 16 [16, 17, 22, 23, 24, 20, 21] (.take 18 [18, 19, 22, 23, 24, 20, 21] (.take 19 [19, 20, 22, 23, 24, 21] (.both (.eff true 6 (.both (.eff false 13 (.eff false 17 (.take 20 [20, 21, 22, 23, 24] (.eff false 21 (.take 22 [22, 23, 24] (.take 23 [23, 24] (.eff false 24 .done))))))) (.eff false 17 (.take 20 [20, 21, 22, 23, 24] (.eff false 13 (.eff false 21 (.take 22 [22, 23, 24] (.take 23 [23, 24] (.eff false 24 .done))))))))) (.eff false 17 (.take 20 [20, 21, 22, 23, 24] (.eff true 6 (.eff false 13 (.eff false 21 (.take 22 [22, 23, 24] (.take 23 [23, 24] (.eff false 24 .done)))))))))))))))))))))))))))]
def pf22 : PFn := ⟨61, [.cell 4 (some 11), .t 5], (.seq (.ops false [⟨(some 4), .box 33 (.c (.agg [(.v (.int .i64 0)), (.v (.int .i64 0)), (.v (.int .i64 0)), (.v (.int .i64 0)), (.v (.int .u32 0)), (.v (.int .u32 0)), (.v (.int .u32 0)), (.v (.int .u32 0)), (.v (.bool false)), (.v (.bool false)), (.v (.bool false))])), none⟩,
    ⟨(some 5), .mov (.c (.v (.bool false))), none⟩] .done)
  (.seq (.seq (.ops false [⟨(some 6), .mov (.c (.v (.int .i64 0))), none⟩] .done)
   (.block 0 (.loop (.seq (.seq (.ops false [⟨(some 8), .mov (.t 6), none⟩,
        ⟨(some 9), .mov (.t 0), none⟩,
        ⟨(some 10), .nilck (.t 9), none⟩,
        ⟨(some 11), .fld 3 (.t 10), none⟩,
        ⟨(some 12), .load none (.t 11), none⟩,
        ⟨(some 13), .len (.t 12), none⟩,
        ⟨(some 14), .bin .lss (.t 8) (.t 13), none⟩] .done)
      (.cond (.t 14)
       .skip
       (.exit 0)))
     (.seq (.block 1 (.seq (.ops false [⟨(some 17), .mov (.t 0), none⟩,
         ⟨(some 18), .nilck (.t 17), none⟩,
         ⟨(some 19), .fld 3 (.t 18), none⟩,
         ⟨(some 20), .load none (.t 19), none⟩,
         ⟨(some 21), .mov (.t 6), none⟩,
         ⟨(some 22), .idx 12 (.t 20) (.t 21), none⟩,
         ⟨(some 23), .fld 0 (.t 22), none⟩,
         ⟨(some 24), .load none (.t 23), none⟩,
         ⟨(some 25), .mov (.t 1), none⟩,
         ⟨(some 26), .bin .eql (.t 24) (.t 25), none⟩] .done)
       (.cond (.t 26)
        (.seq (.ops false [⟨(some 27), .mov (.t 0), none⟩,
           ⟨(some 28), .nilck (.t 27), none⟩,
           ⟨(some 29), .fld 3 (.t 28), none⟩,
           ⟨(some 30), .load none (.t 29), none⟩,
           ⟨(some 31), .mov (.t 6), none⟩,
           ⟨(some 32), .idx 12 (.t 30) (.t 31), none⟩,
           ⟨(some 33), .fld 1 (.t 32), none⟩,
           ⟨(some 34), .load (some 11) (.t 33), none⟩,
           ⟨(some 7), .box 33 (.c (.agg [(.v (.int .i64 0)), (.v (.int .i64 0)), (.v (.int .i64 0)), (.v (.int .i64 0)), (.v (.int .u32 0)), (.v (.int .u32 0)), (.v (.int .u32 0)), (.v (.int .u32 0)), (.v (.bool false)), (.v (.bool false)), (.v (.bool false))])), none⟩,
           ⟨none, .store 11 (.t 7) (.t 34), none⟩] .done)
         (.seq (.ops true [⟨(some 35), .mov (.t 0), none⟩,
           ⟨(some 36), .mov (.t 0), none⟩,
           ⟨(some 37), .nilck (.t 36), none⟩,
           ⟨(some 38), .fld 3 (.t 37), none⟩,
           ⟨(some 39), .load none (.t 38), none⟩,
           ⟨(some 40), .len (.t 39), none⟩,
           ⟨(some 41), .mslice 64 [.int .i64, .int .i64, .int .i64, .int .i64, .int .i64, .int .u32, .int .u32, .int .u32, .int .u32, .bool, .bool, .bool] [(.int .i64 0), (.int .i64 0), (.int .i64 0), (.int .i64 0), (.int .i64 0), (.int .u32 0), (.int .u32 0), (.int .u32 0), (.int .u32 0), (.bool false), (.bool false), (.bool false)] 64 (.c (.v (.int .i64 0))) (.t 40), none⟩,
           ⟨(some 42), .mov (.t 0), none⟩,
           ⟨(some 43), .nilck (.t 42), none⟩,
           ⟨(some 44), .fld 3 (.t 43), none⟩,
           ⟨(some 45), .load none (.t 44), none⟩,
           ⟨(some 46), .mov (.t 6), none⟩,
           ⟨(some 47), .slice 12 (.t 45) none (some (.t 46)) none, none⟩,
           ⟨(some 48), .append 64 [.int .i64, .int .i64, .int .i64, .int .i64, .int .i64, .int .u32, .int .u32, .int .u32, .int .u32, .bool, .bool, .bool] [(.int .i64 0), (.int .i64 0), (.int .i64 0), (.int .i64 0), (.int .i64 0), (.int .u32 0), (.int .u32 0), (.int .u32 0), (.int .u32 0), (.bool false), (.bool false), (.bool false)] 64 (.t 41) (.t 47), none⟩,
           ⟨(some 49), .mov (.t 0), none⟩,
           ⟨(some 50), .nilck (.t 49), none⟩,
           ⟨(some 51), .fld 3 (.t 50), none⟩,
           ⟨(some 52), .load none (.t 51), none⟩,
           ⟨(some 53), .mov (.t 6), none⟩,
           ⟨(some 54), .bin .add (.t 53) (.c (.v (.int .i64 1))), none⟩,
           ⟨(some 55), .slice 12 (.t 52) (some (.t 54)) none none, none⟩,
           ⟨(some 56), .append 64 [.int .i64, .int .i64, .int .i64, .int .i64, .int .i64, .int .u32, .int .u32, .int .u32, .int .u32, .bool, .bool, .bool] [(.int .i64 0), (.int .i64 0), (.int .i64 0), (.int .i64 0), (.int .i64 0), (.int .u32 0), (.int .u32 0), (.int .u32 0), (.int .u32 0), (.bool false), (.bool false), (.bool false)] 64 (.t 48) (.t 55), none⟩,
           ⟨(some 57), .nilck (.t 35), none⟩,
           ⟨(some 58), .fld 3 (.t 57), none⟩,
           ⟨none, .store 1 (.t 58) (.t 56), none⟩] (.take 0 [0, 22, 23, 24] (.take 1 [1, 2, 22, 23, 24, 3, 4, 5, 6, 13, 21] (.take 2 [2, 3, 22, 23, 24, 4, 5, 6, 13, 21] (.take 3 [3, 4, 22, 23, 24, 5, 6, 13, 21] (.take 4 [4, 5, 22, 23, 24, 6, 13, 21] (.take 5 [5, 6, 22, 23, 24, 13, 21] (.take 7 [7, 8, 22, 23, 24, 9, 10, 12, 13, 21] (.take 8 [8, 9, 22, 23, 24, 10, 12, 13, 21] (.take 9 [9, 10, 22, 23, 24, 12, 13, 21] (.take 10 [10, 12, 22, 23, 24, 13, 21] (.take 11 [11, 12, 22, 23, 24, 13, 21] (.take 12 [12, 13, 22, 23, 24, 21] (.take 14 [14, 15, 22, 23, 24, 16, 17, 20, 21] (.take 15 [15, 16, 22, 23, 24, 17, 20, 21] (.take 16 [16, 17, 22, 23, 24, 20, 21] (.take 18 [18, 19, 22, 23, 24, 20, 21] (.take 19 [19, 20, 22, 23, 24, 21] (.both (.eff true 6 (.both (.eff false 13 (.eff false 17 (.take 20 [20, 21, 22, 23, 24] (.eff false 21 (.take 22 [22, 23, 24] (.take 23 [23, 24] (.eff false 24 .done))))))) (.eff false 17 (.take 20 [20, 21, 22, 23, 24] (.eff false 13 (.eff false 21 (.take 22 [22, 23, 24] (.take 23 [23, 24] (.eff false 24 .done))))))))) (.eff false 17 (.take 20 [20, 21, 22, 23, 24] (.eff true 6 (.eff false 13 (.eff false 21 (.take 22 [22, 23, 24] (.take 23 [23, 24] (.eff false 24 .done)))))))))))))))))))))))))))
         (.seq (.ops false [⟨(some 59), .load (some 11) (.t 7), none⟩,
           ⟨none, .store 11 (.t 4) (.t 59), none⟩,
           ⟨(some 5), .mov (.c (.v (.bool true))), none⟩] .done)
         .ret)))
        .skip)))
     (.ops false [⟨(some 15), .mov (.t 6), none⟩,
      ⟨(some 16), .bin .add (.t 15) (.c (.v (.int .i64 1))), none⟩,
      ⟨(some 6), .mov (.t 16), none⟩] .done))))))
  (.seq (.ops false [⟨(some 60), .build [(.v (.int .i64 0)), (.v (.int .i64 0)), (.v (.int .i64 0)), (.v (.int .i64 0)), (.v (.int .u32 0)), (.v (.int .u32 0)), (.v (.int .u32 0)), (.v (.int .u32 0)), (.v (.bool false)), (.v (.bool false)), (.v (.bool false))] [], none⟩,
    ⟨none, .store 11 (.t 4) (.t 60), none⟩,
    ⟨(some 5), .mov (.c (.v (.bool false))), none⟩] .done)
  .ret)))⟩
theorem pf22_eq : (Tryd.f22.body.map fun c => (cfn Tryd.prog pl22 Tryd.f22 c, guardsAll pl22 c)) = some (pf22, true) := by kernel_rfl

/-- corral/corrallaw16.same  sizes [(6, 26)] -/
def pl23 : Nat → DT := dtGet [(6, (.take 0 [0, 2, 3, 4, 10, 11, 12, 13, 14, 15, 16, 17, 18, 19, 20, 21, 22, 23, 24] (.take 1 [1, 2, 3, 4, 10, 11, 12, 13, 14, 15, 16, 17, 18, 19, 20, 21, 22, 23, 24] (.take 2 [2, 3, 4, 10, 11, 12, 13, 14, 15, 16, 17, 18, 19, 20, 21, 22, 23, 24] (.take 3 [3, 4, 10, 11, 12, 13, 14, 15, 16, 17, 18, 19, 20, 21, 22, 23, 24] (.take 4 [4, 10, 11, 12, 13, 14, 15, 16, 17, 18, 19, 20, 21, 22, 23, 24] (.take 5 [5, 7, 8, 9, 10, 11, 12, 13, 14, 15, 16, 17, 18, 19, 20, 21, 22, 23, 24] (.take 6 [6, 7, 8, 9, 10, 11, 12, 13, 14, 15, 16, 17, 18, 19, 20, 21, 22, 23, 24] (.take 7 [7, 8, 9, 10, 11, 12, 13, 14, 15, 16, 17, 18, 19, 20, 21, 22, 23, 24] (.take 8 [8, 9, 10, 11, 12, 13, 14, 15, 16, 17, 18, 19, 20, 21, 22, 23, 24] (.take 9 [9, 10, 11, 12, 13, 14, 15, 16, 17, 18, 19, 20, 21, 22, 23, 24] (.take 10 [10, 11, 12, 13, 14, 15, 16, 17, 18, 19, 20, 21, 22, 23, 24] (.take 11 [11, 12, 13, 14, 15, 16, 17, 18, 19, 20, 21, 22, 23, 24] (.take 12 [12, 14, 15, 16, 22, 23, 24] (.take 13 [13, 14, 15, 16, 22, 23, 24] (.take 14 [14, 15, 16, 22, 23, 24] (.take 15 [15, 16, 22, 23, 24] (.take 16 [16, 22, 23, 24] (.take 17 [17, 19, 20, 21, 22, 23, 24] (.take 18 [18, 19, 20, 21, 22, 23, 24] (.take 19 [19, 20, 21, 22, 23, 24] (.take 20 [20, 21, 22, 23, 24] (.take 21 [21, 22, 23, 24] (.eff true 22 (.take 23 [23, 24] (.take 24 [24] .done))))))))))))))))))))))))))]
def pf23 : PFn := ⟨42, [.t 4], (.seq (.ops false [⟨(some 4), .mov (.c (.v (.bool false))), none⟩] .done)
  (.seq (.seq (.ops false [⟨(some 6), .mov (.t 0), none⟩,
     ⟨(some 7), .len (.t 6), none⟩,
     ⟨(some 8), .mov (.t 1), none⟩,
     ⟨(some 9), .len (.t 8), none⟩,
     ⟨(some 10), .bin .neq (.t 7) (.t 9), none⟩] .done)
   (.cond (.t 10)
    (.seq (.ops false [⟨(some 4), .mov (.c (.v (.bool false))), none⟩] .done)
     .ret)
    .skip))
  (.seq (.seq (.ops false [⟨(some 5), .mov (.c (.v (.int .i64 0))), none⟩] .done)
   (.block 0 (.loop (.seq (.seq (.ops false [⟨(some 11), .mov (.t 5), none⟩,
        ⟨(some 12), .mov (.t 0), none⟩,
        ⟨(some 13), .len (.t 12), none⟩,
        ⟨(some 14), .bin .lss (.t 11) (.t 13), none⟩] .done)
      (.cond (.t 14)
       .skip
       (.exit 0)))
     (.seq (.block 1 (.seq (.ops true [⟨(some 17), .mov (.t 0), none⟩,
         ⟨(some 18), .mov (.t 5), none⟩,
         ⟨(some 19), .idx 12 (.t 17) (.t 18), none⟩,
         ⟨(some 20), .fld 0 (.t 19), none⟩,
         ⟨(some 21), .load none (.t 20), none⟩,
         ⟨(some 22), .mov (.t 1), none⟩,
         ⟨(some 23), .mov (.t 5), none⟩,
         ⟨(some 24), .idx 12 (.t 22) (.t 23), none⟩,
         ⟨(some 25), .fld 0 (.t 24), none⟩,
         ⟨(some 26), .load none (.t 25), none⟩,
         ⟨(some 27), .bin .neq (.t 21) (.t 26), none⟩,
         ⟨(some 28), .mov (.t 27), none⟩,
         ⟨(some 29), .mov (.t 0), some (28, false)⟩,
         ⟨(some 30), .mov (.t 5), some (28, false)⟩,
         ⟨(some 31), .idx 12 (.t 29) (.t 30), some (28, false)⟩,
         ⟨(some 32), .fld 1 (.t 31), some (28, false)⟩,
         ⟨(some 33), .load (some 11) (.t 32), some (28, false)⟩,
         ⟨(some 34), .mov (.t 1), some (28, false)⟩,
         ⟨(some 35), .mov (.t 5), some (28, false)⟩,
         ⟨(some 36), .idx 12 (.t 34) (.t 35), some (28, false)⟩,
         ⟨(some 37), .fld 1 (.t 36), some (28, false)⟩,
         ⟨(some 38), .load (some 11) (.t 37), some (28, false)⟩,
         ⟨(some 39), .call 18 [(.t 33), (.t 38)], some (28, false)⟩,
         ⟨(some 40), .un .not (.t 39), some (28, false)⟩,
         ⟨(some 41), .pick (.t 28) (.c (.v (.bool true))) (.t 40), none⟩] (.take 0 [0, 2, 3, 4, 10, 11, 12, 13, 14, 15, 16, 17, 18, 19, 20, 21, 22, 23, 24] (.take 1 [1, 2, 3, 4, 10, 11, 12, 13, 14, 15, 16, 17, 18, 19, 20, 21, 22, 23, 24] (.take 2 [2, 3, 4, 10, 11, 12, 13, 14, 15, 16, 17, 18, 19, 20, 21, 22, 23, 24] (.take 3 [3, 4, 10, 11, 12, 13, 14, 15, 16, 17, 18, 19, 20, 21, 22, 23, 24] (.take 4 [4, 10, 11, 12, 13, 14, 15, 16, 17, 18, 19, 20, 21, 22, 23, 24] (.take 5 [5, 7, 8, 9, 10, 11, 12, 13, 14, 15, 16, 17, 18, 19, 20, 21, 22, 23, 24] (.take 6 [6, 7, 8, 9, 10, 11, 12, 13, 14, 15, 16, 17, 18, 19, 20, 21, 22, 23, 24] (.take 7 [7, 8, 9, 10, 11, 12, 13, 14, 15, 16, 17, 18, 19, 20, 21, 22, 23, 24] (.take 8 [8, 9, 10, 11, 12, 13, 14, 15, 16, 17, 18, 19, 20, 21, 22, 23, 24] (.take 9 [9, 10, 11, 12, 13, 14, 15, 16, 17, 18, 19, 20, 21, 22, 23, 24] (.take 10 [10, 11, 12, 13, 14, 15, 16, 17, 18, 19, 20, 21, 22, 23, 24] (.take 11 [11, 12, 13, 14, 15, 16, 17, 18, 19, 20, 21, 22, 23, 24] (.take 12 [12, 14, 15, 16, 22, 23, 24] (.take 13 [13, 14, 15, 16, 22, 23, 24] (.take 14 [14, 15, 16, 22, 23, 24] (.take 15 [15, 16, 22, 23, 24] (.take 16 [16, 22, 23, 24] (.take 17 [17, 19, 20, 21, 22, 23, 24] (.take 18 [18, 19, 20, 21, 22, 23, 24] (.take 19 [19, 20, 21, 22, 23, 24] (.take 20 [20, 21, 22, 23, 24] (.take 21 [21, 22, 23, 24] (.eff true 22 (.take 23 [23, 24] (.take 24 [24] .done))))))))))))))))))))))))))
       (.cond (.t 41)
        (.seq (.ops false [⟨(some 4), .mov (.c (.v (.bool false))), none⟩] .done)
         .ret)
        .skip)))
     (.ops false [⟨(some 15), .mov (.t 5), none⟩,
      ⟨(some 16), .bin .add (.t 15) (.c (.v (.int .i64 1))), none⟩,
      ⟨(some 5), .mov (.t 16), none⟩] .done))))))
  (.seq (.ops false [⟨(some 4), .mov (.c (.v (.bool true))), none⟩] .done)
  .ret))))⟩
theorem pf23_eq : (Tryd.f23.body.map fun c => (cfn Tryd.prog pl23 Tryd.f23 c, guardsAll pl23 c)) = some (pf23, true) := by kernel_rfl

/-- (*corral/corralref18.Net).Room  sizes [] -/
def pl24 : Nat → DT := dtGet []
def pf24 : PFn := ⟨59, [.t 8], (.seq (.ops false [⟨(some 8), .mov (.c (.v (.int .i64 0))), none⟩] .done)
  (.seq (.seq (.ops false [⟨(some 12), .mov (.t 0), none⟩,
     ⟨(some 13), .mov (.t 1), none⟩,
     ⟨(some 14), .mov (.t 2), none⟩,
     ⟨(some 15), .mov (.t 3), none⟩,
     ⟨(some 16), .call 37 [(.t 12), (.t 13), (.t 14), (.t 15)], none⟩,
     ⟨(some 17), .un .not (.t 16), none⟩] .done)
   (.cond (.t 17)
    (.seq (.ops false [⟨(some 8), .mov (.c (.v (.int .i64 0))), none⟩] .done)
     .ret)
    .skip))
  (.seq (.ops false [⟨(some 18), .mov (.t 0), none⟩,
    ⟨(some 19), .nilck (.t 18), none⟩,
    ⟨(some 20), .fld 1 (.t 19), none⟩,
    ⟨(some 21), .load none (.t 20), none⟩,
    ⟨(some 9), .mov (.t 21), none⟩] .done)
  (.seq (.seq (.ops false [⟨(some 10), .mov (.c (.v (.int .i64 0))), none⟩] .done)
   (.block 0 (.loop (.seq (.seq (.ops false [⟨(some 22), .mov (.t 10), none⟩,
        ⟨(some 23), .mov (.t 0), none⟩,
        ⟨(some 24), .nilck (.t 23), none⟩,
        ⟨(some 25), .fld 3 (.t 24), none⟩,
        ⟨(some 26), .load none (.t 25), none⟩,
        ⟨(some 27), .len (.t 26), none⟩,
        ⟨(some 28), .bin .lss (.t 22) (.t 27), none⟩] .done)
      (.cond (.t 28)
       .skip
       (.exit 0)))
     (.seq (.block 1 (.seq (.ops false [⟨(some 31), .mov (.t 0), none⟩,
         ⟨(some 32), .nilck (.t 31), none⟩,
         ⟨(some 33), .fld 3 (.t 32), none⟩,
         ⟨(some 34), .load none (.t 33), none⟩,
         ⟨(some 35), .mov (.t 10), none⟩,
         ⟨(some 36), .idx 12 (.t 34) (.t 35), none⟩,
         ⟨(some 37), .fld 1 (.t 36), none⟩,
         ⟨(some 38), .load (some 11) (.t 37), none⟩,
         ⟨(some 11), .box 33 (.c (.agg [(.v (.int .i64 0)), (.v (.int .i64 0)), (.v (.int .i64 0)), (.v (.int .i64 0)), (.v (.int .u32 0)), (.v (.int .u32 0)), (.v (.int .u32 0)), (.v (.int .u32 0)), (.v (.bool false)), (.v (.bool false)), (.v (.bool false))])), none⟩,
         ⟨none, .store 11 (.t 11) (.t 38), none⟩] .done)
       (.seq (.ops false [⟨(some 39), .fld 2 (.t 11), none⟩,
         ⟨(some 40), .load none (.t 39), none⟩,
         ⟨(some 41), .mov (.t 1), none⟩,
         ⟨(some 42), .bin .eql (.t 40) (.t 41), none⟩,
         ⟨(some 43), .mov (.t 42), none⟩,
         ⟨(some 44), .fld 3 (.t 11), some (43, true)⟩,
         ⟨(some 45), .load none (.t 44), some (43, true)⟩,
         ⟨(some 46), .mov (.t 2), some (43, true)⟩,
         ⟨(some 47), .bin .eql (.t 45) (.t 46), some (43, true)⟩,
         ⟨(some 48), .pick (.t 43) (.t 47) (.c (.v (.bool false))), none⟩,
         ⟨(some 49), .mov (.t 48), none⟩,
         ⟨(some 50), .fld 0 (.t 11), some (49, true)⟩,
         ⟨(some 51), .load none (.t 50), some (49, true)⟩,
         ⟨(some 52), .call 25 [(.t 51)], some (49, true)⟩,
         ⟨(some 53), .mov (.t 3), some (49, true)⟩,
         ⟨(some 54), .bin .eql (.t 52) (.t 53), some (49, true)⟩,
         ⟨(some 55), .pick (.t 49) (.t 54) (.c (.v (.bool false))), none⟩] .done)
       (.cond (.t 55)
        (.ops false [⟨(some 56), .mov (.t 9), none⟩,
          ⟨(some 57), .bin .sub (.t 56) (.c (.v (.int .i64 1))), none⟩,
          ⟨(some 9), .mov (.t 57), none⟩] .done)
        .skip))))
     (.ops false [⟨(some 29), .mov (.t 10), none⟩,
      ⟨(some 30), .bin .add (.t 29) (.c (.v (.int .i64 1))), none⟩,
      ⟨(some 10), .mov (.t 30), none⟩] .done))))))
  (.seq (.ops false [⟨(some 58), .mov (.t 9), none⟩,
    ⟨(some 8), .mov (.t 58), none⟩] .done)
  .ret)))))⟩
theorem pf24_eq : (Tryd.f24.body.map fun c => (cfn Tryd.prog pl24 Tryd.f24 c, guardsAll pl24 c)) = some (pf24, true) := by kernel_rfl

/-- corral/corralref18.Class  sizes [] -/
def pl25 : Nat → DT := dtGet []
def pf25 : PFn := ⟨24, [.t 2], (.seq (.ops false [⟨(some 2), .mov (.c (.v (.int .i64 0))), none⟩] .done)
  (.seq (.block 0 (.seq (.ops false [⟨(some 4), .mov (.t 0), none⟩,
      ⟨(some 5), .bin .geq (.t 4) (.c (.v (.int .i64 1))), none⟩,
      ⟨(some 6), .mov (.t 5), none⟩,
      ⟨(some 7), .mov (.t 0), some (6, true)⟩,
      ⟨(some 8), .bin .leq (.t 7) (.c (.v (.int .i64 3))), some (6, true)⟩,
      ⟨(some 9), .pick (.t 6) (.t 8) (.c (.v (.bool false))), none⟩,
      ⟨(some 3), .mov (.t 9), none⟩] .done)
    (.cond (.t 3)
     (.seq (.ops false [⟨(some 2), .mov (.c (.v (.int .i64 0))), none⟩] .done)
      .ret)
     (.seq (.ops false [⟨(some 11), .mov (.t 0), none⟩,
        ⟨(some 12), .bin .geq (.t 11) (.c (.v (.int .i64 4))), none⟩,
        ⟨(some 13), .mov (.t 12), none⟩,
        ⟨(some 14), .mov (.t 0), some (13, true)⟩,
        ⟨(some 15), .bin .leq (.t 14) (.c (.v (.int .i64 9))), some (13, true)⟩,
        ⟨(some 16), .pick (.t 13) (.t 15) (.c (.v (.bool false))), none⟩,
        ⟨(some 10), .mov (.t 16), none⟩] .done)
      (.cond (.t 10)
       (.seq (.ops false [⟨(some 2), .mov (.c (.v (.int .i64 1))), none⟩] .done)
        .ret)
       (.seq (.ops false [⟨(some 18), .mov (.t 0), none⟩,
          ⟨(some 19), .bin .geq (.t 18) (.c (.v (.int .i64 10))), none⟩,
          ⟨(some 20), .mov (.t 19), none⟩,
          ⟨(some 21), .mov (.t 0), some (20, true)⟩,
          ⟨(some 22), .bin .leq (.t 21) (.c (.v (.int .i64 12))), some (20, true)⟩,
          ⟨(some 23), .pick (.t 20) (.t 22) (.c (.v (.bool false))), none⟩,
          ⟨(some 17), .mov (.t 23), none⟩] .done)
        (.cond (.t 17)
         (.seq (.ops false [⟨(some 2), .mov (.c (.v (.int .i64 2))), none⟩] .done)
          .ret)
         .skip)))))))
  (.seq (.ops false [⟨(some 2), .mov (.c (.v (.int .i64 (-1)))), none⟩] .done)
  .ret)))⟩
theorem pf25_eq : (Tryd.f25.body.map fun c => (cfn Tryd.prog pl25 Tryd.f25 c, guardsAll pl25 c)) = some (pf25, true) := by kernel_rfl

/-- corral/corrallaw16.each  sizes [(4, 26), (999999, 1)] -/
def pl26 : Nat → DT := dtGet [(4, (.take 0 [0, 3, 4, 5, 6, 7, 8, 9, 10, 11, 12, 13, 14, 15, 16, 17, 18, 19, 20, 21, 22, 23, 24] (.take 1 [1, 2, 3, 4, 5, 6, 7, 8, 9, 10, 11, 12, 13, 14, 15, 16, 17, 18, 19, 20, 21, 22, 23, 24] (.take 2 [2, 3, 4, 5, 6, 7, 8, 9, 10, 11, 12, 13, 14, 15, 16, 17, 18, 19, 20, 21, 22, 23, 24] (.take 3 [3, 4, 5, 6, 7, 8, 9, 10, 11, 12, 13, 14, 15, 16, 17, 18, 19, 20, 21, 22, 23, 24] (.take 4 [4, 5, 6, 7, 8, 9, 10, 11, 12, 13, 14, 15, 16, 17, 18, 19, 20, 21, 22, 23, 24] (.take 5 [5, 6, 12, 13, 14, 15, 16, 17, 18, 19, 20, 21, 22, 23, 24] (.take 6 [6, 12, 13, 14, 15, 16, 17, 18, 19, 20, 21, 22, 23, 24] (.take 7 [7, 9, 10, 11, 12, 13, 14, 15, 16, 17, 18, 19, 20, 21, 22, 23, 24] (.take 8 [8, 9, 10, 11, 12, 13, 14, 15, 16, 17, 18, 19, 20, 21, 22, 23, 24] (.take 9 [9, 10, 11, 12, 13, 14, 15, 16, 17, 18, 19, 20, 21, 22, 23, 24] (.take 10 [10, 11, 12, 13, 14, 15, 16, 17, 18, 19, 20, 21, 22, 23, 24] (.take 11 [11, 12, 13, 14, 15, 16, 17, 18, 19, 20, 21, 22, 23, 24] (.take 12 [12, 13, 14, 15, 16, 17, 18, 19, 20, 21, 22, 23, 24] (.take 13 [13, 14, 15, 16, 17, 18, 19, 20, 21, 22, 23, 24] (.take 14 [14, 15, 16, 17, 18, 19, 20, 21, 22, 23, 24] (.take 15 [15, 16, 22, 23, 24] (.take 16 [16, 22, 23, 24] (.take 17 [17, 19, 20, 21, 22, 23, 24] (.take 18 [18, 19, 20, 21, 22, 23, 24] (.take 19 [19, 20, 21, 22, 23, 24] (.take 20 [20, 21, 22, 23, 24] (.take 21 [21, 22, 23, 24] (.eff true 22 (.take 23 [23, 24] (.take 24 [24] .done)))))))))))))))))))))))))), (999999, .done)]
def pf26 : PFn := ⟨58, [.cell 8 none], (.seq (.ops false [⟨(some 6), .box 58 (.t 2), none⟩,
    ⟨(some 7), .box 3 (.t 3), none⟩,
    ⟨(some 8), .box 4 (.c (.v (.bool false))), none⟩] .done)
  (.seq (.ops false [⟨(some 9), .box 3 (.c (.v (.int .i64 0))), none⟩,
    ⟨none, .store 1 (.t 9) (.c (.v (.int .i64 0))), none⟩] .done)
  (.seq (.seq (.ops false [⟨(some 11), .mov (.t 0), none⟩,
     ⟨(some 12), .mov (.t 1), none⟩,
     ⟨(some 13), .call 38 [(.t 11), (.t 12)], none⟩] .done)
   (.block 0 (.rangef (.t 13) [] [14] (.ops false [⟨(some 10), .box 44 (.c (.agg [(.v (.int .i64 0)), (.v (.int .i64 0)), (.v (.int .i64 0)), (.v (.int .i64 0)), (.v (.int .i64 0)), (.v (.int .u32 0)), (.v (.int .u32 0)), (.v (.int .u32 0)), (.v (.int .u32 0)), (.v (.bool false)), (.v (.bool false)), (.v (.bool false))])), none⟩,
      ⟨none, .store 12 (.t 10) (.t 14), none⟩] .done) (.block 1 (.seq (.seq (.ops true [⟨(some 15), .load none (.t 9), none⟩,
         ⟨(some 16), .load none (.t 6), none⟩,
         ⟨(some 17), .len (.t 16), none⟩,
         ⟨(some 18), .bin .geq (.t 15) (.t 17), none⟩,
         ⟨(some 19), .mov (.t 18), none⟩,
         ⟨(some 20), .fld 0 (.t 10), some (19, false)⟩,
         ⟨(some 21), .load none (.t 20), some (19, false)⟩,
         ⟨(some 22), .load none (.t 6), some (19, false)⟩,
         ⟨(some 23), .load none (.t 9), some (19, false)⟩,
         ⟨(some 24), .idx 12 (.t 22) (.t 23), some (19, false)⟩,
         ⟨(some 25), .fld 0 (.t 24), some (19, false)⟩,
         ⟨(some 26), .load none (.t 25), some (19, false)⟩,
         ⟨(some 27), .bin .neq (.t 21) (.t 26), some (19, false)⟩,
         ⟨(some 28), .pick (.t 19) (.c (.v (.bool true))) (.t 27), none⟩,
         ⟨(some 29), .mov (.t 28), none⟩,
         ⟨(some 30), .fld 1 (.t 10), some (29, false)⟩,
         ⟨(some 31), .load (some 11) (.t 30), some (29, false)⟩,
         ⟨(some 32), .load none (.t 6), some (29, false)⟩,
         ⟨(some 33), .load none (.t 9), some (29, false)⟩,
         ⟨(some 34), .idx 12 (.t 32) (.t 33), some (29, false)⟩,
         ⟨(some 35), .fld 1 (.t 34), some (29, false)⟩,
         ⟨(some 36), .load (some 11) (.t 35), some (29, false)⟩,
         ⟨(some 37), .call 18 [(.t 31), (.t 36)], some (29, false)⟩,
         ⟨(some 38), .un .not (.t 37), some (29, false)⟩,
         ⟨(some 39), .pick (.t 29) (.c (.v (.bool true))) (.t 38), none⟩] (.take 0 [0, 3, 4, 5, 6, 7, 8, 9, 10, 11, 12, 13, 14, 15, 16, 17, 18, 19, 20, 21, 22, 23, 24] (.take 1 [1, 2, 3, 4, 5, 6, 7, 8, 9, 10, 11, 12, 13, 14, 15, 16, 17, 18, 19, 20, 21, 22, 23, 24] (.take 2 [2, 3, 4, 5, 6, 7, 8, 9, 10, 11, 12, 13, 14, 15, 16, 17, 18, 19, 20, 21, 22, 23, 24] (.take 3 [3, 4, 5, 6, 7, 8, 9, 10, 11, 12, 13, 14, 15, 16, 17, 18, 19, 20, 21, 22, 23, 24] (.take 4 [4, 5, 6, 7, 8, 9, 10, 11, 12, 13, 14, 15, 16, 17, 18, 19, 20, 21, 22, 23, 24] (.take 5 [5, 6, 12, 13, 14, 15, 16, 17, 18, 19, 20, 21, 22, 23, 24] (.take 6 [6, 12, 13, 14, 15, 16, 17, 18, 19, 20, 21, 22, 23, 24] (.take 7 [7, 9, 10, 11, 12, 13, 14, 15, 16, 17, 18, 19, 20, 21, 22, 23, 24] (.take 8 [8, 9, 10, 11, 12, 13, 14, 15, 16, 17, 18, 19, 20, 21, 22, 23, 24] (.take 9 [9, 10, 11, 12, 13, 14, 15, 16, 17, 18, 19, 20, 21, 22, 23, 24] (.take 10 [10, 11, 12, 13, 14, 15, 16, 17, 18, 19, 20, 21, 22, 23, 24] (.take 11 [11, 12, 13, 14, 15, 16, 17, 18, 19, 20, 21, 22, 23, 24] (.take 12 [12, 13, 14, 15, 16, 17, 18, 19, 20, 21, 22, 23, 24] (.take 13 [13, 14, 15, 16, 17, 18, 19, 20, 21, 22, 23, 24] (.take 14 [14, 15, 16, 17, 18, 19, 20, 21, 22, 23, 24] (.take 15 [15, 16, 22, 23, 24] (.take 16 [16, 22, 23, 24] (.take 17 [17, 19, 20, 21, 22, 23, 24] (.take 18 [18, 19, 20, 21, 22, 23, 24] (.take 19 [19, 20, 21, 22, 23, 24] (.take 20 [20, 21, 22, 23, 24] (.take 21 [21, 22, 23, 24] (.eff true 22 (.take 23 [23, 24] (.take 24 [24] .done))))))))))))))))))))))))))
       (.cond (.t 39)
        (.seq (.ops false [⟨none, .store 1 (.t 8) (.c (.v (.bool false))), none⟩] .done)
         .ret)
        .skip))
      (.seq (.ops false [⟨(some 40), .load none (.t 9), none⟩,
        ⟨(some 41), .bin .add (.t 40) (.c (.v (.int .i64 1))), none⟩,
        ⟨none, .store 1 (.t 9) (.t 41), none⟩] .done)
      (.seq (.ops false [⟨(some 42), .load none (.t 9), none⟩,
        ⟨(some 43), .load none (.t 7), none⟩,
        ⟨(some 44), .bin .eql (.t 42) (.t 43), none⟩] .done)
      (.cond (.t 44)
       (.exit 0)
       .skip))))))))
  (.seq (.ops false [⟨(some 45), .load none (.t 9), none⟩,
    ⟨(some 46), .load none (.t 6), none⟩,
    ⟨(some 47), .len (.t 46), none⟩,
    ⟨(some 48), .bin .eql (.t 45) (.t 47), none⟩,
    ⟨(some 49), .mov (.t 48), none⟩,
    ⟨(some 50), .load none (.t 7), some (49, false)⟩,
    ⟨(some 51), .bin .gtr (.t 50) (.c (.v (.int .i64 0))), some (49, false)⟩,
    ⟨(some 52), .mov (.t 51), some (49, false)⟩,
    ⟨(some 53), .load none (.t 9), some (52, true)⟩,
    ⟨(some 54), .load none (.t 7), some (52, true)⟩,
    ⟨(some 55), .bin .eql (.t 53) (.t 54), some (52, true)⟩,
    ⟨(some 56), .pick (.t 52) (.t 55) (.c (.v (.bool false))), some (49, false)⟩,
    ⟨(some 57), .pick (.t 49) (.c (.v (.bool true))) (.t 56), none⟩,
    ⟨none, .store 1 (.t 8) (.t 57), none⟩] .done)
  .ret))))⟩
theorem pf26_eq : (Tryd.f26.body.map fun c => (cfn Tryd.prog pl26 Tryd.f26 c, guardsAll pl26 c)) = some (pf26, true) := by kernel_rfl

/-- slices.Clone[[]corral/net.Flight,corral/net.Flight]  sizes [] -/
def pl27 : Nat → DT := dtGet []
def pf27 : PFn := ⟨8, [.t 2], (.seq (.ops false [⟨(some 2), .mov (.c (.v (.slice none 0 0))), none⟩] .done)
  (.seq (.seq (.ops false [⟨(some 3), .mov (.t 0), none⟩,
     ⟨(some 4), .eqp 3 true false (.t 3) (.c (.v (.slice none 0 0))), none⟩] .done)
   (.cond (.t 4)
    (.seq (.ops false [⟨(some 2), .mov (.c (.v (.slice none 0 0))), none⟩] .done)
     .ret)
    .skip))
  (.seq (.ops false [⟨(some 5), .bslice 44 [.int .i64, .int .i64, .int .i64, .int .i64, .int .i64, .int .u32, .int .u32, .int .u32, .int .u32, .bool, .bool, .bool] 0 [] [], none⟩,
    ⟨(some 6), .mov (.t 0), none⟩,
    ⟨(some 7), .append 44 [.int .i64, .int .i64, .int .i64, .int .i64, .int .i64, .int .u32, .int .u32, .int .u32, .int .u32, .bool, .bool, .bool] [(.int .i64 0), (.int .i64 0), (.int .i64 0), (.int .i64 0), (.int .i64 0), (.int .u32 0), (.int .u32 0), (.int .u32 0), (.int .u32 0), (.bool false), (.bool false), (.bool false)] 64 (.t 5) (.t 6), none⟩,
    ⟨(some 2), .mov (.t 7), none⟩] .done)
  .ret)))⟩
theorem pf27_eq : (Tryd.f27.body.map fun c => (cfn Tryd.prog pl27 Tryd.f27 c, guardsAll pl27 c)) = some (pf27, true) := by kernel_rfl

/-- (*corral/net.Net).link  sizes [] -/
def pl28 : Nat → DT := dtGet []
def pf28 : PFn := ⟨31, [.t 8], (.seq (.ops false [⟨(some 4), .box 23 (.t 0), none⟩,
    ⟨(some 8), .mov (.c (.v (.bool false))), none⟩] .done)
  (.seq (.ops false [⟨(some 10), .clo (.func 39) [] [(.t 4)], none⟩,
    ⟨(some 9), .mov (.t 10), none⟩] .done)
  (.seq (.seq (.ops false [⟨(some 11), .mov (.t 3), none⟩] .done)
   (.block 0 (.seq (.seq (.ops false [⟨(some 13), .bin .eql (.t 11) (.c (.v (.int .i64 0))), none⟩,
       ⟨(some 12), .mov (.t 13), none⟩] .done)
     (.cond (.t 12)
      .skip
      (.ops false [⟨(some 14), .bin .eql (.t 11) (.c (.v (.int .i64 2))), none⟩,
        ⟨(some 12), .mov (.t 14), none⟩] .done)))
    (.cond (.t 12)
     (.seq (.ops false [⟨(some 15), .mov (.t 9), none⟩,
        ⟨(some 16), .mov (.t 1), none⟩,
        ⟨(some 17), .callv (.t 15) [(.t 16)], none⟩,
        ⟨(some 18), .mov (.t 17), none⟩,
        ⟨(some 19), .mov (.t 2), some (18, true)⟩,
        ⟨(some 20), .bin .eql (.t 19) (.c (.v (.int .i64 (-1)))), some (18, true)⟩,
        ⟨(some 21), .pick (.t 18) (.t 20) (.c (.v (.bool false))), none⟩,
        ⟨(some 8), .mov (.t 21), none⟩] .done)
      .ret)
     (.seq (.ops false [⟨(some 23), .bin .eql (.t 11) (.c (.v (.int .i64 1))), none⟩,
        ⟨(some 22), .mov (.t 23), none⟩] .done)
      (.cond (.t 22)
       (.seq (.ops false [⟨(some 24), .mov (.t 1), none⟩,
          ⟨(some 25), .bin .eql (.t 24) (.c (.v (.int .i64 (-1)))), none⟩,
          ⟨(some 26), .mov (.t 25), none⟩,
          ⟨(some 27), .mov (.t 9), some (26, true)⟩,
          ⟨(some 28), .mov (.t 2), some (26, true)⟩,
          ⟨(some 29), .callv (.t 27) [(.t 28)], some (26, true)⟩,
          ⟨(some 30), .pick (.t 26) (.t 29) (.c (.v (.bool false))), none⟩,
          ⟨(some 8), .mov (.t 30), none⟩] .done)
        .ret)
       .skip))))))
  (.seq (.ops false [⟨(some 8), .mov (.c (.v (.bool false))), none⟩] .done)
  .ret))))⟩
theorem pf28_eq : (Tryd.f28.body.map fun c => (cfn Tryd.prog pl28 Tryd.f28 c, guardsAll pl28 c)) = some (pf28, true) := by kernel_rfl

/-- corral/net.used  sizes [] -/
def pl29 : Nat → DT := dtGet []
def pf29 : PFn := ⟨42, [.t 8], (.seq (.ops false [⟨(some 8), .mov (.c (.v (.int .i64 0))), none⟩] .done)
  (.seq (.ops false [⟨(some 9), .mov (.c (.v (.int .i64 0))), none⟩] .done)
  (.seq (.seq (.ops false [⟨(some 12), .mov (.t 0), none⟩,
     ⟨(some 13), .len (.t 12), none⟩,
     ⟨(some 14), .mov (.c (.v (.int .i64 0))), none⟩] .done)
   (.block 0 (.loop (.seq (.ops false [⟨(some 15), .bin .lss (.t 14) (.t 13), none⟩] .done)
     (.seq (.cond (.t 15)
       .skip
       (.exit 0))
     (.seq (.block 1 (.seq (.ops false [⟨(some 16), .idx 12 (.t 12) (.t 14), none⟩,
         ⟨(some 17), .load (some 12) (.t 16), none⟩,
         ⟨(some 11), .box 44 (.c (.agg [(.v (.int .i64 0)), (.v (.int .i64 0)), (.v (.int .i64 0)), (.v (.int .i64 0)), (.v (.int .i64 0)), (.v (.int .u32 0)), (.v (.int .u32 0)), (.v (.int .u32 0)), (.v (.int .u32 0)), (.v (.bool false)), (.v (.bool false)), (.v (.bool false))])), none⟩,
         ⟨none, .store 12 (.t 11) (.t 17), none⟩] .done)
       (.seq (.ops false [⟨(some 18), .fld 1 (.t 11), none⟩,
         ⟨(some 19), .fld 2 (.t 18), none⟩,
         ⟨(some 20), .load none (.t 19), none⟩,
         ⟨(some 21), .mov (.t 1), none⟩,
         ⟨(some 22), .bin .eql (.t 20) (.t 21), none⟩,
         ⟨(some 23), .mov (.t 22), none⟩,
         ⟨(some 24), .fld 1 (.t 11), some (23, true)⟩,
         ⟨(some 25), .fld 3 (.t 24), some (23, true)⟩,
         ⟨(some 26), .load none (.t 25), some (23, true)⟩,
         ⟨(some 27), .mov (.t 2), some (23, true)⟩,
         ⟨(some 28), .bin .eql (.t 26) (.t 27), some (23, true)⟩,
         ⟨(some 29), .pick (.t 23) (.t 28) (.c (.v (.bool false))), none⟩,
         ⟨(some 30), .mov (.t 29), none⟩,
         ⟨(some 31), .fld 1 (.t 11), some (30, true)⟩,
         ⟨(some 32), .fld 0 (.t 31), some (30, true)⟩,
         ⟨(some 33), .load none (.t 32), some (30, true)⟩,
         ⟨(some 34), .call 14 [(.t 33)], some (30, true)⟩,
         ⟨(some 35), .mov (.t 3), some (30, true)⟩,
         ⟨(some 36), .bin .eql (.t 34) (.t 35), some (30, true)⟩,
         ⟨(some 37), .pick (.t 30) (.t 36) (.c (.v (.bool false))), none⟩] .done)
       (.cond (.t 37)
        (.ops false [⟨(some 38), .mov (.t 9), none⟩,
          ⟨(some 39), .bin .add (.t 38) (.c (.v (.int .i64 1))), none⟩,
          ⟨(some 9), .mov (.t 39), none⟩] .done)
        .skip))))
     (.ops false [⟨(some 40), .bin .add (.t 14) (.c (.v (.int .i64 1))), none⟩,
      ⟨(some 14), .mov (.t 40), none⟩] .done)))))))
  (.seq (.ops false [⟨(some 41), .mov (.t 9), none⟩,
    ⟨(some 8), .mov (.t 41), none⟩] .done)
  .ret))))⟩
theorem pf29_eq : (Tryd.f29.body.map fun c => (cfn Tryd.prog pl29 Tryd.f29 c, guardsAll pl29 c)) = some (pf29, true) := by kernel_rfl

/-- corral/corralsee.Fault  sizes [] -/
def pl30 : Nat → DT := dtGet []
def pf30 : PFn := ⟨8, [.cell 2 (some 2)], (.seq (.ops false [⟨(some 2), .box 38 (.c (.agg [(.v (.int .i64 0)), (.v (.slice none 0 0))])), none⟩] .done)
  (.seq (.seq (.ops false [⟨(some 3), .mov (.t 0), none⟩,
     ⟨(some 4), .eqp 1 true false (.t 3) (.c (.v .nilIface)), none⟩] .done)
   (.cond (.t 4)
    (.seq (.ops false [⟨(some 5), .call 32 [], none⟩,
       ⟨none, .store 2 (.t 2) (.t 5), none⟩] .done)
     .ret)
    .skip))
  (.seq (.ops false [⟨(some 6), .mov (.t 0), none⟩,
    ⟨(some 7), .call 40 [(.t 6), (.c (.v (.int .i64 9)))], none⟩,
    ⟨none, .store 2 (.t 2) (.t 7), none⟩] .done)
  .ret)))⟩
theorem pf30_eq : (Tryd.f30.body.map fun c => (cfn Tryd.prog pl30 Tryd.f30 c, guardsAll pl30 c)) = some (pf30, true) := by kernel_rfl

/-- corral/corralref.SameFault  sizes [] -/
def pl31 : Nat → DT := dtGet []
def pf31 : PFn := ⟨19, [.t 4], (.seq (.ops false [⟨(some 2), .box 38 (.t 0), none⟩,
    ⟨(some 3), .box 38 (.t 1), none⟩,
    ⟨(some 4), .mov (.c (.v (.bool false))), none⟩] .done)
  (.seq (.ops false [⟨(some 6), .fld 1 (.t 2), none⟩,
    ⟨(some 7), .load none (.t 6), none⟩,
    ⟨(some 8), .fld 1 (.t 3), none⟩,
    ⟨(some 9), .load none (.t 8), none⟩,
    ⟨(some 10), .call 41 [(.t 7), (.t 9)], none⟩,
    ⟨(some 5), .mov (.t 10), none⟩] .done)
  (.seq (.ops false [⟨(some 11), .fld 0 (.t 2), none⟩,
    ⟨(some 12), .load none (.t 11), none⟩,
    ⟨(some 13), .fld 0 (.t 3), none⟩,
    ⟨(some 14), .load none (.t 13), none⟩,
    ⟨(some 15), .bin .eql (.t 12) (.t 14), none⟩,
    ⟨(some 16), .mov (.t 15), none⟩,
    ⟨(some 17), .mov (.t 5), some (16, true)⟩,
    ⟨(some 18), .pick (.t 16) (.t 17) (.c (.v (.bool false))), none⟩,
    ⟨(some 4), .mov (.t 18), none⟩] .done)
  .ret)))⟩
theorem pf31_eq : (Tryd.f31.body.map fun c => (cfn Tryd.prog pl31 Tryd.f31 c, guardsAll pl31 c)) = some (pf31, true) := by kernel_rfl

/-- corral/corralref.None  sizes [] -/
def pl32 : Nat → DT := dtGet []
def pf32 : PFn := ⟨2, [.cell 0 (some 2)], (.seq (.ops false [⟨(some 0), .box 38 (.c (.agg [(.v (.int .i64 0)), (.v (.slice none 0 0))])), none⟩] .done)
  (.seq (.ops false [⟨(some 1), .build [(.v (.int .i64 0)), (.v (.slice none 0 0))] [], none⟩,
    ⟨none, .store 2 (.t 0) (.t 1), none⟩] .done)
  .ret))⟩
theorem pf32_eq : (Tryd.f32.body.map fun c => (cfn Tryd.prog pl32 Tryd.f32 c, guardsAll pl32 c)) = some (pf32, true) := by kernel_rfl

/-- (*corral/net.Net).at  sizes [] -/
def pl33 : Nat → DT := dtGet []
def pf33 : PFn := ⟨11, [.t 4], (.seq (.ops false [⟨(some 3), .box 3 (.t 1), none⟩,
    ⟨(some 4), .mov (.c (.v (.int .i64 0))), none⟩] .done)
  (.seq (.ops false [⟨(some 5), .mov (.t 0), none⟩,
    ⟨(some 6), .nilck (.t 5), none⟩,
    ⟨(some 7), .fld 3 (.t 6), none⟩,
    ⟨(some 8), .load none (.t 7), none⟩,
    ⟨(some 9), .clo (.func 43) [] [(.t 3)], none⟩,
    ⟨(some 10), .call 42 [(.t 8), (.t 9)], none⟩,
    ⟨(some 4), .mov (.t 10), none⟩] .done)
  .ret))⟩
theorem pf33_eq : (Tryd.f33.body.map fun c => (cfn Tryd.prog pl33 Tryd.f33 c, guardsAll pl33 c)) = some (pf33, true) := by kernel_rfl

/-- slices.Concat[[]corral/net.Flight,corral/net.Flight]  sizes [] -/
def pl34 : Nat → DT := dtGet []
def pf34 : PFn := ⟨36, [.t 2], (.seq (.ops false [⟨(some 2), .mov (.c (.v (.slice none 0 0))), none⟩] .done)
  (.seq (.ops false [⟨(some 3), .mov (.c (.v (.int .i64 0))), none⟩] .done)
  (.seq (.seq (.ops false [⟨(some 9), .mov (.t 0), none⟩,
     ⟨(some 10), .len (.t 9), none⟩,
     ⟨(some 11), .mov (.c (.v (.int .i64 0))), none⟩] .done)
   (.block 0 (.loop (.seq (.ops false [⟨(some 12), .bin .lss (.t 11) (.t 10), none⟩] .done)
     (.seq (.cond (.t 12)
       .skip
       (.exit 0))
     (.seq (.block 1 (.seq (.ops false [⟨(some 13), .idx 1 (.t 9) (.t 11), none⟩,
         ⟨(some 14), .load none (.t 13), none⟩,
         ⟨(some 5), .mov (.t 14), none⟩] .done)
       (.seq (.ops false [⟨(some 15), .mov (.t 3), none⟩,
         ⟨(some 16), .mov (.t 5), none⟩,
         ⟨(some 17), .len (.t 16), none⟩,
         ⟨(some 18), .bin .add (.t 15) (.t 17), none⟩,
         ⟨(some 3), .mov (.t 18), none⟩] .done)
       (.seq (.ops false [⟨(some 19), .mov (.t 3), none⟩,
         ⟨(some 20), .bin .lss (.t 19) (.c (.v (.int .i64 0))), none⟩] .done)
       (.cond (.t 20)
        (.ops false [⟨(some 21), .iface 9 (.c (.v (.string ⟨#[108, 101, 110, 32, 111, 117, 116, 32, 111, 102, 32, 114, 97, 110, 103, 101]⟩))), none⟩,
          ⟨none, .bad "an operation", none⟩] .done)
        .skip)))))
     (.ops false [⟨(some 22), .bin .add (.t 11) (.c (.v (.int .i64 1))), none⟩,
      ⟨(some 11), .mov (.t 22), none⟩] .done)))))))
  (.seq (.ops false [⟨(some 23), .mov (.t 3), none⟩,
    ⟨(some 24), .call 44 [(.c (.v (.slice none 0 0))), (.t 23)], none⟩,
    ⟨(some 6), .mov (.t 24), none⟩] .done)
  (.seq (.seq (.ops false [⟨(some 25), .mov (.t 0), none⟩,
     ⟨(some 26), .len (.t 25), none⟩,
     ⟨(some 27), .mov (.c (.v (.int .i64 0))), none⟩] .done)
   (.block 2 (.loop (.seq (.ops false [⟨(some 28), .bin .lss (.t 27) (.t 26), none⟩] .done)
     (.seq (.cond (.t 28)
       .skip
       (.exit 2))
     (.seq (.block 3 (.seq (.ops false [⟨(some 29), .idx 1 (.t 25) (.t 27), none⟩,
         ⟨(some 30), .load none (.t 29), none⟩,
         ⟨(some 8), .mov (.t 30), none⟩] .done)
       (.ops false [⟨(some 31), .mov (.t 6), none⟩,
        ⟨(some 32), .mov (.t 8), none⟩,
        ⟨(some 33), .append 44 [.int .i64, .int .i64, .int .i64, .int .i64, .int .i64, .int .u32, .int .u32, .int .u32, .int .u32, .bool, .bool, .bool] [(.int .i64 0), (.int .i64 0), (.int .i64 0), (.int .i64 0), (.int .i64 0), (.int .u32 0), (.int .u32 0), (.int .u32 0), (.int .u32 0), (.bool false), (.bool false), (.bool false)] 64 (.t 31) (.t 32), none⟩,
        ⟨(some 6), .mov (.t 33), none⟩] .done)))
     (.ops false [⟨(some 34), .bin .add (.t 27) (.c (.v (.int .i64 1))), none⟩,
      ⟨(some 27), .mov (.t 34), none⟩] .done)))))))
  (.seq (.ops false [⟨(some 35), .mov (.t 6), none⟩,
    ⟨(some 2), .mov (.t 35), none⟩] .done)
  .ret))))))⟩
theorem pf34_eq : (Tryd.f34.body.map fun c => (cfn Tryd.prog pl34 Tryd.f34 c, guardsAll pl34 c)) = some (pf34, true) := by kernel_rfl

/-- corral/corralref.SameLine  sizes [] -/
def pl35 : Nat → DT := dtGet []
def pf35 : PFn := ⟨31, [.t 4], (.seq (.ops false [⟨(some 2), .box 31 (.t 0), none⟩,
    ⟨(some 3), .box 31 (.t 1), none⟩,
    ⟨(some 4), .mov (.c (.v (.bool false))), none⟩] .done)
  (.seq (.ops false [⟨(some 5), .idxa 4 1 (.t 2) (.c (.v (.int .i64 0))), none⟩,
    ⟨(some 6), .load none (.t 5), none⟩,
    ⟨(some 7), .idxa 4 1 (.t 3) (.c (.v (.int .i64 0))), none⟩,
    ⟨(some 8), .load none (.t 7), none⟩,
    ⟨(some 9), .bin .eql (.t 6) (.t 8), none⟩,
    ⟨(some 10), .mov (.t 9), none⟩,
    ⟨(some 11), .idxa 4 1 (.t 2) (.c (.v (.int .i64 1))), some (10, true)⟩,
    ⟨(some 12), .load none (.t 11), some (10, true)⟩,
    ⟨(some 13), .idxa 4 1 (.t 3) (.c (.v (.int .i64 1))), some (10, true)⟩,
    ⟨(some 14), .load none (.t 13), some (10, true)⟩,
    ⟨(some 15), .bin .eql (.t 12) (.t 14), some (10, true)⟩,
    ⟨(some 16), .pick (.t 10) (.t 15) (.c (.v (.bool false))), none⟩,
    ⟨(some 17), .mov (.t 16), none⟩,
    ⟨(some 18), .idxa 4 1 (.t 2) (.c (.v (.int .i64 2))), some (17, true)⟩,
    ⟨(some 19), .load none (.t 18), some (17, true)⟩,
    ⟨(some 20), .idxa 4 1 (.t 3) (.c (.v (.int .i64 2))), some (17, true)⟩,
    ⟨(some 21), .load none (.t 20), some (17, true)⟩,
    ⟨(some 22), .bin .eql (.t 19) (.t 21), some (17, true)⟩,
    ⟨(some 23), .pick (.t 17) (.t 22) (.c (.v (.bool false))), none⟩,
    ⟨(some 24), .mov (.t 23), none⟩,
    ⟨(some 25), .idxa 4 1 (.t 2) (.c (.v (.int .i64 3))), some (24, true)⟩,
    ⟨(some 26), .load none (.t 25), some (24, true)⟩,
    ⟨(some 27), .idxa 4 1 (.t 3) (.c (.v (.int .i64 3))), some (24, true)⟩,
    ⟨(some 28), .load none (.t 27), some (24, true)⟩,
    ⟨(some 29), .bin .eql (.t 26) (.t 28), some (24, true)⟩,
    ⟨(some 30), .pick (.t 24) (.t 29) (.c (.v (.bool false))), none⟩,
    ⟨(some 4), .mov (.t 30), none⟩] .done)
  .ret))⟩
theorem pf35_eq : (Tryd.f35.body.map fun c => (cfn Tryd.prog pl35 Tryd.f35 c, guardsAll pl35 c)) = some (pf35, true) := by kernel_rfl

/-- corral/corralref.Bare  sizes [] -/
def pl36 : Nat → DT := dtGet []
def pf36 : PFn := ⟨5, [.cell 2 (some 2)], (.seq (.ops false [⟨(some 2), .box 38 (.c (.agg [(.v (.int .i64 0)), (.v (.slice none 0 0))])), none⟩] .done)
  (.seq (.ops false [⟨(some 3), .mov (.t 0), none⟩,
    ⟨(some 4), .build [(.v (.int .i64 0)), (.v (.slice none 0 0))] [(0, 1, (.t 3))], none⟩,
    ⟨none, .store 2 (.t 2) (.t 4), none⟩] .done)
  .ret))⟩
theorem pf36_eq : (Tryd.f36.body.map fun c => (cfn Tryd.prog pl36 Tryd.f36 c, guardsAll pl36 c)) = some (pf36, true) := by kernel_rfl

/-- (*corral/corralref18.Net).link  sizes [] -/
def pl37 : Nat → DT := dtGet []
def pf37 : PFn := ⟨55, [.t 8], (.seq (.ops false [⟨(some 8), .mov (.c (.v (.bool false))), none⟩] .done)
  (.seq (.ops false [⟨(some 11), .mov (.t 1), none⟩,
    ⟨(some 12), .bin .geq (.t 11) (.c (.v (.int .i64 0))), none⟩,
    ⟨(some 13), .mov (.t 12), none⟩,
    ⟨(some 14), .mov (.t 1), some (13, true)⟩,
    ⟨(some 15), .mov (.t 0), some (13, true)⟩,
    ⟨(some 16), .nilck (.t 15), some (13, true)⟩,
    ⟨(some 17), .fld 0 (.t 16), some (13, true)⟩,
    ⟨(some 18), .load none (.t 17), some (13, true)⟩,
    ⟨(some 19), .bin .lss (.t 14) (.t 18), some (13, true)⟩,
    ⟨(some 20), .pick (.t 13) (.t 19) (.c (.v (.bool false))), none⟩,
    ⟨(some 21), .mov (.t 20), none⟩,
    ⟨(some 22), .mov (.t 2), some (21, true)⟩,
    ⟨(some 23), .bin .eql (.t 22) (.c (.v (.int .i64 (-1)))), some (21, true)⟩,
    ⟨(some 24), .pick (.t 21) (.t 23) (.c (.v (.bool false))), none⟩,
    ⟨(some 9), .mov (.t 24), none⟩] .done)
  (.seq (.ops false [⟨(some 25), .mov (.t 2), none⟩,
    ⟨(some 26), .bin .geq (.t 25) (.c (.v (.int .i64 0))), none⟩,
    ⟨(some 27), .mov (.t 26), none⟩,
    ⟨(some 28), .mov (.t 2), some (27, true)⟩,
    ⟨(some 29), .mov (.t 0), some (27, true)⟩,
    ⟨(some 30), .nilck (.t 29), some (27, true)⟩,
    ⟨(some 31), .fld 0 (.t 30), some (27, true)⟩,
    ⟨(some 32), .load none (.t 31), some (27, true)⟩,
    ⟨(some 33), .bin .lss (.t 28) (.t 32), some (27, true)⟩,
    ⟨(some 34), .pick (.t 27) (.t 33) (.c (.v (.bool false))), none⟩,
    ⟨(some 35), .mov (.t 34), none⟩,
    ⟨(some 36), .mov (.t 1), some (35, true)⟩,
    ⟨(some 37), .bin .eql (.t 36) (.c (.v (.int .i64 (-1)))), some (35, true)⟩,
    ⟨(some 38), .pick (.t 35) (.t 37) (.c (.v (.bool false))), none⟩,
    ⟨(some 10), .mov (.t 38), none⟩] .done)
  (.seq (.ops false [⟨(some 39), .mov (.t 3), none⟩,
    ⟨(some 40), .bin .eql (.t 39) (.c (.v (.int .i64 0))), none⟩,
    ⟨(some 41), .mov (.t 40), none⟩,
    ⟨(some 42), .mov (.t 3), some (41, false)⟩,
    ⟨(some 43), .bin .eql (.t 42) (.c (.v (.int .i64 2))), some (41, false)⟩,
    ⟨(some 44), .pick (.t 41) (.c (.v (.bool true))) (.t 43), none⟩,
    ⟨(some 45), .mov (.t 44), none⟩,
    ⟨(some 46), .mov (.t 9), some (45, true)⟩,
    ⟨(some 47), .pick (.t 45) (.t 46) (.c (.v (.bool false))), none⟩,
    ⟨(some 48), .mov (.t 47), none⟩,
    ⟨(some 49), .mov (.t 3), some (48, false)⟩,
    ⟨(some 50), .bin .eql (.t 49) (.c (.v (.int .i64 1))), some (48, false)⟩,
    ⟨(some 51), .mov (.t 50), some (48, false)⟩,
    ⟨(some 52), .mov (.t 10), some (51, true)⟩,
    ⟨(some 53), .pick (.t 51) (.t 52) (.c (.v (.bool false))), some (48, false)⟩,
    ⟨(some 54), .pick (.t 48) (.c (.v (.bool true))) (.t 53), none⟩,
    ⟨(some 8), .mov (.t 54), none⟩] .done)
  .ret))))⟩
theorem pf37_eq : (Tryd.f37.body.map fun c => (cfn Tryd.prog pl37 Tryd.f37 c, guardsAll pl37 c)) = some (pf37, true) := by kernel_rfl

/-- (*corral/net.Net).Each  sizes [] -/
def pl38 : Nat → DT := dtGet []
def pf38 : PFn := ⟨6, [.t 4], (.seq (.ops false [⟨(some 2), .box 23 (.t 0), none⟩,
    ⟨(some 3), .box 3 (.t 1), none⟩,
    ⟨(some 4), .mov (.c (.v .nilFunc)), none⟩] .done)
  (.seq (.ops false [⟨(some 5), .clo (.func 45) [] [(.t 2), (.t 3)], none⟩,
    ⟨(some 4), .mov (.t 5), none⟩] .done)
  .ret))⟩
theorem pf38_eq : (Tryd.f38.body.map fun c => (cfn Tryd.prog pl38 Tryd.f38 c, guardsAll pl38 c)) = some (pf38, true) := by kernel_rfl

/-- (*corral/net.Net).link$1  sizes [] -/
def pl39 : Nat → DT := dtGet []
def pf39 : PFn := ⟨14, [.t 3], (.seq (.ops false [⟨(some 3), .mov (.c (.v (.bool false))), none⟩] .done)
  (.seq (.ops false [⟨(some 4), .mov (.t 0), none⟩,
    ⟨(some 5), .bin .geq (.t 4) (.c (.v (.int .i64 0))), none⟩,
    ⟨(some 6), .mov (.t 5), none⟩,
    ⟨(some 7), .mov (.t 0), some (6, true)⟩,
    ⟨(some 8), .load none (.t 1), some (6, true)⟩,
    ⟨(some 9), .nilck (.t 8), some (6, true)⟩,
    ⟨(some 10), .fld 0 (.t 9), some (6, true)⟩,
    ⟨(some 11), .load none (.t 10), some (6, true)⟩,
    ⟨(some 12), .bin .lss (.t 7) (.t 11), some (6, true)⟩,
    ⟨(some 13), .pick (.t 6) (.t 12) (.c (.v (.bool false))), none⟩,
    ⟨(some 3), .mov (.t 13), none⟩] .done)
  .ret))⟩
theorem pf39_eq : (Tryd.f39.body.map fun c => (cfn Tryd.prog pl39 Tryd.f39 c, guardsAll pl39 c)) = some (pf39, true) := by kernel_rfl

/-- corral/corralsee.fault  sizes [(9, 13)] -/
def pl40 : Nat → DT := dtGet [(9, (.take 0 [0, 1, 11, 10] (.take 1 [1, 10, 11] (.take 2 [2, 3, 11, 4, 5, 6, 9, 10] (.take 3 [3, 4, 11, 5, 6, 9, 10] (.take 4 [4, 5, 11, 6, 9, 10] (.take 5 [5, 6, 11, 9, 10] (.take 7 [7, 8, 11, 9, 10] (.take 8 [8, 9, 11, 10] (.eff true 6 (.eff false 9 (.take 10 [10, 11] (.eff false 11 .done)))))))))))))]
def pf40 : PFn := ⟨42, [.cell 4 (some 2)], (.seq (.ops false [⟨(some 4), .box 38 (.c (.agg [(.v (.int .i64 0)), (.v (.slice none 0 0))])), none⟩] .done)
  (.seq (.seq (.ops false [⟨(some 7), .mov (.t 0), none⟩,
     ⟨(some 8), .eqp 1 true false (.t 7) (.c (.v .nilIface)), none⟩,
     ⟨(some 9), .mov (.t 8), none⟩,
     ⟨(some 10), .mov (.t 1), some (9, false)⟩,
     ⟨(some 11), .bin .eql (.t 10) (.c (.v (.int .i64 0))), some (9, false)⟩,
     ⟨(some 12), .pick (.t 9) (.c (.v (.bool true))) (.t 11), none⟩] .done)
   (.cond (.t 12)
    (.seq (.ops false [⟨(some 13), .call 36 [(.c (.v (.int .i64 (-1))))], none⟩,
       ⟨none, .store 2 (.t 4) (.t 13), none⟩] .done)
     .ret)
    .skip))
  (.seq (.seq (.ops false [⟨(some 14), .mov (.t 0), none⟩] .done)
   (.block 0 (.seq (.ops false [⟨(some 15), .tassert 73 true (.v (.pointer none)) (.t 14), none⟩,
      ⟨(some 16), .ext (.t 15) 1, none⟩,
      ⟨(some 17), .ext (.t 15) 0, none⟩] .done)
    (.cond (.t 16)
     (.seq (.ops false [⟨(some 5), .mov (.t 17), none⟩] .done)
      (.seq (.seq (.ops false [⟨(some 18), .mov (.t 5), none⟩,
         ⟨(some 19), .eqp 0 true false (.t 18) (.c (.v (.pointer none))), none⟩] .done)
       (.cond (.t 19)
        (.seq (.ops false [⟨(some 20), .call 36 [(.c (.v (.int .i64 (-1))))], none⟩,
           ⟨none, .store 2 (.t 4) (.t 20), none⟩] .done)
         .ret)
        .skip))
      (.seq (.ops false [⟨(some 21), .mov (.t 5), none⟩,
        ⟨(some 22), .nilck (.t 21), none⟩,
        ⟨(some 23), .fld 1 (.t 22), none⟩,
        ⟨(some 24), .load none (.t 23), none⟩,
        ⟨(some 25), .mov (.t 1), none⟩,
        ⟨(some 26), .bin .sub (.t 25) (.c (.v (.int .i64 1))), none⟩,
        ⟨(some 27), .call 40 [(.t 24), (.t 26)], none⟩,
        ⟨(some 6), .box 38 (.c (.agg [(.v (.int .i64 0)), (.v (.slice none 0 0))])), none⟩,
        ⟨none, .store 2 (.t 6) (.t 27), none⟩] .done)
      (.seq (.ops true [⟨(some 28), .fld 0 (.t 6), none⟩,
        ⟨(some 29), .load none (.t 28), none⟩,
        ⟨(some 30), .mov (.t 5), none⟩,
        ⟨(some 31), .nilck (.t 30), none⟩,
        ⟨(some 32), .fld 0 (.t 31), none⟩,
        ⟨(some 33), .load none (.t 32), none⟩,
        ⟨(some 34), .bslice 3 [.int .i64] 1 [(.v (.int .i64 0))] [(0, 1, (.t 33))], none⟩,
        ⟨(some 35), .fld 1 (.t 6), none⟩,
        ⟨(some 36), .load none (.t 35), none⟩,
        ⟨(some 37), .append 3 [.int .i64] [(.int .i64 0)] 8 (.t 34) (.t 36), none⟩,
        ⟨(some 38), .build [(.v (.int .i64 0)), (.v (.slice none 0 0))] [(0, 1, (.t 29)), (1, 1, (.t 37))], none⟩,
        ⟨none, .store 2 (.t 4) (.t 38), none⟩] (.take 0 [0, 1, 11, 10] (.take 1 [1, 10, 11] (.take 2 [2, 3, 11, 4, 5, 6, 9, 10] (.take 3 [3, 4, 11, 5, 6, 9, 10] (.take 4 [4, 5, 11, 6, 9, 10] (.take 5 [5, 6, 11, 9, 10] (.take 7 [7, 8, 11, 9, 10] (.take 8 [8, 9, 11, 10] (.eff true 6 (.eff false 9 (.take 10 [10, 11] (.eff false 11 .done)))))))))))))
      .ret))))
     .skip))))
  (.seq (.ops false [⟨(some 39), .mov (.t 0), none⟩,
    ⟨(some 40), .call 46 [(.t 39)], none⟩,
    ⟨(some 41), .call 36 [(.t 40)], none⟩,
    ⟨none, .store 2 (.t 4) (.t 41), none⟩] .done)
  .ret))))⟩
theorem pf40_eq : (Tryd.f40.body.map fun c => (cfn Tryd.prog pl40 Tryd.f40 c, guardsAll pl40 c)) = some (pf40, true) := by kernel_rfl

/-- corral/corralref.SameInts  sizes [(6, 11)] -/
def pl41 : Nat → DT := dtGet [(6, (.take 0 [0, 2, 9, 3, 8] (.take 1 [1, 2, 9, 3, 8] (.take 2 [2, 3, 9, 8] (.take 3 [3, 8, 9] (.take 4 [4, 6, 9, 7, 8] (.take 5 [5, 6, 9, 7, 8] (.take 6 [6, 7, 9, 8] (.take 7 [7, 8, 9] (.take 8 [8, 9] (.take 9 [9] .done)))))))))))]
def pf41 : PFn := ⟨29, [.t 4], (.seq (.ops false [⟨(some 4), .mov (.c (.v (.bool false))), none⟩] .done)
  (.seq (.seq (.ops false [⟨(some 7), .mov (.t 0), none⟩,
     ⟨(some 8), .len (.t 7), none⟩,
     ⟨(some 9), .mov (.t 1), none⟩,
     ⟨(some 10), .len (.t 9), none⟩,
     ⟨(some 11), .bin .neq (.t 8) (.t 10), none⟩] .done)
   (.cond (.t 11)
    (.seq (.ops false [⟨(some 4), .mov (.c (.v (.bool false))), none⟩] .done)
     .ret)
    .skip))
  (.seq (.seq (.ops false [⟨(some 5), .mov (.c (.v (.int .i64 0))), none⟩] .done)
   (.block 0 (.loop (.seq (.seq (.ops false [⟨(some 12), .mov (.t 5), none⟩,
        ⟨(some 13), .mov (.t 0), none⟩,
        ⟨(some 14), .len (.t 13), none⟩,
        ⟨(some 15), .bin .lss (.t 12) (.t 14), none⟩] .done)
      (.cond (.t 15)
       .skip
       (.exit 0)))
     (.seq (.block 1 (.seq (.ops true [⟨(some 18), .mov (.t 0), none⟩,
         ⟨(some 19), .mov (.t 5), none⟩,
         ⟨(some 20), .idx 1 (.t 18) (.t 19), none⟩,
         ⟨(some 21), .load none (.t 20), none⟩,
         ⟨(some 22), .mov (.t 1), none⟩,
         ⟨(some 23), .mov (.t 5), none⟩,
         ⟨(some 24), .idx 1 (.t 22) (.t 23), none⟩,
         ⟨(some 25), .load none (.t 24), none⟩,
         ⟨(some 26), .bin .eql (.t 21) (.t 25), none⟩,
         ⟨(some 6), .mov (.t 26), none⟩] (.take 0 [0, 2, 9, 3, 8] (.take 1 [1, 2, 9, 3, 8] (.take 2 [2, 3, 9, 8] (.take 3 [3, 8, 9] (.take 4 [4, 6, 9, 7, 8] (.take 5 [5, 6, 9, 7, 8] (.take 6 [6, 7, 9, 8] (.take 7 [7, 8, 9] (.take 8 [8, 9] (.take 9 [9] .done)))))))))))
       (.seq (.ops false [⟨(some 27), .mov (.t 6), none⟩,
         ⟨(some 28), .un .not (.t 27), none⟩] .done)
       (.cond (.t 28)
        (.seq (.ops false [⟨(some 4), .mov (.c (.v (.bool false))), none⟩] .done)
         .ret)
        .skip))))
     (.ops false [⟨(some 16), .mov (.t 5), none⟩,
      ⟨(some 17), .bin .add (.t 16) (.c (.v (.int .i64 1))), none⟩,
      ⟨(some 5), .mov (.t 17), none⟩] .done))))))
  (.seq (.ops false [⟨(some 4), .mov (.c (.v (.bool true))), none⟩] .done)
  .ret))))⟩
theorem pf41_eq : (Tryd.f41.body.map fun c => (cfn Tryd.prog pl41 Tryd.f41 c, guardsAll pl41 c)) = some (pf41, true) := by kernel_rfl

/-- slices.IndexFunc[[]corral/net.Flight,corral/net.Flight]  sizes [] -/
def pl42 : Nat → DT := dtGet []
def pf42 : PFn := ⟨19, [.t 4], (.seq (.ops false [⟨(some 4), .mov (.c (.v (.int .i64 0))), none⟩] .done)
  (.seq (.seq (.ops false [⟨(some 6), .mov (.t 0), none⟩,
     ⟨(some 7), .len (.t 6), none⟩,
     ⟨(some 8), .mov (.c (.v (.int .i64 0))), none⟩] .done)
   (.block 0 (.loop (.seq (.ops false [⟨(some 9), .bin .lss (.t 8) (.t 7), none⟩] .done)
     (.seq (.cond (.t 9)
       .skip
       (.exit 0))
     (.seq (.block 1 (.seq (.ops false [⟨(some 10), .mov (.t 8), none⟩,
         ⟨(some 5), .mov (.t 10), none⟩] .done)
       (.seq (.ops false [⟨(some 11), .mov (.t 1), none⟩,
         ⟨(some 12), .mov (.t 0), none⟩,
         ⟨(some 13), .mov (.t 5), none⟩,
         ⟨(some 14), .idx 12 (.t 12) (.t 13), none⟩,
         ⟨(some 15), .load (some 12) (.t 14), none⟩,
         ⟨(some 16), .callv (.t 11) [(.t 15)], none⟩] .done)
       (.cond (.t 16)
        (.seq (.ops false [⟨(some 17), .mov (.t 5), none⟩,
           ⟨(some 4), .mov (.t 17), none⟩] .done)
         .ret)
        .skip))))
     (.ops false [⟨(some 18), .bin .add (.t 8) (.c (.v (.int .i64 1))), none⟩,
      ⟨(some 8), .mov (.t 18), none⟩] .done)))))))
  (.seq (.ops false [⟨(some 4), .mov (.c (.v (.int .i64 (-1)))), none⟩] .done)
  .ret)))⟩
theorem pf42_eq : (Tryd.f42.body.map fun c => (cfn Tryd.prog pl42 Tryd.f42 c, guardsAll pl42 c)) = some (pf42, true) := by kernel_rfl

/-- (*corral/net.Net).at$1  sizes [] -/
def pl43 : Nat → DT := dtGet []
def pf43 : PFn := ⟨8, [.t 3], (.seq (.ops false [⟨(some 2), .box 44 (.t 0), none⟩,
    ⟨(some 3), .mov (.c (.v (.bool false))), none⟩] .done)
  (.seq (.ops false [⟨(some 4), .fld 0 (.t 2), none⟩,
    ⟨(some 5), .load none (.t 4), none⟩,
    ⟨(some 6), .load none (.t 1), none⟩,
    ⟨(some 7), .bin .eql (.t 5) (.t 6), none⟩,
    ⟨(some 3), .mov (.t 7), none⟩] .done)
  .ret))⟩
theorem pf43_eq : (Tryd.f43.body.map fun c => (cfn Tryd.prog pl43 Tryd.f43 c, guardsAll pl43 c)) = some (pf43, true) := by kernel_rfl

/-- slices.Grow[[]corral/net.Flight,corral/net.Flight]  sizes [] -/
def pl44 : Nat → DT := dtGet []
def pf44 : PFn := ⟨27, [.t 4], (.seq (.ops false [⟨(some 4), .mov (.c (.v (.slice none 0 0))), none⟩] .done)
  (.seq (.seq (.ops false [⟨(some 5), .mov (.t 1), none⟩,
     ⟨(some 6), .bin .lss (.t 5) (.c (.v (.int .i64 0))), none⟩] .done)
   (.cond (.t 6)
    (.ops false [⟨(some 7), .iface 9 (.c (.v (.string ⟨#[99, 97, 110, 110, 111, 116, 32, 98, 101, 32, 110, 101, 103, 97, 116, 105, 118, 101]⟩))), none⟩,
      ⟨none, .bad "an operation", none⟩] .done)
    .skip))
  (.seq (.seq (.ops false [⟨(some 8), .mov (.t 1), none⟩,
     ⟨(some 9), .mov (.t 0), none⟩,
     ⟨(some 10), .cap (.t 9), none⟩,
     ⟨(some 11), .mov (.t 0), none⟩,
     ⟨(some 12), .len (.t 11), none⟩,
     ⟨(some 13), .bin .sub (.t 10) (.t 12), none⟩,
     ⟨(some 14), .bin .sub (.t 8) (.t 13), none⟩,
     ⟨(some 1), .mov (.t 14), none⟩] .done)
   (.seq (.ops false [⟨(some 15), .mov (.t 1), none⟩,
     ⟨(some 16), .bin .gtr (.t 15) (.c (.v (.int .i64 0))), none⟩] .done)
   (.cond (.t 16)
    (.ops false [⟨(some 17), .mov (.t 0), none⟩,
      ⟨(some 18), .mov (.t 0), none⟩,
      ⟨(some 19), .cap (.t 18), none⟩,
      ⟨(some 20), .slice 12 (.t 17) none (some (.t 19)) none, none⟩,
      ⟨(some 21), .mov (.t 1), none⟩,
      ⟨(some 22), .appendz 44 [.int .i64, .int .i64, .int .i64, .int .i64, .int .i64, .int .u32, .int .u32, .int .u32, .int .u32, .bool, .bool, .bool] [(.int .i64 0), (.int .i64 0), (.int .i64 0), (.int .i64 0), (.int .i64 0), (.int .u32 0), (.int .u32 0), (.int .u32 0), (.int .u32 0), (.bool false), (.bool false), (.bool false)] 64 (.t 20) (.t 21), none⟩,
      ⟨(some 23), .mov (.t 0), none⟩,
      ⟨(some 24), .len (.t 23), none⟩,
      ⟨(some 25), .slice 12 (.t 22) none (some (.t 24)) none, none⟩,
      ⟨(some 0), .mov (.t 25), none⟩] .done)
    .skip)))
  (.seq (.ops false [⟨(some 26), .mov (.t 0), none⟩,
    ⟨(some 4), .mov (.t 26), none⟩] .done)
  .ret))))⟩
theorem pf44_eq : (Tryd.f44.body.map fun c => (cfn Tryd.prog pl44 Tryd.f44 c, guardsAll pl44 c)) = some (pf44, true) := by kernel_rfl

/-- (*corral/net.Net).Each$1  sizes [(3, 13)] -/
def pl45 : Nat → DT := dtGet [(3, (.take 0 [0, 1, 2, 3, 5, 6, 7, 8, 9, 10, 11] (.take 1 [1, 2, 3, 5, 6, 7, 8, 9, 10, 11] (.take 2 [2, 3, 5, 6, 7, 8, 9, 10, 11] (.take 4 [4, 5, 6, 7, 8, 9, 10, 11] (.eff true 3 (.take 5 [5, 6, 7, 8, 9, 10, 11] (.take 6 [6, 7, 8, 9, 10, 11] (.take 7 [7, 9, 10, 11] (.take 8 [8, 9, 10, 11] (.eff false 9 (.take 10 [10, 11] (.take 11 [11] .done)))))))))))))]
def pf45 : PFn := ⟨26, [], (.seq (.ops false [⟨(some 6), .load none (.t 1), none⟩,
    ⟨(some 7), .call 13 [(.t 6)], none⟩,
    ⟨(some 8), .len (.t 7), none⟩,
    ⟨(some 9), .mov (.c (.v (.int .i64 0))), none⟩] .done)
  (.block 0 (.loop (.seq (.ops false [⟨(some 10), .bin .lss (.t 9) (.t 8), none⟩] .done)
    (.seq (.cond (.t 10)
      .skip
      (.exit 0))
    (.seq (.block 1 (.seq (.ops false [⟨(some 11), .idx 12 (.t 7) (.t 9), none⟩,
        ⟨(some 12), .load (some 12) (.t 11), none⟩,
        ⟨(some 5), .box 44 (.c (.agg [(.v (.int .i64 0)), (.v (.int .i64 0)), (.v (.int .i64 0)), (.v (.int .i64 0)), (.v (.int .i64 0)), (.v (.int .u32 0)), (.v (.int .u32 0)), (.v (.int .u32 0)), (.v (.int .u32 0)), (.v (.bool false)), (.v (.bool false)), (.v (.bool false))])), none⟩,
        ⟨none, .store 12 (.t 5) (.t 12), none⟩] .done)
      (.seq (.ops true [⟨(some 13), .fld 1 (.t 5), none⟩,
        ⟨(some 14), .fld 0 (.t 13), none⟩,
        ⟨(some 15), .load none (.t 14), none⟩,
        ⟨(some 16), .call 14 [(.t 15)], none⟩,
        ⟨(some 17), .load none (.t 2), none⟩,
        ⟨(some 18), .bin .eql (.t 16) (.t 17), none⟩,
        ⟨(some 19), .mov (.t 18), none⟩,
        ⟨(some 20), .mov (.t 0), some (19, true)⟩,
        ⟨(some 21), .load (some 12) (.t 5), some (19, true)⟩,
        ⟨(some 22), .callv (.t 20) [(.t 21)], some (19, true)⟩,
        ⟨(some 23), .un .not (.t 22), some (19, true)⟩,
        ⟨(some 24), .pick (.t 19) (.t 23) (.c (.v (.bool false))), none⟩] (.take 0 [0, 1, 2, 3, 5, 6, 7, 8, 9, 10, 11] (.take 1 [1, 2, 3, 5, 6, 7, 8, 9, 10, 11] (.take 2 [2, 3, 5, 6, 7, 8, 9, 10, 11] (.take 4 [4, 5, 6, 7, 8, 9, 10, 11] (.eff true 3 (.take 5 [5, 6, 7, 8, 9, 10, 11] (.take 6 [6, 7, 8, 9, 10, 11] (.take 7 [7, 9, 10, 11] (.take 8 [8, 9, 10, 11] (.eff false 9 (.take 10 [10, 11] (.take 11 [11] .done)))))))))))))
      (.cond (.t 24)
       .ret
       .skip))))
    (.ops false [⟨(some 25), .bin .add (.t 9) (.c (.v (.int .i64 1))), none⟩,
     ⟨(some 9), .mov (.t 25), none⟩] .done)))))))⟩
theorem pf45_eq : (Tryd.f45.body.map fun c => (cfn Tryd.prog pl45 Tryd.f45 c, guardsAll pl45 c)) = some (pf45, true) := by kernel_rfl

/-- corral/corralsee.sentinel  sizes [] -/
def pl46 : Nat → DT := dtGet []
def pf46 : PFn := ⟨20, [.t 2], (.seq (.ops false [⟨(some 2), .mov (.c (.v (.int .i64 0))), none⟩] .done)
  (.seq (.ops false [⟨(some 5), .call 47 [], none⟩,
    ⟨(some 3), .mov (.t 5), none⟩] .done)
  (.seq (.seq (.ops false [⟨(some 4), .mov (.c (.v (.int .i64 0))), none⟩] .done)
   (.block 0 (.loop (.seq (.seq (.ops false [⟨(some 6), .mov (.t 4), none⟩,
        ⟨(some 7), .mov (.t 3), none⟩,
        ⟨(some 8), .len (.t 7), none⟩,
        ⟨(some 9), .bin .lss (.t 6) (.t 8), none⟩] .done)
      (.cond (.t 9)
       .skip
       (.exit 0)))
     (.seq (.block 1 (.seq (.ops false [⟨(some 12), .mov (.t 0), none⟩,
         ⟨(some 13), .mov (.t 3), none⟩,
         ⟨(some 14), .mov (.t 4), none⟩,
         ⟨(some 15), .idx 1 (.t 13) (.t 14), none⟩,
         ⟨(some 16), .load none (.t 15), none⟩,
         ⟨(some 17), .call 48 [(.t 12), (.t 16)], none⟩] .done)
       (.cond (.t 17)
        (.seq (.ops false [⟨(some 18), .mov (.t 4), none⟩,
           ⟨(some 19), .bin .add (.c (.v (.int .i64 101))) (.t 18), none⟩,
           ⟨(some 2), .mov (.t 19), none⟩] .done)
         .ret)
        .skip)))
     (.ops false [⟨(some 10), .mov (.t 4), none⟩,
      ⟨(some 11), .bin .add (.t 10) (.c (.v (.int .i64 1))), none⟩,
      ⟨(some 4), .mov (.t 11), none⟩] .done))))))
  (.seq (.ops false [⟨(some 2), .mov (.c (.v (.int .i64 (-1)))), none⟩] .done)
  .ret))))⟩
theorem pf46_eq : (Tryd.f46.body.map fun c => (cfn Tryd.prog pl46 Tryd.f46 c, guardsAll pl46 c)) = some (pf46, true) := by kernel_rfl

/-- corral/corralsee.sentinels  sizes [] -/
def pl47 : Nat → DT := dtGet []
def pf47 : PFn := ⟨13, [.t 0], (.seq (.ops false [⟨(some 0), .mov (.c (.v (.slice none 0 0))), none⟩] .done)
  (.seq (.ops false [⟨(some 1), .load none (.c (.v (.pointer (some ⟨4, 0, none⟩)))), none⟩,
    ⟨(some 2), .load none (.c (.v (.pointer (some ⟨1, 0, none⟩)))), none⟩,
    ⟨(some 3), .load none (.c (.v (.pointer (some ⟨2, 0, none⟩)))), none⟩,
    ⟨(some 4), .load none (.c (.v (.pointer (some ⟨5, 0, none⟩)))), none⟩,
    ⟨(some 5), .load none (.c (.v (.pointer (some ⟨6, 0, none⟩)))), none⟩,
    ⟨(some 6), .load none (.c (.v (.pointer (some ⟨0, 0, none⟩)))), none⟩,
    ⟨(some 7), .load none (.c (.v (.pointer (some ⟨3, 0, none⟩)))), none⟩,
    ⟨(some 8), .load none (.c (.v (.pointer (some ⟨7, 0, none⟩)))), none⟩,
    ⟨(some 9), .load none (.c (.v (.pointer (some ⟨8, 0, none⟩)))), none⟩,
    ⟨(some 10), .load none (.c (.v (.pointer (some ⟨9, 0, none⟩)))), none⟩,
    ⟨(some 11), .load none (.c (.v (.pointer (some ⟨10, 0, none⟩)))), none⟩,
    ⟨(some 12), .bslice 25 [.raw] 11 [(.v .nilIface), (.v .nilIface), (.v .nilIface), (.v .nilIface), (.v .nilIface), (.v .nilIface), (.v .nilIface), (.v .nilIface), (.v .nilIface), (.v .nilIface), (.v .nilIface)] [(0, 1, (.t 1)), (1, 1, (.t 2)), (2, 1, (.t 3)), (3, 1, (.t 4)), (4, 1, (.t 5)), (5, 1, (.t 6)), (6, 1, (.t 7)), (7, 1, (.t 8)), (8, 1, (.t 9)), (9, 1, (.t 10)), (10, 1, (.t 11))], none⟩,
    ⟨(some 0), .mov (.t 12), none⟩] .done)
  .ret))⟩
theorem pf47_eq : (Tryd.f47.body.map fun c => (cfn Tryd.prog pl47 Tryd.f47 c, guardsAll pl47 c)) = some (pf47, true) := by kernel_rfl

/-- corral/corralsee.Alike  sizes [] -/
def pl48 : Nat → DT := dtGet []
def pf48 : PFn := ⟨20, [.t 4], (.seq (.ops false [⟨(some 4), .mov (.c (.v (.bool false))), none⟩] .done)
  (.seq (.seq (.ops false [⟨(some 5), .mov (.t 0), none⟩,
     ⟨(some 6), .eqp 1 true false (.t 5) (.c (.v .nilIface)), none⟩,
     ⟨(some 7), .mov (.t 6), none⟩,
     ⟨(some 8), .mov (.t 1), some (7, false)⟩,
     ⟨(some 9), .eqp 1 true false (.t 8) (.c (.v .nilIface)), some (7, false)⟩,
     ⟨(some 10), .pick (.t 7) (.c (.v (.bool true))) (.t 9), none⟩] .done)
   (.cond (.t 10)
    (.seq (.ops false [⟨(some 11), .mov (.t 0), none⟩,
       ⟨(some 12), .eqp 1 true false (.t 11) (.c (.v .nilIface)), none⟩,
       ⟨(some 13), .mov (.t 12), none⟩,
       ⟨(some 14), .mov (.t 1), some (13, true)⟩,
       ⟨(some 15), .eqp 1 true false (.t 14) (.c (.v .nilIface)), some (13, true)⟩,
       ⟨(some 16), .pick (.t 13) (.t 15) (.c (.v (.bool false))), none⟩,
       ⟨(some 4), .mov (.t 16), none⟩] .done)
     .ret)
    .skip))
  (.seq (.ops false [⟨(some 17), .mov (.t 0), none⟩,
    ⟨(some 18), .mov (.t 1), none⟩,
    ⟨(some 19), .eqp 1 false false (.t 17) (.t 18), none⟩,
    ⟨(some 4), .mov (.t 19), none⟩] .done)
  .ret)))⟩
theorem pf48_eq : (Tryd.f48.body.map fun c => (cfn Tryd.prog pl48 Tryd.f48 c, guardsAll pl48 c)) = some (pf48, true) := by kernel_rfl

theorem at3 : Tryd.prog.funcs[3]? = some Tryd.f3 ∧ (Tryd.f3.name == "runtime.NumGoroutine") = false := ⟨by kernel_rfl, by kernel_rfl⟩
theorem at4 : Tryd.prog.funcs[4]? = some Tryd.f4 ∧ (Tryd.f4.name == "runtime.NumGoroutine") = false := ⟨by kernel_rfl, by kernel_rfl⟩
theorem at5 : Tryd.prog.funcs[5]? = some Tryd.f5 ∧ (Tryd.f5.name == "runtime.NumGoroutine") = false := ⟨by kernel_rfl, by kernel_rfl⟩
theorem at6 : Tryd.prog.funcs[6]? = some Tryd.f6 ∧ (Tryd.f6.name == "runtime.NumGoroutine") = false := ⟨by kernel_rfl, by kernel_rfl⟩
theorem at7 : Tryd.prog.funcs[7]? = some Tryd.f7 ∧ (Tryd.f7.name == "runtime.NumGoroutine") = false := ⟨by kernel_rfl, by kernel_rfl⟩
theorem at8 : Tryd.prog.funcs[8]? = some Tryd.f8 ∧ (Tryd.f8.name == "runtime.NumGoroutine") = false := ⟨by kernel_rfl, by kernel_rfl⟩
theorem at9 : Tryd.prog.funcs[9]? = some Tryd.f9 ∧ (Tryd.f9.name == "runtime.NumGoroutine") = false := ⟨by kernel_rfl, by kernel_rfl⟩
theorem at10 : Tryd.prog.funcs[10]? = some Tryd.f10 ∧ (Tryd.f10.name == "runtime.NumGoroutine") = false := ⟨by kernel_rfl, by kernel_rfl⟩
theorem at11 : Tryd.prog.funcs[11]? = some Tryd.f11 ∧ (Tryd.f11.name == "runtime.NumGoroutine") = false := ⟨by kernel_rfl, by kernel_rfl⟩
theorem at12 : Tryd.prog.funcs[12]? = some Tryd.f12 ∧ (Tryd.f12.name == "runtime.NumGoroutine") = false := ⟨by kernel_rfl, by kernel_rfl⟩
theorem at13 : Tryd.prog.funcs[13]? = some Tryd.f13 ∧ (Tryd.f13.name == "runtime.NumGoroutine") = false := ⟨by kernel_rfl, by kernel_rfl⟩
theorem at14 : Tryd.prog.funcs[14]? = some Tryd.f14 ∧ (Tryd.f14.name == "runtime.NumGoroutine") = false := ⟨by kernel_rfl, by kernel_rfl⟩
theorem at15 : Tryd.prog.funcs[15]? = some Tryd.f15 ∧ (Tryd.f15.name == "runtime.NumGoroutine") = false := ⟨by kernel_rfl, by kernel_rfl⟩
theorem at16 : Tryd.prog.funcs[16]? = some Tryd.f16 ∧ (Tryd.f16.name == "runtime.NumGoroutine") = false := ⟨by kernel_rfl, by kernel_rfl⟩
theorem at17 : Tryd.prog.funcs[17]? = some Tryd.f17 ∧ (Tryd.f17.name == "runtime.NumGoroutine") = false := ⟨by kernel_rfl, by kernel_rfl⟩
theorem at18 : Tryd.prog.funcs[18]? = some Tryd.f18 ∧ (Tryd.f18.name == "runtime.NumGoroutine") = false := ⟨by kernel_rfl, by kernel_rfl⟩
theorem at19 : Tryd.prog.funcs[19]? = some Tryd.f19 ∧ (Tryd.f19.name == "runtime.NumGoroutine") = false := ⟨by kernel_rfl, by kernel_rfl⟩
theorem at20 : Tryd.prog.funcs[20]? = some Tryd.f20 ∧ (Tryd.f20.name == "runtime.NumGoroutine") = false := ⟨by kernel_rfl, by kernel_rfl⟩
theorem at21 : Tryd.prog.funcs[21]? = some Tryd.f21 ∧ (Tryd.f21.name == "runtime.NumGoroutine") = false := ⟨by kernel_rfl, by kernel_rfl⟩
theorem at22 : Tryd.prog.funcs[22]? = some Tryd.f22 ∧ (Tryd.f22.name == "runtime.NumGoroutine") = false := ⟨by kernel_rfl, by kernel_rfl⟩
theorem at23 : Tryd.prog.funcs[23]? = some Tryd.f23 ∧ (Tryd.f23.name == "runtime.NumGoroutine") = false := ⟨by kernel_rfl, by kernel_rfl⟩
theorem at24 : Tryd.prog.funcs[24]? = some Tryd.f24 ∧ (Tryd.f24.name == "runtime.NumGoroutine") = false := ⟨by kernel_rfl, by kernel_rfl⟩
theorem at25 : Tryd.prog.funcs[25]? = some Tryd.f25 ∧ (Tryd.f25.name == "runtime.NumGoroutine") = false := ⟨by kernel_rfl, by kernel_rfl⟩
theorem at26 : Tryd.prog.funcs[26]? = some Tryd.f26 ∧ (Tryd.f26.name == "runtime.NumGoroutine") = false := ⟨by kernel_rfl, by kernel_rfl⟩
theorem at27 : Tryd.prog.funcs[27]? = some Tryd.f27 ∧ (Tryd.f27.name == "runtime.NumGoroutine") = false := ⟨by kernel_rfl, by kernel_rfl⟩
theorem at28 : Tryd.prog.funcs[28]? = some Tryd.f28 ∧ (Tryd.f28.name == "runtime.NumGoroutine") = false := ⟨by kernel_rfl, by kernel_rfl⟩
theorem at29 : Tryd.prog.funcs[29]? = some Tryd.f29 ∧ (Tryd.f29.name == "runtime.NumGoroutine") = false := ⟨by kernel_rfl, by kernel_rfl⟩
theorem at30 : Tryd.prog.funcs[30]? = some Tryd.f30 ∧ (Tryd.f30.name == "runtime.NumGoroutine") = false := ⟨by kernel_rfl, by kernel_rfl⟩
theorem at31 : Tryd.prog.funcs[31]? = some Tryd.f31 ∧ (Tryd.f31.name == "runtime.NumGoroutine") = false := ⟨by kernel_rfl, by kernel_rfl⟩
theorem at32 : Tryd.prog.funcs[32]? = some Tryd.f32 ∧ (Tryd.f32.name == "runtime.NumGoroutine") = false := ⟨by kernel_rfl, by kernel_rfl⟩
theorem at33 : Tryd.prog.funcs[33]? = some Tryd.f33 ∧ (Tryd.f33.name == "runtime.NumGoroutine") = false := ⟨by kernel_rfl, by kernel_rfl⟩
theorem at34 : Tryd.prog.funcs[34]? = some Tryd.f34 ∧ (Tryd.f34.name == "runtime.NumGoroutine") = false := ⟨by kernel_rfl, by kernel_rfl⟩
theorem at35 : Tryd.prog.funcs[35]? = some Tryd.f35 ∧ (Tryd.f35.name == "runtime.NumGoroutine") = false := ⟨by kernel_rfl, by kernel_rfl⟩
theorem at36 : Tryd.prog.funcs[36]? = some Tryd.f36 ∧ (Tryd.f36.name == "runtime.NumGoroutine") = false := ⟨by kernel_rfl, by kernel_rfl⟩
theorem at37 : Tryd.prog.funcs[37]? = some Tryd.f37 ∧ (Tryd.f37.name == "runtime.NumGoroutine") = false := ⟨by kernel_rfl, by kernel_rfl⟩
theorem at38 : Tryd.prog.funcs[38]? = some Tryd.f38 ∧ (Tryd.f38.name == "runtime.NumGoroutine") = false := ⟨by kernel_rfl, by kernel_rfl⟩
theorem at39 : Tryd.prog.funcs[39]? = some Tryd.f39 ∧ (Tryd.f39.name == "runtime.NumGoroutine") = false := ⟨by kernel_rfl, by kernel_rfl⟩
theorem at40 : Tryd.prog.funcs[40]? = some Tryd.f40 ∧ (Tryd.f40.name == "runtime.NumGoroutine") = false := ⟨by kernel_rfl, by kernel_rfl⟩
theorem at41 : Tryd.prog.funcs[41]? = some Tryd.f41 ∧ (Tryd.f41.name == "runtime.NumGoroutine") = false := ⟨by kernel_rfl, by kernel_rfl⟩
theorem at42 : Tryd.prog.funcs[42]? = some Tryd.f42 ∧ (Tryd.f42.name == "runtime.NumGoroutine") = false := ⟨by kernel_rfl, by kernel_rfl⟩
theorem at43 : Tryd.prog.funcs[43]? = some Tryd.f43 ∧ (Tryd.f43.name == "runtime.NumGoroutine") = false := ⟨by kernel_rfl, by kernel_rfl⟩
theorem at44 : Tryd.prog.funcs[44]? = some Tryd.f44 ∧ (Tryd.f44.name == "runtime.NumGoroutine") = false := ⟨by kernel_rfl, by kernel_rfl⟩
theorem at45 : Tryd.prog.funcs[45]? = some Tryd.f45 ∧ (Tryd.f45.name == "runtime.NumGoroutine") = false := ⟨by kernel_rfl, by kernel_rfl⟩
theorem at46 : Tryd.prog.funcs[46]? = some Tryd.f46 ∧ (Tryd.f46.name == "runtime.NumGoroutine") = false := ⟨by kernel_rfl, by kernel_rfl⟩
theorem at47 : Tryd.prog.funcs[47]? = some Tryd.f47 ∧ (Tryd.f47.name == "runtime.NumGoroutine") = false := ⟨by kernel_rfl, by kernel_rfl⟩
theorem at48 : Tryd.prog.funcs[48]? = some Tryd.f48 ∧ (Tryd.f48.name == "runtime.NumGoroutine") = false := ⟨by kernel_rfl, by kernel_rfl⟩
def tab : List (Nat × PFn) := [(3, pf3), (4, pf4), (5, pf5), (6, pf6), (7, pf7), (8, pf8), (9, pf9), (10, pf10), (11, pf11), (12, pf12), (13, pf13), (14, pf14), (15, pf15), (16, pf16), (17, pf17), (18, pf18), (19, pf19), (20, pf20), (21, pf21), (22, pf22), (23, pf23), (24, pf24), (25, pf25), (27, pf27), (28, pf28), (29, pf29), (30, pf30), (31, pf31), (32, pf32), (33, pf33), (34, pf34), (35, pf35), (36, pf36), (37, pf37), (38, pf38), (39, pf39), (40, pf40), (41, pf41), (42, pf42), (43, pf43), (44, pf44), (45, pf45), (46, pf46), (47, pf47), (48, pf48)]
theorem tab_ok : TabOK Tryd.prog tab :=
  .cons mixed at3 pf3_eq (.cons mixed at4 pf4_eq (.cons mixed at5 pf5_eq (.cons mixed at6 pf6_eq (.cons mixed at7 pf7_eq (.cons mixed at8 pf8_eq (.cons mixed at9 pf9_eq (.cons mixed at10 pf10_eq (.cons mixed at11 pf11_eq (.cons mixed at12 pf12_eq (.cons mixed at13 pf13_eq (.cons mixed at14 pf14_eq (.cons mixed at15 pf15_eq (.cons mixed at16 pf16_eq (.cons mixed at17 pf17_eq (.cons mixed at18 pf18_eq (.cons mixed at19 pf19_eq (.cons mixed at20 pf20_eq (.cons mixed at21 pf21_eq (.cons mixed at22 pf22_eq (.cons mixed at23 pf23_eq (.cons mixed at24 pf24_eq (.cons mixed at25 pf25_eq (.cons mixed at27 pf27_eq (.cons mixed at28 pf28_eq (.cons mixed at29 pf29_eq (.cons mixed at30 pf30_eq (.cons mixed at31 pf31_eq (.cons mixed at32 pf32_eq (.cons mixed at33 pf33_eq (.cons mixed at34 pf34_eq (.cons mixed at35 pf35_eq (.cons mixed at36 pf36_eq (.cons mixed at37 pf37_eq (.cons mixed at38 pf38_eq (.cons mixed at39 pf39_eq (.cons mixed at40 pf40_eq (.cons mixed at41 pf41_eq (.cons mixed at42 pf42_eq (.cons mixed at43 pf43_eq (.cons mixed at44 pf44_eq (.cons mixed at45 pf45_eq (.cons mixed at46 pf46_eq (.cons mixed at47 pf47_eq (.cons mixed at48 pf48_eq (.nil)))))))))))))))))))))))))))))))))))))))))))))
noncomputable def G0 : Nat → Option Trans := tabG (tget []) (tget tab) 5
theorem G0_ok : GOK Tryd.prog G0 := tabG_ok .nil tab_ok 5
end Go.Proofs.YthomcgclkbmnkaaDoor
