/-
  The programs of the functions that the laws reach, read off the given program by the kernel.
-/
import Derived.Test.YtmhgiffhmcigpaaDoorProg
import Derived.Test.YtmhgiffhmcigpaaDoorVcs
namespace Go.Proofs.YtmhgiffhmcigpaaDoor
open Go Go.Vc
set_option maxRecDepth 100000
theorem mixed : Tryd.prog.follows .mixedOrders = true := by kernel_rfl
/-- corral/corrallaw22.PredLearns  sizes [] -/
def pl3 : Nat → DT := dtGet []
def pf3 : PFn := ⟨72, [.t 8], (.seq (.ops false [⟨(some 8), .mov (.c (.v (.bool false))), none⟩] .done)
  (.seq (.ops false [⟨(some 14), .call 7 [], none⟩,
    ⟨(some 9), .mov (.t 14), none⟩] .done)
  (.seq (.seq (.ops false [⟨(some 15), .mov (.t 9), none⟩,
     ⟨(some 16), .un .not (.t 15), none⟩] .done)
   (.cond (.t 16)
    (.seq (.ops false [⟨(some 8), .mov (.c (.v (.bool false))), none⟩] .done)
     .ret)
    .skip))
  (.seq (.ops false [⟨(some 17), .mov (.t 0), none⟩,
    ⟨(some 18), .bin .rem (.t 17) (.c (.v (.int .i64 10))), none⟩,
    ⟨(some 19), .bin .add (.t 18) (.c (.v (.int .i64 10))), none⟩,
    ⟨(some 20), .bin .rem (.t 19) (.c (.v (.int .i64 10))), none⟩,
    ⟨(some 21), .bin .add (.t 20) (.c (.v (.int .i64 1))), none⟩,
    ⟨(some 0), .mov (.t 21), none⟩] .done)
  (.seq (.ops false [⟨(some 23), .mov (.t 0), none⟩,
    ⟨(some 24), .mov (.t 1), none⟩,
    ⟨(some 25), .call 8 [(.t 23), (.t 24)], none⟩,
    ⟨(some 22), .mov (.t 25), none⟩,
    ⟨(some 26), .ext (.t 22) 0, none⟩,
    ⟨(some 27), .ext (.t 22) 1, none⟩,
    ⟨(some 10), .mov (.t 26), none⟩,
    ⟨(some 11), .mov (.t 27), none⟩] .done)
  (.seq (.seq (.ops false [⟨(some 28), .mov (.t 10), none⟩,
     ⟨(some 29), .eqp 0 true false (.t 28) (.c (.v (.pointer none))), none⟩,
     ⟨(some 30), .mov (.t 29), none⟩,
     ⟨(some 31), .mov (.t 11), some (30, false)⟩,
     ⟨(some 32), .eqp 1 true true (.t 31) (.c (.v .nilIface)), some (30, false)⟩,
     ⟨(some 33), .pick (.t 30) (.c (.v (.bool true))) (.t 32), none⟩] .done)
   (.cond (.t 33)
    (.seq (.ops false [⟨(some 8), .mov (.c (.v (.bool false))), none⟩] .done)
     .ret)
    .skip))
  (.seq (.seq (.ops false [⟨(some 12), .mov (.c (.v (.int .i64 0))), none⟩] .done)
   (.block 0 (.loop (.seq (.seq (.ops false [⟨(some 34), .mov (.t 12), none⟩,
        ⟨(some 35), .mov (.t 0), none⟩,
        ⟨(some 36), .bin .add (.t 35) (.c (.v (.int .i64 4))), none⟩,
        ⟨(some 37), .bin .lss (.t 34) (.t 36), none⟩] .done)
      (.cond (.t 37)
       .skip
       (.exit 0)))
     (.seq (.block 1 (.ops false [⟨(some 40), .mov (.t 10), none⟩,
        ⟨(some 41), .nilck (.t 40), none⟩,
        ⟨(some 42), .fld 0 (.t 41), none⟩,
        ⟨(some 43), .load none (.t 42), none⟩,
        ⟨(some 44), .mov (.t 2), none⟩,
        ⟨(some 45), .mov (.t 3), none⟩,
        ⟨(some 46), .call 9 [(.t 43), (.t 44), (.t 45)], none⟩] .done))
     (.ops false [⟨(some 38), .mov (.t 12), none⟩,
      ⟨(some 39), .bin .add (.t 38) (.c (.v (.int .i64 1))), none⟩,
      ⟨(some 12), .mov (.t 39), none⟩] .done))))))
  (.seq (.ops false [⟨(some 13), .mov (.c (.v (.int .u32 0))), none⟩] .done)
  (.seq (.seq (.ops false [⟨(some 47), .mov (.t 3), none⟩] .done)
   (.cond (.t 47)
    (.ops false [⟨(some 48), .mov (.t 0), none⟩,
      ⟨(some 49), .conv .u64 (.t 48), none⟩,
      ⟨(some 50), .bin .shl (.c (.v (.int .u32 1))) (.t 49), none⟩,
      ⟨(some 51), .bin .sub (.t 50) (.c (.v (.int .u32 1))), none⟩,
      ⟨(some 13), .mov (.t 51), none⟩] .done)
    .skip))
  (.seq (.ops false [⟨(some 52), .mov (.t 9), none⟩,
    ⟨(some 53), .mov (.t 52), none⟩,
    ⟨(some 54), .mov (.t 10), some (53, true)⟩,
    ⟨(some 55), .nilck (.t 54), some (53, true)⟩,
    ⟨(some 56), .fld 0 (.t 55), some (53, true)⟩,
    ⟨(some 57), .load none (.t 56), some (53, true)⟩,
    ⟨(some 58), .mov (.t 2), some (53, true)⟩,
    ⟨(some 59), .call 10 [(.t 57), (.t 58)], some (53, true)⟩,
    ⟨(some 60), .mov (.t 3), some (53, true)⟩,
    ⟨(some 61), .eqb false (.t 59) (.t 60), some (53, true)⟩,
    ⟨(some 62), .pick (.t 53) (.t 61) (.c (.v (.bool false))), none⟩,
    ⟨(some 63), .mov (.t 62), none⟩,
    ⟨(some 64), .mov (.t 10), some (63, true)⟩,
    ⟨(some 65), .nilck (.t 64), some (63, true)⟩,
    ⟨(some 66), .fld 0 (.t 65), some (63, true)⟩,
    ⟨(some 67), .load none (.t 66), some (63, true)⟩,
    ⟨(some 68), .call 11 [(.t 67)], some (63, true)⟩,
    ⟨(some 69), .mov (.t 13), some (63, true)⟩,
    ⟨(some 70), .bin .eql (.t 68) (.t 69), some (63, true)⟩,
    ⟨(some 71), .pick (.t 63) (.t 70) (.c (.v (.bool false))), none⟩,
    ⟨(some 8), .mov (.t 71), none⟩] .done)
  .ret))))))))))⟩
theorem pf3_eq : (Tryd.f3.body.map fun c => (cfn Tryd.prog pl3 Tryd.f3 c, guardsAll pl3 c)) = some (pf3, true) := by kernel_rfl

/-- corral/corrallaw22.PredTargets  sizes [(13, 12), (21, 20), (23, 15), (24, 34)] -/
def pl4 : Nat → DT := dtGet [(13, (.take 0 [0, 1, 2, 3, 10] (.take 1 [1, 2, 3, 10] (.take 2 [2, 3, 10] (.take 3 [3, 10] (.take 4 [4, 6, 7, 10] (.take 5 [5, 6, 7, 10] (.take 6 [6, 7, 10] (.take 7 [7, 10] (.take 8 [8, 9, 10] (.take 9 [9, 10] (.eff false 10 .done)))))))))))), (21, (.take 0 [0, 2, 3, 4, 8, 18] (.take 1 [1, 2, 3, 4, 8, 18] (.take 2 [2, 3, 4, 8, 18] (.take 3 [3, 4, 8, 18] (.take 4 [4, 8, 18] (.take 5 [5, 6, 7, 8, 18] (.take 6 [6, 7, 8, 18] (.take 7 [7, 8, 18] (.take 8 [8, 18] (.take 9 [9, 11, 12, 13, 17, 18] (.take 10 [10, 11, 12, 13, 17, 18] (.take 11 [11, 12, 13, 17, 18] (.take 12 [12, 13, 17, 18] (.take 13 [13, 17, 18] (.take 14 [14, 15, 16, 17, 18] (.take 15 [15, 16, 17, 18] (.take 16 [16, 17, 18] (.take 17 [17, 18] (.take 18 [18] .done)))))))))))))))))))), (23, (.take 0 [0, 1, 12, 13, 2, 3, 8, 9, 10, 11] (.take 1 [1, 2, 12, 13, 3, 8, 9, 10, 11] (.take 2 [2, 3, 12, 13, 8, 9, 10, 11] (.take 3 [3, 8, 12, 13, 9, 10, 11] (.take 4 [4, 6, 12, 13, 7, 8, 9, 10, 11] (.take 5 [5, 6, 12, 13, 7, 8, 9, 10, 11] (.take 6 [6, 7, 12, 13, 8, 9, 10, 11] (.take 7 [7, 8, 12, 13, 9, 10, 11] (.eff true 8 (.take 9 [9, 10, 11, 12, 13] (.take 10 [10, 12, 13] (.take 11 [11, 13] (.take 12 [12, 13] (.take 13 [13] .done))))))))))))))), (24, (.take 0 [0, 10, 11, 12, 13, 18, 19, 14, 15, 16, 17, 20, 21, 22, 31, 32, 23, 24, 25, 26, 27, 28, 29, 30] (.take 1 [1, 3, 4, 9, 10, 11, 12, 13, 18, 19, 14, 15, 16, 17, 20, 21, 22, 31, 32, 23, 24, 25, 26, 27, 28, 29, 30] (.take 2 [2, 3, 4, 9, 10, 11, 12, 13, 18, 19, 14, 15, 16, 17, 20, 21, 22, 31, 32, 23, 24, 25, 26, 27, 28, 29, 30] (.take 3 [3, 4, 9, 10, 11, 12, 13, 18, 19, 14, 15, 16, 17, 20, 21, 22, 31, 32, 23, 24, 25, 26, 27, 28, 29, 30] (.take 4 [4, 9, 10, 11, 12, 13, 18, 19, 14, 15, 16, 17, 20, 21, 22, 31, 32, 23, 24, 25, 26, 27, 28, 29, 30] (.take 5 [5, 7, 8, 9, 10, 11, 12, 13, 18, 19, 14, 15, 16, 17, 20, 21, 22, 31, 32, 23, 24, 25, 26, 27, 28, 29, 30] (.take 6 [6, 7, 8, 9, 10, 11, 12, 13, 18, 19, 14, 15, 16, 17, 20, 21, 22, 31, 32, 23, 24, 25, 26, 27, 28, 29, 30] (.take 7 [7, 8, 9, 10, 11, 12, 13, 18, 19, 14, 15, 16, 17, 20, 21, 22, 31, 32, 23, 24, 25, 26, 27, 28, 29, 30] (.take 8 [8, 9, 10, 11, 12, 13, 18, 19, 14, 15, 16, 17, 20, 21, 22, 31, 32, 23, 24, 25, 26, 27, 28, 29, 30] (.take 9 [9, 10, 11, 12, 13, 18, 19, 14, 15, 16, 17, 20, 21, 22, 31, 32, 23, 24, 25, 26, 27, 28, 29, 30] (.take 10 [10, 11, 12, 13, 18, 19, 14, 15, 16, 17, 20, 21, 22, 31, 32, 23, 24, 25, 26, 27, 28, 29, 30] (.take 11 [11, 12, 13, 18, 19, 14, 15, 16, 17, 20, 21, 22, 31, 32, 23, 24, 25, 26, 27, 28, 29, 30] (.take 12 [12, 13, 14, 15, 16, 17, 18, 20, 19, 21, 22, 31, 32, 23, 24, 25, 26, 27, 28, 29, 30] (.take 13 [13, 14, 15, 16, 17, 18, 20, 19, 21, 22, 31, 32, 23, 24, 25, 26, 27, 28, 29, 30] (.take 14 [14, 17, 18, 19, 20, 21, 22, 31, 32, 23, 24, 25, 26, 27, 28, 29, 30] (.take 15 [15, 16, 17, 18, 19, 20, 21, 22, 31, 32, 23, 24, 25, 26, 27, 28, 29, 30] (.take 16 [16, 17, 18, 19, 20, 21, 22, 31, 32, 23, 24, 25, 26, 27, 28, 29, 30] (.take 17 [17, 18, 19, 20, 21, 22, 31, 32, 23, 24, 25, 26, 27, 28, 29, 30] (.take 18 [18, 19, 20, 21, 22, 31, 32, 23, 24, 25, 26, 27, 28, 29, 30] (.take 19 [19, 20, 21, 22, 31, 32, 23, 24, 25, 26, 27, 28, 29, 30] (.take 20 [20, 21, 22, 31, 32, 23, 24, 25, 26, 27, 28, 29, 30] (.take 21 [21, 22, 23, 24, 25, 26, 27, 28, 29, 30, 31, 32] (.take 22 [22, 23, 24, 25, 26, 27, 28, 29, 30, 31, 32] (.take 23 [23, 28, 30, 31, 32] (.take 24 [24, 26, 27, 28, 30, 31, 32] (.take 25 [25, 26, 27, 28, 30, 31, 32] (.take 26 [26, 27, 28, 30, 31, 32] (.take 27 [27, 28, 30, 31, 32] (.take 29 [29, 30, 31, 32] (.eff true 28 (.take 30 [30, 31, 32] (.take 31 [31, 32] (.take 32 [32] .done))))))))))))))))))))))))))))))))))]
def pf4 : PFn := ⟨138, [.t 4], (.seq (.ops false [⟨(some 4), .mov (.c (.v (.bool false))), none⟩] .done)
  (.seq (.ops false [⟨(some 14), .call 7 [], none⟩,
    ⟨(some 5), .mov (.t 14), none⟩] .done)
  (.seq (.seq (.ops false [⟨(some 15), .mov (.t 5), none⟩,
     ⟨(some 16), .un .not (.t 15), none⟩] .done)
   (.cond (.t 16)
    (.seq (.ops false [⟨(some 4), .mov (.c (.v (.bool false))), none⟩] .done)
     .ret)
    .skip))
  (.seq (.ops false [⟨(some 17), .mov (.t 0), none⟩,
    ⟨(some 18), .bin .rem (.t 17) (.c (.v (.int .i64 10))), none⟩,
    ⟨(some 19), .bin .add (.t 18) (.c (.v (.int .i64 10))), none⟩,
    ⟨(some 20), .bin .rem (.t 19) (.c (.v (.int .i64 10))), none⟩,
    ⟨(some 21), .bin .add (.t 20) (.c (.v (.int .i64 1))), none⟩,
    ⟨(some 0), .mov (.t 21), none⟩] .done)
  (.seq (.seq (.ops false [⟨(some 22), .mov (.t 1), none⟩,
     ⟨(some 23), .len (.t 22), none⟩,
     ⟨(some 24), .bin .gtr (.t 23) (.c (.v (.int .i64 20))), none⟩,
     ⟨(some 25), .mov (.t 24), none⟩,
     ⟨(some 26), .mov (.t 5), some (25, false)⟩,
     ⟨(some 27), .un .not (.t 26), some (25, false)⟩,
     ⟨(some 28), .pick (.t 25) (.c (.v (.bool true))) (.t 27), none⟩] .done)
   (.cond (.t 28)
    (.seq (.ops false [⟨(some 29), .mov (.t 5), none⟩,
       ⟨(some 4), .mov (.t 29), none⟩] .done)
     .ret)
    .skip))
  (.seq (.ops false [⟨(some 31), .mov (.t 0), none⟩,
    ⟨(some 32), .call 8 [(.t 31), (.c (.v (.int .u32 4294967295)))], none⟩,
    ⟨(some 30), .mov (.t 32), none⟩,
    ⟨(some 33), .ext (.t 30) 0, none⟩,
    ⟨(some 34), .ext (.t 30) 1, none⟩,
    ⟨(some 6), .mov (.t 33), none⟩,
    ⟨(some 7), .mov (.t 34), none⟩] .done)
  (.seq (.seq (.ops false [⟨(some 35), .mov (.t 6), none⟩,
     ⟨(some 36), .eqp 0 true false (.t 35) (.c (.v (.pointer none))), none⟩,
     ⟨(some 37), .mov (.t 36), none⟩,
     ⟨(some 38), .mov (.t 7), some (37, false)⟩,
     ⟨(some 39), .eqp 1 true true (.t 38) (.c (.v .nilIface)), some (37, false)⟩,
     ⟨(some 40), .pick (.t 37) (.c (.v (.bool true))) (.t 39), none⟩] .done)
   (.cond (.t 40)
    (.seq (.ops false [⟨(some 4), .mov (.c (.v (.bool false))), none⟩] .done)
     .ret)
    .skip))
  (.seq (.seq (.ops false [⟨(some 8), .mov (.c (.v (.int .i64 0))), none⟩] .done)
   (.block 0 (.loop (.seq (.seq (.ops false [⟨(some 41), .mov (.t 8), none⟩,
        ⟨(some 42), .mov (.t 1), none⟩,
        ⟨(some 43), .len (.t 42), none⟩,
        ⟨(some 44), .bin .lss (.t 41) (.t 43), none⟩] .done)
      (.cond (.t 44)
       .skip
       (.exit 0)))
     (.seq (.block 1 (.ops true [⟨(some 47), .mov (.t 6), none⟩,
        ⟨(some 48), .nilck (.t 47), none⟩,
        ⟨(some 49), .fld 1 (.t 48), none⟩,
        ⟨(some 50), .load none (.t 49), none⟩,
        ⟨(some 51), .mov (.t 1), none⟩,
        ⟨(some 52), .mov (.t 8), none⟩,
        ⟨(some 53), .idx 1 (.t 51) (.t 52), none⟩,
        ⟨(some 54), .load none (.t 53), none⟩,
        ⟨(some 55), .mov (.t 8), none⟩,
        ⟨(some 56), .conv .u32 (.t 55), none⟩,
        ⟨(some 57), .call 12 [(.t 50), (.t 54), (.t 56)], none⟩] (.take 0 [0, 1, 2, 3, 10] (.take 1 [1, 2, 3, 10] (.take 2 [2, 3, 10] (.take 3 [3, 10] (.take 4 [4, 6, 7, 10] (.take 5 [5, 6, 7, 10] (.take 6 [6, 7, 10] (.take 7 [7, 10] (.take 8 [8, 9, 10] (.take 9 [9, 10] (.eff false 10 .done)))))))))))))
     (.ops false [⟨(some 45), .mov (.t 8), none⟩,
      ⟨(some 46), .bin .add (.t 45) (.c (.v (.int .i64 1))), none⟩,
      ⟨(some 8), .mov (.t 46), none⟩] .done))))))
  (.seq (.seq (.ops false [⟨(some 9), .mov (.c (.v (.int .i64 0))), none⟩] .done)
   (.block 2 (.loop (.seq (.seq (.ops false [⟨(some 58), .mov (.t 9), none⟩,
        ⟨(some 59), .mov (.t 1), none⟩,
        ⟨(some 60), .len (.t 59), none⟩,
        ⟨(some 61), .bin .lss (.t 58) (.t 60), none⟩] .done)
      (.cond (.t 61)
       .skip
       (.exit 2)))
     (.seq (.block 3 (.seq (.ops false [⟨(some 64), .mov (.t 9), none⟩,
         ⟨(some 10), .mov (.t 64), none⟩] .done)
       (.seq (.seq (.ops false [⟨(some 65), .mov (.t 9), none⟩,
          ⟨(some 66), .bin .add (.t 65) (.c (.v (.int .i64 1))), none⟩,
          ⟨(some 11), .mov (.t 66), none⟩] .done)
        (.block 4 (.loop (.seq (.seq (.ops false [⟨(some 67), .mov (.t 11), none⟩,
             ⟨(some 68), .mov (.t 1), none⟩,
             ⟨(some 69), .len (.t 68), none⟩,
             ⟨(some 70), .bin .lss (.t 67) (.t 69), none⟩] .done)
           (.cond (.t 70)
            .skip
            (.exit 4)))
          (.seq (.block 5 (.seq (.ops true [⟨(some 73), .mov (.t 1), none⟩,
              ⟨(some 74), .mov (.t 11), none⟩,
              ⟨(some 75), .idx 1 (.t 73) (.t 74), none⟩,
              ⟨(some 76), .load none (.t 75), none⟩,
              ⟨(some 77), .bin .quo (.t 76) (.c (.v (.int .u32 4))), none⟩,
              ⟨(some 78), .mov (.t 0), none⟩,
              ⟨(some 79), .conv .u64 (.t 78), none⟩,
              ⟨(some 80), .bin .shl (.c (.v (.int .u32 1))) (.t 79), none⟩,
              ⟨(some 81), .bin .rem (.t 77) (.t 80), none⟩,
              ⟨(some 82), .mov (.t 1), none⟩,
              ⟨(some 83), .mov (.t 9), none⟩,
              ⟨(some 84), .idx 1 (.t 82) (.t 83), none⟩,
              ⟨(some 85), .load none (.t 84), none⟩,
              ⟨(some 86), .bin .quo (.t 85) (.c (.v (.int .u32 4))), none⟩,
              ⟨(some 87), .mov (.t 0), none⟩,
              ⟨(some 88), .conv .u64 (.t 87), none⟩,
              ⟨(some 89), .bin .shl (.c (.v (.int .u32 1))) (.t 88), none⟩,
              ⟨(some 90), .bin .rem (.t 86) (.t 89), none⟩,
              ⟨(some 91), .bin .eql (.t 81) (.t 90), none⟩] (.take 0 [0, 2, 3, 4, 8, 18] (.take 1 [1, 2, 3, 4, 8, 18] (.take 2 [2, 3, 4, 8, 18] (.take 3 [3, 4, 8, 18] (.take 4 [4, 8, 18] (.take 5 [5, 6, 7, 8, 18] (.take 6 [6, 7, 8, 18] (.take 7 [7, 8, 18] (.take 8 [8, 18] (.take 9 [9, 11, 12, 13, 17, 18] (.take 10 [10, 11, 12, 13, 17, 18] (.take 11 [11, 12, 13, 17, 18] (.take 12 [12, 13, 17, 18] (.take 13 [13, 17, 18] (.take 14 [14, 15, 16, 17, 18] (.take 15 [15, 16, 17, 18] (.take 16 [16, 17, 18] (.take 17 [17, 18] (.take 18 [18] .done))))))))))))))))))))
            (.cond (.t 91)
             (.ops false [⟨(some 92), .mov (.t 11), none⟩,
               ⟨(some 10), .mov (.t 92), none⟩] .done)
             .skip)))
          (.ops false [⟨(some 71), .mov (.t 11), none⟩,
           ⟨(some 72), .bin .add (.t 71) (.c (.v (.int .i64 1))), none⟩,
           ⟨(some 11), .mov (.t 72), none⟩] .done))))))
       (.seq (.ops true [⟨(some 94), .mov (.t 6), none⟩,
         ⟨(some 95), .nilck (.t 94), none⟩,
         ⟨(some 96), .fld 1 (.t 95), none⟩,
         ⟨(some 97), .load none (.t 96), none⟩,
         ⟨(some 98), .mov (.t 1), none⟩,
         ⟨(some 99), .mov (.t 9), none⟩,
         ⟨(some 100), .idx 1 (.t 98) (.t 99), none⟩,
         ⟨(some 101), .load none (.t 100), none⟩,
         ⟨(some 102), .call 13 [(.t 97), (.t 101)], none⟩,
         ⟨(some 93), .mov (.t 102), none⟩,
         ⟨(some 103), .ext (.t 93) 0, none⟩,
         ⟨(some 104), .ext (.t 93) 1, none⟩,
         ⟨(some 12), .mov (.t 103), none⟩,
         ⟨(some 13), .mov (.t 104), none⟩] (.take 0 [0, 1, 12, 13, 2, 3, 8, 9, 10, 11] (.take 1 [1, 2, 12, 13, 3, 8, 9, 10, 11] (.take 2 [2, 3, 12, 13, 8, 9, 10, 11] (.take 3 [3, 8, 12, 13, 9, 10, 11] (.take 4 [4, 6, 12, 13, 7, 8, 9, 10, 11] (.take 5 [5, 6, 12, 13, 7, 8, 9, 10, 11] (.take 6 [6, 7, 12, 13, 8, 9, 10, 11] (.take 7 [7, 8, 12, 13, 9, 10, 11] (.eff true 8 (.take 9 [9, 10, 11, 12, 13] (.take 10 [10, 12, 13] (.take 11 [11, 13] (.take 12 [12, 13] (.take 13 [13] .done)))))))))))))))
       (.seq (.ops true [⟨(some 105), .mov (.t 13), none⟩,
         ⟨(some 106), .mov (.t 1), none⟩,
         ⟨(some 107), .mov (.t 10), none⟩,
         ⟨(some 108), .idx 1 (.t 106) (.t 107), none⟩,
         ⟨(some 109), .load none (.t 108), none⟩,
         ⟨(some 110), .mov (.t 1), none⟩,
         ⟨(some 111), .mov (.t 9), none⟩,
         ⟨(some 112), .idx 1 (.t 110) (.t 111), none⟩,
         ⟨(some 113), .load none (.t 112), none⟩,
         ⟨(some 114), .bin .eql (.t 109) (.t 113), none⟩,
         ⟨(some 115), .eqb true (.t 105) (.t 114), none⟩,
         ⟨(some 116), .mov (.t 115), none⟩,
         ⟨(some 117), .mov (.t 13), some (116, false)⟩,
         ⟨(some 118), .mov (.t 117), some (116, false)⟩,
         ⟨(some 119), .mov (.t 12), some (118, true)⟩,
         ⟨(some 120), .mov (.t 10), some (118, true)⟩,
         ⟨(some 121), .conv .u32 (.t 120), some (118, true)⟩,
         ⟨(some 122), .bin .neq (.t 119) (.t 121), some (118, true)⟩,
         ⟨(some 123), .pick (.t 118) (.t 122) (.c (.v (.bool false))), some (116, false)⟩,
         ⟨(some 124), .pick (.t 116) (.c (.v (.bool true))) (.t 123), none⟩,
         ⟨(some 125), .mov (.t 124), none⟩,
         ⟨(some 126), .mov (.t 13), some (125, false)⟩,
         ⟨(some 127), .mov (.t 126), some (125, false)⟩,
         ⟨(some 128), .mov (.t 6), some (127, true)⟩,
         ⟨(some 129), .mov (.t 1), some (127, true)⟩,
         ⟨(some 130), .mov (.t 9), some (127, true)⟩,
         ⟨(some 131), .idx 1 (.t 129) (.t 130), some (127, true)⟩,
         ⟨(some 132), .load none (.t 131), some (127, true)⟩,
         ⟨(some 133), .call 14 [(.t 128), (.t 132)], some (127, true)⟩,
         ⟨(some 134), .mov (.t 12), some (127, true)⟩,
         ⟨(some 135), .bin .neq (.t 133) (.t 134), some (127, true)⟩,
         ⟨(some 136), .pick (.t 127) (.t 135) (.c (.v (.bool false))), some (125, false)⟩,
         ⟨(some 137), .pick (.t 125) (.c (.v (.bool true))) (.t 136), none⟩] (.take 0 [0, 10, 11, 12, 13, 18, 19, 14, 15, 16, 17, 20, 21, 22, 31, 32, 23, 24, 25, 26, 27, 28, 29, 30] (.take 1 [1, 3, 4, 9, 10, 11, 12, 13, 18, 19, 14, 15, 16, 17, 20, 21, 22, 31, 32, 23, 24, 25, 26, 27, 28, 29, 30] (.take 2 [2, 3, 4, 9, 10, 11, 12, 13, 18, 19, 14, 15, 16, 17, 20, 21, 22, 31, 32, 23, 24, 25, 26, 27, 28, 29, 30] (.take 3 [3, 4, 9, 10, 11, 12, 13, 18, 19, 14, 15, 16, 17, 20, 21, 22, 31, 32, 23, 24, 25, 26, 27, 28, 29, 30] (.take 4 [4, 9, 10, 11, 12, 13, 18, 19, 14, 15, 16, 17, 20, 21, 22, 31, 32, 23, 24, 25, 26, 27, 28, 29, 30] (.take 5 [5, 7, 8, 9, 10, 11, 12, 13, 18, 19, 14, 15, 16, 17, 20, 21, 22, 31, 32, 23, 24, 25, 26, 27, 28, 29, 30] (.take 6 [6, 7, 8, 9, 10, 11, 12, 13, 18, 19, 14, 15, 16, 17, 20, 21, 22, 31, 32, 23, 24, 25, 26, 27, 28, 29, 30] (.take 7 [7, 8, 9, 10, 11, 12, 13, 18, 19, 14, 15, 16, 17, 20, 21, 22, 31, 32, 23, 24, 25, 26, 27, 28, 29, 30] (.take 8 [8, 9, 10, 11, 12, 13, 18, 19, 14, 15, 16, 17, 20, 21, 22, 31, 32, 23, 24, 25, 26, 27, 28, 29, 30] (.take 9 [9, 10, 11, 12, 13, 18, 19, 14, 15, 16, 17, 20, 21, 22, 31, 32, 23, 24, 25, 26, 27, 28, 29, 30] (.take 10 [10, 11, 12, 13, 18, 19, 14, 15, 16, 17, 20, 21, 22, 31, 32, 23, 24, 25, 26, 27, 28, 29, 30] (.take 11 [11, 12, 13, 18, 19, 14, 15, 16, 17, 20, 21, 22, 31, 32, 23, 24, 25, 26, 27, 28, 29, 30] (.take 12 [12, 13, 14, 15, 16, 17, 18, 20, 19, 21, 22, 31, 32, 23, 24, 25, 26, 27, 28, 29, 30] (.take 13 [13, 14, 15, 16, 17, 18, 20, 19, 21, 22, 31, 32, 23, 24, 25, 26, 27, 28, 29, 30] (.take 14 [14, 17, 18, 19, 20, 21, 22, 31, 32, 23, 24, 25, 26, 27, 28, 29, 30] (.take 15 [15, 16, 17, 18, 19, 20, 21, 22, 31, 32, 23, 24, 25, 26, 27, 28, 29, 30] (.take 16 [16, 17, 18, 19, 20, 21, 22, 31, 32, 23, 24, 25, 26, 27, 28, 29, 30] (.take 17 [17, 18, 19, 20, 21, 22, 31, 32, 23, 24, 25, 26, 27, 28, 29, 30] (.take 18 [18, 19, 20, 21, 22, 31, 32, 23, 24, 25, 26, 27, 28, 29, 30] (.take 19 [19, 20, 21, 22, 31, 32, 23, 24, 25, 26, 27, 28, 29, 30] (.take 20 [20, 21, 22, 31, 32, 23, 24, 25, 26, 27, 28, 29, 30] (.take 21 [21, 22, 23, 24, 25, 26, 27, 28, 29, 30, 31, 32] (.take 22 [22, 23, 24, 25, 26, 27, 28, 29, 30, 31, 32] (.take 23 [23, 28, 30, 31, 32] (.take 24 [24, 26, 27, 28, 30, 31, 32] (.take 25 [25, 26, 27, 28, 30, 31, 32] (.take 26 [26, 27, 28, 30, 31, 32] (.take 27 [27, 28, 30, 31, 32] (.take 29 [29, 30, 31, 32] (.eff true 28 (.take 30 [30, 31, 32] (.take 31 [31, 32] (.take 32 [32] .done))))))))))))))))))))))))))))))))))
       (.cond (.t 137)
        (.seq (.ops false [⟨(some 4), .mov (.c (.v (.bool false))), none⟩] .done)
         .ret)
        .skip))))))
     (.ops false [⟨(some 62), .mov (.t 9), none⟩,
      ⟨(some 63), .bin .add (.t 62) (.c (.v (.int .i64 1))), none⟩,
      ⟨(some 9), .mov (.t 63), none⟩] .done))))))
  (.seq (.ops false [⟨(some 4), .mov (.c (.v (.bool true))), none⟩] .done)
  .ret))))))))))⟩
theorem pf4_eq : (Tryd.f4.body.map fun c => (cfn Tryd.prog pl4 Tryd.f4 c, guardsAll pl4 c)) = some (pf4, true) := by kernel_rfl

/-- corral/corrallaw22.PredReturns  sizes [(12, 10)] -/
def pl5 : Nat → DT := dtGet [(12, (.take 0 [0, 1, 2, 3, 8] (.take 1 [1, 2, 3, 8] (.take 2 [2, 3, 8] (.take 3 [3, 8] (.take 4 [4, 6, 7, 8] (.take 5 [5, 6, 7, 8] (.take 6 [6, 7, 8] (.take 7 [7, 8] (.eff false 8 .done))))))))))]
def pf5 : PFn := ⟨105, [.t 2], (.seq (.ops false [⟨(some 2), .mov (.c (.v (.bool false))), none⟩] .done)
  (.seq (.ops false [⟨(some 13), .call 7 [], none⟩,
    ⟨(some 3), .mov (.t 13), none⟩] .done)
  (.seq (.seq (.ops false [⟨(some 14), .mov (.t 3), none⟩,
     ⟨(some 15), .un .not (.t 14), none⟩] .done)
   (.cond (.t 15)
    (.seq (.ops false [⟨(some 2), .mov (.c (.v (.bool false))), none⟩] .done)
     .ret)
    .skip))
  (.seq (.seq (.ops false [⟨(some 16), .mov (.t 0), none⟩,
     ⟨(some 17), .len (.t 16), none⟩,
     ⟨(some 18), .bin .gtr (.t 17) (.c (.v (.int .i64 30))), none⟩,
     ⟨(some 19), .mov (.t 18), none⟩,
     ⟨(some 20), .mov (.t 3), some (19, false)⟩,
     ⟨(some 21), .un .not (.t 20), some (19, false)⟩,
     ⟨(some 22), .pick (.t 19) (.c (.v (.bool true))) (.t 21), none⟩] .done)
   (.cond (.t 22)
    (.seq (.ops false [⟨(some 23), .mov (.t 3), none⟩,
       ⟨(some 2), .mov (.t 23), none⟩] .done)
     .ret)
    .skip))
  (.seq (.ops false [⟨(some 25), .call 8 [(.c (.v (.int .i64 4))), (.c (.v (.int .u32 0)))], none⟩,
    ⟨(some 24), .mov (.t 25), none⟩,
    ⟨(some 26), .ext (.t 24) 0, none⟩,
    ⟨(some 27), .ext (.t 24) 1, none⟩,
    ⟨(some 4), .mov (.t 26), none⟩,
    ⟨(some 5), .mov (.t 27), none⟩] .done)
  (.seq (.seq (.ops false [⟨(some 28), .mov (.t 4), none⟩,
     ⟨(some 29), .eqp 0 true false (.t 28) (.c (.v (.pointer none))), none⟩,
     ⟨(some 30), .mov (.t 29), none⟩,
     ⟨(some 31), .mov (.t 5), some (30, false)⟩,
     ⟨(some 32), .eqp 1 true true (.t 31) (.c (.v .nilIface)), some (30, false)⟩,
     ⟨(some 33), .pick (.t 30) (.c (.v (.bool true))) (.t 32), none⟩] .done)
   (.cond (.t 33)
    (.seq (.ops false [⟨(some 2), .mov (.c (.v (.bool false))), none⟩] .done)
     .ret)
    .skip))
  (.seq (.seq (.ops false [⟨(some 6), .mov (.c (.v (.int .i64 0))), none⟩] .done)
   (.block 0 (.loop (.seq (.seq (.ops false [⟨(some 34), .mov (.t 6), none⟩,
        ⟨(some 35), .mov (.t 0), none⟩,
        ⟨(some 36), .len (.t 35), none⟩,
        ⟨(some 37), .bin .lss (.t 34) (.t 36), none⟩] .done)
      (.cond (.t 37)
       .skip
       (.exit 0)))
     (.seq (.block 1 (.ops true [⟨(some 40), .mov (.t 4), none⟩,
        ⟨(some 41), .nilck (.t 40), none⟩,
        ⟨(some 42), .fld 2 (.t 41), none⟩,
        ⟨(some 43), .load none (.t 42), none⟩,
        ⟨(some 44), .mov (.t 0), none⟩,
        ⟨(some 45), .mov (.t 6), none⟩,
        ⟨(some 46), .idx 1 (.t 44) (.t 45), none⟩,
        ⟨(some 47), .load none (.t 46), none⟩,
        ⟨(some 48), .call 15 [(.t 43), (.t 47)], none⟩] (.take 0 [0, 1, 2, 3, 8] (.take 1 [1, 2, 3, 8] (.take 2 [2, 3, 8] (.take 3 [3, 8] (.take 4 [4, 6, 7, 8] (.take 5 [5, 6, 7, 8] (.take 6 [6, 7, 8] (.take 7 [7, 8] (.eff false 8 .done)))))))))))
     (.ops false [⟨(some 38), .mov (.t 6), none⟩,
      ⟨(some 39), .bin .add (.t 38) (.c (.v (.int .i64 1))), none⟩,
      ⟨(some 6), .mov (.t 39), none⟩] .done))))))
  (.seq (.ops false [⟨(some 49), .mov (.t 0), none⟩,
    ⟨(some 50), .len (.t 49), none⟩,
    ⟨(some 51), .minmax false [(.t 50), (.c (.v (.int .i64 8)))], none⟩,
    ⟨(some 7), .mov (.t 51), none⟩] .done)
  (.seq (.seq (.ops false [⟨(some 52), .mov (.t 4), none⟩,
     ⟨(some 53), .nilck (.t 52), none⟩,
     ⟨(some 54), .fld 2 (.t 53), none⟩,
     ⟨(some 55), .load none (.t 54), none⟩,
     ⟨(some 56), .call 16 [(.t 55)], none⟩,
     ⟨(some 57), .mov (.t 7), none⟩,
     ⟨(some 58), .bin .neq (.t 56) (.t 57), none⟩] .done)
   (.cond (.t 58)
    (.seq (.ops false [⟨(some 2), .mov (.c (.v (.bool false))), none⟩] .done)
     .ret)
    .skip))
  (.seq (.seq (.ops false [⟨(some 8), .mov (.c (.v (.int .i64 0))), none⟩] .done)
   (.block 2 (.loop (.seq (.seq (.ops false [⟨(some 59), .mov (.t 8), none⟩,
        ⟨(some 60), .mov (.t 7), none⟩,
        ⟨(some 61), .bin .lss (.t 59) (.t 60), none⟩] .done)
      (.cond (.t 61)
       .skip
       (.exit 2)))
     (.seq (.block 3 (.seq (.ops false [⟨(some 65), .mov (.t 4), none⟩,
         ⟨(some 66), .nilck (.t 65), none⟩,
         ⟨(some 67), .fld 2 (.t 66), none⟩,
         ⟨(some 68), .load none (.t 67), none⟩,
         ⟨(some 69), .call 17 [(.t 68)], none⟩,
         ⟨(some 64), .mov (.t 69), none⟩,
         ⟨(some 70), .ext (.t 64) 0, none⟩,
         ⟨(some 71), .ext (.t 64) 1, none⟩,
         ⟨(some 9), .mov (.t 70), none⟩,
         ⟨(some 10), .mov (.t 71), none⟩] .done)
       (.seq (.ops false [⟨(some 72), .mov (.t 10), none⟩,
         ⟨(some 73), .un .not (.t 72), none⟩,
         ⟨(some 74), .mov (.t 73), none⟩,
         ⟨(some 75), .mov (.t 9), some (74, false)⟩,
         ⟨(some 76), .mov (.t 0), some (74, false)⟩,
         ⟨(some 77), .mov (.t 0), some (74, false)⟩,
         ⟨(some 78), .len (.t 77), some (74, false)⟩,
         ⟨(some 79), .bin .sub (.t 78) (.c (.v (.int .i64 1))), some (74, false)⟩,
         ⟨(some 80), .mov (.t 8), some (74, false)⟩,
         ⟨(some 81), .bin .sub (.t 79) (.t 80), some (74, false)⟩,
         ⟨(some 82), .idx 1 (.t 76) (.t 81), some (74, false)⟩,
         ⟨(some 83), .load none (.t 82), some (74, false)⟩,
         ⟨(some 84), .bin .add (.t 83) (.c (.v (.int .u32 4))), some (74, false)⟩,
         ⟨(some 85), .bin .neq (.t 75) (.t 84), some (74, false)⟩,
         ⟨(some 86), .pick (.t 74) (.c (.v (.bool true))) (.t 85), none⟩] .done)
       (.cond (.t 86)
        (.seq (.ops false [⟨(some 2), .mov (.c (.v (.bool false))), none⟩] .done)
         .ret)
        .skip))))
     (.ops false [⟨(some 62), .mov (.t 8), none⟩,
      ⟨(some 63), .bin .add (.t 62) (.c (.v (.int .i64 1))), none⟩,
      ⟨(some 8), .mov (.t 63), none⟩] .done))))))
  (.seq (.ops false [⟨(some 88), .mov (.t 4), none⟩,
    ⟨(some 89), .nilck (.t 88), none⟩,
    ⟨(some 90), .fld 2 (.t 89), none⟩,
    ⟨(some 91), .load none (.t 90), none⟩,
    ⟨(some 92), .call 17 [(.t 91)], none⟩,
    ⟨(some 87), .mov (.t 92), none⟩,
    ⟨(some 93), .ext (.t 87) 0, none⟩,
    ⟨(some 94), .ext (.t 87) 1, none⟩,
    ⟨(some 11), .mov (.t 93), none⟩,
    ⟨(some 12), .mov (.t 94), none⟩] .done)
  (.seq (.ops false [⟨(some 95), .mov (.t 12), none⟩,
    ⟨(some 96), .un .not (.t 95), none⟩,
    ⟨(some 97), .mov (.t 96), none⟩,
    ⟨(some 98), .mov (.t 4), some (97, true)⟩,
    ⟨(some 99), .nilck (.t 98), some (97, true)⟩,
    ⟨(some 100), .fld 2 (.t 99), some (97, true)⟩,
    ⟨(some 101), .load none (.t 100), some (97, true)⟩,
    ⟨(some 102), .call 16 [(.t 101)], some (97, true)⟩,
    ⟨(some 103), .bin .eql (.t 102) (.c (.v (.int .i64 0))), some (97, true)⟩,
    ⟨(some 104), .pick (.t 97) (.t 103) (.c (.v (.bool false))), none⟩,
    ⟨(some 2), .mov (.t 104), none⟩] .done)
  .ret))))))))))))⟩
theorem pf5_eq : (Tryd.f5.body.map fun c => (cfn Tryd.prog pl5 Tryd.f5 c, guardsAll pl5 c)) = some (pf5, true) := by kernel_rfl

/-- corral/corrallaw22.PredPlays  sizes [(22, 10), (25, 10), (28, 8), (32, 55)] -/
def pl6 : Nat → DT := dtGet [(22, (.take 0 [0, 1, 2, 3, 8] (.take 1 [1, 2, 3, 8] (.take 2 [2, 3, 8] (.take 3 [3, 8] (.take 4 [4, 5, 8] (.take 5 [5, 8] (.take 6 [6, 7, 8] (.take 7 [7, 8] (.eff false 8 .done)))))))))), (25, (.take 0 [0, 1, 2, 3, 8] (.take 1 [1, 2, 3, 8] (.take 2 [2, 3, 8] (.take 3 [3, 8] (.take 4 [4, 5, 8] (.take 5 [5, 8] (.take 6 [6, 7, 8] (.take 7 [7, 8] (.eff false 8 .done)))))))))), (28, (.take 0 [0, 1, 2, 3, 6] (.take 1 [1, 2, 3, 6] (.take 2 [2, 3, 6] (.take 3 [3, 6] (.take 4 [4, 5, 6] (.take 5 [5, 6] (.eff false 6 .done)))))))), (32, (.take 0 [0, 1, 2, 3, 5, 8, 9, 10, 11, 12, 13, 14, 15, 16, 17, 18, 19, 20, 21, 22, 23, 24, 25, 26, 27, 28, 29, 30, 31, 32, 33, 34, 35, 36, 37, 38, 39, 40, 41, 42, 43, 44, 45, 46, 47, 48, 49, 50, 51, 52, 53] (.take 1 [1, 2, 3, 5, 8, 9, 10, 11, 12, 13, 14, 15, 16, 17, 18, 19, 20, 21, 22, 23, 24, 25, 26, 27, 28, 29, 30, 31, 32, 33, 34, 35, 36, 37, 38, 39, 40, 41, 42, 43, 44, 45, 46, 47, 48, 49, 50, 51, 52, 53] (.take 2 [2, 3, 5, 8, 9, 10, 11, 12, 13, 14, 15, 16, 17, 18, 19, 20, 21, 22, 23, 24, 25, 26, 27, 28, 29, 30, 31, 32, 33, 34, 35, 36, 37, 38, 39, 40, 41, 42, 43, 44, 45, 46, 47, 48, 49, 50, 51, 52, 53] (.take 3 [3, 5, 8, 9, 10, 11, 12, 13, 14, 15, 16, 17, 18, 19, 20, 21, 22, 23, 24, 25, 26, 27, 28, 29, 30, 31, 32, 33, 34, 35, 36, 37, 38, 39, 40, 41, 42, 43, 44, 45, 46, 47, 48, 49, 50, 51, 52, 53] (.take 4 [4, 5, 8, 9, 10, 11, 12, 13, 14, 15, 16, 17, 18, 19, 20, 21, 22, 23, 24, 25, 26, 27, 28, 29, 30, 31, 32, 33, 34, 35, 36, 37, 38, 39, 40, 41, 42, 43, 44, 45, 46, 47, 48, 49, 50, 51, 52, 53] (.take 6 [6, 8, 9, 10, 11, 12, 13, 14, 15, 16, 17, 18, 19, 20, 21, 22, 23, 24, 25, 26, 27, 28, 29, 30, 31, 32, 33, 34, 35, 36, 37, 38, 39, 40, 41, 42, 43, 44, 45, 46, 47, 48, 49, 50, 51, 52, 53] (.take 7 [7, 8, 9, 10, 11, 12, 13, 14, 15, 16, 17, 18, 19, 20, 21, 22, 23, 24, 25, 26, 27, 28, 29, 30, 31, 32, 33, 34, 35, 36, 37, 38, 39, 40, 41, 42, 43, 44, 45, 46, 47, 48, 49, 50, 51, 52, 53] (.eff true 5 (.eff true 8 (.take 9 [9, 10, 11, 12, 13, 14, 15, 16, 17, 18, 19, 20, 21, 22, 23, 24, 25, 26, 27, 28, 29, 30, 31, 32, 33, 34, 35, 36, 37, 38, 39, 40, 41, 42, 43, 44, 45, 46, 47, 48, 49, 50, 51, 52, 53] (.take 10 [10, 11, 12, 13, 14, 15, 16, 17, 18, 19, 20, 21, 22, 23, 24, 25, 26, 27, 28, 29, 30, 31, 32, 33, 34, 35, 36, 37, 38, 39, 40, 41, 42, 43, 44, 45, 46, 47, 48, 49, 50, 51, 52, 53] (.take 11 [11, 12, 13, 14, 15, 20, 22, 21, 23, 24, 25, 26, 27, 28, 29, 30, 31, 32, 33, 34, 35, 36, 37, 38, 39, 40, 41, 42, 43, 44, 45, 46, 47, 48, 49, 50, 51, 52, 53] (.take 12 [12, 13, 14, 15, 20, 22, 21, 23, 24, 25, 26, 27, 28, 29, 30, 31, 32, 33, 34, 35, 36, 37, 38, 39, 40, 41, 42, 43, 44, 45, 46, 47, 48, 49, 50, 51, 52, 53] (.take 13 [13, 14, 15, 20, 22, 21, 23, 24, 25, 26, 27, 28, 29, 30, 31, 32, 33, 34, 35, 36, 37, 38, 39, 40, 41, 42, 43, 44, 45, 46, 47, 48, 49, 50, 51, 52, 53] (.take 14 [14, 15, 20, 22, 21, 23, 24, 25, 26, 27, 28, 29, 30, 31, 32, 33, 34, 35, 36, 37, 38, 39, 40, 41, 42, 43, 44, 45, 46, 47, 48, 49, 50, 51, 52, 53] (.take 16 [16, 17, 18, 19, 20, 21, 22, 23, 24, 25, 26, 27, 28, 29, 30, 31, 32, 33, 34, 35, 36, 37, 38, 39, 40, 41, 42, 43, 44, 45, 46, 47, 48, 49, 50, 51, 52, 53] (.take 17 [17, 18, 19, 20, 21, 22, 23, 24, 25, 26, 27, 28, 29, 30, 31, 32, 33, 34, 35, 36, 37, 38, 39, 40, 41, 42, 43, 44, 45, 46, 47, 48, 49, 50, 51, 52, 53] (.take 18 [18, 19, 20, 21, 22, 23, 24, 25, 26, 27, 28, 29, 30, 31, 32, 33, 34, 35, 36, 37, 38, 39, 40, 41, 42, 43, 44, 45, 46, 47, 48, 49, 50, 51, 52, 53] (.take 19 [19, 20, 21, 22, 23, 24, 25, 26, 27, 28, 29, 30, 31, 32, 33, 34, 35, 36, 37, 38, 39, 40, 41, 42, 43, 44, 45, 46, 47, 48, 49, 50, 51, 52, 53] (.eff true 15 (.take 20 [20, 21, 22, 23, 24, 25, 26, 27, 28, 29, 30, 31, 32, 33, 34, 35, 36, 37, 38, 39, 40, 41, 42, 43, 44, 45, 46, 47, 48, 49, 50, 51, 52, 53] (.take 21 [21, 22, 23, 24, 25, 26, 27, 28, 29, 30, 31, 32, 33, 34, 35, 36, 37, 38, 39, 40, 41, 42, 43, 44, 45, 46, 47, 48, 49, 50, 51, 52, 53] (.take 22 [22, 23, 24, 25, 26, 27, 28, 29, 30, 31, 32, 33, 34, 35, 36, 37, 38, 39, 40, 41, 42, 43, 44, 45, 46, 47, 48, 49, 50, 51, 52, 53] (.take 23 [23, 25, 26, 27, 28, 29, 30, 31, 32, 33, 34, 35, 36, 37, 38, 39, 40, 41, 42, 43, 44, 45, 46, 47, 48, 49, 50, 51, 52, 53] (.take 24 [24, 25, 26, 27, 28, 29, 30, 31, 32, 33, 34, 35, 36, 37, 38, 39, 40, 41, 42, 43, 44, 45, 46, 47, 48, 49, 50, 51, 52, 53] (.take 25 [25, 26, 27, 28, 29, 30, 31, 32, 33, 34, 35, 36, 37, 38, 39, 40, 41, 42, 43, 44, 45, 46, 47, 48, 49, 50, 51, 52, 53] (.take 26 [26, 27, 28, 29, 30, 31, 32, 33, 34, 35, 36, 37, 38, 39, 40, 41, 42, 43, 44, 45, 46, 47, 48, 49, 50, 51, 52, 53] (.take 27 [27, 28, 29, 30, 31, 32, 33, 34, 35, 36, 37, 38, 39, 40, 41, 42, 43, 44, 45, 46, 47, 48, 49, 50, 51, 52, 53] (.take 28 [28, 30, 31, 32, 33, 34, 35, 36, 37, 38, 39, 40, 41, 42, 43, 44, 45, 46, 47, 48, 49, 50, 51, 52, 53] (.take 29 [29, 30, 31, 32, 33, 34, 35, 36, 37, 38, 39, 40, 41, 42, 43, 44, 45, 46, 47, 48, 49, 50, 51, 52, 53] (.take 30 [30, 31, 32, 33, 34, 35, 36, 37, 38, 39, 40, 41, 42, 43, 44, 45, 46, 47, 48, 49, 50, 51, 52, 53] (.take 31 [31, 32, 33, 34, 35, 36, 37, 38, 39, 40, 41, 42, 43, 44, 45, 46, 47, 48, 49, 50, 51, 52, 53] (.take 32 [32, 33, 34, 35, 36, 37, 38, 39, 40, 41, 42, 43, 44, 45, 46, 47, 48, 49, 50, 51, 52, 53] (.take 33 [33, 34, 35, 36, 37, 43, 45, 44, 46, 47, 48, 49, 50, 51, 52, 53] (.take 34 [34, 35, 36, 37, 43, 45, 44, 46, 47, 48, 49, 50, 51, 52, 53] (.take 35 [35, 36, 37, 43, 45, 44, 46, 47, 48, 49, 50, 51, 52, 53] (.take 36 [36, 37, 43, 45, 44, 46, 47, 48, 49, 50, 51, 52, 53] (.take 38 [38, 39, 40, 41, 42, 43, 44, 45, 46, 47, 48, 49, 50, 51, 52, 53] (.take 39 [39, 40, 41, 42, 43, 44, 45, 46, 47, 48, 49, 50, 51, 52, 53] (.take 40 [40, 41, 42, 43, 44, 45, 46, 47, 48, 49, 50, 51, 52, 53] (.take 41 [41, 42, 43, 44, 45, 46, 47, 48, 49, 50, 51, 52, 53] (.take 42 [42, 43, 44, 45, 46, 47, 48, 49, 50, 51, 52, 53] (.eff true 37 (.take 43 [43, 44, 45, 46, 47, 48, 49, 50, 51, 52, 53] (.take 44 [44, 45, 46, 47, 48, 49, 50, 51, 52, 53] (.take 45 [45, 46, 47, 48, 49, 50, 51, 52, 53] (.take 46 [46, 48, 51, 52, 53] (.take 47 [47, 48, 51, 52, 53] (.take 49 [49, 51, 52, 53] (.take 50 [50, 51, 52, 53] (.eff true 48 (.eff true 51 (.take 52 [52, 53] (.take 53 [53] .done)))))))))))))))))))))))))))))))))))))))))))))))))))))))]
def pf6 : PFn := ⟨210, [.t 8], (.seq (.ops false [⟨(some 8), .mov (.c (.v (.bool false))), none⟩] .done)
  (.seq (.ops false [⟨(some 23), .call 7 [], none⟩,
    ⟨(some 9), .mov (.t 23), none⟩] .done)
  (.seq (.seq (.ops false [⟨(some 24), .mov (.t 9), none⟩,
     ⟨(some 25), .un .not (.t 24), none⟩] .done)
   (.cond (.t 25)
    (.seq (.ops false [⟨(some 8), .mov (.c (.v (.bool false))), none⟩] .done)
     .ret)
    .skip))
  (.seq (.seq (.ops false [⟨(some 26), .mov (.t 2), none⟩,
     ⟨(some 27), .len (.t 26), none⟩,
     ⟨(some 28), .bin .gtr (.t 27) (.c (.v (.int .i64 80))), none⟩,
     ⟨(some 29), .mov (.t 28), none⟩,
     ⟨(some 30), .mov (.t 9), some (29, false)⟩,
     ⟨(some 31), .un .not (.t 30), some (29, false)⟩,
     ⟨(some 32), .pick (.t 29) (.c (.v (.bool true))) (.t 31), none⟩] .done)
   (.cond (.t 32)
    (.seq (.ops false [⟨(some 33), .mov (.t 9), none⟩,
       ⟨(some 8), .mov (.t 33), none⟩] .done)
     .ret)
    .skip))
  (.seq (.ops false [⟨(some 35), .mov (.t 0), none⟩,
    ⟨(some 36), .mov (.t 1), none⟩,
    ⟨(some 37), .call 8 [(.t 35), (.t 36)], none⟩,
    ⟨(some 34), .mov (.t 37), none⟩,
    ⟨(some 38), .ext (.t 34) 0, none⟩,
    ⟨(some 39), .ext (.t 34) 1, none⟩,
    ⟨(some 10), .mov (.t 38), none⟩,
    ⟨(some 11), .mov (.t 39), none⟩] .done)
  (.seq (.seq (.ops false [⟨(some 40), .mov (.t 0), none⟩,
     ⟨(some 41), .bin .lss (.t 40) (.c (.v (.int .i64 1))), none⟩,
     ⟨(some 42), .mov (.t 41), none⟩,
     ⟨(some 43), .mov (.t 0), some (42, false)⟩,
     ⟨(some 44), .bin .gtr (.t 43) (.c (.v (.int .i64 10))), some (42, false)⟩,
     ⟨(some 45), .pick (.t 42) (.c (.v (.bool true))) (.t 44), none⟩] .done)
   (.cond (.t 45)
    (.seq (.ops false [⟨(some 46), .mov (.t 10), none⟩,
       ⟨(some 47), .eqp 0 true false (.t 46) (.c (.v (.pointer none))), none⟩,
       ⟨(some 48), .mov (.t 47), none⟩,
       ⟨(some 49), .mov (.t 11), some (48, true)⟩,
       ⟨(some 50), .call 18 [(.t 49), (.c (.v (.int .i64 106)))], some (48, true)⟩,
       ⟨(some 51), .pick (.t 48) (.t 50) (.c (.v (.bool false))), none⟩,
       ⟨(some 8), .mov (.t 51), none⟩] .done)
     .ret)
    .skip))
  (.seq (.seq (.ops false [⟨(some 52), .mov (.t 10), none⟩,
     ⟨(some 53), .eqp 0 true false (.t 52) (.c (.v (.pointer none))), none⟩,
     ⟨(some 54), .mov (.t 53), none⟩,
     ⟨(some 55), .mov (.t 11), some (54, false)⟩,
     ⟨(some 56), .eqp 1 true true (.t 55) (.c (.v .nilIface)), some (54, false)⟩,
     ⟨(some 57), .pick (.t 54) (.c (.v (.bool true))) (.t 56), none⟩] .done)
   (.cond (.t 57)
    (.seq (.ops false [⟨(some 8), .mov (.c (.v (.bool false))), none⟩] .done)
     .ret)
    .skip))
  (.seq (.ops false [⟨(some 58), .mov (.t 0), none⟩,
    ⟨(some 59), .mov (.t 1), none⟩,
    ⟨(some 60), .call 19 [(.t 58), (.t 59)], none⟩,
    ⟨(some 12), .mov (.t 60), none⟩] .done)
  (.seq (.seq (.ops false [⟨(some 13), .mov (.c (.v (.int .i64 0))), none⟩] .done)
   (.block 0 (.loop (.seq (.seq (.ops false [⟨(some 61), .mov (.t 13), none⟩,
        ⟨(some 62), .mov (.t 2), none⟩,
        ⟨(some 63), .len (.t 62), none⟩,
        ⟨(some 64), .bin .lss (.t 61) (.t 63), none⟩] .done)
      (.cond (.t 64)
       .skip
       (.exit 0)))
     (.seq (.block 1 (.seq (.ops false [⟨(some 67), .mov (.t 2), none⟩,
         ⟨(some 68), .mov (.t 13), none⟩,
         ⟨(some 69), .idx 4 (.t 67) (.t 68), none⟩,
         ⟨(some 70), .load (some 4) (.t 69), none⟩,
         ⟨(some 14), .box 54 (.c (.agg [(.v (.int .i64 0)), (.v (.int .u32 0)), (.v (.int .u32 0)), (.v (.bool false))])), none⟩,
         ⟨none, .store 4 (.t 14) (.t 70), none⟩] .done)
       (.seq (.seq (.ops false [⟨(some 71), .fld 0 (.t 14), none⟩,
          ⟨(some 72), .load none (.t 71), none⟩] .done)
        (.block 2 (.seq (.ops false [⟨(some 95), .bin .eql (.t 72) (.c (.v (.int .i64 1))), none⟩,
           ⟨(some 94), .mov (.t 95), none⟩] .done)
         (.cond (.t 94)
          (.seq (.ops true [⟨(some 96), .mov (.t 10), none⟩,
             ⟨(some 97), .nilck (.t 96), none⟩,
             ⟨(some 98), .fld 0 (.t 97), none⟩,
             ⟨(some 99), .load none (.t 98), none⟩,
             ⟨(some 100), .fld 1 (.t 14), none⟩,
             ⟨(some 101), .load none (.t 100), none⟩,
             ⟨(some 102), .fld 3 (.t 14), none⟩,
             ⟨(some 103), .load none (.t 102), none⟩,
             ⟨(some 104), .call 9 [(.t 99), (.t 101), (.t 103)], none⟩] (.take 0 [0, 1, 2, 3, 8] (.take 1 [1, 2, 3, 8] (.take 2 [2, 3, 8] (.take 3 [3, 8] (.take 4 [4, 5, 8] (.take 5 [5, 8] (.take 6 [6, 7, 8] (.take 7 [7, 8] (.eff false 8 .done))))))))))
           (.ops false [⟨(some 105), .mov (.t 12), none⟩,
            ⟨(some 106), .fld 1 (.t 14), none⟩,
            ⟨(some 107), .load none (.t 106), none⟩,
            ⟨(some 108), .fld 3 (.t 14), none⟩,
            ⟨(some 109), .load none (.t 108), none⟩,
            ⟨(some 110), .call 20 [(.t 105), (.t 107), (.t 109)], none⟩] .done))
          (.seq (.ops false [⟨(some 112), .bin .eql (.t 72) (.c (.v (.int .i64 2))), none⟩,
             ⟨(some 111), .mov (.t 112), none⟩] .done)
           (.cond (.t 111)
            (.seq (.ops true [⟨(some 113), .mov (.t 10), none⟩,
               ⟨(some 114), .nilck (.t 113), none⟩,
               ⟨(some 115), .fld 1 (.t 114), none⟩,
               ⟨(some 116), .load none (.t 115), none⟩,
               ⟨(some 117), .fld 1 (.t 14), none⟩,
               ⟨(some 118), .load none (.t 117), none⟩,
               ⟨(some 119), .fld 2 (.t 14), none⟩,
               ⟨(some 120), .load none (.t 119), none⟩,
               ⟨(some 121), .call 12 [(.t 116), (.t 118), (.t 120)], none⟩] (.take 0 [0, 1, 2, 3, 8] (.take 1 [1, 2, 3, 8] (.take 2 [2, 3, 8] (.take 3 [3, 8] (.take 4 [4, 5, 8] (.take 5 [5, 8] (.take 6 [6, 7, 8] (.take 7 [7, 8] (.eff false 8 .done))))))))))
             (.ops false [⟨(some 122), .mov (.t 12), none⟩,
              ⟨(some 123), .fld 1 (.t 14), none⟩,
              ⟨(some 124), .load none (.t 123), none⟩,
              ⟨(some 125), .fld 2 (.t 14), none⟩,
              ⟨(some 126), .load none (.t 125), none⟩,
              ⟨(some 127), .call 21 [(.t 122), (.t 124), (.t 126)], none⟩] .done))
            (.seq (.ops false [⟨(some 129), .bin .eql (.t 72) (.c (.v (.int .i64 3))), none⟩,
               ⟨(some 128), .mov (.t 129), none⟩] .done)
             (.cond (.t 128)
              (.seq (.ops true [⟨(some 130), .mov (.t 10), none⟩,
                 ⟨(some 131), .nilck (.t 130), none⟩,
                 ⟨(some 132), .fld 2 (.t 131), none⟩,
                 ⟨(some 133), .load none (.t 132), none⟩,
                 ⟨(some 134), .fld 1 (.t 14), none⟩,
                 ⟨(some 135), .load none (.t 134), none⟩,
                 ⟨(some 136), .call 15 [(.t 133), (.t 135)], none⟩] (.take 0 [0, 1, 2, 3, 6] (.take 1 [1, 2, 3, 6] (.take 2 [2, 3, 6] (.take 3 [3, 6] (.take 4 [4, 5, 6] (.take 5 [5, 6] (.eff false 6 .done))))))))
               (.ops false [⟨(some 137), .mov (.t 12), none⟩,
                ⟨(some 138), .fld 1 (.t 14), none⟩,
                ⟨(some 139), .load none (.t 138), none⟩,
                ⟨(some 140), .call 22 [(.t 137), (.t 139)], none⟩] .done))
              (.seq (.ops false [⟨(some 74), .mov (.t 10), none⟩,
                 ⟨(some 75), .nilck (.t 74), none⟩,
                 ⟨(some 76), .fld 2 (.t 75), none⟩,
                 ⟨(some 77), .load none (.t 76), none⟩,
                 ⟨(some 78), .call 17 [(.t 77)], none⟩,
                 ⟨(some 73), .mov (.t 78), none⟩,
                 ⟨(some 79), .ext (.t 73) 0, none⟩,
                 ⟨(some 80), .ext (.t 73) 1, none⟩,
                 ⟨(some 15), .mov (.t 79), none⟩,
                 ⟨(some 16), .mov (.t 80), none⟩] .done)
               (.seq (.ops false [⟨(some 82), .mov (.t 12), none⟩,
                 ⟨(some 83), .call 23 [(.t 82)], none⟩,
                 ⟨(some 81), .mov (.t 83), none⟩,
                 ⟨(some 84), .ext (.t 81) 0, none⟩,
                 ⟨(some 85), .ext (.t 81) 1, none⟩,
                 ⟨(some 17), .mov (.t 84), none⟩,
                 ⟨(some 18), .mov (.t 85), none⟩] .done)
               (.seq (.ops false [⟨(some 86), .mov (.t 15), none⟩,
                 ⟨(some 87), .mov (.t 17), none⟩,
                 ⟨(some 88), .bin .neq (.t 86) (.t 87), none⟩,
                 ⟨(some 89), .mov (.t 88), none⟩,
                 ⟨(some 90), .mov (.t 16), some (89, false)⟩,
                 ⟨(some 91), .mov (.t 18), some (89, false)⟩,
                 ⟨(some 92), .eqb true (.t 90) (.t 91), some (89, false)⟩,
                 ⟨(some 93), .pick (.t 89) (.c (.v (.bool true))) (.t 92), none⟩] .done)
               (.cond (.t 93)
                (.seq (.ops false [⟨(some 8), .mov (.c (.v (.bool false))), none⟩] .done)
                 .ret)
                .skip))))))))))))
       (.seq (.ops false [⟨(some 142), .mov (.t 10), none⟩,
         ⟨(some 143), .nilck (.t 142), none⟩,
         ⟨(some 144), .fld 1 (.t 143), none⟩,
         ⟨(some 145), .load none (.t 144), none⟩,
         ⟨(some 146), .mov (.t 3), none⟩,
         ⟨(some 147), .call 13 [(.t 145), (.t 146)], none⟩,
         ⟨(some 141), .mov (.t 147), none⟩,
         ⟨(some 148), .ext (.t 141) 0, none⟩,
         ⟨(some 149), .ext (.t 141) 1, none⟩,
         ⟨(some 19), .mov (.t 148), none⟩,
         ⟨(some 20), .mov (.t 149), none⟩] .done)
       (.seq (.ops false [⟨(some 151), .mov (.t 12), none⟩,
         ⟨(some 152), .mov (.t 3), none⟩,
         ⟨(some 153), .call 24 [(.t 151), (.t 152)], none⟩,
         ⟨(some 150), .mov (.t 153), none⟩,
         ⟨(some 154), .ext (.t 150) 0, none⟩,
         ⟨(some 155), .ext (.t 150) 1, none⟩,
         ⟨(some 21), .mov (.t 154), none⟩,
         ⟨(some 22), .mov (.t 155), none⟩] .done)
       (.seq (.ops true [⟨(some 156), .mov (.t 10), none⟩,
         ⟨(some 157), .nilck (.t 156), none⟩,
         ⟨(some 158), .fld 0 (.t 157), none⟩,
         ⟨(some 159), .load none (.t 158), none⟩,
         ⟨(some 160), .mov (.t 3), none⟩,
         ⟨(some 161), .call 10 [(.t 159), (.t 160)], none⟩,
         ⟨(some 162), .mov (.t 12), none⟩,
         ⟨(some 163), .mov (.t 3), none⟩,
         ⟨(some 164), .call 25 [(.t 162), (.t 163)], none⟩,
         ⟨(some 165), .eqb true (.t 161) (.t 164), none⟩,
         ⟨(some 166), .mov (.t 165), none⟩,
         ⟨(some 167), .mov (.t 10), some (166, false)⟩,
         ⟨(some 168), .nilck (.t 167), some (166, false)⟩,
         ⟨(some 169), .fld 0 (.t 168), some (166, false)⟩,
         ⟨(some 170), .load none (.t 169), some (166, false)⟩,
         ⟨(some 171), .call 11 [(.t 170)], some (166, false)⟩,
         ⟨(some 172), .mov (.t 12), some (166, false)⟩,
         ⟨(some 173), .nilck (.t 172), some (166, false)⟩,
         ⟨(some 174), .fld 2 (.t 173), some (166, false)⟩,
         ⟨(some 175), .load none (.t 174), some (166, false)⟩,
         ⟨(some 176), .bin .neq (.t 171) (.t 175), some (166, false)⟩,
         ⟨(some 177), .pick (.t 166) (.c (.v (.bool true))) (.t 176), none⟩,
         ⟨(some 178), .mov (.t 177), none⟩,
         ⟨(some 179), .mov (.t 19), some (178, false)⟩,
         ⟨(some 180), .mov (.t 21), some (178, false)⟩,
         ⟨(some 181), .bin .neq (.t 179) (.t 180), some (178, false)⟩,
         ⟨(some 182), .pick (.t 178) (.c (.v (.bool true))) (.t 181), none⟩,
         ⟨(some 183), .mov (.t 182), none⟩,
         ⟨(some 184), .mov (.t 20), some (183, false)⟩,
         ⟨(some 185), .mov (.t 22), some (183, false)⟩,
         ⟨(some 186), .eqb true (.t 184) (.t 185), some (183, false)⟩,
         ⟨(some 187), .pick (.t 183) (.c (.v (.bool true))) (.t 186), none⟩,
         ⟨(some 188), .mov (.t 187), none⟩,
         ⟨(some 189), .mov (.t 10), some (188, false)⟩,
         ⟨(some 190), .nilck (.t 189), some (188, false)⟩,
         ⟨(some 191), .fld 2 (.t 190), some (188, false)⟩,
         ⟨(some 192), .load none (.t 191), some (188, false)⟩,
         ⟨(some 193), .call 16 [(.t 192)], some (188, false)⟩,
         ⟨(some 194), .mov (.t 12), some (188, false)⟩,
         ⟨(some 195), .nilck (.t 194), some (188, false)⟩,
         ⟨(some 196), .fld 6 (.t 195), some (188, false)⟩,
         ⟨(some 197), .load none (.t 196), some (188, false)⟩,
         ⟨(some 198), .len (.t 197), some (188, false)⟩,
         ⟨(some 199), .bin .neq (.t 193) (.t 198), some (188, false)⟩,
         ⟨(some 200), .pick (.t 188) (.c (.v (.bool true))) (.t 199), none⟩,
         ⟨(some 201), .mov (.t 200), none⟩,
         ⟨(some 202), .mov (.t 10), some (201, false)⟩,
         ⟨(some 203), .mov (.t 3), some (201, false)⟩,
         ⟨(some 204), .call 14 [(.t 202), (.t 203)], some (201, false)⟩,
         ⟨(some 205), .mov (.t 12), some (201, false)⟩,
         ⟨(some 206), .mov (.t 3), some (201, false)⟩,
         ⟨(some 207), .call 26 [(.t 205), (.t 206)], some (201, false)⟩,
         ⟨(some 208), .bin .neq (.t 204) (.t 207), some (201, false)⟩,
         ⟨(some 209), .pick (.t 201) (.c (.v (.bool true))) (.t 208), none⟩] (.take 0 [0, 1, 2, 3, 5, 8, 9, 10, 11, 12, 13, 14, 15, 16, 17, 18, 19, 20, 21, 22, 23, 24, 25, 26, 27, 28, 29, 30, 31, 32, 33, 34, 35, 36, 37, 38, 39, 40, 41, 42, 43, 44, 45, 46, 47, 48, 49, 50, 51, 52, 53] (.take 1 [1, 2, 3, 5, 8, 9, 10, 11, 12, 13, 14, 15, 16, 17, 18, 19, 20, 21, 22, 23, 24, 25, 26, 27, 28, 29, 30, 31, 32, 33, 34, 35, 36, 37, 38, 39, 40, 41, 42, 43, 44, 45, 46, 47, 48, 49, 50, 51, 52, 53] (.take 2 [2, 3, 5, 8, 9, 10, 11, 12, 13, 14, 15, 16, 17, 18, 19, 20, 21, 22, 23, 24, 25, 26, 27, 28, 29, 30, 31, 32, 33, 34, 35, 36, 37, 38, 39, 40, 41, 42, 43, 44, 45, 46, 47, 48, 49, 50, 51, 52, 53] (.take 3 [3, 5, 8, 9, 10, 11, 12, 13, 14, 15, 16, 17, 18, 19, 20, 21, 22, 23, 24, 25, 26, 27, 28, 29, 30, 31, 32, 33, 34, 35, 36, 37, 38, 39, 40, 41, 42, 43, 44, 45, 46, 47, 48, 49, 50, 51, 52, 53] (.take 4 [4, 5, 8, 9, 10, 11, 12, 13, 14, 15, 16, 17, 18, 19, 20, 21, 22, 23, 24, 25, 26, 27, 28, 29, 30, 31, 32, 33, 34, 35, 36, 37, 38, 39, 40, 41, 42, 43, 44, 45, 46, 47, 48, 49, 50, 51, 52, 53] (.take 6 [6, 8, 9, 10, 11, 12, 13, 14, 15, 16, 17, 18, 19, 20, 21, 22, 23, 24, 25, 26, 27, 28, 29, 30, 31, 32, 33, 34, 35, 36, 37, 38, 39, 40, 41, 42, 43, 44, 45, 46, 47, 48, 49, 50, 51, 52, 53] (.take 7 [7, 8, 9, 10, 11, 12, 13, 14, 15, 16, 17, 18, 19, 20, 21, 22, 23, 24, 25, 26, 27, 28, 29, 30, 31, 32, 33, 34, 35, 36, 37, 38, 39, 40, 41, 42, 43, 44, 45, 46, 47, 48, 49, 50, 51, 52, 53] (.eff true 5 (.eff true 8 (.take 9 [9, 10, 11, 12, 13, 14, 15, 16, 17, 18, 19, 20, 21, 22, 23, 24, 25, 26, 27, 28, 29, 30, 31, 32, 33, 34, 35, 36, 37, 38, 39, 40, 41, 42, 43, 44, 45, 46, 47, 48, 49, 50, 51, 52, 53] (.take 10 [10, 11, 12, 13, 14, 15, 16, 17, 18, 19, 20, 21, 22, 23, 24, 25, 26, 27, 28, 29, 30, 31, 32, 33, 34, 35, 36, 37, 38, 39, 40, 41, 42, 43, 44, 45, 46, 47, 48, 49, 50, 51, 52, 53] (.take 11 [11, 12, 13, 14, 15, 20, 22, 21, 23, 24, 25, 26, 27, 28, 29, 30, 31, 32, 33, 34, 35, 36, 37, 38, 39, 40, 41, 42, 43, 44, 45, 46, 47, 48, 49, 50, 51, 52, 53] (.take 12 [12, 13, 14, 15, 20, 22, 21, 23, 24, 25, 26, 27, 28, 29, 30, 31, 32, 33, 34, 35, 36, 37, 38, 39, 40, 41, 42, 43, 44, 45, 46, 47, 48, 49, 50, 51, 52, 53] (.take 13 [13, 14, 15, 20, 22, 21, 23, 24, 25, 26, 27, 28, 29, 30, 31, 32, 33, 34, 35, 36, 37, 38, 39, 40, 41, 42, 43, 44, 45, 46, 47, 48, 49, 50, 51, 52, 53] (.take 14 [14, 15, 20, 22, 21, 23, 24, 25, 26, 27, 28, 29, 30, 31, 32, 33, 34, 35, 36, 37, 38, 39, 40, 41, 42, 43, 44, 45, 46, 47, 48, 49, 50, 51, 52, 53] (.take 16 [16, 17, 18, 19, 20, 21, 22, 23, 24, 25, 26, 27, 28, 29, 30, 31, 32, 33, 34, 35, 36, 37, 38, 39, 40, 41, 42, 43, 44, 45, 46, 47, 48, 49, 50, 51, 52, 53] (.take 17 [17, 18, 19, 20, 21, 22, 23, 24, 25, 26, 27, 28, 29, 30, 31, 32, 33, 34, 35, 36, 37, 38, 39, 40, 41, 42, 43, 44, 45, 46, 47, 48, 49, 50, 51, 52, 53] (.take 18 [18, 19, 20, 21, 22, 23, 24, 25, 26, 27, 28, 29, 30, 31, 32, 33, 34, 35, 36, 37, 38, 39, 40, 41, 42, 43, 44, 45, 46, 47, 48, 49, 50, 51, 52, 53] (.take 19 [19, 20, 21, 22, 23, 24, 25, 26, 27, 28, 29, 30, 31, 32, 33, 34, 35, 36, 37, 38, 39, 40, 41, 42, 43, 44, 45, 46, 47, 48, 49, 50, 51, 52, 53] (.eff true 15 (.take 20 [20, 21, 22, 23, 24, 25, 26, 27, 28, 29, 30, 31, 32, 33, 34, 35, 36, 37, 38, 39, 40, 41, 42, 43, 44, 45, 46, 47, 48, 49, 50, 51, 52, 53] (.take 21 [21, 22, 23, 24, 25, 26, 27, 28, 29, 30, 31, 32, 33, 34, 35, 36, 37, 38, 39, 40, 41, 42, 43, 44, 45, 46, 47, 48, 49, 50, 51, 52, 53] (.take 22 [22, 23, 24, 25, 26, 27, 28, 29, 30, 31, 32, 33, 34, 35, 36, 37, 38, 39, 40, 41, 42, 43, 44, 45, 46, 47, 48, 49, 50, 51, 52, 53] (.take 23 [23, 25, 26, 27, 28, 29, 30, 31, 32, 33, 34, 35, 36, 37, 38, 39, 40, 41, 42, 43, 44, 45, 46, 47, 48, 49, 50, 51, 52, 53] (.take 24 [24, 25, 26, 27, 28, 29, 30, 31, 32, 33, 34, 35, 36, 37, 38, 39, 40, 41, 42, 43, 44, 45, 46, 47, 48, 49, 50, 51, 52, 53] (.take 25 [25, 26, 27, 28, 29, 30, 31, 32, 33, 34, 35, 36, 37, 38, 39, 40, 41, 42, 43, 44, 45, 46, 47, 48, 49, 50, 51, 52, 53] (.take 26 [26, 27, 28, 29, 30, 31, 32, 33, 34, 35, 36, 37, 38, 39, 40, 41, 42, 43, 44, 45, 46, 47, 48, 49, 50, 51, 52, 53] (.take 27 [27, 28, 29, 30, 31, 32, 33, 34, 35, 36, 37, 38, 39, 40, 41, 42, 43, 44, 45, 46, 47, 48, 49, 50, 51, 52, 53] (.take 28 [28, 30, 31, 32, 33, 34, 35, 36, 37, 38, 39, 40, 41, 42, 43, 44, 45, 46, 47, 48, 49, 50, 51, 52, 53] (.take 29 [29, 30, 31, 32, 33, 34, 35, 36, 37, 38, 39, 40, 41, 42, 43, 44, 45, 46, 47, 48, 49, 50, 51, 52, 53] (.take 30 [30, 31, 32, 33, 34, 35, 36, 37, 38, 39, 40, 41, 42, 43, 44, 45, 46, 47, 48, 49, 50, 51, 52, 53] (.take 31 [31, 32, 33, 34, 35, 36, 37, 38, 39, 40, 41, 42, 43, 44, 45, 46, 47, 48, 49, 50, 51, 52, 53] (.take 32 [32, 33, 34, 35, 36, 37, 38, 39, 40, 41, 42, 43, 44, 45, 46, 47, 48, 49, 50, 51, 52, 53] (.take 33 [33, 34, 35, 36, 37, 43, 45, 44, 46, 47, 48, 49, 50, 51, 52, 53] (.take 34 [34, 35, 36, 37, 43, 45, 44, 46, 47, 48, 49, 50, 51, 52, 53] (.take 35 [35, 36, 37, 43, 45, 44, 46, 47, 48, 49, 50, 51, 52, 53] (.take 36 [36, 37, 43, 45, 44, 46, 47, 48, 49, 50, 51, 52, 53] (.take 38 [38, 39, 40, 41, 42, 43, 44, 45, 46, 47, 48, 49, 50, 51, 52, 53] (.take 39 [39, 40, 41, 42, 43, 44, 45, 46, 47, 48, 49, 50, 51, 52, 53] (.take 40 [40, 41, 42, 43, 44, 45, 46, 47, 48, 49, 50, 51, 52, 53] (.take 41 [41, 42, 43, 44, 45, 46, 47, 48, 49, 50, 51, 52, 53] (.take 42 [42, 43, 44, 45, 46, 47, 48, 49, 50, 51, 52, 53] (.eff true 37 (.take 43 [43, 44, 45, 46, 47, 48, 49, 50, 51, 52, 53] (.take 44 [44, 45, 46, 47, 48, 49, 50, 51, 52, 53] (.take 45 [45, 46, 47, 48, 49, 50, 51, 52, 53] (.take 46 [46, 48, 51, 52, 53] (.take 47 [47, 48, 51, 52, 53] (.take 49 [49, 51, 52, 53] (.take 50 [50, 51, 52, 53] (.eff true 48 (.eff true 51 (.take 52 [52, 53] (.take 53 [53] .done)))))))))))))))))))))))))))))))))))))))))))))))))))))))
       (.cond (.t 209)
        (.seq (.ops false [⟨(some 8), .mov (.c (.v (.bool false))), none⟩] .done)
         .ret)
        .skip)))))))
     (.ops false [⟨(some 65), .mov (.t 13), none⟩,
      ⟨(some 66), .bin .add (.t 65) (.c (.v (.int .i64 1))), none⟩,
      ⟨(some 13), .mov (.t 66), none⟩] .done))))))
  (.seq (.ops false [⟨(some 8), .mov (.c (.v (.bool true))), none⟩] .done)
  .ret))))))))))⟩
theorem pf6_eq : (Tryd.f6.body.map fun c => (cfn Tryd.prog pl6 Tryd.f6 c, guardsAll pl6 c)) = some (pf6, true) := by kernel_rfl

/-- corral/corrallaw22.first  sizes [] -/
def pl7 : Nat → DT := dtGet []
def pf7 : PFn := ⟨39, [.t 0], (.seq (.ops false [⟨(some 0), .mov (.c (.v (.bool false))), none⟩] .done)
  (.seq (.ops false [⟨(some 5), .call 8 [(.c (.v (.int .i64 2))), (.c (.v (.int .u32 0)))], none⟩,
    ⟨(some 4), .mov (.t 5), none⟩,
    ⟨(some 6), .ext (.t 4) 0, none⟩,
    ⟨(some 7), .ext (.t 4) 1, none⟩,
    ⟨(some 1), .mov (.t 6), none⟩,
    ⟨(some 2), .mov (.t 7), none⟩] .done)
  (.seq (.seq (.ops false [⟨(some 8), .mov (.t 1), none⟩,
     ⟨(some 9), .eqp 0 true false (.t 8) (.c (.v (.pointer none))), none⟩,
     ⟨(some 10), .mov (.t 9), none⟩,
     ⟨(some 11), .mov (.t 2), some (10, false)⟩,
     ⟨(some 12), .eqp 1 true true (.t 11) (.c (.v .nilIface)), some (10, false)⟩,
     ⟨(some 13), .pick (.t 10) (.c (.v (.bool true))) (.t 12), none⟩] .done)
   (.cond (.t 13)
    (.seq (.ops false [⟨(some 0), .mov (.c (.v (.bool false))), none⟩] .done)
     .ret)
    .skip))
  (.seq (.ops false [⟨(some 14), .mov (.t 1), none⟩,
    ⟨(some 15), .nilck (.t 14), none⟩,
    ⟨(some 16), .fld 0 (.t 15), none⟩,
    ⟨(some 17), .load none (.t 16), none⟩,
    ⟨(some 18), .call 10 [(.t 17), (.c (.v (.int .u32 0)))], none⟩,
    ⟨(some 3), .mov (.t 18), none⟩] .done)
  (.seq (.ops false [⟨(some 19), .mov (.t 1), none⟩,
    ⟨(some 20), .nilck (.t 19), none⟩,
    ⟨(some 21), .fld 0 (.t 20), none⟩,
    ⟨(some 22), .load none (.t 21), none⟩,
    ⟨(some 23), .call 9 [(.t 22), (.c (.v (.int .u32 0))), (.c (.v (.bool true)))], none⟩] .done)
  (.seq (.ops false [⟨(some 24), .mov (.t 1), none⟩,
    ⟨(some 25), .nilck (.t 24), none⟩,
    ⟨(some 26), .fld 0 (.t 25), none⟩,
    ⟨(some 27), .load none (.t 26), none⟩,
    ⟨(some 28), .call 9 [(.t 27), (.c (.v (.int .u32 0))), (.c (.v (.bool true)))], none⟩] .done)
  (.seq (.ops false [⟨(some 29), .mov (.t 3), none⟩,
    ⟨(some 30), .un .not (.t 29), none⟩,
    ⟨(some 31), .mov (.t 30), none⟩,
    ⟨(some 32), .mov (.t 1), some (31, true)⟩,
    ⟨(some 33), .nilck (.t 32), some (31, true)⟩,
    ⟨(some 34), .fld 0 (.t 33), some (31, true)⟩,
    ⟨(some 35), .load none (.t 34), some (31, true)⟩,
    ⟨(some 36), .call 11 [(.t 35)], some (31, true)⟩,
    ⟨(some 37), .bin .eql (.t 36) (.c (.v (.int .u32 3))), some (31, true)⟩,
    ⟨(some 38), .pick (.t 31) (.t 37) (.c (.v (.bool false))), none⟩,
    ⟨(some 0), .mov (.t 38), none⟩] .done)
  .ret)))))))⟩
theorem pf7_eq : (Tryd.f7.body.map fun c => (cfn Tryd.prog pl7 Tryd.f7 c, guardsAll pl7 c)) = some (pf7, true) := by kernel_rfl

/-- corral/pred.New  sizes [(2, 4), (7, 14)] -/
def pl8 : Nat → DT := dtGet [(2, (.take 0 [0, 2] (.take 1 [1, 2] (.take 2 [2] .done)))), (7, (.take 0 [0, 1, 11, 12, 2, 3] (.take 1 [1, 2, 11, 12, 3] (.take 2 [2, 3, 11, 12] (.take 3 [3, 11, 12] (.take 4 [4, 11, 12] (.take 5 [5, 9, 11, 12, 10] (.take 6 [6, 7, 11, 12, 8, 9, 10] (.take 7 [7, 8, 11, 12, 9, 10] (.take 8 [8, 9, 11, 12, 10] (.eff true 9 (.take 10 [10, 11, 12] (.take 11 [11, 12] (.eff false 12 .done))))))))))))))]
def pf8 : PFn := ⟨53, [.t 4, .t 5], (.seq (.ops false [⟨(some 4), .mov (.c (.v (.pointer none))), none⟩,
    ⟨(some 5), .mov (.c (.v .nilIface)), none⟩] .done)
  (.seq (.seq (.ops false [⟨(some 8), .mov (.t 0), none⟩,
     ⟨(some 9), .bin .lss (.t 8) (.c (.v (.int .i64 1))), none⟩,
     ⟨(some 10), .mov (.t 9), none⟩,
     ⟨(some 11), .mov (.t 0), some (10, false)⟩,
     ⟨(some 12), .bin .gtr (.t 11) (.c (.v (.int .i64 10))), some (10, false)⟩,
     ⟨(some 13), .pick (.t 10) (.c (.v (.bool true))) (.t 12), none⟩] .done)
   (.cond (.t 13)
    (.seq (.ops true [⟨(some 14), .load none (.c (.v (.pointer (some ⟨0, 0, none⟩)))), none⟩,
       ⟨(some 4), .mov (.c (.v (.pointer none))), none⟩,
       ⟨(some 5), .mov (.t 14), none⟩] (.take 0 [0, 2] (.take 1 [1, 2] (.take 2 [2] .done))))
     .ret)
    .skip))
  (.seq (.ops false [⟨(some 15), .mov (.t 0), none⟩,
    ⟨(some 16), .mov (.t 0), none⟩,
    ⟨(some 17), .bin .shl (.c (.v (.int .i64 1))) (.t 16), none⟩,
    ⟨(some 18), .mslice 5 [.int .u8] [(.int .u8 0)] 1 (.t 17) (.t 17), none⟩,
    ⟨(some 19), .build [(.v (.int .i64 0)), (.v (.slice none 0 0)), (.v (.int .u32 0))] [(0, 1, (.t 15)), (1, 1, (.t 18))], none⟩,
    ⟨(some 20), .box 62 (.t 19), none⟩,
    ⟨(some 6), .mov (.t 20), none⟩] .done)
  (.seq (.seq (.ops false [⟨(some 21), .mov (.t 6), none⟩,
     ⟨(some 22), .nilck (.t 21), none⟩,
     ⟨(some 23), .fld 1 (.t 22), none⟩,
     ⟨(some 24), .load none (.t 23), none⟩,
     ⟨(some 25), .len (.t 24), none⟩,
     ⟨(some 26), .mov (.c (.v (.int .i64 0))), none⟩] .done)
   (.block 0 (.loop (.seq (.ops false [⟨(some 27), .bin .lss (.t 26) (.t 25), none⟩] .done)
     (.seq (.cond (.t 27)
       .skip
       (.exit 0))
     (.seq (.block 1 (.seq (.ops false [⟨(some 28), .mov (.t 26), none⟩,
         ⟨(some 7), .mov (.t 28), none⟩] .done)
       (.ops true [⟨(some 29), .mov (.t 6), none⟩,
        ⟨(some 30), .nilck (.t 29), none⟩,
        ⟨(some 31), .fld 1 (.t 30), none⟩,
        ⟨(some 32), .load none (.t 31), none⟩,
        ⟨(some 33), .mov (.t 7), none⟩,
        ⟨(some 34), .mov (.t 1), none⟩,
        ⟨(some 35), .mov (.t 7), none⟩,
        ⟨(some 36), .bin .rem (.t 35) (.c (.v (.int .i64 16))), none⟩,
        ⟨(some 37), .bin .mul (.c (.v (.int .i64 2))) (.t 36), none⟩,
        ⟨(some 38), .call 27 [(.t 34), (.t 37), (.c (.v (.int .i64 2)))], none⟩,
        ⟨(some 39), .conv .u8 (.t 38), none⟩,
        ⟨(some 40), .idx 1 (.t 32) (.t 33), none⟩,
        ⟨none, .store 1 (.t 40) (.t 39), none⟩] (.take 0 [0, 1, 11, 12, 2, 3] (.take 1 [1, 2, 11, 12, 3] (.take 2 [2, 3, 11, 12] (.take 3 [3, 11, 12] (.take 4 [4, 11, 12] (.take 5 [5, 9, 11, 12, 10] (.take 6 [6, 7, 11, 12, 8, 9, 10] (.take 7 [7, 8, 11, 12, 9, 10] (.take 8 [8, 9, 11, 12, 10] (.eff true 9 (.take 10 [10, 11, 12] (.take 11 [11, 12] (.eff false 12 .done))))))))))))))))
     (.ops false [⟨(some 41), .bin .add (.t 26) (.c (.v (.int .i64 1))), none⟩,
      ⟨(some 26), .mov (.t 41), none⟩] .done)))))))
  (.seq (.ops false [⟨(some 42), .mov (.t 6), none⟩,
    ⟨(some 43), .mov (.t 0), none⟩,
    ⟨(some 44), .mov (.t 0), none⟩,
    ⟨(some 45), .bin .shl (.c (.v (.int .i64 1))) (.t 44), none⟩,
    ⟨(some 46), .mslice 72 [.int .u32, .int .u32, .bool] [(.int .u32 0), (.int .u32 0), (.bool false)] 12 (.t 45) (.t 45), none⟩,
    ⟨(some 47), .build [(.v (.int .i64 0)), (.v (.slice none 0 0))] [(0, 1, (.t 43)), (1, 1, (.t 46))], none⟩,
    ⟨(some 48), .box 66 (.t 47), none⟩,
    ⟨(some 49), .build [(.v (.slice none 0 0))] [], none⟩,
    ⟨(some 50), .box 68 (.t 49), none⟩,
    ⟨(some 51), .build [(.v (.pointer none)), (.v (.pointer none)), (.v (.pointer none))] [(0, 1, (.t 42)), (1, 1, (.t 48)), (2, 1, (.t 50))], none⟩,
    ⟨(some 52), .box 34 (.t 51), none⟩,
    ⟨(some 4), .mov (.t 52), none⟩,
    ⟨(some 5), .mov (.c (.v .nilIface)), none⟩] .done)
  .ret)))))⟩
theorem pf8_eq : (Tryd.f8.body.map fun c => (cfn Tryd.prog pl8 Tryd.f8 c, guardsAll pl8 c)) = some (pf8, true) := by kernel_rfl

/-- (*corral/pred.Table).Learn  sizes [(1, 17)] -/
def pl9 : Nat → DT := dtGet [(1, (.take 0 [0, 13, 14, 15] (.take 1 [1, 2, 13, 14, 15, 3, 4, 5, 12] (.take 2 [2, 3, 13, 14, 15, 4, 5, 12] (.take 3 [3, 4, 13, 14, 15, 5, 12] (.take 4 [4, 5, 13, 14, 15, 12] (.take 5 [5, 12, 13, 14, 15] (.take 6 [6, 7, 13, 14, 15, 8, 9, 10, 11, 12] (.take 7 [7, 8, 13, 14, 15, 9, 10, 11, 12] (.take 8 [8, 9, 13, 14, 15, 10, 11, 12] (.take 9 [9, 10, 13, 14, 15, 11, 12] (.take 10 [10, 11, 13, 14, 15, 12] (.take 11 [11, 12, 13, 14, 15] (.take 12 [12, 13, 14, 15] (.take 13 [13, 14, 15] (.take 14 [14, 15] (.eff false 15 .done)))))))))))))))))]
def pf9 : PFn := ⟨51, [], (.seq (.ops false [⟨(some 7), .mov (.t 0), none⟩,
    ⟨(some 8), .mov (.t 1), none⟩,
    ⟨(some 9), .call 28 [(.t 7), (.t 8)], none⟩,
    ⟨(some 6), .mov (.t 9), none⟩] .done)
  (.seq (.ops true [⟨(some 10), .mov (.t 0), none⟩,
    ⟨(some 11), .mov (.t 0), none⟩,
    ⟨(some 12), .nilck (.t 11), none⟩,
    ⟨(some 13), .fld 2 (.t 12), none⟩,
    ⟨(some 14), .load none (.t 13), none⟩,
    ⟨(some 15), .bin .shl (.t 14) (.c (.v (.int .u64 1))), none⟩,
    ⟨(some 16), .mov (.t 0), none⟩,
    ⟨(some 17), .nilck (.t 16), none⟩,
    ⟨(some 18), .fld 0 (.t 17), none⟩,
    ⟨(some 19), .load none (.t 18), none⟩,
    ⟨(some 20), .bin .shl (.c (.v (.int .u32 1))) (.t 19), none⟩,
    ⟨(some 21), .bin .sub (.t 20) (.c (.v (.int .u32 1))), none⟩,
    ⟨(some 22), .bin .and (.t 15) (.t 21), none⟩,
    ⟨(some 23), .nilck (.t 10), none⟩,
    ⟨(some 24), .fld 2 (.t 23), none⟩,
    ⟨none, .store 1 (.t 24) (.t 22), none⟩] (.take 0 [0, 13, 14, 15] (.take 1 [1, 2, 13, 14, 15, 3, 4, 5, 12] (.take 2 [2, 3, 13, 14, 15, 4, 5, 12] (.take 3 [3, 4, 13, 14, 15, 5, 12] (.take 4 [4, 5, 13, 14, 15, 12] (.take 5 [5, 12, 13, 14, 15] (.take 6 [6, 7, 13, 14, 15, 8, 9, 10, 11, 12] (.take 7 [7, 8, 13, 14, 15, 9, 10, 11, 12] (.take 8 [8, 9, 13, 14, 15, 10, 11, 12] (.take 9 [9, 10, 13, 14, 15, 11, 12] (.take 10 [10, 11, 13, 14, 15, 12] (.take 11 [11, 12, 13, 14, 15] (.take 12 [12, 13, 14, 15] (.take 13 [13, 14, 15] (.take 14 [14, 15] (.eff false 15 .done)))))))))))))))))
  (.block 0 (.seq (.ops false [⟨(some 26), .mov (.t 2), none⟩,
     ⟨(some 25), .mov (.t 26), none⟩] .done)
   (.cond (.t 25)
    (.seq (.ops false [⟨(some 27), .mov (.t 6), none⟩,
       ⟨(some 28), .mov (.t 6), none⟩,
       ⟨(some 29), .nilck (.t 28), none⟩,
       ⟨(some 30), .load none (.t 29), none⟩,
       ⟨(some 31), .bin .add (.t 30) (.c (.v (.int .u8 1))), none⟩,
       ⟨(some 32), .minmax false [(.t 31), (.c (.v (.int .u8 3)))], none⟩,
       ⟨(some 33), .nilck (.t 27), none⟩,
       ⟨none, .store 1 (.t 33) (.t 32), none⟩] .done)
     (.ops false [⟨(some 34), .mov (.t 0), none⟩,
      ⟨(some 35), .nilck (.t 34), none⟩,
      ⟨(some 36), .fld 2 (.t 35), none⟩,
      ⟨(some 37), .load none (.t 36), none⟩,
      ⟨(some 38), .bin .or (.t 37) (.c (.v (.int .u32 1))), none⟩,
      ⟨(some 39), .nilck (.t 34), none⟩,
      ⟨(some 40), .fld 2 (.t 39), none⟩,
      ⟨none, .store 1 (.t 40) (.t 38), none⟩] .done))
    (.seq (.ops false [⟨(some 42), .mov (.t 6), none⟩,
       ⟨(some 43), .nilck (.t 42), none⟩,
       ⟨(some 44), .load none (.t 43), none⟩,
       ⟨(some 45), .bin .gtr (.t 44) (.c (.v (.int .u8 0))), none⟩,
       ⟨(some 41), .mov (.t 45), none⟩] .done)
     (.cond (.t 41)
      (.ops false [⟨(some 46), .mov (.t 6), none⟩,
        ⟨(some 47), .nilck (.t 46), none⟩,
        ⟨(some 48), .load none (.t 47), none⟩,
        ⟨(some 49), .bin .sub (.t 48) (.c (.v (.int .u8 1))), none⟩,
        ⟨(some 50), .nilck (.t 46), none⟩,
        ⟨none, .store 1 (.t 50) (.t 49), none⟩] .done)
      .skip)))))))⟩
theorem pf9_eq : (Tryd.f9.body.map fun c => (cfn Tryd.prog pl9 Tryd.f9 c, guardsAll pl9 c)) = some (pf9, true) := by kernel_rfl

/-- (*corral/pred.Table).Taken  sizes [] -/
def pl10 : Nat → DT := dtGet []
def pf10 : PFn := ⟨11, [.t 4], (.seq (.ops false [⟨(some 4), .mov (.c (.v (.bool false))), none⟩] .done)
  (.seq (.ops false [⟨(some 5), .mov (.t 0), none⟩,
    ⟨(some 6), .mov (.t 1), none⟩,
    ⟨(some 7), .call 28 [(.t 5), (.t 6)], none⟩,
    ⟨(some 8), .nilck (.t 7), none⟩,
    ⟨(some 9), .load none (.t 8), none⟩,
    ⟨(some 10), .bin .geq (.t 9) (.c (.v (.int .u8 2))), none⟩,
    ⟨(some 4), .mov (.t 10), none⟩] .done)
  .ret))⟩
theorem pf10_eq : (Tryd.f10.body.map fun c => (cfn Tryd.prog pl10 Tryd.f10 c, guardsAll pl10 c)) = some (pf10, true) := by kernel_rfl

/-- (*corral/pred.Table).History  sizes [] -/
def pl11 : Nat → DT := dtGet []
def pf11 : PFn := ⟨7, [.t 2], (.seq (.ops false [⟨(some 2), .mov (.c (.v (.int .u32 0))), none⟩] .done)
  (.seq (.ops false [⟨(some 3), .mov (.t 0), none⟩,
    ⟨(some 4), .nilck (.t 3), none⟩,
    ⟨(some 5), .fld 2 (.t 4), none⟩,
    ⟨(some 6), .load none (.t 5), none⟩,
    ⟨(some 2), .mov (.t 6), none⟩] .done)
  .ret))⟩
theorem pf11_eq : (Tryd.f11.body.map fun c => (cfn Tryd.prog pl11 Tryd.f11 c, guardsAll pl11 c)) = some (pf11, true) := by kernel_rfl

/-- (*corral/pred.Targets).Seen  sizes [] -/
def pl12 : Nat → DT := dtGet []
def pf12 : PFn := ⟨13, [], (.ops false [⟨(some 6), .mov (.t 0), none⟩,
   ⟨(some 7), .mov (.t 1), none⟩,
   ⟨(some 8), .call 29 [(.t 6), (.t 7)], none⟩,
   ⟨(some 9), .mov (.t 1), none⟩,
   ⟨(some 10), .mov (.t 2), none⟩,
   ⟨(some 11), .build [(.v (.int .u32 0)), (.v (.int .u32 0)), (.v (.bool false))] [(0, 1, (.t 9)), (1, 1, (.t 10)), (2, 1, (.c (.v (.bool true))))], none⟩,
   ⟨(some 12), .nilck (.t 8), none⟩,
   ⟨none, .store 3 (.t 12) (.t 11), none⟩] .done)⟩
theorem pf12_eq : (Tryd.f12.body.map fun c => (cfn Tryd.prog pl12 Tryd.f12 c, guardsAll pl12 c)) = some (pf12, true) := by kernel_rfl

/-- (*corral/pred.Targets).Target  sizes [] -/
def pl13 : Nat → DT := dtGet []
def pf13 : PFn := ⟨27, [.t 4, .t 5], (.seq (.ops false [⟨(some 4), .mov (.c (.v (.int .u32 0))), none⟩,
    ⟨(some 5), .mov (.c (.v (.bool false))), none⟩] .done)
  (.seq (.ops false [⟨(some 7), .mov (.t 0), none⟩,
    ⟨(some 8), .mov (.t 1), none⟩,
    ⟨(some 9), .call 29 [(.t 7), (.t 8)], none⟩,
    ⟨(some 6), .mov (.t 9), none⟩] .done)
  (.seq (.seq (.ops false [⟨(some 10), .mov (.t 6), none⟩,
     ⟨(some 11), .nilck (.t 10), none⟩,
     ⟨(some 12), .fld 2 (.t 11), none⟩,
     ⟨(some 13), .load none (.t 12), none⟩,
     ⟨(some 14), .un .not (.t 13), none⟩,
     ⟨(some 15), .mov (.t 14), none⟩,
     ⟨(some 16), .mov (.t 6), some (15, false)⟩,
     ⟨(some 17), .nilck (.t 16), some (15, false)⟩,
     ⟨(some 18), .fld 0 (.t 17), some (15, false)⟩,
     ⟨(some 19), .load none (.t 18), some (15, false)⟩,
     ⟨(some 20), .mov (.t 1), some (15, false)⟩,
     ⟨(some 21), .bin .neq (.t 19) (.t 20), some (15, false)⟩,
     ⟨(some 22), .pick (.t 15) (.c (.v (.bool true))) (.t 21), none⟩] .done)
   (.cond (.t 22)
    (.seq (.ops false [⟨(some 4), .mov (.c (.v (.int .u32 0))), none⟩,
       ⟨(some 5), .mov (.c (.v (.bool false))), none⟩] .done)
     .ret)
    .skip))
  (.seq (.ops false [⟨(some 23), .mov (.t 6), none⟩,
    ⟨(some 24), .nilck (.t 23), none⟩,
    ⟨(some 25), .fld 1 (.t 24), none⟩,
    ⟨(some 26), .load none (.t 25), none⟩,
    ⟨(some 4), .mov (.t 26), none⟩,
    ⟨(some 5), .mov (.c (.v (.bool true))), none⟩] .done)
  .ret))))⟩
theorem pf13_eq : (Tryd.f13.body.map fun c => (cfn Tryd.prog pl13 Tryd.f13 c, guardsAll pl13 c)) = some (pf13, true) := by kernel_rfl

/-- (*corral/pred.Pred).Next  sizes [] -/
def pl14 : Nat → DT := dtGet []
def pf14 : PFn := ⟨28, [.t 4], (.seq (.ops false [⟨(some 4), .mov (.c (.v (.int .u32 0))), none⟩] .done)
  (.seq (.seq (.ops false [⟨(some 8), .mov (.t 0), none⟩,
     ⟨(some 9), .nilck (.t 8), none⟩,
     ⟨(some 10), .fld 1 (.t 9), none⟩,
     ⟨(some 11), .load none (.t 10), none⟩,
     ⟨(some 12), .mov (.t 1), none⟩,
     ⟨(some 13), .call 13 [(.t 11), (.t 12)], none⟩,
     ⟨(some 7), .mov (.t 13), none⟩,
     ⟨(some 14), .ext (.t 7) 0, none⟩,
     ⟨(some 15), .ext (.t 7) 1, none⟩,
     ⟨(some 5), .mov (.t 14), none⟩,
     ⟨(some 6), .mov (.t 15), none⟩] .done)
   (.seq (.ops false [⟨(some 16), .mov (.t 6), none⟩,
     ⟨(some 17), .mov (.t 16), none⟩,
     ⟨(some 18), .mov (.t 0), some (17, true)⟩,
     ⟨(some 19), .nilck (.t 18), some (17, true)⟩,
     ⟨(some 20), .fld 0 (.t 19), some (17, true)⟩,
     ⟨(some 21), .load none (.t 20), some (17, true)⟩,
     ⟨(some 22), .mov (.t 1), some (17, true)⟩,
     ⟨(some 23), .call 10 [(.t 21), (.t 22)], some (17, true)⟩,
     ⟨(some 24), .pick (.t 17) (.t 23) (.c (.v (.bool false))), none⟩] .done)
   (.cond (.t 24)
    (.seq (.ops false [⟨(some 25), .mov (.t 5), none⟩,
       ⟨(some 4), .mov (.t 25), none⟩] .done)
     .ret)
    .skip)))
  (.seq (.ops false [⟨(some 26), .mov (.t 1), none⟩,
    ⟨(some 27), .bin .add (.t 26) (.c (.v (.int .u32 4))), none⟩,
    ⟨(some 4), .mov (.t 27), none⟩] .done)
  .ret)))⟩
theorem pf14_eq : (Tryd.f14.body.map fun c => (cfn Tryd.prog pl14 Tryd.f14 c, guardsAll pl14 c)) = some (pf14, true) := by kernel_rfl

/-- (*corral/pred.Returns).Call  sizes [(1, 17)] -/
def pl15 : Nat → DT := dtGet [(1, (.take 0 [0, 13, 14, 15] (.take 1 [1, 2, 13, 14, 15, 3, 4, 12] (.take 2 [2, 3, 13, 14, 15, 4, 12] (.take 3 [3, 4, 13, 14, 15, 12] (.take 4 [4, 12, 13, 14, 15] (.take 5 [5, 6, 13, 14, 15, 7, 8, 9, 10, 11, 12] (.take 6 [6, 7, 13, 14, 15, 8, 9, 10, 11, 12] (.take 7 [7, 8, 13, 14, 15, 9, 10, 11, 12] (.take 8 [8, 9, 13, 14, 15, 10, 11, 12] (.take 9 [9, 10, 13, 14, 15, 11, 12] (.take 10 [10, 11, 13, 14, 15, 12] (.take 11 [11, 12, 13, 14, 15] (.take 12 [12, 13, 14, 15] (.take 13 [13, 14, 15] (.take 14 [14, 15] (.eff false 15 .done)))))))))))))))))]
def pf15 : PFn := ⟨31, [], (.seq (.ops false [⟨(some 4), .mov (.t 0), none⟩,
    ⟨(some 5), .mov (.t 0), none⟩,
    ⟨(some 6), .nilck (.t 5), none⟩,
    ⟨(some 7), .fld 0 (.t 6), none⟩,
    ⟨(some 8), .load none (.t 7), none⟩,
    ⟨(some 9), .call 30 [(.t 8)], none⟩,
    ⟨(some 10), .mov (.t 1), none⟩,
    ⟨(some 11), .bin .add (.t 10) (.c (.v (.int .u32 4))), none⟩,
    ⟨(some 12), .bslice 22 [.int .u32] 1 [(.v (.int .u32 0))] [(0, 1, (.t 11))], none⟩,
    ⟨(some 13), .append 22 [.int .u32] [(.int .u32 0)] 4 (.t 9) (.t 12), none⟩,
    ⟨(some 14), .nilck (.t 4), none⟩,
    ⟨(some 15), .fld 0 (.t 14), none⟩,
    ⟨none, .store 1 (.t 15) (.t 13), none⟩] .done)
  (.ops true [⟨(some 16), .mov (.t 0), none⟩,
   ⟨(some 17), .mov (.t 0), none⟩,
   ⟨(some 18), .nilck (.t 17), none⟩,
   ⟨(some 19), .fld 0 (.t 18), none⟩,
   ⟨(some 20), .load none (.t 19), none⟩,
   ⟨(some 21), .mov (.t 0), none⟩,
   ⟨(some 22), .nilck (.t 21), none⟩,
   ⟨(some 23), .fld 0 (.t 22), none⟩,
   ⟨(some 24), .load none (.t 23), none⟩,
   ⟨(some 25), .len (.t 24), none⟩,
   ⟨(some 26), .bin .sub (.t 25) (.c (.v (.int .i64 8))), none⟩,
   ⟨(some 27), .minmax true [(.c (.v (.int .i64 0))), (.t 26)], none⟩,
   ⟨(some 28), .slice 1 (.t 20) (some (.t 27)) none none, none⟩,
   ⟨(some 29), .nilck (.t 16), none⟩,
   ⟨(some 30), .fld 0 (.t 29), none⟩,
   ⟨none, .store 1 (.t 30) (.t 28), none⟩] (.take 0 [0, 13, 14, 15] (.take 1 [1, 2, 13, 14, 15, 3, 4, 12] (.take 2 [2, 3, 13, 14, 15, 4, 12] (.take 3 [3, 4, 13, 14, 15, 12] (.take 4 [4, 12, 13, 14, 15] (.take 5 [5, 6, 13, 14, 15, 7, 8, 9, 10, 11, 12] (.take 6 [6, 7, 13, 14, 15, 8, 9, 10, 11, 12] (.take 7 [7, 8, 13, 14, 15, 9, 10, 11, 12] (.take 8 [8, 9, 13, 14, 15, 10, 11, 12] (.take 9 [9, 10, 13, 14, 15, 11, 12] (.take 10 [10, 11, 13, 14, 15, 12] (.take 11 [11, 12, 13, 14, 15] (.take 12 [12, 13, 14, 15] (.take 13 [13, 14, 15] (.take 14 [14, 15] (.eff false 15 .done))))))))))))))))))⟩
theorem pf15_eq : (Tryd.f15.body.map fun c => (cfn Tryd.prog pl15 Tryd.f15 c, guardsAll pl15 c)) = some (pf15, true) := by kernel_rfl

/-- (*corral/pred.Returns).Depth  sizes [] -/
def pl16 : Nat → DT := dtGet []
def pf16 : PFn := ⟨8, [.t 2], (.seq (.ops false [⟨(some 2), .mov (.c (.v (.int .i64 0))), none⟩] .done)
  (.seq (.ops false [⟨(some 3), .mov (.t 0), none⟩,
    ⟨(some 4), .nilck (.t 3), none⟩,
    ⟨(some 5), .fld 0 (.t 4), none⟩,
    ⟨(some 6), .load none (.t 5), none⟩,
    ⟨(some 7), .len (.t 6), none⟩,
    ⟨(some 2), .mov (.t 7), none⟩] .done)
  .ret))⟩
theorem pf16_eq : (Tryd.f16.body.map fun c => (cfn Tryd.prog pl16 Tryd.f16 c, guardsAll pl16 c)) = some (pf16, true) := by kernel_rfl

/-- (*corral/pred.Returns).Back  sizes [(3, 14), (4, 16)] -/
def pl17 : Nat → DT := dtGet [(3, (.take 0 [0, 1, 12, 2, 3, 10, 11] (.take 1 [1, 2, 12, 3, 10, 11] (.take 2 [2, 3, 12, 10, 11] (.take 3 [3, 10, 12, 11] (.take 4 [4, 5, 12, 6, 7, 8, 9, 10, 11] (.take 5 [5, 6, 12, 7, 8, 9, 10, 11] (.take 6 [6, 7, 12, 8, 9, 10, 11] (.take 7 [7, 8, 12, 9, 10, 11] (.take 8 [8, 9, 12, 10, 11] (.take 9 [9, 10, 12, 11] (.take 10 [10, 11, 12] (.take 11 [11, 12] (.take 12 [12] .done)))))))))))))), (4, (.take 0 [0, 12, 13, 14] (.take 1 [1, 2, 12, 13, 14, 3, 4, 11] (.take 2 [2, 3, 12, 13, 14, 4, 11] (.take 3 [3, 4, 12, 13, 14, 11] (.take 4 [4, 11, 12, 13, 14] (.take 5 [5, 6, 12, 13, 14, 7, 8, 9, 10, 11] (.take 6 [6, 7, 12, 13, 14, 8, 9, 10, 11] (.take 7 [7, 8, 12, 13, 14, 9, 10, 11] (.take 8 [8, 9, 12, 13, 14, 10, 11] (.take 9 [9, 10, 12, 13, 14, 11] (.take 10 [10, 11, 12, 13, 14] (.take 11 [11, 12, 13, 14] (.take 12 [12, 13, 14] (.take 13 [13, 14] (.eff false 14 .done))))))))))))))))]
def pf17 : PFn := ⟨38, [.t 2, .t 3], (.seq (.ops false [⟨(some 2), .mov (.c (.v (.int .u32 0))), none⟩,
    ⟨(some 3), .mov (.c (.v (.bool false))), none⟩] .done)
  (.seq (.seq (.ops false [⟨(some 5), .mov (.t 0), none⟩,
     ⟨(some 6), .nilck (.t 5), none⟩,
     ⟨(some 7), .fld 0 (.t 6), none⟩,
     ⟨(some 8), .load none (.t 7), none⟩,
     ⟨(some 9), .len (.t 8), none⟩,
     ⟨(some 10), .bin .eql (.t 9) (.c (.v (.int .i64 0))), none⟩] .done)
   (.cond (.t 10)
    (.seq (.ops false [⟨(some 2), .mov (.c (.v (.int .u32 0))), none⟩,
       ⟨(some 3), .mov (.c (.v (.bool false))), none⟩] .done)
     .ret)
    .skip))
  (.seq (.ops true [⟨(some 11), .mov (.t 0), none⟩,
    ⟨(some 12), .nilck (.t 11), none⟩,
    ⟨(some 13), .fld 0 (.t 12), none⟩,
    ⟨(some 14), .load none (.t 13), none⟩,
    ⟨(some 15), .mov (.t 0), none⟩,
    ⟨(some 16), .nilck (.t 15), none⟩,
    ⟨(some 17), .fld 0 (.t 16), none⟩,
    ⟨(some 18), .load none (.t 17), none⟩,
    ⟨(some 19), .len (.t 18), none⟩,
    ⟨(some 20), .bin .sub (.t 19) (.c (.v (.int .i64 1))), none⟩,
    ⟨(some 21), .idx 1 (.t 14) (.t 20), none⟩,
    ⟨(some 22), .load none (.t 21), none⟩,
    ⟨(some 4), .mov (.t 22), none⟩] (.take 0 [0, 1, 12, 2, 3, 10, 11] (.take 1 [1, 2, 12, 3, 10, 11] (.take 2 [2, 3, 12, 10, 11] (.take 3 [3, 10, 12, 11] (.take 4 [4, 5, 12, 6, 7, 8, 9, 10, 11] (.take 5 [5, 6, 12, 7, 8, 9, 10, 11] (.take 6 [6, 7, 12, 8, 9, 10, 11] (.take 7 [7, 8, 12, 9, 10, 11] (.take 8 [8, 9, 12, 10, 11] (.take 9 [9, 10, 12, 11] (.take 10 [10, 11, 12] (.take 11 [11, 12] (.take 12 [12] .done))))))))))))))
  (.seq (.ops true [⟨(some 23), .mov (.t 0), none⟩,
    ⟨(some 24), .mov (.t 0), none⟩,
    ⟨(some 25), .nilck (.t 24), none⟩,
    ⟨(some 26), .fld 0 (.t 25), none⟩,
    ⟨(some 27), .load none (.t 26), none⟩,
    ⟨(some 28), .mov (.t 0), none⟩,
    ⟨(some 29), .nilck (.t 28), none⟩,
    ⟨(some 30), .fld 0 (.t 29), none⟩,
    ⟨(some 31), .load none (.t 30), none⟩,
    ⟨(some 32), .len (.t 31), none⟩,
    ⟨(some 33), .bin .sub (.t 32) (.c (.v (.int .i64 1))), none⟩,
    ⟨(some 34), .slice 1 (.t 27) none (some (.t 33)) none, none⟩,
    ⟨(some 35), .nilck (.t 23), none⟩,
    ⟨(some 36), .fld 0 (.t 35), none⟩,
    ⟨none, .store 1 (.t 36) (.t 34), none⟩] (.take 0 [0, 12, 13, 14] (.take 1 [1, 2, 12, 13, 14, 3, 4, 11] (.take 2 [2, 3, 12, 13, 14, 4, 11] (.take 3 [3, 4, 12, 13, 14, 11] (.take 4 [4, 11, 12, 13, 14] (.take 5 [5, 6, 12, 13, 14, 7, 8, 9, 10, 11] (.take 6 [6, 7, 12, 13, 14, 8, 9, 10, 11] (.take 7 [7, 8, 12, 13, 14, 9, 10, 11] (.take 8 [8, 9, 12, 13, 14, 10, 11] (.take 9 [9, 10, 12, 13, 14, 11] (.take 10 [10, 11, 12, 13, 14] (.take 11 [11, 12, 13, 14] (.take 12 [12, 13, 14] (.take 13 [13, 14] (.eff false 14 .done))))))))))))))))
  (.seq (.ops false [⟨(some 37), .mov (.t 4), none⟩,
    ⟨(some 2), .mov (.t 37), none⟩,
    ⟨(some 3), .mov (.c (.v (.bool true))), none⟩] .done)
  .ret)))))⟩
theorem pf17_eq : (Tryd.f17.body.map fun c => (cfn Tryd.prog pl17 Tryd.f17 c, guardsAll pl17 c)) = some (pf17, true) := by kernel_rfl

/-- corral/corralsee.Is  sizes [] -/
def pl18 : Nat → DT := dtGet []
def pf18 : PFn := ⟨9, [.t 4], (.seq (.ops false [⟨(some 4), .mov (.c (.v (.bool false))), none⟩] .done)
  (.seq (.ops false [⟨(some 5), .mov (.t 0), none⟩,
    ⟨(some 6), .mov (.t 1), none⟩,
    ⟨(some 7), .call 32 [(.t 6)], none⟩,
    ⟨(some 8), .call 31 [(.t 5), (.t 7)], none⟩,
    ⟨(some 4), .mov (.t 8), none⟩] .done)
  .ret))⟩
theorem pf18_eq : (Tryd.f18.body.map fun c => (cfn Tryd.prog pl18 Tryd.f18 c, guardsAll pl18 c)) = some (pf18, true) := by kernel_rfl

/-- corral/corralref21.NewPred  sizes [(2, 48)] -/
def pl19 : Nat → DT := dtGet [(2, (.take 0 [0, 7, 9, 8] (.take 1 [1, 2, 9, 7, 8] (.take 3 [3, 4, 9, 7, 8] (.take 5 [5, 6, 9, 7, 8] (.both (.both (.eff true 2 (.both (.eff true 4 (.eff true 6 (.take 7 [7, 8, 9] (.eff true 8 (.take 9 [9] .done))))) (.eff true 6 (.eff true 4 (.take 7 [7, 8, 9] (.eff true 8 (.take 9 [9] .done))))))) (.eff true 4 (.both (.eff true 2 (.eff true 6 (.take 7 [7, 8, 9] (.eff true 8 (.take 9 [9] .done))))) (.eff true 6 (.eff true 2 (.take 7 [7, 8, 9] (.eff true 8 (.take 9 [9] .done)))))))) (.eff true 6 (.both (.eff true 2 (.eff true 4 (.take 7 [7, 8, 9] (.eff true 8 (.take 9 [9] .done))))) (.eff true 4 (.eff true 2 (.take 7 [7, 8, 9] (.eff true 8 (.take 9 [9] .done)))))))))))))]
def pf19 : PFn := ⟨43, [.t 4], (.seq (.ops false [⟨(some 4), .mov (.c (.v (.pointer none))), none⟩] .done)
  (.seq (.ops false [⟨(some 8), .mov (.t 0), none⟩,
    ⟨(some 9), .conv .u64 (.t 8), none⟩,
    ⟨(some 10), .bin .shl (.c (.v (.int .i64 1))) (.t 9), none⟩,
    ⟨(some 5), .mov (.t 10), none⟩] .done)
  (.seq (.ops true [⟨(some 11), .mov (.t 0), none⟩,
    ⟨(some 12), .mov (.t 5), none⟩,
    ⟨(some 13), .mslice 22 [.int .u32] [(.int .u32 0)] 4 (.t 12) (.t 12), none⟩,
    ⟨(some 14), .mov (.t 5), none⟩,
    ⟨(some 15), .mslice 22 [.int .u32] [(.int .u32 0)] 4 (.t 14) (.t 14), none⟩,
    ⟨(some 16), .mov (.t 5), none⟩,
    ⟨(some 17), .mslice 4 [.bool] [(.bool false)] 1 (.t 16) (.t 16), none⟩,
    ⟨(some 18), .build [(.v (.int .i64 0)), (.v (.slice none 0 0)), (.v (.int .u32 0)), (.v (.slice none 0 0)), (.v (.slice none 0 0)), (.v (.slice none 0 0)), (.v (.slice none 0 0))] [(0, 1, (.t 11)), (3, 1, (.t 13)), (4, 1, (.t 15)), (5, 1, (.t 17))], none⟩,
    ⟨(some 19), .box 58 (.t 18), none⟩,
    ⟨(some 6), .mov (.t 19), none⟩] (.take 0 [0, 7, 9, 8] (.take 1 [1, 2, 9, 7, 8] (.take 3 [3, 4, 9, 7, 8] (.take 5 [5, 6, 9, 7, 8] (.both (.both (.eff true 2 (.both (.eff true 4 (.eff true 6 (.take 7 [7, 8, 9] (.eff true 8 (.take 9 [9] .done))))) (.eff true 6 (.eff true 4 (.take 7 [7, 8, 9] (.eff true 8 (.take 9 [9] .done))))))) (.eff true 4 (.both (.eff true 2 (.eff true 6 (.take 7 [7, 8, 9] (.eff true 8 (.take 9 [9] .done))))) (.eff true 6 (.eff true 2 (.take 7 [7, 8, 9] (.eff true 8 (.take 9 [9] .done)))))))) (.eff true 6 (.both (.eff true 2 (.eff true 4 (.take 7 [7, 8, 9] (.eff true 8 (.take 9 [9] .done))))) (.eff true 4 (.eff true 2 (.take 7 [7, 8, 9] (.eff true 8 (.take 9 [9] .done)))))))))))))
  (.seq (.seq (.ops false [⟨(some 7), .mov (.c (.v (.int .i64 0))), none⟩] .done)
   (.block 0 (.loop (.seq (.seq (.ops false [⟨(some 20), .mov (.t 7), none⟩,
        ⟨(some 21), .mov (.t 5), none⟩,
        ⟨(some 22), .bin .lss (.t 20) (.t 21), none⟩] .done)
      (.cond (.t 22)
       .skip
       (.exit 0)))
     (.seq (.block 1 (.ops false [⟨(some 25), .mov (.t 6), none⟩,
        ⟨(some 26), .mov (.t 6), none⟩,
        ⟨(some 27), .nilck (.t 26), none⟩,
        ⟨(some 28), .fld 1 (.t 27), none⟩,
        ⟨(some 29), .load none (.t 28), none⟩,
        ⟨(some 30), .mov (.t 1), none⟩,
        ⟨(some 31), .mov (.t 7), none⟩,
        ⟨(some 32), .bin .rem (.t 31) (.c (.v (.int .i64 16))), none⟩,
        ⟨(some 33), .bin .mul (.c (.v (.int .i64 2))) (.t 32), none⟩,
        ⟨(some 34), .conv .u64 (.t 33), none⟩,
        ⟨(some 35), .bin .shr (.t 30) (.t 34), none⟩,
        ⟨(some 36), .bin .and (.t 35) (.c (.v (.int .u32 3))), none⟩,
        ⟨(some 37), .conv .i64 (.t 36), none⟩,
        ⟨(some 38), .bslice 3 [.int .i64] 1 [(.v (.int .i64 0))] [(0, 1, (.t 37))], none⟩,
        ⟨(some 39), .append 3 [.int .i64] [(.int .i64 0)] 8 (.t 29) (.t 38), none⟩,
        ⟨(some 40), .nilck (.t 25), none⟩,
        ⟨(some 41), .fld 1 (.t 40), none⟩,
        ⟨none, .store 1 (.t 41) (.t 39), none⟩] .done))
     (.ops false [⟨(some 23), .mov (.t 7), none⟩,
      ⟨(some 24), .bin .add (.t 23) (.c (.v (.int .i64 1))), none⟩,
      ⟨(some 7), .mov (.t 24), none⟩] .done))))))
  (.seq (.ops false [⟨(some 42), .mov (.t 6), none⟩,
    ⟨(some 4), .mov (.t 42), none⟩] .done)
  .ret)))))⟩
theorem pf19_eq : (Tryd.f19.body.map fun c => (cfn Tryd.prog pl19 Tryd.f19 c, guardsAll pl19 c)) = some (pf19, true) := by kernel_rfl

/-- (*corral/corralref21.Pred).Learn  sizes [(3, 17), (5, 17), (6, 17)] -/
def pl20 : Nat → DT := dtGet [(3, (.take 0 [0, 1, 14, 15, 2, 3] (.take 1 [1, 2, 14, 15, 3] (.take 2 [2, 3, 14, 15] (.take 3 [3, 14, 15] (.take 4 [4, 14, 15] (.take 5 [5, 6, 14, 15, 7, 8, 10, 11, 12, 13] (.take 6 [6, 7, 14, 15, 8, 10, 11, 12, 13] (.take 7 [7, 8, 14, 15, 10, 11, 12, 13] (.take 8 [8, 10, 14, 15, 11, 12, 13] (.take 9 [9, 10, 14, 15, 11, 12, 13] (.take 10 [10, 11, 14, 15, 12, 13] (.take 11 [11, 12, 14, 15, 13] (.take 12 [12, 13, 14, 15] (.take 13 [13, 14, 15] (.take 14 [14, 15] (.eff false 15 .done))))))))))))))))), (5, (.take 0 [0, 1, 14, 15, 2, 3] (.take 1 [1, 2, 14, 15, 3] (.take 2 [2, 3, 14, 15] (.take 3 [3, 14, 15] (.take 4 [4, 14, 15] (.take 5 [5, 6, 14, 15, 7, 8, 10, 11, 12, 13] (.take 6 [6, 7, 14, 15, 8, 10, 11, 12, 13] (.take 7 [7, 8, 14, 15, 10, 11, 12, 13] (.take 8 [8, 10, 14, 15, 11, 12, 13] (.take 9 [9, 10, 14, 15, 11, 12, 13] (.take 10 [10, 11, 14, 15, 12, 13] (.take 11 [11, 12, 14, 15, 13] (.take 12 [12, 13, 14, 15] (.take 13 [13, 14, 15] (.take 14 [14, 15] (.eff false 15 .done))))))))))))))))), (6, (.take 0 [0, 13, 14, 15] (.take 1 [1, 2, 13, 14, 15, 3, 4, 5, 7, 12] (.take 2 [2, 3, 13, 14, 15, 4, 5, 7, 12] (.take 3 [3, 4, 13, 14, 15, 5, 7, 12] (.take 4 [4, 5, 13, 14, 15, 7, 12] (.take 5 [5, 7, 13, 14, 15, 12] (.take 6 [6, 7, 13, 14, 15, 12] (.take 7 [7, 12, 13, 14, 15] (.take 8 [8, 9, 13, 14, 15, 10, 11, 12] (.take 9 [9, 10, 13, 14, 15, 11, 12] (.take 10 [10, 11, 13, 14, 15, 12] (.take 11 [11, 12, 13, 14, 15] (.eff true 12 (.take 13 [13, 14, 15] (.take 14 [14, 15] (.eff false 15 .done)))))))))))))))))]
def pf20 : PFn := ⟨57, [], (.seq (.ops false [⟨(some 8), .mov (.t 0), none⟩,
    ⟨(some 9), .mov (.t 1), none⟩,
    ⟨(some 10), .call 33 [(.t 8), (.t 9)], none⟩,
    ⟨(some 6), .mov (.t 10), none⟩] .done)
  (.seq (.ops false [⟨(some 7), .mov (.c (.v (.int .u32 0))), none⟩] .done)
  (.seq (.seq (.ops false [⟨(some 11), .mov (.t 2), none⟩] .done)
   (.cond (.t 11)
    (.seq (.ops true [⟨(some 12), .mov (.t 0), none⟩,
       ⟨(some 13), .nilck (.t 12), none⟩,
       ⟨(some 14), .fld 1 (.t 13), none⟩,
       ⟨(some 15), .load none (.t 14), none⟩,
       ⟨(some 16), .mov (.t 6), none⟩,
       ⟨(some 17), .mov (.t 0), none⟩,
       ⟨(some 18), .nilck (.t 17), none⟩,
       ⟨(some 19), .fld 1 (.t 18), none⟩,
       ⟨(some 20), .load none (.t 19), none⟩,
       ⟨(some 21), .mov (.t 6), none⟩,
       ⟨(some 22), .idx 1 (.t 20) (.t 21), none⟩,
       ⟨(some 23), .load none (.t 22), none⟩,
       ⟨(some 24), .bin .add (.t 23) (.c (.v (.int .i64 1))), none⟩,
       ⟨(some 25), .minmax false [(.c (.v (.int .i64 3))), (.t 24)], none⟩,
       ⟨(some 26), .idx 1 (.t 15) (.t 16), none⟩,
       ⟨none, .store 1 (.t 26) (.t 25), none⟩] (.take 0 [0, 1, 14, 15, 2, 3] (.take 1 [1, 2, 14, 15, 3] (.take 2 [2, 3, 14, 15] (.take 3 [3, 14, 15] (.take 4 [4, 14, 15] (.take 5 [5, 6, 14, 15, 7, 8, 10, 11, 12, 13] (.take 6 [6, 7, 14, 15, 8, 10, 11, 12, 13] (.take 7 [7, 8, 14, 15, 10, 11, 12, 13] (.take 8 [8, 10, 14, 15, 11, 12, 13] (.take 9 [9, 10, 14, 15, 11, 12, 13] (.take 10 [10, 11, 14, 15, 12, 13] (.take 11 [11, 12, 14, 15, 13] (.take 12 [12, 13, 14, 15] (.take 13 [13, 14, 15] (.take 14 [14, 15] (.eff false 15 .done)))))))))))))))))
     (.ops false [⟨(some 7), .mov (.c (.v (.int .u32 1))), none⟩] .done))
    (.ops true [⟨(some 27), .mov (.t 0), none⟩,
      ⟨(some 28), .nilck (.t 27), none⟩,
      ⟨(some 29), .fld 1 (.t 28), none⟩,
      ⟨(some 30), .load none (.t 29), none⟩,
      ⟨(some 31), .mov (.t 6), none⟩,
      ⟨(some 32), .mov (.t 0), none⟩,
      ⟨(some 33), .nilck (.t 32), none⟩,
      ⟨(some 34), .fld 1 (.t 33), none⟩,
      ⟨(some 35), .load none (.t 34), none⟩,
      ⟨(some 36), .mov (.t 6), none⟩,
      ⟨(some 37), .idx 1 (.t 35) (.t 36), none⟩,
      ⟨(some 38), .load none (.t 37), none⟩,
      ⟨(some 39), .bin .sub (.t 38) (.c (.v (.int .i64 1))), none⟩,
      ⟨(some 40), .minmax true [(.c (.v (.int .i64 0))), (.t 39)], none⟩,
      ⟨(some 41), .idx 1 (.t 30) (.t 31), none⟩,
      ⟨none, .store 1 (.t 41) (.t 40), none⟩] (.take 0 [0, 1, 14, 15, 2, 3] (.take 1 [1, 2, 14, 15, 3] (.take 2 [2, 3, 14, 15] (.take 3 [3, 14, 15] (.take 4 [4, 14, 15] (.take 5 [5, 6, 14, 15, 7, 8, 10, 11, 12, 13] (.take 6 [6, 7, 14, 15, 8, 10, 11, 12, 13] (.take 7 [7, 8, 14, 15, 10, 11, 12, 13] (.take 8 [8, 10, 14, 15, 11, 12, 13] (.take 9 [9, 10, 14, 15, 11, 12, 13] (.take 10 [10, 11, 14, 15, 12, 13] (.take 11 [11, 12, 14, 15, 13] (.take 12 [12, 13, 14, 15] (.take 13 [13, 14, 15] (.take 14 [14, 15] (.eff false 15 .done)))))))))))))))))))
  (.ops true [⟨(some 42), .mov (.t 0), none⟩,
   ⟨(some 43), .mov (.t 0), none⟩,
   ⟨(some 44), .nilck (.t 43), none⟩,
   ⟨(some 45), .fld 2 (.t 44), none⟩,
   ⟨(some 46), .load none (.t 45), none⟩,
   ⟨(some 47), .bin .mul (.c (.v (.int .u32 2))) (.t 46), none⟩,
   ⟨(some 48), .mov (.t 7), none⟩,
   ⟨(some 49), .bin .add (.t 47) (.t 48), none⟩,
   ⟨(some 50), .mov (.t 0), none⟩,
   ⟨(some 51), .nilck (.t 50), none⟩,
   ⟨(some 52), .fld 0 (.t 51), none⟩,
   ⟨(some 53), .load none (.t 52), none⟩,
   ⟨(some 54), .call 34 [(.t 49), (.c (.v (.int .i64 0))), (.t 53)], none⟩,
   ⟨(some 55), .nilck (.t 42), none⟩,
   ⟨(some 56), .fld 2 (.t 55), none⟩,
   ⟨none, .store 1 (.t 56) (.t 54), none⟩] (.take 0 [0, 13, 14, 15] (.take 1 [1, 2, 13, 14, 15, 3, 4, 5, 7, 12] (.take 2 [2, 3, 13, 14, 15, 4, 5, 7, 12] (.take 3 [3, 4, 13, 14, 15, 5, 7, 12] (.take 4 [4, 5, 13, 14, 15, 7, 12] (.take 5 [5, 7, 13, 14, 15, 12] (.take 6 [6, 7, 13, 14, 15, 12] (.take 7 [7, 12, 13, 14, 15] (.take 8 [8, 9, 13, 14, 15, 10, 11, 12] (.take 9 [9, 10, 13, 14, 15, 11, 12] (.take 10 [10, 11, 13, 14, 15, 12] (.take 11 [11, 12, 13, 14, 15] (.eff true 12 (.take 13 [13, 14, 15] (.take 14 [14, 15] (.eff false 15 .done))))))))))))))))))))⟩
theorem pf20_eq : (Tryd.f20.body.map fun c => (cfn Tryd.prog pl20 Tryd.f20 c, guardsAll pl20 c)) = some (pf20, true) := by kernel_rfl

/-- (*corral/corralref21.Pred).Seen  sizes [] -/
def pl21 : Nat → DT := dtGet []
def pf21 : PFn := ⟨30, [], (.seq (.ops false [⟨(some 7), .mov (.t 0), none⟩,
    ⟨(some 8), .mov (.t 1), none⟩,
    ⟨(some 9), .call 35 [(.t 7), (.t 8)], none⟩,
    ⟨(some 6), .mov (.t 9), none⟩] .done)
  (.seq (.ops false [⟨(some 10), .mov (.t 0), none⟩,
    ⟨(some 11), .nilck (.t 10), none⟩,
    ⟨(some 12), .fld 3 (.t 11), none⟩,
    ⟨(some 13), .load none (.t 12), none⟩,
    ⟨(some 14), .mov (.t 6), none⟩,
    ⟨(some 15), .mov (.t 1), none⟩,
    ⟨(some 16), .idx 1 (.t 13) (.t 14), none⟩,
    ⟨none, .store 1 (.t 16) (.t 15), none⟩] .done)
  (.seq (.ops false [⟨(some 17), .mov (.t 0), none⟩,
    ⟨(some 18), .nilck (.t 17), none⟩,
    ⟨(some 19), .fld 4 (.t 18), none⟩,
    ⟨(some 20), .load none (.t 19), none⟩,
    ⟨(some 21), .mov (.t 6), none⟩,
    ⟨(some 22), .mov (.t 2), none⟩,
    ⟨(some 23), .idx 1 (.t 20) (.t 21), none⟩,
    ⟨none, .store 1 (.t 23) (.t 22), none⟩] .done)
  (.ops false [⟨(some 24), .mov (.t 0), none⟩,
   ⟨(some 25), .nilck (.t 24), none⟩,
   ⟨(some 26), .fld 5 (.t 25), none⟩,
   ⟨(some 27), .load none (.t 26), none⟩,
   ⟨(some 28), .mov (.t 6), none⟩,
   ⟨(some 29), .idx 1 (.t 27) (.t 28), none⟩,
   ⟨none, .store 1 (.t 29) (.c (.v (.bool true))), none⟩] .done))))⟩
theorem pf21_eq : (Tryd.f21.body.map fun c => (cfn Tryd.prog pl21 Tryd.f21 c, guardsAll pl21 c)) = some (pf21, true) := by kernel_rfl

/-- (*corral/corralref21.Pred).Call  sizes [] -/
def pl22 : Nat → DT := dtGet []
def pf22 : PFn := ⟨30, [], (.seq (.ops false [⟨(some 4), .mov (.t 0), none⟩,
    ⟨(some 5), .mov (.t 0), none⟩,
    ⟨(some 6), .nilck (.t 5), none⟩,
    ⟨(some 7), .fld 6 (.t 6), none⟩,
    ⟨(some 8), .load none (.t 7), none⟩,
    ⟨(some 9), .call 36 [(.t 8)], none⟩,
    ⟨(some 10), .mov (.t 1), none⟩,
    ⟨(some 11), .bin .add (.t 10) (.c (.v (.int .u32 4))), none⟩,
    ⟨(some 12), .bslice 22 [.int .u32] 1 [(.v (.int .u32 0))] [(0, 1, (.t 11))], none⟩,
    ⟨(some 13), .append 22 [.int .u32] [(.int .u32 0)] 4 (.t 9) (.t 12), none⟩,
    ⟨(some 14), .nilck (.t 4), none⟩,
    ⟨(some 15), .fld 6 (.t 14), none⟩,
    ⟨none, .store 1 (.t 15) (.t 13), none⟩] .done)
  (.seq (.ops false [⟨(some 16), .mov (.t 0), none⟩,
    ⟨(some 17), .nilck (.t 16), none⟩,
    ⟨(some 18), .fld 6 (.t 17), none⟩,
    ⟨(some 19), .load none (.t 18), none⟩,
    ⟨(some 20), .len (.t 19), none⟩,
    ⟨(some 21), .bin .gtr (.t 20) (.c (.v (.int .i64 8))), none⟩] .done)
  (.cond (.t 21)
   (.ops false [⟨(some 22), .mov (.t 0), none⟩,
     ⟨(some 23), .mov (.t 0), none⟩,
     ⟨(some 24), .nilck (.t 23), none⟩,
     ⟨(some 25), .fld 6 (.t 24), none⟩,
     ⟨(some 26), .load none (.t 25), none⟩,
     ⟨(some 27), .slice 1 (.t 26) (some (.c (.v (.int .i64 1)))) none none, none⟩,
     ⟨(some 28), .nilck (.t 22), none⟩,
     ⟨(some 29), .fld 6 (.t 28), none⟩,
     ⟨none, .store 1 (.t 29) (.t 27), none⟩] .done)
   .skip)))⟩
theorem pf22_eq : (Tryd.f22.body.map fun c => (cfn Tryd.prog pl22 Tryd.f22 c, guardsAll pl22 c)) = some (pf22, true) := by kernel_rfl

/-- (*corral/corralref21.Pred).Back  sizes [] -/
def pl23 : Nat → DT := dtGet []
def pf23 : PFn := ⟨32, [.t 2, .t 3], (.seq (.ops false [⟨(some 2), .mov (.c (.v (.int .u32 0))), none⟩,
    ⟨(some 3), .mov (.c (.v (.bool false))), none⟩] .done)
  (.seq (.ops false [⟨(some 6), .mov (.t 0), none⟩,
    ⟨(some 7), .nilck (.t 6), none⟩,
    ⟨(some 8), .fld 6 (.t 7), none⟩,
    ⟨(some 9), .load none (.t 8), none⟩,
    ⟨(some 10), .len (.t 9), none⟩,
    ⟨(some 4), .mov (.t 10), none⟩] .done)
  (.seq (.seq (.ops false [⟨(some 11), .mov (.t 4), none⟩,
     ⟨(some 12), .bin .eql (.t 11) (.c (.v (.int .i64 0))), none⟩] .done)
   (.cond (.t 12)
    (.seq (.ops false [⟨(some 2), .mov (.c (.v (.int .u32 0))), none⟩,
       ⟨(some 3), .mov (.c (.v (.bool false))), none⟩] .done)
     .ret)
    .skip))
  (.seq (.ops false [⟨(some 13), .mov (.t 0), none⟩,
    ⟨(some 14), .nilck (.t 13), none⟩,
    ⟨(some 15), .fld 6 (.t 14), none⟩,
    ⟨(some 16), .load none (.t 15), none⟩,
    ⟨(some 17), .mov (.t 4), none⟩,
    ⟨(some 18), .bin .sub (.t 17) (.c (.v (.int .i64 1))), none⟩,
    ⟨(some 19), .idx 1 (.t 16) (.t 18), none⟩,
    ⟨(some 20), .load none (.t 19), none⟩,
    ⟨(some 5), .mov (.t 20), none⟩] .done)
  (.seq (.ops false [⟨(some 21), .mov (.t 0), none⟩,
    ⟨(some 22), .mov (.t 0), none⟩,
    ⟨(some 23), .nilck (.t 22), none⟩,
    ⟨(some 24), .fld 6 (.t 23), none⟩,
    ⟨(some 25), .load none (.t 24), none⟩,
    ⟨(some 26), .mov (.t 4), none⟩,
    ⟨(some 27), .bin .sub (.t 26) (.c (.v (.int .i64 1))), none⟩,
    ⟨(some 28), .slice 1 (.t 25) none (some (.t 27)) none, none⟩,
    ⟨(some 29), .nilck (.t 21), none⟩,
    ⟨(some 30), .fld 6 (.t 29), none⟩,
    ⟨none, .store 1 (.t 30) (.t 28), none⟩] .done)
  (.seq (.ops false [⟨(some 31), .mov (.t 5), none⟩,
    ⟨(some 2), .mov (.t 31), none⟩,
    ⟨(some 3), .mov (.c (.v (.bool true))), none⟩] .done)
  .ret))))))⟩
theorem pf23_eq : (Tryd.f23.body.map fun c => (cfn Tryd.prog pl23 Tryd.f23 c, guardsAll pl23 c)) = some (pf23, true) := by kernel_rfl

/-- (*corral/corralref21.Pred).Target  sizes [] -/
def pl24 : Nat → DT := dtGet []
def pf24 : PFn := ⟨36, [.t 4, .t 5], (.seq (.ops false [⟨(some 4), .mov (.c (.v (.int .u32 0))), none⟩,
    ⟨(some 5), .mov (.c (.v (.bool false))), none⟩] .done)
  (.seq (.ops false [⟨(some 7), .mov (.t 0), none⟩,
    ⟨(some 8), .mov (.t 1), none⟩,
    ⟨(some 9), .call 35 [(.t 7), (.t 8)], none⟩,
    ⟨(some 6), .mov (.t 9), none⟩] .done)
  (.seq (.seq (.ops false [⟨(some 10), .mov (.t 0), none⟩,
     ⟨(some 11), .nilck (.t 10), none⟩,
     ⟨(some 12), .fld 5 (.t 11), none⟩,
     ⟨(some 13), .load none (.t 12), none⟩,
     ⟨(some 14), .mov (.t 6), none⟩,
     ⟨(some 15), .idx 1 (.t 13) (.t 14), none⟩,
     ⟨(some 16), .load none (.t 15), none⟩,
     ⟨(some 17), .un .not (.t 16), none⟩,
     ⟨(some 18), .mov (.t 17), none⟩,
     ⟨(some 19), .mov (.t 0), some (18, false)⟩,
     ⟨(some 20), .nilck (.t 19), some (18, false)⟩,
     ⟨(some 21), .fld 3 (.t 20), some (18, false)⟩,
     ⟨(some 22), .load none (.t 21), some (18, false)⟩,
     ⟨(some 23), .mov (.t 6), some (18, false)⟩,
     ⟨(some 24), .idx 1 (.t 22) (.t 23), some (18, false)⟩,
     ⟨(some 25), .load none (.t 24), some (18, false)⟩,
     ⟨(some 26), .mov (.t 1), some (18, false)⟩,
     ⟨(some 27), .bin .neq (.t 25) (.t 26), some (18, false)⟩,
     ⟨(some 28), .pick (.t 18) (.c (.v (.bool true))) (.t 27), none⟩] .done)
   (.cond (.t 28)
    (.seq (.ops false [⟨(some 4), .mov (.c (.v (.int .u32 0))), none⟩,
       ⟨(some 5), .mov (.c (.v (.bool false))), none⟩] .done)
     .ret)
    .skip))
  (.seq (.ops false [⟨(some 29), .mov (.t 0), none⟩,
    ⟨(some 30), .nilck (.t 29), none⟩,
    ⟨(some 31), .fld 4 (.t 30), none⟩,
    ⟨(some 32), .load none (.t 31), none⟩,
    ⟨(some 33), .mov (.t 6), none⟩,
    ⟨(some 34), .idx 1 (.t 32) (.t 33), none⟩,
    ⟨(some 35), .load none (.t 34), none⟩,
    ⟨(some 4), .mov (.t 35), none⟩,
    ⟨(some 5), .mov (.c (.v (.bool true))), none⟩] .done)
  .ret))))⟩
theorem pf24_eq : (Tryd.f24.body.map fun c => (cfn Tryd.prog pl24 Tryd.f24 c, guardsAll pl24 c)) = some (pf24, true) := by kernel_rfl

/-- (*corral/corralref21.Pred).Taken  sizes [(1, 12)] -/
def pl25 : Nat → DT := dtGet [(1, (.take 0 [0, 1, 10, 2, 3, 7, 8, 9] (.take 1 [1, 2, 10, 3, 7, 8, 9] (.take 2 [2, 3, 10, 7, 8, 9] (.take 3 [3, 7, 10, 8, 9] (.take 4 [4, 6, 10, 7, 8, 9] (.take 5 [5, 6, 10, 7, 8, 9] (.eff true 6 (.take 7 [7, 8, 10, 9] (.take 8 [8, 9, 10] (.take 9 [9, 10] (.take 10 [10] .done))))))))))))]
def pf25 : PFn := ⟨15, [.t 4], (.seq (.ops false [⟨(some 4), .mov (.c (.v (.bool false))), none⟩] .done)
  (.seq (.ops true [⟨(some 5), .mov (.t 0), none⟩,
    ⟨(some 6), .nilck (.t 5), none⟩,
    ⟨(some 7), .fld 1 (.t 6), none⟩,
    ⟨(some 8), .load none (.t 7), none⟩,
    ⟨(some 9), .mov (.t 0), none⟩,
    ⟨(some 10), .mov (.t 1), none⟩,
    ⟨(some 11), .call 33 [(.t 9), (.t 10)], none⟩,
    ⟨(some 12), .idx 1 (.t 8) (.t 11), none⟩,
    ⟨(some 13), .load none (.t 12), none⟩,
    ⟨(some 14), .bin .geq (.t 13) (.c (.v (.int .i64 2))), none⟩,
    ⟨(some 4), .mov (.t 14), none⟩] (.take 0 [0, 1, 10, 2, 3, 7, 8, 9] (.take 1 [1, 2, 10, 3, 7, 8, 9] (.take 2 [2, 3, 10, 7, 8, 9] (.take 3 [3, 7, 10, 8, 9] (.take 4 [4, 6, 10, 7, 8, 9] (.take 5 [5, 6, 10, 7, 8, 9] (.eff true 6 (.take 7 [7, 8, 10, 9] (.take 8 [8, 9, 10] (.take 9 [9, 10] (.take 10 [10] .done))))))))))))
  .ret))⟩
theorem pf25_eq : (Tryd.f25.body.map fun c => (cfn Tryd.prog pl25 Tryd.f25 c, guardsAll pl25 c)) = some (pf25, true) := by kernel_rfl

/-- (*corral/corralref21.Pred).Next  sizes [] -/
def pl26 : Nat → DT := dtGet []
def pf26 : PFn := ⟨22, [.t 4], (.seq (.ops false [⟨(some 4), .mov (.c (.v (.int .u32 0))), none⟩] .done)
  (.seq (.ops false [⟨(some 8), .mov (.t 0), none⟩,
    ⟨(some 9), .mov (.t 1), none⟩,
    ⟨(some 10), .call 24 [(.t 8), (.t 9)], none⟩,
    ⟨(some 7), .mov (.t 10), none⟩,
    ⟨(some 11), .ext (.t 7) 0, none⟩,
    ⟨(some 12), .ext (.t 7) 1, none⟩,
    ⟨(some 5), .mov (.t 11), none⟩,
    ⟨(some 6), .mov (.t 12), none⟩] .done)
  (.seq (.seq (.ops false [⟨(some 13), .mov (.t 6), none⟩,
     ⟨(some 14), .mov (.t 13), none⟩,
     ⟨(some 15), .mov (.t 0), some (14, true)⟩,
     ⟨(some 16), .mov (.t 1), some (14, true)⟩,
     ⟨(some 17), .call 25 [(.t 15), (.t 16)], some (14, true)⟩,
     ⟨(some 18), .pick (.t 14) (.t 17) (.c (.v (.bool false))), none⟩] .done)
   (.cond (.t 18)
    (.seq (.ops false [⟨(some 19), .mov (.t 5), none⟩,
       ⟨(some 4), .mov (.t 19), none⟩] .done)
     .ret)
    .skip))
  (.seq (.ops false [⟨(some 20), .mov (.t 1), none⟩,
    ⟨(some 21), .bin .add (.t 20) (.c (.v (.int .u32 4))), none⟩,
    ⟨(some 4), .mov (.t 21), none⟩] .done)
  .ret))))⟩
theorem pf26_eq : (Tryd.f26.body.map fun c => (cfn Tryd.prog pl26 Tryd.f26 c, guardsAll pl26 c)) = some (pf26, true) := by kernel_rfl

/-- corral/word.Bits  sizes [(3, 8)] -/
def pl27 : Nat → DT := dtGet [(3, (.take 0 [0, 2, 6, 5] (.take 1 [1, 2, 6, 5] (.take 2 [2, 5, 6] (.take 3 [3, 4, 6, 5] (.eff true 4 (.take 5 [5, 6] (.take 6 [6] .done))))))))]
def pf27 : PFn := ⟨23, [.t 6], (.seq (.ops false [⟨(some 6), .mov (.c (.v (.int .u32 0))), none⟩] .done)
  (.seq (.seq (.ops false [⟨(some 7), .mov (.t 1), none⟩,
     ⟨(some 8), .bin .lss (.t 7) (.c (.v (.int .i64 0))), none⟩,
     ⟨(some 9), .mov (.t 8), none⟩,
     ⟨(some 10), .mov (.t 1), some (9, false)⟩,
     ⟨(some 11), .bin .geq (.t 10) (.c (.v (.int .i64 32))), some (9, false)⟩,
     ⟨(some 12), .pick (.t 9) (.c (.v (.bool true))) (.t 11), none⟩,
     ⟨(some 13), .mov (.t 12), none⟩,
     ⟨(some 14), .mov (.t 2), some (13, false)⟩,
     ⟨(some 15), .bin .lss (.t 14) (.c (.v (.int .i64 1))), some (13, false)⟩,
     ⟨(some 16), .pick (.t 13) (.c (.v (.bool true))) (.t 15), none⟩] .done)
   (.cond (.t 16)
    (.seq (.ops false [⟨(some 6), .mov (.c (.v (.int .u32 0))), none⟩] .done)
     .ret)
    .skip))
  (.seq (.ops true [⟨(some 17), .mov (.t 0), none⟩,
    ⟨(some 18), .mov (.t 1), none⟩,
    ⟨(some 19), .bin .shr (.t 17) (.t 18), none⟩,
    ⟨(some 20), .mov (.t 2), none⟩,
    ⟨(some 21), .call 37 [(.t 20)], none⟩,
    ⟨(some 22), .bin .and (.t 19) (.t 21), none⟩,
    ⟨(some 6), .mov (.t 22), none⟩] (.take 0 [0, 2, 6, 5] (.take 1 [1, 2, 6, 5] (.take 2 [2, 5, 6] (.take 3 [3, 4, 6, 5] (.eff true 4 (.take 5 [5, 6] (.take 6 [6] .done))))))))
  .ret)))⟩
theorem pf27_eq : (Tryd.f27.body.map fun c => (cfn Tryd.prog pl27 Tryd.f27 c, guardsAll pl27 c)) = some (pf27, true) := by kernel_rfl

/-- (*corral/pred.Table).at  sizes [(1, 21)] -/
def pl28 : Nat → DT := dtGet [(1, (.take 0 [0, 1, 19, 2, 3, 18] (.take 1 [1, 2, 19, 3, 18] (.take 2 [2, 3, 19, 18] (.take 3 [3, 18, 19] (.take 4 [4, 5, 19, 10, 17, 18] (.take 5 [5, 10, 19, 17, 18] (.take 6 [6, 7, 19, 8, 9, 10, 17, 18] (.take 7 [7, 8, 19, 9, 10, 17, 18] (.take 8 [8, 9, 19, 10, 17, 18] (.take 9 [9, 10, 19, 17, 18] (.take 10 [10, 17, 19, 18] (.take 11 [11, 12, 19, 13, 14, 15, 16, 17, 18] (.take 12 [12, 13, 19, 14, 15, 16, 17, 18] (.take 13 [13, 14, 19, 15, 16, 17, 18] (.take 14 [14, 15, 19, 16, 17, 18] (.take 15 [15, 16, 19, 17, 18] (.take 16 [16, 17, 19, 18] (.take 17 [17, 18, 19] (.take 18 [18, 19] (.take 19 [19] .done)))))))))))))))))))))]
def pf28 : PFn := ⟨24, [.t 4], (.seq (.ops false [⟨(some 4), .mov (.c (.v (.pointer none))), none⟩] .done)
  (.seq (.ops true [⟨(some 5), .mov (.t 0), none⟩,
    ⟨(some 6), .nilck (.t 5), none⟩,
    ⟨(some 7), .fld 1 (.t 6), none⟩,
    ⟨(some 8), .load none (.t 7), none⟩,
    ⟨(some 9), .mov (.t 1), none⟩,
    ⟨(some 10), .bin .quo (.t 9) (.c (.v (.int .u32 4))), none⟩,
    ⟨(some 11), .mov (.t 0), none⟩,
    ⟨(some 12), .nilck (.t 11), none⟩,
    ⟨(some 13), .fld 2 (.t 12), none⟩,
    ⟨(some 14), .load none (.t 13), none⟩,
    ⟨(some 15), .bin .xor (.t 10) (.t 14), none⟩,
    ⟨(some 16), .mov (.t 0), none⟩,
    ⟨(some 17), .nilck (.t 16), none⟩,
    ⟨(some 18), .fld 0 (.t 17), none⟩,
    ⟨(some 19), .load none (.t 18), none⟩,
    ⟨(some 20), .bin .shl (.c (.v (.int .u32 1))) (.t 19), none⟩,
    ⟨(some 21), .bin .sub (.t 20) (.c (.v (.int .u32 1))), none⟩,
    ⟨(some 22), .bin .and (.t 15) (.t 21), none⟩,
    ⟨(some 23), .idx 1 (.t 8) (.t 22), none⟩,
    ⟨(some 4), .mov (.t 23), none⟩] (.take 0 [0, 1, 19, 2, 3, 18] (.take 1 [1, 2, 19, 3, 18] (.take 2 [2, 3, 19, 18] (.take 3 [3, 18, 19] (.take 4 [4, 5, 19, 10, 17, 18] (.take 5 [5, 10, 19, 17, 18] (.take 6 [6, 7, 19, 8, 9, 10, 17, 18] (.take 7 [7, 8, 19, 9, 10, 17, 18] (.take 8 [8, 9, 19, 10, 17, 18] (.take 9 [9, 10, 19, 17, 18] (.take 10 [10, 17, 19, 18] (.take 11 [11, 12, 19, 13, 14, 15, 16, 17, 18] (.take 12 [12, 13, 19, 14, 15, 16, 17, 18] (.take 13 [13, 14, 19, 15, 16, 17, 18] (.take 14 [14, 15, 19, 16, 17, 18] (.take 15 [15, 16, 19, 17, 18] (.take 16 [16, 17, 19, 18] (.take 17 [17, 18, 19] (.take 18 [18, 19] (.take 19 [19] .done)))))))))))))))))))))
  .ret))⟩
theorem pf28_eq : (Tryd.f28.body.map fun c => (cfn Tryd.prog pl28 Tryd.f28 c, guardsAll pl28 c)) = some (pf28, true) := by kernel_rfl

/-- (*corral/pred.Targets).at  sizes [(1, 16)] -/
def pl29 : Nat → DT := dtGet [(1, (.take 0 [0, 1, 14, 2, 3, 13] (.take 1 [1, 2, 14, 3, 13] (.take 2 [2, 3, 14, 13] (.take 3 [3, 13, 14] (.take 4 [4, 5, 14, 12, 13] (.take 5 [5, 12, 14, 13] (.take 6 [6, 7, 14, 8, 9, 10, 11, 12, 13] (.take 7 [7, 8, 14, 9, 10, 11, 12, 13] (.take 8 [8, 9, 14, 10, 11, 12, 13] (.take 9 [9, 10, 14, 11, 12, 13] (.take 10 [10, 11, 14, 12, 13] (.take 11 [11, 12, 14, 13] (.take 12 [12, 13, 14] (.take 13 [13, 14] (.take 14 [14] .done))))))))))))))))]
def pf29 : PFn := ⟨19, [.t 4], (.seq (.ops false [⟨(some 4), .mov (.c (.v (.pointer none))), none⟩] .done)
  (.seq (.ops true [⟨(some 5), .mov (.t 0), none⟩,
    ⟨(some 6), .nilck (.t 5), none⟩,
    ⟨(some 7), .fld 1 (.t 6), none⟩,
    ⟨(some 8), .load none (.t 7), none⟩,
    ⟨(some 9), .mov (.t 1), none⟩,
    ⟨(some 10), .bin .quo (.t 9) (.c (.v (.int .u32 4))), none⟩,
    ⟨(some 11), .mov (.t 0), none⟩,
    ⟨(some 12), .nilck (.t 11), none⟩,
    ⟨(some 13), .fld 0 (.t 12), none⟩,
    ⟨(some 14), .load none (.t 13), none⟩,
    ⟨(some 15), .bin .shl (.c (.v (.int .u32 1))) (.t 14), none⟩,
    ⟨(some 16), .bin .sub (.t 15) (.c (.v (.int .u32 1))), none⟩,
    ⟨(some 17), .bin .and (.t 10) (.t 16), none⟩,
    ⟨(some 18), .idx 3 (.t 8) (.t 17), none⟩,
    ⟨(some 4), .mov (.t 18), none⟩] (.take 0 [0, 1, 14, 2, 3, 13] (.take 1 [1, 2, 14, 3, 13] (.take 2 [2, 3, 14, 13] (.take 3 [3, 13, 14] (.take 4 [4, 5, 14, 12, 13] (.take 5 [5, 12, 14, 13] (.take 6 [6, 7, 14, 8, 9, 10, 11, 12, 13] (.take 7 [7, 8, 14, 9, 10, 11, 12, 13] (.take 8 [8, 9, 14, 10, 11, 12, 13] (.take 9 [9, 10, 14, 11, 12, 13] (.take 10 [10, 11, 14, 12, 13] (.take 11 [11, 12, 14, 13] (.take 12 [12, 13, 14] (.take 13 [13, 14] (.take 14 [14] .done))))))))))))))))
  .ret))⟩
theorem pf29_eq : (Tryd.f29.body.map fun c => (cfn Tryd.prog pl29 Tryd.f29 c, guardsAll pl29 c)) = some (pf29, true) := by kernel_rfl

/-- slices.Clone[[]uint32,uint32]  sizes [] -/
def pl30 : Nat → DT := dtGet []
def pf30 : PFn := ⟨8, [.t 2], (.seq (.ops false [⟨(some 2), .mov (.c (.v (.slice none 0 0))), none⟩] .done)
  (.seq (.seq (.ops false [⟨(some 3), .mov (.t 0), none⟩,
     ⟨(some 4), .eqp 3 true false (.t 3) (.c (.v (.slice none 0 0))), none⟩] .done)
   (.cond (.t 4)
    (.seq (.ops false [⟨(some 2), .mov (.c (.v (.slice none 0 0))), none⟩] .done)
     .ret)
    .skip))
  (.seq (.ops false [⟨(some 5), .bslice 22 [.int .u32] 0 [] [], none⟩,
    ⟨(some 6), .mov (.t 0), none⟩,
    ⟨(some 7), .append 22 [.int .u32] [(.int .u32 0)] 4 (.t 5) (.t 6), none⟩,
    ⟨(some 2), .mov (.t 7), none⟩] .done)
  .ret)))⟩
theorem pf30_eq : (Tryd.f30.body.map fun c => (cfn Tryd.prog pl30 Tryd.f30 c, guardsAll pl30 c)) = some (pf30, true) := by kernel_rfl

/-- corral/corralsee.Same  sizes [] -/
def pl31 : Nat → DT := dtGet []
def pf31 : PFn := ⟨11, [.t 4], (.seq (.ops false [⟨(some 3), .box 78 (.t 1), none⟩,
    ⟨(some 4), .mov (.c (.v (.bool false))), none⟩] .done)
  (.seq (.ops false [⟨(some 6), .mov (.t 0), none⟩,
    ⟨(some 7), .call 38 [(.t 6)], none⟩,
    ⟨(some 5), .box 78 (.c (.agg [(.v (.int .i64 0)), (.v (.slice none 0 0))])), none⟩,
    ⟨none, .store 2 (.t 5) (.t 7), none⟩] .done)
  (.seq (.ops false [⟨(some 8), .load (some 2) (.t 5), none⟩,
    ⟨(some 9), .load (some 2) (.t 3), none⟩,
    ⟨(some 10), .call 39 [(.t 8), (.t 9)], none⟩,
    ⟨(some 4), .mov (.t 10), none⟩] .done)
  .ret)))⟩
theorem pf31_eq : (Tryd.f31.body.map fun c => (cfn Tryd.prog pl31 Tryd.f31 c, guardsAll pl31 c)) = some (pf31, true) := by kernel_rfl

/-- corral/corralref.Bare  sizes [] -/
def pl32 : Nat → DT := dtGet []
def pf32 : PFn := ⟨5, [.cell 2 (some 2)], (.seq (.ops false [⟨(some 2), .box 78 (.c (.agg [(.v (.int .i64 0)), (.v (.slice none 0 0))])), none⟩] .done)
  (.seq (.ops false [⟨(some 3), .mov (.t 0), none⟩,
    ⟨(some 4), .build [(.v (.int .i64 0)), (.v (.slice none 0 0))] [(0, 1, (.t 3))], none⟩,
    ⟨none, .store 2 (.t 2) (.t 4), none⟩] .done)
  .ret))⟩
theorem pf32_eq : (Tryd.f32.body.map fun c => (cfn Tryd.prog pl32 Tryd.f32 c, guardsAll pl32 c)) = some (pf32, true) := by kernel_rfl

/-- (*corral/corralref21.Pred).counter  sizes [(1, 15)] -/
def pl33 : Nat → DT := dtGet [(1, (.take 0 [0, 1, 13, 6, 11, 12] (.take 1 [1, 6, 13, 11, 12] (.take 2 [2, 3, 13, 4, 5, 6, 11, 12] (.take 3 [3, 4, 13, 5, 6, 11, 12] (.take 4 [4, 5, 13, 6, 11, 12] (.take 5 [5, 6, 13, 11, 12] (.take 6 [6, 11, 13, 12] (.take 7 [7, 8, 13, 9, 10, 11, 12] (.take 8 [8, 9, 13, 10, 11, 12] (.take 9 [9, 10, 13, 11, 12] (.take 10 [10, 11, 13, 12] (.eff true 11 (.take 12 [12, 13] (.take 13 [13] .done)))))))))))))))]
def pf33 : PFn := ⟨18, [.t 4], (.seq (.ops false [⟨(some 4), .mov (.c (.v (.int .i64 0))), none⟩] .done)
  (.seq (.ops true [⟨(some 5), .mov (.t 1), none⟩,
    ⟨(some 6), .bin .quo (.t 5) (.c (.v (.int .u32 4))), none⟩,
    ⟨(some 7), .mov (.t 0), none⟩,
    ⟨(some 8), .nilck (.t 7), none⟩,
    ⟨(some 9), .fld 2 (.t 8), none⟩,
    ⟨(some 10), .load none (.t 9), none⟩,
    ⟨(some 11), .bin .xor (.t 6) (.t 10), none⟩,
    ⟨(some 12), .mov (.t 0), none⟩,
    ⟨(some 13), .nilck (.t 12), none⟩,
    ⟨(some 14), .fld 0 (.t 13), none⟩,
    ⟨(some 15), .load none (.t 14), none⟩,
    ⟨(some 16), .call 34 [(.t 11), (.c (.v (.int .i64 0))), (.t 15)], none⟩,
    ⟨(some 17), .conv .i64 (.t 16), none⟩,
    ⟨(some 4), .mov (.t 17), none⟩] (.take 0 [0, 1, 13, 6, 11, 12] (.take 1 [1, 6, 13, 11, 12] (.take 2 [2, 3, 13, 4, 5, 6, 11, 12] (.take 3 [3, 4, 13, 5, 6, 11, 12] (.take 4 [4, 5, 13, 6, 11, 12] (.take 5 [5, 6, 13, 11, 12] (.take 6 [6, 11, 13, 12] (.take 7 [7, 8, 13, 9, 10, 11, 12] (.take 8 [8, 9, 13, 10, 11, 12] (.take 9 [9, 10, 13, 11, 12] (.take 10 [10, 11, 13, 12] (.eff true 11 (.take 12 [12, 13] (.take 13 [13] .done)))))))))))))))
  .ret))⟩
theorem pf33_eq : (Tryd.f33.body.map fun c => (cfn Tryd.prog pl33 Tryd.f33 c, guardsAll pl33 c)) = some (pf33, true) := by kernel_rfl

/-- corral/corralref1.Bits  sizes [] -/
def pl34 : Nat → DT := dtGet []
def pf34 : PFn := ⟨30, [.t 6], (.seq (.ops false [⟨(some 6), .mov (.c (.v (.int .u32 0))), none⟩] .done)
  (.seq (.seq (.ops false [⟨(some 7), .mov (.t 1), none⟩,
     ⟨(some 8), .bin .lss (.t 7) (.c (.v (.int .i64 0))), none⟩,
     ⟨(some 9), .mov (.t 8), none⟩,
     ⟨(some 10), .mov (.t 1), some (9, false)⟩,
     ⟨(some 11), .bin .gtr (.t 10) (.c (.v (.int .i64 31))), some (9, false)⟩,
     ⟨(some 12), .pick (.t 9) (.c (.v (.bool true))) (.t 11), none⟩,
     ⟨(some 13), .mov (.t 12), none⟩,
     ⟨(some 14), .mov (.t 2), some (13, false)⟩,
     ⟨(some 15), .bin .lss (.t 14) (.c (.v (.int .i64 1))), some (13, false)⟩,
     ⟨(some 16), .pick (.t 13) (.c (.v (.bool true))) (.t 15), none⟩] .done)
   (.cond (.t 16)
    (.seq (.ops false [⟨(some 6), .mov (.c (.v (.int .u32 0))), none⟩] .done)
     .ret)
    .skip))
  (.seq (.ops false [⟨(some 17), .mov (.t 0), none⟩,
    ⟨(some 18), .mov (.t 1), none⟩,
    ⟨(some 19), .conv .u64 (.t 18), none⟩,
    ⟨(some 20), .bin .shr (.t 17) (.t 19), none⟩,
    ⟨(some 0), .mov (.t 20), none⟩] .done)
  (.seq (.seq (.ops false [⟨(some 21), .mov (.t 2), none⟩,
     ⟨(some 22), .bin .geq (.t 21) (.c (.v (.int .i64 32))), none⟩] .done)
   (.cond (.t 22)
    (.seq (.ops false [⟨(some 23), .mov (.t 0), none⟩,
       ⟨(some 6), .mov (.t 23), none⟩] .done)
     .ret)
    .skip))
  (.seq (.ops false [⟨(some 24), .mov (.t 0), none⟩,
    ⟨(some 25), .mov (.t 2), none⟩,
    ⟨(some 26), .conv .u64 (.t 25), none⟩,
    ⟨(some 27), .bin .shl (.c (.v (.int .u32 1))) (.t 26), none⟩,
    ⟨(some 28), .bin .sub (.t 27) (.c (.v (.int .u32 1))), none⟩,
    ⟨(some 29), .bin .and (.t 24) (.t 28), none⟩,
    ⟨(some 6), .mov (.t 29), none⟩] .done)
  .ret)))))⟩
theorem pf34_eq : (Tryd.f34.body.map fun c => (cfn Tryd.prog pl34 Tryd.f34 c, guardsAll pl34 c)) = some (pf34, true) := by kernel_rfl

/-- (*corral/corralref21.Pred).place  sizes [] -/
def pl35 : Nat → DT := dtGet []
def pf35 : PFn := ⟨13, [.t 4], (.seq (.ops false [⟨(some 4), .mov (.c (.v (.int .i64 0))), none⟩] .done)
  (.seq (.ops false [⟨(some 5), .mov (.t 1), none⟩,
    ⟨(some 6), .bin .quo (.t 5) (.c (.v (.int .u32 4))), none⟩,
    ⟨(some 7), .mov (.t 0), none⟩,
    ⟨(some 8), .nilck (.t 7), none⟩,
    ⟨(some 9), .fld 0 (.t 8), none⟩,
    ⟨(some 10), .load none (.t 9), none⟩,
    ⟨(some 11), .call 34 [(.t 6), (.c (.v (.int .i64 0))), (.t 10)], none⟩,
    ⟨(some 12), .conv .i64 (.t 11), none⟩,
    ⟨(some 4), .mov (.t 12), none⟩] .done)
  .ret))⟩
theorem pf35_eq : (Tryd.f35.body.map fun c => (cfn Tryd.prog pl35 Tryd.f35 c, guardsAll pl35 c)) = some (pf35, true) := by kernel_rfl

/-- corral/corralref.Words  sizes [] -/
def pl36 : Nat → DT := dtGet []
def pf36 : PFn := ⟨22, [.t 2], (.seq (.ops false [⟨(some 2), .mov (.c (.v (.slice none 0 0))), none⟩] .done)
  (.seq (.ops false [⟨(some 5), .mov (.t 0), none⟩,
    ⟨(some 6), .len (.t 5), none⟩,
    ⟨(some 7), .mslice 22 [.int .u32] [(.int .u32 0)] 4 (.c (.v (.int .i64 0))) (.t 6), none⟩,
    ⟨(some 3), .mov (.t 7), none⟩] .done)
  (.seq (.seq (.ops false [⟨(some 4), .mov (.c (.v (.int .i64 0))), none⟩] .done)
   (.block 0 (.loop (.seq (.seq (.ops false [⟨(some 8), .mov (.t 4), none⟩,
        ⟨(some 9), .mov (.t 0), none⟩,
        ⟨(some 10), .len (.t 9), none⟩,
        ⟨(some 11), .bin .lss (.t 8) (.t 10), none⟩] .done)
      (.cond (.t 11)
       .skip
       (.exit 0)))
     (.seq (.block 1 (.ops false [⟨(some 14), .mov (.t 3), none⟩,
        ⟨(some 15), .mov (.t 0), none⟩,
        ⟨(some 16), .mov (.t 4), none⟩,
        ⟨(some 17), .idx 1 (.t 15) (.t 16), none⟩,
        ⟨(some 18), .load none (.t 17), none⟩,
        ⟨(some 19), .bslice 22 [.int .u32] 1 [(.v (.int .u32 0))] [(0, 1, (.t 18))], none⟩,
        ⟨(some 20), .append 22 [.int .u32] [(.int .u32 0)] 4 (.t 14) (.t 19), none⟩,
        ⟨(some 3), .mov (.t 20), none⟩] .done))
     (.ops false [⟨(some 12), .mov (.t 4), none⟩,
      ⟨(some 13), .bin .add (.t 12) (.c (.v (.int .i64 1))), none⟩,
      ⟨(some 4), .mov (.t 13), none⟩] .done))))))
  (.seq (.ops false [⟨(some 21), .mov (.t 3), none⟩,
    ⟨(some 2), .mov (.t 21), none⟩] .done)
  .ret))))⟩
theorem pf36_eq : (Tryd.f36.body.map fun c => (cfn Tryd.prog pl36 Tryd.f36 c, guardsAll pl36 c)) = some (pf36, true) := by kernel_rfl

/-- corral/word.mask  sizes [] -/
def pl37 : Nat → DT := dtGet []
def pf37 : PFn := ⟨9, [.t 2], (.seq (.ops false [⟨(some 2), .mov (.c (.v (.int .u32 0))), none⟩] .done)
  (.seq (.seq (.ops false [⟨(some 3), .mov (.t 0), none⟩,
     ⟨(some 4), .bin .geq (.t 3) (.c (.v (.int .i64 32))), none⟩] .done)
   (.cond (.t 4)
    (.seq (.ops false [⟨(some 2), .mov (.c (.v (.int .u32 4294967295))), none⟩] .done)
     .ret)
    .skip))
  (.seq (.ops false [⟨(some 5), .mov (.t 0), none⟩,
    ⟨(some 6), .minmax true [(.t 5), (.c (.v (.int .i64 0)))], none⟩,
    ⟨(some 7), .bin .shl (.c (.v (.int .u32 1))) (.t 6), none⟩,
    ⟨(some 8), .bin .sub (.t 7) (.c (.v (.int .u32 1))), none⟩,
    ⟨(some 2), .mov (.t 8), none⟩] .done)
  .ret)))⟩
theorem pf37_eq : (Tryd.f37.body.map fun c => (cfn Tryd.prog pl37 Tryd.f37 c, guardsAll pl37 c)) = some (pf37, true) := by kernel_rfl

/-- corral/corralsee.Fault  sizes [] -/
def pl38 : Nat → DT := dtGet []
def pf38 : PFn := ⟨8, [.cell 2 (some 2)], (.seq (.ops false [⟨(some 2), .box 78 (.c (.agg [(.v (.int .i64 0)), (.v (.slice none 0 0))])), none⟩] .done)
  (.seq (.seq (.ops false [⟨(some 3), .mov (.t 0), none⟩,
     ⟨(some 4), .eqp 1 true false (.t 3) (.c (.v .nilIface)), none⟩] .done)
   (.cond (.t 4)
    (.seq (.ops false [⟨(some 5), .call 40 [], none⟩,
       ⟨none, .store 2 (.t 2) (.t 5), none⟩] .done)
     .ret)
    .skip))
  (.seq (.ops false [⟨(some 6), .mov (.t 0), none⟩,
    ⟨(some 7), .call 41 [(.t 6), (.c (.v (.int .i64 9)))], none⟩,
    ⟨none, .store 2 (.t 2) (.t 7), none⟩] .done)
  .ret)))⟩
theorem pf38_eq : (Tryd.f38.body.map fun c => (cfn Tryd.prog pl38 Tryd.f38 c, guardsAll pl38 c)) = some (pf38, true) := by kernel_rfl

/-- corral/corralref.SameFault  sizes [] -/
def pl39 : Nat → DT := dtGet []
def pf39 : PFn := ⟨19, [.t 4], (.seq (.ops false [⟨(some 2), .box 78 (.t 0), none⟩,
    ⟨(some 3), .box 78 (.t 1), none⟩,
    ⟨(some 4), .mov (.c (.v (.bool false))), none⟩] .done)
  (.seq (.ops false [⟨(some 6), .fld 1 (.t 2), none⟩,
    ⟨(some 7), .load none (.t 6), none⟩,
    ⟨(some 8), .fld 1 (.t 3), none⟩,
    ⟨(some 9), .load none (.t 8), none⟩,
    ⟨(some 10), .call 42 [(.t 7), (.t 9)], none⟩,
    ⟨(some 5), .mov (.t 10), none⟩] .done)
  (.seq (.ops false [⟨(some 11), .fld 0 (.t 2), none⟩,
    ⟨(some 12), .load none (.t 11), none⟩,
    ⟨(some 13), .fld 0 (.t 3), none⟩,
    ⟨(some 14), .load none (.t 13), none⟩,
    ⟨(some 15), .bin .eql (.t 12) (.t 14), none⟩,
    ⟨(some 16), .mov (.t 15), none⟩,
    ⟨(some 17), .mov (.t 5), some (16, true)⟩,
    ⟨(some 18), .pick (.t 16) (.t 17) (.c (.v (.bool false))), none⟩,
    ⟨(some 4), .mov (.t 18), none⟩] .done)
  .ret)))⟩
theorem pf39_eq : (Tryd.f39.body.map fun c => (cfn Tryd.prog pl39 Tryd.f39 c, guardsAll pl39 c)) = some (pf39, true) := by kernel_rfl

/-- corral/corralref.None  sizes [] -/
def pl40 : Nat → DT := dtGet []
def pf40 : PFn := ⟨2, [.cell 0 (some 2)], (.seq (.ops false [⟨(some 0), .box 78 (.c (.agg [(.v (.int .i64 0)), (.v (.slice none 0 0))])), none⟩] .done)
  (.seq (.ops false [⟨(some 1), .build [(.v (.int .i64 0)), (.v (.slice none 0 0))] [], none⟩,
    ⟨none, .store 2 (.t 0) (.t 1), none⟩] .done)
  .ret))⟩
theorem pf40_eq : (Tryd.f40.body.map fun c => (cfn Tryd.prog pl40 Tryd.f40 c, guardsAll pl40 c)) = some (pf40, true) := by kernel_rfl

/-- corral/corralsee.fault  sizes [(9, 13)] -/
def pl41 : Nat → DT := dtGet [(9, (.take 0 [0, 1, 11, 10] (.take 1 [1, 10, 11] (.take 2 [2, 3, 11, 4, 5, 6, 9, 10] (.take 3 [3, 4, 11, 5, 6, 9, 10] (.take 4 [4, 5, 11, 6, 9, 10] (.take 5 [5, 6, 11, 9, 10] (.take 7 [7, 8, 11, 9, 10] (.take 8 [8, 9, 11, 10] (.eff true 6 (.eff false 9 (.take 10 [10, 11] (.eff false 11 .done)))))))))))))]
def pf41 : PFn := ⟨42, [.cell 4 (some 2)], (.seq (.ops false [⟨(some 4), .box 78 (.c (.agg [(.v (.int .i64 0)), (.v (.slice none 0 0))])), none⟩] .done)
  (.seq (.seq (.ops false [⟨(some 7), .mov (.t 0), none⟩,
     ⟨(some 8), .eqp 1 true false (.t 7) (.c (.v .nilIface)), none⟩,
     ⟨(some 9), .mov (.t 8), none⟩,
     ⟨(some 10), .mov (.t 1), some (9, false)⟩,
     ⟨(some 11), .bin .eql (.t 10) (.c (.v (.int .i64 0))), some (9, false)⟩,
     ⟨(some 12), .pick (.t 9) (.c (.v (.bool true))) (.t 11), none⟩] .done)
   (.cond (.t 12)
    (.seq (.ops false [⟨(some 13), .call 32 [(.c (.v (.int .i64 (-1))))], none⟩,
       ⟨none, .store 2 (.t 4) (.t 13), none⟩] .done)
     .ret)
    .skip))
  (.seq (.seq (.ops false [⟨(some 14), .mov (.t 0), none⟩] .done)
   (.block 0 (.seq (.ops false [⟨(some 15), .tassert 87 true (.v (.pointer none)) (.t 14), none⟩,
      ⟨(some 16), .ext (.t 15) 1, none⟩,
      ⟨(some 17), .ext (.t 15) 0, none⟩] .done)
    (.cond (.t 16)
     (.seq (.ops false [⟨(some 5), .mov (.t 17), none⟩] .done)
      (.seq (.seq (.ops false [⟨(some 18), .mov (.t 5), none⟩,
         ⟨(some 19), .eqp 0 true false (.t 18) (.c (.v (.pointer none))), none⟩] .done)
       (.cond (.t 19)
        (.seq (.ops false [⟨(some 20), .call 32 [(.c (.v (.int .i64 (-1))))], none⟩,
           ⟨none, .store 2 (.t 4) (.t 20), none⟩] .done)
         .ret)
        .skip))
      (.seq (.ops false [⟨(some 21), .mov (.t 5), none⟩,
        ⟨(some 22), .nilck (.t 21), none⟩,
        ⟨(some 23), .fld 1 (.t 22), none⟩,
        ⟨(some 24), .load none (.t 23), none⟩,
        ⟨(some 25), .mov (.t 1), none⟩,
        ⟨(some 26), .bin .sub (.t 25) (.c (.v (.int .i64 1))), none⟩,
        ⟨(some 27), .call 41 [(.t 24), (.t 26)], none⟩,
        ⟨(some 6), .box 78 (.c (.agg [(.v (.int .i64 0)), (.v (.slice none 0 0))])), none⟩,
        ⟨none, .store 2 (.t 6) (.t 27), none⟩] .done)
      (.seq (.ops true [⟨(some 28), .fld 0 (.t 6), none⟩,
        ⟨(some 29), .load none (.t 28), none⟩,
        ⟨(some 30), .mov (.t 5), none⟩,
        ⟨(some 31), .nilck (.t 30), none⟩,
        ⟨(some 32), .fld 0 (.t 31), none⟩,
        ⟨(some 33), .load none (.t 32), none⟩,
        ⟨(some 34), .bslice 3 [.int .i64] 1 [(.v (.int .i64 0))] [(0, 1, (.t 33))], none⟩,
        ⟨(some 35), .fld 1 (.t 6), none⟩,
        ⟨(some 36), .load none (.t 35), none⟩,
        ⟨(some 37), .append 3 [.int .i64] [(.int .i64 0)] 8 (.t 34) (.t 36), none⟩,
        ⟨(some 38), .build [(.v (.int .i64 0)), (.v (.slice none 0 0))] [(0, 1, (.t 29)), (1, 1, (.t 37))], none⟩,
        ⟨none, .store 2 (.t 4) (.t 38), none⟩] (.take 0 [0, 1, 11, 10] (.take 1 [1, 10, 11] (.take 2 [2, 3, 11, 4, 5, 6, 9, 10] (.take 3 [3, 4, 11, 5, 6, 9, 10] (.take 4 [4, 5, 11, 6, 9, 10] (.take 5 [5, 6, 11, 9, 10] (.take 7 [7, 8, 11, 9, 10] (.take 8 [8, 9, 11, 10] (.eff true 6 (.eff false 9 (.take 10 [10, 11] (.eff false 11 .done)))))))))))))
      .ret))))
     .skip))))
  (.seq (.ops false [⟨(some 39), .mov (.t 0), none⟩,
    ⟨(some 40), .call 43 [(.t 39)], none⟩,
    ⟨(some 41), .call 32 [(.t 40)], none⟩,
    ⟨none, .store 2 (.t 4) (.t 41), none⟩] .done)
  .ret))))⟩
theorem pf41_eq : (Tryd.f41.body.map fun c => (cfn Tryd.prog pl41 Tryd.f41 c, guardsAll pl41 c)) = some (pf41, true) := by kernel_rfl

/-- corral/corralref.SameInts  sizes [(6, 11)] -/
def pl42 : Nat → DT := dtGet [(6, (.take 0 [0, 2, 9, 3, 8] (.take 1 [1, 2, 9, 3, 8] (.take 2 [2, 3, 9, 8] (.take 3 [3, 8, 9] (.take 4 [4, 6, 9, 7, 8] (.take 5 [5, 6, 9, 7, 8] (.take 6 [6, 7, 9, 8] (.take 7 [7, 8, 9] (.take 8 [8, 9] (.take 9 [9] .done)))))))))))]
def pf42 : PFn := ⟨29, [.t 4], (.seq (.ops false [⟨(some 4), .mov (.c (.v (.bool false))), none⟩] .done)
  (.seq (.seq (.ops false [⟨(some 7), .mov (.t 0), none⟩,
     ⟨(some 8), .len (.t 7), none⟩,
     ⟨(some 9), .mov (.t 1), none⟩,
     ⟨(some 10), .len (.t 9), none⟩,
     ⟨(some 11), .bin .neq (.t 8) (.t 10), none⟩] .done)
   (.cond (.t 11)
    (.seq (.ops false [⟨(some 4), .mov (.c (.v (.bool false))), none⟩] .done)
     .ret)
    .skip))
  (.seq (.seq (.ops false [⟨(some 5), .mov (.c (.v (.int .i64 0))), none⟩] .done)
   (.block 0 (.loop (.seq (.seq (.ops false [⟨(some 12), .mov (.t 5), none⟩,
        ⟨(some 13), .mov (.t 0), none⟩,
        ⟨(some 14), .len (.t 13), none⟩,
        ⟨(some 15), .bin .lss (.t 12) (.t 14), none⟩] .done)
      (.cond (.t 15)
       .skip
       (.exit 0)))
     (.seq (.block 1 (.seq (.ops true [⟨(some 18), .mov (.t 0), none⟩,
         ⟨(some 19), .mov (.t 5), none⟩,
         ⟨(some 20), .idx 1 (.t 18) (.t 19), none⟩,
         ⟨(some 21), .load none (.t 20), none⟩,
         ⟨(some 22), .mov (.t 1), none⟩,
         ⟨(some 23), .mov (.t 5), none⟩,
         ⟨(some 24), .idx 1 (.t 22) (.t 23), none⟩,
         ⟨(some 25), .load none (.t 24), none⟩,
         ⟨(some 26), .bin .eql (.t 21) (.t 25), none⟩,
         ⟨(some 6), .mov (.t 26), none⟩] (.take 0 [0, 2, 9, 3, 8] (.take 1 [1, 2, 9, 3, 8] (.take 2 [2, 3, 9, 8] (.take 3 [3, 8, 9] (.take 4 [4, 6, 9, 7, 8] (.take 5 [5, 6, 9, 7, 8] (.take 6 [6, 7, 9, 8] (.take 7 [7, 8, 9] (.take 8 [8, 9] (.take 9 [9] .done)))))))))))
       (.seq (.ops false [⟨(some 27), .mov (.t 6), none⟩,
         ⟨(some 28), .un .not (.t 27), none⟩] .done)
       (.cond (.t 28)
        (.seq (.ops false [⟨(some 4), .mov (.c (.v (.bool false))), none⟩] .done)
         .ret)
        .skip))))
     (.ops false [⟨(some 16), .mov (.t 5), none⟩,
      ⟨(some 17), .bin .add (.t 16) (.c (.v (.int .i64 1))), none⟩,
      ⟨(some 5), .mov (.t 17), none⟩] .done))))))
  (.seq (.ops false [⟨(some 4), .mov (.c (.v (.bool true))), none⟩] .done)
  .ret))))⟩
theorem pf42_eq : (Tryd.f42.body.map fun c => (cfn Tryd.prog pl42 Tryd.f42 c, guardsAll pl42 c)) = some (pf42, true) := by kernel_rfl

/-- corral/corralsee.sentinel  sizes [] -/
def pl43 : Nat → DT := dtGet []
def pf43 : PFn := ⟨20, [.t 2], (.seq (.ops false [⟨(some 2), .mov (.c (.v (.int .i64 0))), none⟩] .done)
  (.seq (.ops false [⟨(some 5), .call 44 [], none⟩,
    ⟨(some 3), .mov (.t 5), none⟩] .done)
  (.seq (.seq (.ops false [⟨(some 4), .mov (.c (.v (.int .i64 0))), none⟩] .done)
   (.block 0 (.loop (.seq (.seq (.ops false [⟨(some 6), .mov (.t 4), none⟩,
        ⟨(some 7), .mov (.t 3), none⟩,
        ⟨(some 8), .len (.t 7), none⟩,
        ⟨(some 9), .bin .lss (.t 6) (.t 8), none⟩] .done)
      (.cond (.t 9)
       .skip
       (.exit 0)))
     (.seq (.block 1 (.seq (.ops false [⟨(some 12), .mov (.t 0), none⟩,
         ⟨(some 13), .mov (.t 3), none⟩,
         ⟨(some 14), .mov (.t 4), none⟩,
         ⟨(some 15), .idx 1 (.t 13) (.t 14), none⟩,
         ⟨(some 16), .load none (.t 15), none⟩,
         ⟨(some 17), .call 45 [(.t 12), (.t 16)], none⟩] .done)
       (.cond (.t 17)
        (.seq (.ops false [⟨(some 18), .mov (.t 4), none⟩,
           ⟨(some 19), .bin .add (.c (.v (.int .i64 101))) (.t 18), none⟩,
           ⟨(some 2), .mov (.t 19), none⟩] .done)
         .ret)
        .skip)))
     (.ops false [⟨(some 10), .mov (.t 4), none⟩,
      ⟨(some 11), .bin .add (.t 10) (.c (.v (.int .i64 1))), none⟩,
      ⟨(some 4), .mov (.t 11), none⟩] .done))))))
  (.seq (.ops false [⟨(some 2), .mov (.c (.v (.int .i64 (-1)))), none⟩] .done)
  .ret))))⟩
theorem pf43_eq : (Tryd.f43.body.map fun c => (cfn Tryd.prog pl43 Tryd.f43 c, guardsAll pl43 c)) = some (pf43, true) := by kernel_rfl

/-- corral/corralsee.sentinels  sizes [] -/
def pl44 : Nat → DT := dtGet []
def pf44 : PFn := ⟨13, [.t 0], (.seq (.ops false [⟨(some 0), .mov (.c (.v (.slice none 0 0))), none⟩] .done)
  (.seq (.ops false [⟨(some 1), .load none (.c (.v (.pointer (some ⟨1, 0, none⟩)))), none⟩,
    ⟨(some 2), .load none (.c (.v (.pointer (some ⟨2, 0, none⟩)))), none⟩,
    ⟨(some 3), .load none (.c (.v (.pointer (some ⟨3, 0, none⟩)))), none⟩,
    ⟨(some 4), .load none (.c (.v (.pointer (some ⟨4, 0, none⟩)))), none⟩,
    ⟨(some 5), .load none (.c (.v (.pointer (some ⟨5, 0, none⟩)))), none⟩,
    ⟨(some 6), .load none (.c (.v (.pointer (some ⟨0, 0, none⟩)))), none⟩,
    ⟨(some 7), .load none (.c (.v (.pointer (some ⟨6, 0, none⟩)))), none⟩,
    ⟨(some 8), .load none (.c (.v (.pointer (some ⟨7, 0, none⟩)))), none⟩,
    ⟨(some 9), .load none (.c (.v (.pointer (some ⟨8, 0, none⟩)))), none⟩,
    ⟨(some 10), .load none (.c (.v (.pointer (some ⟨9, 0, none⟩)))), none⟩,
    ⟨(some 11), .load none (.c (.v (.pointer (some ⟨10, 0, none⟩)))), none⟩,
    ⟨(some 12), .bslice 26 [.raw] 11 [(.v .nilIface), (.v .nilIface), (.v .nilIface), (.v .nilIface), (.v .nilIface), (.v .nilIface), (.v .nilIface), (.v .nilIface), (.v .nilIface), (.v .nilIface), (.v .nilIface)] [(0, 1, (.t 1)), (1, 1, (.t 2)), (2, 1, (.t 3)), (3, 1, (.t 4)), (4, 1, (.t 5)), (5, 1, (.t 6)), (6, 1, (.t 7)), (7, 1, (.t 8)), (8, 1, (.t 9)), (9, 1, (.t 10)), (10, 1, (.t 11))], none⟩,
    ⟨(some 0), .mov (.t 12), none⟩] .done)
  .ret))⟩
theorem pf44_eq : (Tryd.f44.body.map fun c => (cfn Tryd.prog pl44 Tryd.f44 c, guardsAll pl44 c)) = some (pf44, true) := by kernel_rfl

/-- corral/corralsee.Alike  sizes [] -/
def pl45 : Nat → DT := dtGet []
def pf45 : PFn := ⟨20, [.t 4], (.seq (.ops false [⟨(some 4), .mov (.c (.v (.bool false))), none⟩] .done)
  (.seq (.seq (.ops false [⟨(some 5), .mov (.t 0), none⟩,
     ⟨(some 6), .eqp 1 true false (.t 5) (.c (.v .nilIface)), none⟩,
     ⟨(some 7), .mov (.t 6), none⟩,
     ⟨(some 8), .mov (.t 1), some (7, false)⟩,
     ⟨(some 9), .eqp 1 true false (.t 8) (.c (.v .nilIface)), some (7, false)⟩,
     ⟨(some 10), .pick (.t 7) (.c (.v (.bool true))) (.t 9), none⟩] .done)
   (.cond (.t 10)
    (.seq (.ops false [⟨(some 11), .mov (.t 0), none⟩,
       ⟨(some 12), .eqp 1 true false (.t 11) (.c (.v .nilIface)), none⟩,
       ⟨(some 13), .mov (.t 12), none⟩,
       ⟨(some 14), .mov (.t 1), some (13, true)⟩,
       ⟨(some 15), .eqp 1 true false (.t 14) (.c (.v .nilIface)), some (13, true)⟩,
       ⟨(some 16), .pick (.t 13) (.t 15) (.c (.v (.bool false))), none⟩,
       ⟨(some 4), .mov (.t 16), none⟩] .done)
     .ret)
    .skip))
  (.seq (.ops false [⟨(some 17), .mov (.t 0), none⟩,
    ⟨(some 18), .mov (.t 1), none⟩,
    ⟨(some 19), .eqp 1 false false (.t 17) (.t 18), none⟩,
    ⟨(some 4), .mov (.t 19), none⟩] .done)
  .ret)))⟩
theorem pf45_eq : (Tryd.f45.body.map fun c => (cfn Tryd.prog pl45 Tryd.f45 c, guardsAll pl45 c)) = some (pf45, true) := by kernel_rfl

theorem at3 : Tryd.prog.funcs[3]? = some Tryd.f3 ∧ (Tryd.f3.name == "runtime.NumGoroutine") = false := ⟨by kernel_rfl, by kernel_rfl⟩
theorem at4 : Tryd.prog.funcs[4]? = some Tryd.f4 ∧ (Tryd.f4.name == "runtime.NumGoroutine") = false := ⟨by kernel_rfl, by kernel_rfl⟩
theorem at5 : Tryd.prog.funcs[5]? = some Tryd.f5 ∧ (Tryd.f5.name == "runtime.NumGoroutine") = false := ⟨by kernel_rfl, by kernel_rfl⟩
theorem at6 : Tryd.prog.funcs[6]? = some Tryd.f6 ∧ (Tryd.f6.name == "runtime.NumGoroutine") = false := ⟨by kernel_rfl, by kernel_rfl⟩
theorem at7 : Tryd.prog.funcs[7]? = some Tryd.f7 ∧ (Tryd.f7.name == "runtime.NumGoroutine") = false := ⟨by kernel_rfl, by kernel_rfl⟩
theorem at8 : Tryd.prog.funcs[8]? = some Tryd.f8 ∧ (Tryd.f8.name == "runtime.NumGoroutine") = false := ⟨by kernel_rfl, by kernel_rfl⟩
theorem at9 : Tryd.prog.funcs[9]? = some Tryd.f9 ∧ (Tryd.f9.name == "runtime.NumGoroutine") = false := ⟨by kernel_rfl, by kernel_rfl⟩
theorem at10 : Tryd.prog.funcs[10]? = some Tryd.f10 ∧ (Tryd.f10.name == "runtime.NumGoroutine") = false := ⟨by kernel_rfl, by kernel_rfl⟩
theorem at11 : Tryd.prog.funcs[11]? = some Tryd.f11 ∧ (Tryd.f11.name == "runtime.NumGoroutine") = false := ⟨by kernel_rfl, by kernel_rfl⟩
theorem at12 : Tryd.prog.funcs[12]? = some Tryd.f12 ∧ (Tryd.f12.name == "runtime.NumGoroutine") = false := ⟨by kernel_rfl, by kernel_rfl⟩
theorem at13 : Tryd.prog.funcs[13]? = some Tryd.f13 ∧ (Tryd.f13.name == "runtime.NumGoroutine") = false := ⟨by kernel_rfl, by kernel_rfl⟩
theorem at14 : Tryd.prog.funcs[14]? = some Tryd.f14 ∧ (Tryd.f14.name == "runtime.NumGoroutine") = false := ⟨by kernel_rfl, by kernel_rfl⟩
theorem at15 : Tryd.prog.funcs[15]? = some Tryd.f15 ∧ (Tryd.f15.name == "runtime.NumGoroutine") = false := ⟨by kernel_rfl, by kernel_rfl⟩
theorem at16 : Tryd.prog.funcs[16]? = some Tryd.f16 ∧ (Tryd.f16.name == "runtime.NumGoroutine") = false := ⟨by kernel_rfl, by kernel_rfl⟩
theorem at17 : Tryd.prog.funcs[17]? = some Tryd.f17 ∧ (Tryd.f17.name == "runtime.NumGoroutine") = false := ⟨by kernel_rfl, by kernel_rfl⟩
theorem at18 : Tryd.prog.funcs[18]? = some Tryd.f18 ∧ (Tryd.f18.name == "runtime.NumGoroutine") = false := ⟨by kernel_rfl, by kernel_rfl⟩
theorem at19 : Tryd.prog.funcs[19]? = some Tryd.f19 ∧ (Tryd.f19.name == "runtime.NumGoroutine") = false := ⟨by kernel_rfl, by kernel_rfl⟩
theorem at20 : Tryd.prog.funcs[20]? = some Tryd.f20 ∧ (Tryd.f20.name == "runtime.NumGoroutine") = false := ⟨by kernel_rfl, by kernel_rfl⟩
theorem at21 : Tryd.prog.funcs[21]? = some Tryd.f21 ∧ (Tryd.f21.name == "runtime.NumGoroutine") = false := ⟨by kernel_rfl, by kernel_rfl⟩
theorem at22 : Tryd.prog.funcs[22]? = some Tryd.f22 ∧ (Tryd.f22.name == "runtime.NumGoroutine") = false := ⟨by kernel_rfl, by kernel_rfl⟩
theorem at23 : Tryd.prog.funcs[23]? = some Tryd.f23 ∧ (Tryd.f23.name == "runtime.NumGoroutine") = false := ⟨by kernel_rfl, by kernel_rfl⟩
theorem at24 : Tryd.prog.funcs[24]? = some Tryd.f24 ∧ (Tryd.f24.name == "runtime.NumGoroutine") = false := ⟨by kernel_rfl, by kernel_rfl⟩
theorem at25 : Tryd.prog.funcs[25]? = some Tryd.f25 ∧ (Tryd.f25.name == "runtime.NumGoroutine") = false := ⟨by kernel_rfl, by kernel_rfl⟩
theorem at26 : Tryd.prog.funcs[26]? = some Tryd.f26 ∧ (Tryd.f26.name == "runtime.NumGoroutine") = false := ⟨by kernel_rfl, by kernel_rfl⟩
theorem at27 : Tryd.prog.funcs[27]? = some Tryd.f27 ∧ (Tryd.f27.name == "runtime.NumGoroutine") = false := ⟨by kernel_rfl, by kernel_rfl⟩
theorem at28 : Tryd.prog.funcs[28]? = some Tryd.f28 ∧ (Tryd.f28.name == "runtime.NumGoroutine") = false := ⟨by kernel_rfl, by kernel_rfl⟩
theorem at29 : Tryd.prog.funcs[29]? = some Tryd.f29 ∧ (Tryd.f29.name == "runtime.NumGoroutine") = false := ⟨by kernel_rfl, by kernel_rfl⟩
theorem at30 : Tryd.prog.funcs[30]? = some Tryd.f30 ∧ (Tryd.f30.name == "runtime.NumGoroutine") = false := ⟨by kernel_rfl, by kernel_rfl⟩
theorem at31 : Tryd.prog.funcs[31]? = some Tryd.f31 ∧ (Tryd.f31.name == "runtime.NumGoroutine") = false := ⟨by kernel_rfl, by kernel_rfl⟩
theorem at32 : Tryd.prog.funcs[32]? = some Tryd.f32 ∧ (Tryd.f32.name == "runtime.NumGoroutine") = false := ⟨by kernel_rfl, by kernel_rfl⟩
theorem at33 : Tryd.prog.funcs[33]? = some Tryd.f33 ∧ (Tryd.f33.name == "runtime.NumGoroutine") = false := ⟨by kernel_rfl, by kernel_rfl⟩
theorem at34 : Tryd.prog.funcs[34]? = some Tryd.f34 ∧ (Tryd.f34.name == "runtime.NumGoroutine") = false := ⟨by kernel_rfl, by kernel_rfl⟩
theorem at35 : Tryd.prog.funcs[35]? = some Tryd.f35 ∧ (Tryd.f35.name == "runtime.NumGoroutine") = false := ⟨by kernel_rfl, by kernel_rfl⟩
theorem at36 : Tryd.prog.funcs[36]? = some Tryd.f36 ∧ (Tryd.f36.name == "runtime.NumGoroutine") = false := ⟨by kernel_rfl, by kernel_rfl⟩
theorem at37 : Tryd.prog.funcs[37]? = some Tryd.f37 ∧ (Tryd.f37.name == "runtime.NumGoroutine") = false := ⟨by kernel_rfl, by kernel_rfl⟩
theorem at38 : Tryd.prog.funcs[38]? = some Tryd.f38 ∧ (Tryd.f38.name == "runtime.NumGoroutine") = false := ⟨by kernel_rfl, by kernel_rfl⟩
theorem at39 : Tryd.prog.funcs[39]? = some Tryd.f39 ∧ (Tryd.f39.name == "runtime.NumGoroutine") = false := ⟨by kernel_rfl, by kernel_rfl⟩
theorem at40 : Tryd.prog.funcs[40]? = some Tryd.f40 ∧ (Tryd.f40.name == "runtime.NumGoroutine") = false := ⟨by kernel_rfl, by kernel_rfl⟩
theorem at41 : Tryd.prog.funcs[41]? = some Tryd.f41 ∧ (Tryd.f41.name == "runtime.NumGoroutine") = false := ⟨by kernel_rfl, by kernel_rfl⟩
theorem at42 : Tryd.prog.funcs[42]? = some Tryd.f42 ∧ (Tryd.f42.name == "runtime.NumGoroutine") = false := ⟨by kernel_rfl, by kernel_rfl⟩
theorem at43 : Tryd.prog.funcs[43]? = some Tryd.f43 ∧ (Tryd.f43.name == "runtime.NumGoroutine") = false := ⟨by kernel_rfl, by kernel_rfl⟩
theorem at44 : Tryd.prog.funcs[44]? = some Tryd.f44 ∧ (Tryd.f44.name == "runtime.NumGoroutine") = false := ⟨by kernel_rfl, by kernel_rfl⟩
theorem at45 : Tryd.prog.funcs[45]? = some Tryd.f45 ∧ (Tryd.f45.name == "runtime.NumGoroutine") = false := ⟨by kernel_rfl, by kernel_rfl⟩
def tab : List (Nat × PFn) := [(3, pf3), (4, pf4), (5, pf5), (6, pf6), (7, pf7), (8, pf8), (9, pf9), (10, pf10), (11, pf11), (12, pf12), (13, pf13), (14, pf14), (15, pf15), (16, pf16), (17, pf17), (18, pf18), (19, pf19), (20, pf20), (21, pf21), (22, pf22), (23, pf23), (24, pf24), (25, pf25), (26, pf26), (27, pf27), (28, pf28), (29, pf29), (30, pf30), (31, pf31), (32, pf32), (33, pf33), (34, pf34), (35, pf35), (36, pf36), (37, pf37), (38, pf38), (39, pf39), (40, pf40), (41, pf41), (42, pf42), (43, pf43), (44, pf44), (45, pf45)]
theorem tab_ok : TabOK Tryd.prog tab :=
  .cons mixed at3 pf3_eq (.cons mixed at4 pf4_eq (.cons mixed at5 pf5_eq (.cons mixed at6 pf6_eq (.cons mixed at7 pf7_eq (.cons mixed at8 pf8_eq (.cons mixed at9 pf9_eq (.cons mixed at10 pf10_eq (.cons mixed at11 pf11_eq (.cons mixed at12 pf12_eq (.cons mixed at13 pf13_eq (.cons mixed at14 pf14_eq (.cons mixed at15 pf15_eq (.cons mixed at16 pf16_eq (.cons mixed at17 pf17_eq (.cons mixed at18 pf18_eq (.cons mixed at19 pf19_eq (.cons mixed at20 pf20_eq (.cons mixed at21 pf21_eq (.cons mixed at22 pf22_eq (.cons mixed at23 pf23_eq (.cons mixed at24 pf24_eq (.cons mixed at25 pf25_eq (.cons mixed at26 pf26_eq (.cons mixed at27 pf27_eq (.cons mixed at28 pf28_eq (.cons mixed at29 pf29_eq (.cons mixed at30 pf30_eq (.cons mixed at31 pf31_eq (.cons mixed at32 pf32_eq (.cons mixed at33 pf33_eq (.cons mixed at34 pf34_eq (.cons mixed at35 pf35_eq (.cons mixed at36 pf36_eq (.cons mixed at37 pf37_eq (.cons mixed at38 pf38_eq (.cons mixed at39 pf39_eq (.cons mixed at40 pf40_eq (.cons mixed at41 pf41_eq (.cons mixed at42 pf42_eq (.cons mixed at43 pf43_eq (.cons mixed at44 pf44_eq (.cons mixed at45 pf45_eq (.nil)))))))))))))))))))))))))))))))))))))))))))
noncomputable def G0 : Nat → Option Trans := tabG (tget []) (tget tab) 5
theorem G0_ok : GOK Tryd.prog G0 := tabG_ok .nil tab_ok 5
end Go.Proofs.YtmhgiffhmcigpaaDoor
