/-
  The programs of the functions that the chapter's laws reach, read off the given program by the kernel.
-/
import Derived.Test.YtmhgiffhmcigpaaDoorProg
import Derived.Test.YtmhgiffhmcigpaaDoorVco
namespace Go.Proofs.YtmhgiffhmcigpaaDoor
open Go Go.Vc
set_option maxRecDepth 100000
theorem mixed : Tryd.prog.follows .mixedOrders = true := by kernel_rfl
/-- corral/corrallaw22.PredLearns  sizes [] -/
def pl3 : Nat → DT := dtGet []
def pf3 : PFn := ⟨72, [.t 8], (.seq (.ops false [⟨(some 8), .mov (.c (.v (.bool false))), none⟩] .done)
  (.seq (.ops false [⟨(some 14), .call 7 [], none⟩,
    ⟨(some 9), .mov (.t 14), none⟩] .done)
  (.seq (.seq (.ops false [⟨(some 15), .mov (.t 9), none⟩,
     ⟨(some 16), .un .not (.t 15), none⟩] .done)
   (.cond (.t 16)
    (.seq (.ops false [⟨(some 8), .mov (.c (.v (.bool false))), none⟩] .done)
     .ret)
    .skip))
  (.seq (.ops false [⟨(some 17), .mov (.t 0), none⟩,
    ⟨(some 18), .bin .rem (.t 17) (.c (.v (.int .i64 10))), none⟩,
    ⟨(some 19), .bin .add (.t 18) (.c (.v (.int .i64 10))), none⟩,
    ⟨(some 20), .bin .rem (.t 19) (.c (.v (.int .i64 10))), none⟩,
    ⟨(some 21), .bin .add (.t 20) (.c (.v (.int .i64 1))), none⟩,
    ⟨(some 0), .mov (.t 21), none⟩] .done)
  (.seq (.ops false [⟨(some 23), .mov (.t 0), none⟩,
    ⟨(some 24), .mov (.t 1), none⟩,
    ⟨(some 25), .call 8 [(.t 23), (.t 24)], none⟩,
    ⟨(some 22), .mov (.t 25), none⟩,
    ⟨(some 26), .ext (.t 22) 0, none⟩,
    ⟨(some 27), .ext (.t 22) 1, none⟩,
    ⟨(some 10), .mov (.t 26), none⟩,
    ⟨(some 11), .mov (.t 27), none⟩] .done)
  (.seq (.seq (.ops false [⟨(some 28), .mov (.t 10), none⟩,
     ⟨(some 29), .eqp 0 true false (.t 28) (.c (.v (.pointer none))), none⟩,
     ⟨(some 30), .mov (.t 29), none⟩,
     ⟨(some 31), .mov (.t 11), some (30, false)⟩,
     ⟨(some 32), .eqp 1 true true (.t 31) (.c (.v .nilIface)), some (30, false)⟩,
     ⟨(some 33), .pick (.t 30) (.c (.v (.bool true))) (.t 32), none⟩] .done)
   (.cond (.t 33)
    (.seq (.ops false [⟨(some 8), .mov (.c (.v (.bool false))), none⟩] .done)
     .ret)
    .skip))
  (.seq (.seq (.ops false [⟨(some 12), .mov (.c (.v (.int .i64 0))), none⟩] .done)
   (.block 0 (.loop (.seq (.seq (.ops false [⟨(some 34), .mov (.t 12), none⟩,
        ⟨(some 35), .mov (.t 0), none⟩,
        ⟨(some 36), .bin .add (.t 35) (.c (.v (.int .i64 4))), none⟩,
        ⟨(some 37), .bin .lss (.t 34) (.t 36), none⟩] .done)
      (.cond (.t 37)
       .skip
       (.exit 0)))
     (.seq (.block 1 (.ops false [⟨(some 40), .mov (.t 10), none⟩,
        ⟨(some 41), .nilck (.t 40), none⟩,
        ⟨(some 42), .fld 0 (.t 41), none⟩,
        ⟨(some 43), .load none (.t 42), none⟩,
        ⟨(some 44), .mov (.t 2), none⟩,
        ⟨(some 45), .mov (.t 3), none⟩,
        ⟨(some 46), .call 9 [(.t 43), (.t 44), (.t 45)], none⟩] .done))
     (.ops false [⟨(some 38), .mov (.t 12), none⟩,
      ⟨(some 39), .bin .add (.t 38) (.c (.v (.int .i64 1))), none⟩,
      ⟨(some 12), .mov (.t 39), none⟩] .done))))))
  (.seq (.ops false [⟨(some 13), .mov (.c (.v (.int .u32 0))), none⟩] .done)
  (.seq (.seq (.ops false [⟨(some 47), .mov (.t 3), none⟩] .done)
   (.cond (.t 47)
    (.ops false [⟨(some 48), .mov (.t 0), none⟩,
      ⟨(some 49), .conv .u64 (.t 48), none⟩,
      ⟨(some 50), .bin .shl (.c (.v (.int .u32 1))) (.t 49), none⟩,
      ⟨(some 51), .bin .sub (.t 50) (.c (.v (.int .u32 1))), none⟩,
      ⟨(some 13), .mov (.t 51), none⟩] .done)
    .skip))
  (.seq (.ops false [⟨(some 52), .mov (.t 9), none⟩,
    ⟨(some 53), .mov (.t 52), none⟩,
    ⟨(some 54), .mov (.t 10), some (53, true)⟩,
    ⟨(some 55), .nilck (.t 54), some (53, true)⟩,
    ⟨(some 56), .fld 0 (.t 55), some (53, true)⟩,
    ⟨(some 57), .load none (.t 56), some (53, true)⟩,
    ⟨(some 58), .mov (.t 2), some (53, true)⟩,
    ⟨(some 59), .call 10 [(.t 57), (.t 58)], some (53, true)⟩,
    ⟨(some 60), .mov (.t 3), some (53, true)⟩,
    ⟨(some 61), .eqb false (.t 59) (.t 60), some (53, true)⟩,
    ⟨(some 62), .pick (.t 53) (.t 61) (.c (.v (.bool false))), none⟩,
    ⟨(some 63), .mov (.t 62), none⟩,
    ⟨(some 64), .mov (.t 10), some (63, true)⟩,
    ⟨(some 65), .nilck (.t 64), some (63, true)⟩,
    ⟨(some 66), .fld 0 (.t 65), some (63, true)⟩,
    ⟨(some 67), .load none (.t 66), some (63, true)⟩,
    ⟨(some 68), .call 11 [(.t 67)], some (63, true)⟩,
    ⟨(some 69), .mov (.t 13), some (63, true)⟩,
    ⟨(some 70), .bin .eql (.t 68) (.t 69), some (63, true)⟩,
    ⟨(some 71), .pick (.t 63) (.t 70) (.c (.v (.bool false))), none⟩,
    ⟨(some 8), .mov (.t 71), none⟩] .done)
  .ret))))))))))⟩
theorem pf3_eq : (Tryd.f3.body.map fun c => (cfn Tryd.prog pl3 Tryd.f3 c, guardsAll pl3 c)) = some (pf3, true) := by kernel_rfl

/-- corral/corrallaw22.first  sizes [] -/
def pl7 : Nat → DT := dtGet []
def pf7 : PFn := ⟨39, [.t 0], (.seq (.ops false [⟨(some 0), .mov (.c (.v (.bool false))), none⟩] .done)
  (.seq (.ops false [⟨(some 5), .call 8 [(.c (.v (.int .i64 2))), (.c (.v (.int .u32 0)))], none⟩,
    ⟨(some 4), .mov (.t 5), none⟩,
    ⟨(some 6), .ext (.t 4) 0, none⟩,
    ⟨(some 7), .ext (.t 4) 1, none⟩,
    ⟨(some 1), .mov (.t 6), none⟩,
    ⟨(some 2), .mov (.t 7), none⟩] .done)
  (.seq (.seq (.ops false [⟨(some 8), .mov (.t 1), none⟩,
     ⟨(some 9), .eqp 0 true false (.t 8) (.c (.v (.pointer none))), none⟩,
     ⟨(some 10), .mov (.t 9), none⟩,
     ⟨(some 11), .mov (.t 2), some (10, false)⟩,
     ⟨(some 12), .eqp 1 true true (.t 11) (.c (.v .nilIface)), some (10, false)⟩,
     ⟨(some 13), .pick (.t 10) (.c (.v (.bool true))) (.t 12), none⟩] .done)
   (.cond (.t 13)
    (.seq (.ops false [⟨(some 0), .mov (.c (.v (.bool false))), none⟩] .done)
     .ret)
    .skip))
  (.seq (.ops false [⟨(some 14), .mov (.t 1), none⟩,
    ⟨(some 15), .nilck (.t 14), none⟩,
    ⟨(some 16), .fld 0 (.t 15), none⟩,
    ⟨(some 17), .load none (.t 16), none⟩,
    ⟨(some 18), .call 10 [(.t 17), (.c (.v (.int .u32 0)))], none⟩,
    ⟨(some 3), .mov (.t 18), none⟩] .done)
  (.seq (.ops false [⟨(some 19), .mov (.t 1), none⟩,
    ⟨(some 20), .nilck (.t 19), none⟩,
    ⟨(some 21), .fld 0 (.t 20), none⟩,
    ⟨(some 22), .load none (.t 21), none⟩,
    ⟨(some 23), .call 9 [(.t 22), (.c (.v (.int .u32 0))), (.c (.v (.bool true)))], none⟩] .done)
  (.seq (.ops false [⟨(some 24), .mov (.t 1), none⟩,
    ⟨(some 25), .nilck (.t 24), none⟩,
    ⟨(some 26), .fld 0 (.t 25), none⟩,
    ⟨(some 27), .load none (.t 26), none⟩,
    ⟨(some 28), .call 9 [(.t 27), (.c (.v (.int .u32 0))), (.c (.v (.bool true)))], none⟩] .done)
  (.seq (.ops false [⟨(some 29), .mov (.t 3), none⟩,
    ⟨(some 30), .un .not (.t 29), none⟩,
    ⟨(some 31), .mov (.t 30), none⟩,
    ⟨(some 32), .mov (.t 1), some (31, true)⟩,
    ⟨(some 33), .nilck (.t 32), some (31, true)⟩,
    ⟨(some 34), .fld 0 (.t 33), some (31, true)⟩,
    ⟨(some 35), .load none (.t 34), some (31, true)⟩,
    ⟨(some 36), .call 11 [(.t 35)], some (31, true)⟩,
    ⟨(some 37), .bin .eql (.t 36) (.c (.v (.int .u32 3))), some (31, true)⟩,
    ⟨(some 38), .pick (.t 31) (.t 37) (.c (.v (.bool false))), none⟩,
    ⟨(some 0), .mov (.t 38), none⟩] .done)
  .ret)))))))⟩
theorem pf7_eq : (Tryd.f7.body.map fun c => (cfn Tryd.prog pl7 Tryd.f7 c, guardsAll pl7 c)) = some (pf7, true) := by kernel_rfl

/-- corral/pred.New  sizes [(2, 4), (7, 14)] -/
def pl8 : Nat → DT := dtGet [(2, (.take 0 [0, 2] (.take 1 [1, 2] (.take 2 [2] .done)))), (7, (.take 0 [0, 1, 11, 12, 2, 3] (.take 1 [1, 2, 11, 12, 3] (.take 2 [2, 3, 11, 12] (.take 3 [3, 11, 12] (.take 4 [4, 11, 12] (.take 5 [5, 9, 11, 12, 10] (.take 6 [6, 7, 11, 12, 8, 9, 10] (.take 7 [7, 8, 11, 12, 9, 10] (.take 8 [8, 9, 11, 12, 10] (.eff true 9 (.take 10 [10, 11, 12] (.take 11 [11, 12] (.eff false 12 .done))))))))))))))]
def pf8 : PFn := ⟨53, [.t 4, .t 5], (.seq (.ops false [⟨(some 4), .mov (.c (.v (.pointer none))), none⟩,
    ⟨(some 5), .mov (.c (.v .nilIface)), none⟩] .done)
  (.seq (.seq (.ops false [⟨(some 8), .mov (.t 0), none⟩,
     ⟨(some 9), .bin .lss (.t 8) (.c (.v (.int .i64 1))), none⟩,
     ⟨(some 10), .mov (.t 9), none⟩,
     ⟨(some 11), .mov (.t 0), some (10, false)⟩,
     ⟨(some 12), .bin .gtr (.t 11) (.c (.v (.int .i64 10))), some (10, false)⟩,
     ⟨(some 13), .pick (.t 10) (.c (.v (.bool true))) (.t 12), none⟩] .done)
   (.cond (.t 13)
    (.seq (.ops true [⟨(some 14), .load none (.c (.v (.pointer (some ⟨0, 0, none⟩)))), none⟩,
       ⟨(some 4), .mov (.c (.v (.pointer none))), none⟩,
       ⟨(some 5), .mov (.t 14), none⟩] (.take 0 [0, 2] (.take 1 [1, 2] (.take 2 [2] .done))))
     .ret)
    .skip))
  (.seq (.ops false [⟨(some 15), .mov (.t 0), none⟩,
    ⟨(some 16), .mov (.t 0), none⟩,
    ⟨(some 17), .bin .shl (.c (.v (.int .i64 1))) (.t 16), none⟩,
    ⟨(some 18), .mslice 5 [.int .u8] [(.int .u8 0)] 1 (.t 17) (.t 17), none⟩,
    ⟨(some 19), .build [(.v (.int .i64 0)), (.v (.slice none 0 0)), (.v (.int .u32 0))] [(0, 1, (.t 15)), (1, 1, (.t 18))], none⟩,
    ⟨(some 20), .box 62 (.t 19), none⟩,
    ⟨(some 6), .mov (.t 20), none⟩] .done)
  (.seq (.seq (.ops false [⟨(some 21), .mov (.t 6), none⟩,
     ⟨(some 22), .nilck (.t 21), none⟩,
     ⟨(some 23), .fld 1 (.t 22), none⟩,
     ⟨(some 24), .load none (.t 23), none⟩,
     ⟨(some 25), .len (.t 24), none⟩,
     ⟨(some 26), .mov (.c (.v (.int .i64 0))), none⟩] .done)
   (.block 0 (.loop (.seq (.ops false [⟨(some 27), .bin .lss (.t 26) (.t 25), none⟩] .done)
     (.seq (.cond (.t 27)
       .skip
       (.exit 0))
     (.seq (.block 1 (.seq (.ops false [⟨(some 28), .mov (.t 26), none⟩,
         ⟨(some 7), .mov (.t 28), none⟩] .done)
       (.ops true [⟨(some 29), .mov (.t 6), none⟩,
        ⟨(some 30), .nilck (.t 29), none⟩,
        ⟨(some 31), .fld 1 (.t 30), none⟩,
        ⟨(some 32), .load none (.t 31), none⟩,
        ⟨(some 33), .mov (.t 7), none⟩,
        ⟨(some 34), .mov (.t 1), none⟩,
        ⟨(some 35), .mov (.t 7), none⟩,
        ⟨(some 36), .bin .rem (.t 35) (.c (.v (.int .i64 16))), none⟩,
        ⟨(some 37), .bin .mul (.c (.v (.int .i64 2))) (.t 36), none⟩,
        ⟨(some 38), .call 27 [(.t 34), (.t 37), (.c (.v (.int .i64 2)))], none⟩,
        ⟨(some 39), .conv .u8 (.t 38), none⟩,
        ⟨(some 40), .idx 1 (.t 32) (.t 33), none⟩,
        ⟨none, .store 1 (.t 40) (.t 39), none⟩] (.take 0 [0, 1, 11, 12, 2, 3] (.take 1 [1, 2, 11, 12, 3] (.take 2 [2, 3, 11, 12] (.take 3 [3, 11, 12] (.take 4 [4, 11, 12] (.take 5 [5, 9, 11, 12, 10] (.take 6 [6, 7, 11, 12, 8, 9, 10] (.take 7 [7, 8, 11, 12, 9, 10] (.take 8 [8, 9, 11, 12, 10] (.eff true 9 (.take 10 [10, 11, 12] (.take 11 [11, 12] (.eff false 12 .done))))))))))))))))
     (.ops false [⟨(some 41), .bin .add (.t 26) (.c (.v (.int .i64 1))), none⟩,
      ⟨(some 26), .mov (.t 41), none⟩] .done)))))))
  (.seq (.ops false [⟨(some 42), .mov (.t 6), none⟩,
    ⟨(some 43), .mov (.t 0), none⟩,
    ⟨(some 44), .mov (.t 0), none⟩,
    ⟨(some 45), .bin .shl (.c (.v (.int .i64 1))) (.t 44), none⟩,
    ⟨(some 46), .mslice 72 [.int .u32, .int .u32, .bool] [(.int .u32 0), (.int .u32 0), (.bool false)] 12 (.t 45) (.t 45), none⟩,
    ⟨(some 47), .build [(.v (.int .i64 0)), (.v (.slice none 0 0))] [(0, 1, (.t 43)), (1, 1, (.t 46))], none⟩,
    ⟨(some 48), .box 66 (.t 47), none⟩,
    ⟨(some 49), .build [(.v (.slice none 0 0))] [], none⟩,
    ⟨(some 50), .box 68 (.t 49), none⟩,
    ⟨(some 51), .build [(.v (.pointer none)), (.v (.pointer none)), (.v (.pointer none))] [(0, 1, (.t 42)), (1, 1, (.t 48)), (2, 1, (.t 50))], none⟩,
    ⟨(some 52), .box 34 (.t 51), none⟩,
    ⟨(some 4), .mov (.t 52), none⟩,
    ⟨(some 5), .mov (.c (.v .nilIface)), none⟩] .done)
  .ret)))))⟩
theorem pf8_eq : (Tryd.f8.body.map fun c => (cfn Tryd.prog pl8 Tryd.f8 c, guardsAll pl8 c)) = some (pf8, true) := by kernel_rfl

/-- (*corral/pred.Table).Learn  sizes [(1, 17)] -/
def pl9 : Nat → DT := dtGet [(1, (.take 0 [0, 13, 14, 15] (.take 1 [1, 2, 13, 14, 15, 3, 4, 5, 12] (.take 2 [2, 3, 13, 14, 15, 4, 5, 12] (.take 3 [3, 4, 13, 14, 15, 5, 12] (.take 4 [4, 5, 13, 14, 15, 12] (.take 5 [5, 12, 13, 14, 15] (.take 6 [6, 7, 13, 14, 15, 8, 9, 10, 11, 12] (.take 7 [7, 8, 13, 14, 15, 9, 10, 11, 12] (.take 8 [8, 9, 13, 14, 15, 10, 11, 12] (.take 9 [9, 10, 13, 14, 15, 11, 12] (.take 10 [10, 11, 13, 14, 15, 12] (.take 11 [11, 12, 13, 14, 15] (.take 12 [12, 13, 14, 15] (.take 13 [13, 14, 15] (.take 14 [14, 15] (.eff false 15 .done)))))))))))))))))]
def pf9 : PFn := ⟨51, [], (.seq (.ops false [⟨(some 7), .mov (.t 0), none⟩,
    ⟨(some 8), .mov (.t 1), none⟩,
    ⟨(some 9), .call 28 [(.t 7), (.t 8)], none⟩,
    ⟨(some 6), .mov (.t 9), none⟩] .done)
  (.seq (.ops true [⟨(some 10), .mov (.t 0), none⟩,
    ⟨(some 11), .mov (.t 0), none⟩,
    ⟨(some 12), .nilck (.t 11), none⟩,
    ⟨(some 13), .fld 2 (.t 12), none⟩,
    ⟨(some 14), .load none (.t 13), none⟩,
    ⟨(some 15), .bin .shl (.t 14) (.c (.v (.int .u64 1))), none⟩,
    ⟨(some 16), .mov (.t 0), none⟩,
    ⟨(some 17), .nilck (.t 16), none⟩,
    ⟨(some 18), .fld 0 (.t 17), none⟩,
    ⟨(some 19), .load none (.t 18), none⟩,
    ⟨(some 20), .bin .shl (.c (.v (.int .u32 1))) (.t 19), none⟩,
    ⟨(some 21), .bin .sub (.t 20) (.c (.v (.int .u32 1))), none⟩,
    ⟨(some 22), .bin .and (.t 15) (.t 21), none⟩,
    ⟨(some 23), .nilck (.t 10), none⟩,
    ⟨(some 24), .fld 2 (.t 23), none⟩,
    ⟨none, .store 1 (.t 24) (.t 22), none⟩] (.take 0 [0, 13, 14, 15] (.take 1 [1, 2, 13, 14, 15, 3, 4, 5, 12] (.take 2 [2, 3, 13, 14, 15, 4, 5, 12] (.take 3 [3, 4, 13, 14, 15, 5, 12] (.take 4 [4, 5, 13, 14, 15, 12] (.take 5 [5, 12, 13, 14, 15] (.take 6 [6, 7, 13, 14, 15, 8, 9, 10, 11, 12] (.take 7 [7, 8, 13, 14, 15, 9, 10, 11, 12] (.take 8 [8, 9, 13, 14, 15, 10, 11, 12] (.take 9 [9, 10, 13, 14, 15, 11, 12] (.take 10 [10, 11, 13, 14, 15, 12] (.take 11 [11, 12, 13, 14, 15] (.take 12 [12, 13, 14, 15] (.take 13 [13, 14, 15] (.take 14 [14, 15] (.eff false 15 .done)))))))))))))))))
  (.block 0 (.seq (.ops false [⟨(some 26), .mov (.t 2), none⟩,
     ⟨(some 25), .mov (.t 26), none⟩] .done)
   (.cond (.t 25)
    (.seq (.ops false [⟨(some 27), .mov (.t 6), none⟩,
       ⟨(some 28), .mov (.t 6), none⟩,
       ⟨(some 29), .nilck (.t 28), none⟩,
       ⟨(some 30), .load none (.t 29), none⟩,
       ⟨(some 31), .bin .add (.t 30) (.c (.v (.int .u8 1))), none⟩,
       ⟨(some 32), .minmax false [(.t 31), (.c (.v (.int .u8 3)))], none⟩,
       ⟨(some 33), .nilck (.t 27), none⟩,
       ⟨none, .store 1 (.t 33) (.t 32), none⟩] .done)
     (.ops false [⟨(some 34), .mov (.t 0), none⟩,
      ⟨(some 35), .nilck (.t 34), none⟩,
      ⟨(some 36), .fld 2 (.t 35), none⟩,
      ⟨(some 37), .load none (.t 36), none⟩,
      ⟨(some 38), .bin .or (.t 37) (.c (.v (.int .u32 1))), none⟩,
      ⟨(some 39), .nilck (.t 34), none⟩,
      ⟨(some 40), .fld 2 (.t 39), none⟩,
      ⟨none, .store 1 (.t 40) (.t 38), none⟩] .done))
    (.seq (.ops false [⟨(some 42), .mov (.t 6), none⟩,
       ⟨(some 43), .nilck (.t 42), none⟩,
       ⟨(some 44), .load none (.t 43), none⟩,
       ⟨(some 45), .bin .gtr (.t 44) (.c (.v (.int .u8 0))), none⟩,
       ⟨(some 41), .mov (.t 45), none⟩] .done)
     (.cond (.t 41)
      (.ops false [⟨(some 46), .mov (.t 6), none⟩,
        ⟨(some 47), .nilck (.t 46), none⟩,
        ⟨(some 48), .load none (.t 47), none⟩,
        ⟨(some 49), .bin .sub (.t 48) (.c (.v (.int .u8 1))), none⟩,
        ⟨(some 50), .nilck (.t 46), none⟩,
        ⟨none, .store 1 (.t 50) (.t 49), none⟩] .done)
      .skip)))))))⟩
theorem pf9_eq : (Tryd.f9.body.map fun c => (cfn Tryd.prog pl9 Tryd.f9 c, guardsAll pl9 c)) = some (pf9, true) := by kernel_rfl

/-- (*corral/pred.Table).Taken  sizes [] -/
def pl10 : Nat → DT := dtGet []
def pf10 : PFn := ⟨11, [.t 4], (.seq (.ops false [⟨(some 4), .mov (.c (.v (.bool false))), none⟩] .done)
  (.seq (.ops false [⟨(some 5), .mov (.t 0), none⟩,
    ⟨(some 6), .mov (.t 1), none⟩,
    ⟨(some 7), .call 28 [(.t 5), (.t 6)], none⟩,
    ⟨(some 8), .nilck (.t 7), none⟩,
    ⟨(some 9), .load none (.t 8), none⟩,
    ⟨(some 10), .bin .geq (.t 9) (.c (.v (.int .u8 2))), none⟩,
    ⟨(some 4), .mov (.t 10), none⟩] .done)
  .ret))⟩
theorem pf10_eq : (Tryd.f10.body.map fun c => (cfn Tryd.prog pl10 Tryd.f10 c, guardsAll pl10 c)) = some (pf10, true) := by kernel_rfl

/-- (*corral/pred.Table).History  sizes [] -/
def pl11 : Nat → DT := dtGet []
def pf11 : PFn := ⟨7, [.t 2], (.seq (.ops false [⟨(some 2), .mov (.c (.v (.int .u32 0))), none⟩] .done)
  (.seq (.ops false [⟨(some 3), .mov (.t 0), none⟩,
    ⟨(some 4), .nilck (.t 3), none⟩,
    ⟨(some 5), .fld 2 (.t 4), none⟩,
    ⟨(some 6), .load none (.t 5), none⟩,
    ⟨(some 2), .mov (.t 6), none⟩] .done)
  .ret))⟩
theorem pf11_eq : (Tryd.f11.body.map fun c => (cfn Tryd.prog pl11 Tryd.f11 c, guardsAll pl11 c)) = some (pf11, true) := by kernel_rfl

/-- corral/word.Bits  sizes [(3, 8)] -/
def pl27 : Nat → DT := dtGet [(3, (.take 0 [0, 2, 6, 5] (.take 1 [1, 2, 6, 5] (.take 2 [2, 5, 6] (.take 3 [3, 4, 6, 5] (.eff true 4 (.take 5 [5, 6] (.take 6 [6] .done))))))))]
def pf27 : PFn := ⟨23, [.t 6], (.seq (.ops false [⟨(some 6), .mov (.c (.v (.int .u32 0))), none⟩] .done)
  (.seq (.seq (.ops false [⟨(some 7), .mov (.t 1), none⟩,
     ⟨(some 8), .bin .lss (.t 7) (.c (.v (.int .i64 0))), none⟩,
     ⟨(some 9), .mov (.t 8), none⟩,
     ⟨(some 10), .mov (.t 1), some (9, false)⟩,
     ⟨(some 11), .bin .geq (.t 10) (.c (.v (.int .i64 32))), some (9, false)⟩,
     ⟨(some 12), .pick (.t 9) (.c (.v (.bool true))) (.t 11), none⟩,
     ⟨(some 13), .mov (.t 12), none⟩,
     ⟨(some 14), .mov (.t 2), some (13, false)⟩,
     ⟨(some 15), .bin .lss (.t 14) (.c (.v (.int .i64 1))), some (13, false)⟩,
     ⟨(some 16), .pick (.t 13) (.c (.v (.bool true))) (.t 15), none⟩] .done)
   (.cond (.t 16)
    (.seq (.ops false [⟨(some 6), .mov (.c (.v (.int .u32 0))), none⟩] .done)
     .ret)
    .skip))
  (.seq (.ops true [⟨(some 17), .mov (.t 0), none⟩,
    ⟨(some 18), .mov (.t 1), none⟩,
    ⟨(some 19), .bin .shr (.t 17) (.t 18), none⟩,
    ⟨(some 20), .mov (.t 2), none⟩,
    ⟨(some 21), .call 37 [(.t 20)], none⟩,
    ⟨(some 22), .bin .and (.t 19) (.t 21), none⟩,
    ⟨(some 6), .mov (.t 22), none⟩] (.take 0 [0, 2, 6, 5] (.take 1 [1, 2, 6, 5] (.take 2 [2, 5, 6] (.take 3 [3, 4, 6, 5] (.eff true 4 (.take 5 [5, 6] (.take 6 [6] .done))))))))
  .ret)))⟩
theorem pf27_eq : (Tryd.f27.body.map fun c => (cfn Tryd.prog pl27 Tryd.f27 c, guardsAll pl27 c)) = some (pf27, true) := by kernel_rfl

/-- (*corral/pred.Table).at  sizes [(1, 21)] -/
def pl28 : Nat → DT := dtGet [(1, (.take 0 [0, 1, 19, 2, 3, 18] (.take 1 [1, 2, 19, 3, 18] (.take 2 [2, 3, 19, 18] (.take 3 [3, 18, 19] (.take 4 [4, 5, 19, 10, 17, 18] (.take 5 [5, 10, 19, 17, 18] (.take 6 [6, 7, 19, 8, 9, 10, 17, 18] (.take 7 [7, 8, 19, 9, 10, 17, 18] (.take 8 [8, 9, 19, 10, 17, 18] (.take 9 [9, 10, 19, 17, 18] (.take 10 [10, 17, 19, 18] (.take 11 [11, 12, 19, 13, 14, 15, 16, 17, 18] (.take 12 [12, 13, 19, 14, 15, 16, 17, 18] (.take 13 [13, 14, 19, 15, 16, 17, 18] (.take 14 [14, 15, 19, 16, 17, 18] (.take 15 [15, 16, 19, 17, 18] (.take 16 [16, 17, 19, 18] (.take 17 [17, 18, 19] (.take 18 [18, 19] (.take 19 [19] .done)))))))))))))))))))))]
def pf28 : PFn := ⟨24, [.t 4], (.seq (.ops false [⟨(some 4), .mov (.c (.v (.pointer none))), none⟩] .done)
  (.seq (.ops true [⟨(some 5), .mov (.t 0), none⟩,
    ⟨(some 6), .nilck (.t 5), none⟩,
    ⟨(some 7), .fld 1 (.t 6), none⟩,
    ⟨(some 8), .load none (.t 7), none⟩,
    ⟨(some 9), .mov (.t 1), none⟩,
    ⟨(some 10), .bin .quo (.t 9) (.c (.v (.int .u32 4))), none⟩,
    ⟨(some 11), .mov (.t 0), none⟩,
    ⟨(some 12), .nilck (.t 11), none⟩,
    ⟨(some 13), .fld 2 (.t 12), none⟩,
    ⟨(some 14), .load none (.t 13), none⟩,
    ⟨(some 15), .bin .xor (.t 10) (.t 14), none⟩,
    ⟨(some 16), .mov (.t 0), none⟩,
    ⟨(some 17), .nilck (.t 16), none⟩,
    ⟨(some 18), .fld 0 (.t 17), none⟩,
    ⟨(some 19), .load none (.t 18), none⟩,
    ⟨(some 20), .bin .shl (.c (.v (.int .u32 1))) (.t 19), none⟩,
    ⟨(some 21), .bin .sub (.t 20) (.c (.v (.int .u32 1))), none⟩,
    ⟨(some 22), .bin .and (.t 15) (.t 21), none⟩,
    ⟨(some 23), .idx 1 (.t 8) (.t 22), none⟩,
    ⟨(some 4), .mov (.t 23), none⟩] (.take 0 [0, 1, 19, 2, 3, 18] (.take 1 [1, 2, 19, 3, 18] (.take 2 [2, 3, 19, 18] (.take 3 [3, 18, 19] (.take 4 [4, 5, 19, 10, 17, 18] (.take 5 [5, 10, 19, 17, 18] (.take 6 [6, 7, 19, 8, 9, 10, 17, 18] (.take 7 [7, 8, 19, 9, 10, 17, 18] (.take 8 [8, 9, 19, 10, 17, 18] (.take 9 [9, 10, 19, 17, 18] (.take 10 [10, 17, 19, 18] (.take 11 [11, 12, 19, 13, 14, 15, 16, 17, 18] (.take 12 [12, 13, 19, 14, 15, 16, 17, 18] (.take 13 [13, 14, 19, 15, 16, 17, 18] (.take 14 [14, 15, 19, 16, 17, 18] (.take 15 [15, 16, 19, 17, 18] (.take 16 [16, 17, 19, 18] (.take 17 [17, 18, 19] (.take 18 [18, 19] (.take 19 [19] .done)))))))))))))))))))))
  .ret))⟩
theorem pf28_eq : (Tryd.f28.body.map fun c => (cfn Tryd.prog pl28 Tryd.f28 c, guardsAll pl28 c)) = some (pf28, true) := by kernel_rfl

/-- corral/word.mask  sizes [] -/
def pl37 : Nat → DT := dtGet []
def pf37 : PFn := ⟨9, [.t 2], (.seq (.ops false [⟨(some 2), .mov (.c (.v (.int .u32 0))), none⟩] .done)
  (.seq (.seq (.ops false [⟨(some 3), .mov (.t 0), none⟩,
     ⟨(some 4), .bin .geq (.t 3) (.c (.v (.int .i64 32))), none⟩] .done)
   (.cond (.t 4)
    (.seq (.ops false [⟨(some 2), .mov (.c (.v (.int .u32 4294967295))), none⟩] .done)
     .ret)
    .skip))
  (.seq (.ops false [⟨(some 5), .mov (.t 0), none⟩,
    ⟨(some 6), .minmax true [(.t 5), (.c (.v (.int .i64 0)))], none⟩,
    ⟨(some 7), .bin .shl (.c (.v (.int .u32 1))) (.t 6), none⟩,
    ⟨(some 8), .bin .sub (.t 7) (.c (.v (.int .u32 1))), none⟩,
    ⟨(some 2), .mov (.t 8), none⟩] .done)
  .ret)))⟩
theorem pf37_eq : (Tryd.f37.body.map fun c => (cfn Tryd.prog pl37 Tryd.f37 c, guardsAll pl37 c)) = some (pf37, true) := by kernel_rfl

theorem at3 : Tryd.prog.funcs[3]? = some Tryd.f3 ∧ (Tryd.f3.name == "runtime.NumGoroutine") = false := ⟨by kernel_rfl, by kernel_rfl⟩
theorem at7 : Tryd.prog.funcs[7]? = some Tryd.f7 ∧ (Tryd.f7.name == "runtime.NumGoroutine") = false := ⟨by kernel_rfl, by kernel_rfl⟩
theorem at8 : Tryd.prog.funcs[8]? = some Tryd.f8 ∧ (Tryd.f8.name == "runtime.NumGoroutine") = false := ⟨by kernel_rfl, by kernel_rfl⟩
theorem at9 : Tryd.prog.funcs[9]? = some Tryd.f9 ∧ (Tryd.f9.name == "runtime.NumGoroutine") = false := ⟨by kernel_rfl, by kernel_rfl⟩
theorem at10 : Tryd.prog.funcs[10]? = some Tryd.f10 ∧ (Tryd.f10.name == "runtime.NumGoroutine") = false := ⟨by kernel_rfl, by kernel_rfl⟩
theorem at11 : Tryd.prog.funcs[11]? = some Tryd.f11 ∧ (Tryd.f11.name == "runtime.NumGoroutine") = false := ⟨by kernel_rfl, by kernel_rfl⟩
theorem at27 : Tryd.prog.funcs[27]? = some Tryd.f27 ∧ (Tryd.f27.name == "runtime.NumGoroutine") = false := ⟨by kernel_rfl, by kernel_rfl⟩
theorem at28 : Tryd.prog.funcs[28]? = some Tryd.f28 ∧ (Tryd.f28.name == "runtime.NumGoroutine") = false := ⟨by kernel_rfl, by kernel_rfl⟩
theorem at37 : Tryd.prog.funcs[37]? = some Tryd.f37 ∧ (Tryd.f37.name == "runtime.NumGoroutine") = false := ⟨by kernel_rfl, by kernel_rfl⟩
end Go.Proofs.YtmhgiffhmcigpaaDoor
