/-
  The programs of the functions that the laws reach, read off the given program by the kernel.
-/
import Derived.Test.YtncninjgfllcdaaDoorProg
import Derived.Test.YtncninjgfllcdaaDoorVcs
namespace Go.Proofs.YtncninjgfllcdaaDoor
open Go Go.Vc
set_option maxRecDepth 100000
theorem mixed : Tryd.prog.follows .mixedOrders = true := by kernel_rfl
/-- corral/corrallaw7.MemEdges  sizes [] -/
def pl3 : Nat → DT := dtGet []
def pf3 : PFn := ⟨139, [.t 2], (.seq (.ops false [⟨(some 2), .mov (.c (.v (.bool false))), none⟩] .done)
  (.seq (.ops false [⟨(some 16), .call 8 [], none⟩,
    ⟨(some 3), .mov (.t 16), none⟩] .done)
  (.seq (.seq (.ops false [⟨(some 17), .mov (.t 3), none⟩,
     ⟨(some 18), .un .not (.t 17), none⟩] .done)
   (.cond (.t 18)
    (.seq (.ops false [⟨(some 2), .mov (.c (.v (.bool false))), none⟩] .done)
     .ret)
    .skip))
  (.seq (.ops false [⟨(some 19), .mov (.t 0), none⟩,
    ⟨(some 20), .bin .rem (.t 19) (.c (.v (.int .i64 128))), none⟩,
    ⟨(some 21), .bin .add (.t 20) (.c (.v (.int .i64 128))), none⟩,
    ⟨(some 22), .bin .rem (.t 21) (.c (.v (.int .i64 128))), none⟩,
    ⟨(some 4), .mov (.t 22), none⟩] .done)
  (.seq (.ops false [⟨(some 24), .mov (.t 4), none⟩,
    ⟨(some 25), .call 9 [(.t 24), (.c (.v (.slice none 0 0)))], none⟩,
    ⟨(some 23), .mov (.t 25), none⟩,
    ⟨(some 26), .ext (.t 23) 0, none⟩,
    ⟨(some 27), .ext (.t 23) 1, none⟩,
    ⟨(some 5), .mov (.t 26), none⟩,
    ⟨(some 6), .mov (.t 27), none⟩] .done)
  (.seq (.ops false [⟨(some 28), .mov (.t 4), none⟩,
    ⟨(some 29), .bin .gtr (.t 28) (.c (.v (.int .i64 0))), none⟩,
    ⟨(some 30), .mov (.t 29), none⟩,
    ⟨(some 31), .mov (.t 4), some (30, true)⟩,
    ⟨(some 32), .bin .rem (.t 31) (.c (.v (.int .i64 16))), some (30, true)⟩,
    ⟨(some 33), .bin .eql (.t 32) (.c (.v (.int .i64 0))), some (30, true)⟩,
    ⟨(some 34), .pick (.t 30) (.t 33) (.c (.v (.bool false))), none⟩,
    ⟨(some 7), .mov (.t 34), none⟩] .done)
  (.seq (.seq (.ops false [⟨(some 35), .mov (.t 7), none⟩,
     ⟨(some 36), .un .not (.t 35), none⟩] .done)
   (.cond (.t 36)
    (.seq (.ops false [⟨(some 37), .mov (.t 3), none⟩,
       ⟨(some 38), .mov (.t 37), none⟩,
       ⟨(some 39), .mov (.t 5), some (38, true)⟩,
       ⟨(some 40), .eqp 0 true false (.t 39) (.c (.v (.pointer none))), some (38, true)⟩,
       ⟨(some 41), .pick (.t 38) (.t 40) (.c (.v (.bool false))), none⟩,
       ⟨(some 42), .mov (.t 41), none⟩,
       ⟨(some 43), .mov (.t 6), some (42, true)⟩,
       ⟨(some 44), .call 10 [(.t 43), (.c (.v (.int .i64 106)))], some (42, true)⟩,
       ⟨(some 45), .pick (.t 42) (.t 44) (.c (.v (.bool false))), none⟩,
       ⟨(some 2), .mov (.t 45), none⟩] .done)
     .ret)
    .skip))
  (.seq (.seq (.ops false [⟨(some 46), .mov (.t 5), none⟩,
     ⟨(some 47), .eqp 0 true false (.t 46) (.c (.v (.pointer none))), none⟩,
     ⟨(some 48), .mov (.t 47), none⟩,
     ⟨(some 49), .mov (.t 6), some (48, false)⟩,
     ⟨(some 50), .eqp 1 true true (.t 49) (.c (.v .nilIface)), some (48, false)⟩,
     ⟨(some 51), .pick (.t 48) (.c (.v (.bool true))) (.t 50), none⟩,
     ⟨(some 52), .mov (.t 51), none⟩,
     ⟨(some 53), .mov (.t 5), some (52, false)⟩,
     ⟨(some 54), .call 11 [(.t 53)], some (52, false)⟩,
     ⟨(some 55), .mov (.t 4), some (52, false)⟩,
     ⟨(some 56), .bin .neq (.t 54) (.t 55), some (52, false)⟩,
     ⟨(some 57), .pick (.t 52) (.c (.v (.bool true))) (.t 56), none⟩] .done)
   (.cond (.t 57)
    (.seq (.ops false [⟨(some 2), .mov (.c (.v (.bool false))), none⟩] .done)
     .ret)
    .skip))
  (.seq (.seq (.ops false [⟨(some 58), .bslice 3 [.int .i64] 3 [(.v (.int .i64 0)), (.v (.int .i64 0)), (.v (.int .i64 0))] [(0, 1, (.c (.v (.int .i64 1)))), (1, 1, (.c (.v (.int .i64 2)))), (2, 1, (.c (.v (.int .i64 4))))], none⟩,
     ⟨(some 59), .len (.t 58), none⟩,
     ⟨(some 60), .mov (.c (.v (.int .i64 0))), none⟩] .done)
   (.block 0 (.loop (.seq (.ops false [⟨(some 61), .bin .lss (.t 60) (.t 59), none⟩] .done)
     (.seq (.cond (.t 61)
       .skip
       (.exit 0))
     (.seq (.block 1 (.seq (.ops false [⟨(some 62), .idx 1 (.t 58) (.t 60), none⟩,
         ⟨(some 63), .load none (.t 62), none⟩,
         ⟨(some 9), .mov (.t 63), none⟩] .done)
       (.seq (.ops false [⟨(some 64), .mov (.t 5), none⟩,
         ⟨(some 65), .mov (.t 4), none⟩,
         ⟨(some 66), .mov (.t 9), none⟩,
         ⟨(some 67), .bin .sub (.t 65) (.t 66), none⟩,
         ⟨(some 68), .conv .u32 (.t 67), none⟩,
         ⟨(some 69), .mov (.t 9), none⟩,
         ⟨(some 70), .call 12 [(.t 64), (.t 68), (.t 69)], none⟩,
         ⟨(some 71), .un .not (.t 70), none⟩,
         ⟨(some 72), .mov (.t 71), none⟩,
         ⟨(some 73), .mov (.t 5), some (72, false)⟩,
         ⟨(some 74), .mov (.t 4), some (72, false)⟩,
         ⟨(some 75), .conv .u32 (.t 74), some (72, false)⟩,
         ⟨(some 76), .mov (.t 9), some (72, false)⟩,
         ⟨(some 77), .call 12 [(.t 73), (.t 75), (.t 76)], some (72, false)⟩,
         ⟨(some 78), .pick (.t 72) (.c (.v (.bool true))) (.t 77), none⟩,
         ⟨(some 79), .mov (.t 78), none⟩,
         ⟨(some 80), .mov (.t 9), some (79, false)⟩,
         ⟨(some 81), .bin .gtr (.t 80) (.c (.v (.int .i64 1))), some (79, false)⟩,
         ⟨(some 82), .mov (.t 81), some (79, false)⟩,
         ⟨(some 83), .mov (.t 5), some (82, true)⟩,
         ⟨(some 84), .mov (.t 4), some (82, true)⟩,
         ⟨(some 85), .mov (.t 9), some (82, true)⟩,
         ⟨(some 86), .bin .sub (.t 84) (.t 85), some (82, true)⟩,
         ⟨(some 87), .bin .add (.t 86) (.c (.v (.int .i64 1))), some (82, true)⟩,
         ⟨(some 88), .conv .u32 (.t 87), some (82, true)⟩,
         ⟨(some 89), .mov (.t 9), some (82, true)⟩,
         ⟨(some 90), .call 12 [(.t 83), (.t 88), (.t 89)], some (82, true)⟩,
         ⟨(some 91), .pick (.t 82) (.t 90) (.c (.v (.bool false))), some (79, false)⟩,
         ⟨(some 92), .pick (.t 79) (.c (.v (.bool true))) (.t 91), none⟩] .done)
       (.cond (.t 92)
        (.seq (.ops false [⟨(some 2), .mov (.c (.v (.bool false))), none⟩] .done)
         .ret)
        .skip))))
     (.ops false [⟨(some 93), .bin .add (.t 60) (.c (.v (.int .i64 1))), none⟩,
      ⟨(some 60), .mov (.t 93), none⟩] .done)))))))
  (.seq (.ops false [⟨(some 95), .mov (.t 5), none⟩,
    ⟨(some 96), .mov (.t 4), none⟩,
    ⟨(some 97), .bin .quo (.t 96) (.c (.v (.int .i64 16))), none⟩,
    ⟨(some 98), .bin .sub (.t 97) (.c (.v (.int .i64 1))), none⟩,
    ⟨(some 99), .call 13 [(.t 95), (.t 98)], none⟩,
    ⟨(some 94), .mov (.t 99), none⟩,
    ⟨(some 100), .ext (.t 94) 0, none⟩,
    ⟨(some 101), .ext (.t 94) 1, none⟩,
    ⟨(some 10), .box 34 (.c (.agg [(.v (.int .u32 0)), (.v (.int .u32 0)), (.v (.int .u32 0)), (.v (.int .u32 0))])), none⟩,
    ⟨none, .store 4 (.t 10) (.t 100), none⟩,
    ⟨(some 11), .mov (.t 101), none⟩] .done)
  (.seq (.ops false [⟨(some 103), .mov (.t 5), none⟩,
    ⟨(some 104), .mov (.t 4), none⟩,
    ⟨(some 105), .bin .quo (.t 104) (.c (.v (.int .i64 16))), none⟩,
    ⟨(some 106), .call 13 [(.t 103), (.t 105)], none⟩,
    ⟨(some 102), .mov (.t 106), none⟩,
    ⟨(some 107), .ext (.t 102) 0, none⟩,
    ⟨(some 108), .ext (.t 102) 1, none⟩,
    ⟨(some 12), .box 34 (.c (.agg [(.v (.int .u32 0)), (.v (.int .u32 0)), (.v (.int .u32 0)), (.v (.int .u32 0))])), none⟩,
    ⟨none, .store 4 (.t 12) (.t 107), none⟩,
    ⟨(some 13), .mov (.t 108), none⟩] .done)
  (.seq (.ops false [⟨(some 110), .call 9 [(.c (.v (.int .i64 65552))), (.c (.v (.slice none 0 0)))], none⟩,
    ⟨(some 109), .mov (.t 110), none⟩,
    ⟨(some 111), .ext (.t 109) 0, none⟩,
    ⟨(some 112), .ext (.t 109) 1, none⟩,
    ⟨(some 14), .mov (.t 111), none⟩,
    ⟨(some 15), .mov (.t 112), none⟩] .done)
  (.seq (.ops false [⟨(some 113), .mov (.t 3), none⟩,
    ⟨(some 114), .mov (.t 113), none⟩,
    ⟨(some 115), .mov (.t 11), some (114, true)⟩,
    ⟨(some 116), .pick (.t 114) (.t 115) (.c (.v (.bool false))), none⟩,
    ⟨(some 117), .mov (.t 116), none⟩,
    ⟨(some 118), .mov (.t 13), some (117, true)⟩,
    ⟨(some 119), .un .not (.t 118), some (117, true)⟩,
    ⟨(some 120), .pick (.t 117) (.t 119) (.c (.v (.bool false))), none⟩,
    ⟨(some 121), .mov (.t 120), none⟩,
    ⟨(some 122), .mov (.t 5), some (121, true)⟩,
    ⟨(some 123), .call 12 [(.t 122), (.c (.v (.int .u32 4294967292))), (.c (.v (.int .i64 4)))], some (121, true)⟩,
    ⟨(some 124), .un .not (.t 123), some (121, true)⟩,
    ⟨(some 125), .pick (.t 121) (.t 124) (.c (.v (.bool false))), none⟩,
    ⟨(some 126), .mov (.t 125), none⟩,
    ⟨(some 127), .mov (.t 5), some (126, true)⟩,
    ⟨(some 128), .call 12 [(.t 127), (.c (.v (.int .u32 0))), (.c (.v (.int .i64 8)))], some (126, true)⟩,
    ⟨(some 129), .un .not (.t 128), some (126, true)⟩,
    ⟨(some 130), .pick (.t 126) (.t 129) (.c (.v (.bool false))), none⟩,
    ⟨(some 131), .mov (.t 130), none⟩,
    ⟨(some 132), .mov (.t 14), some (131, true)⟩,
    ⟨(some 133), .eqp 0 true false (.t 132) (.c (.v (.pointer none))), some (131, true)⟩,
    ⟨(some 134), .pick (.t 131) (.t 133) (.c (.v (.bool false))), none⟩,
    ⟨(some 135), .mov (.t 134), none⟩,
    ⟨(some 136), .mov (.t 15), some (135, true)⟩,
    ⟨(some 137), .call 10 [(.t 136), (.c (.v (.int .i64 106)))], some (135, true)⟩,
    ⟨(some 138), .pick (.t 135) (.t 137) (.c (.v (.bool false))), none⟩,
    ⟨(some 2), .mov (.t 138), none⟩] .done)
  .ret)))))))))))))⟩
theorem pf3_eq : (Tryd.f3.body.map fun c => (cfn Tryd.prog pl3 Tryd.f3 c, guardsAll pl3 c)) = some (pf3, true) := by kernel_rfl

/-- corral/corrallaw7.MemBytes  sizes [] -/
def pl4 : Nat → DT := dtGet []
def pf4 : PFn := ⟨119, [.t 4], (.seq (.ops false [⟨(some 4), .mov (.c (.v (.bool false))), none⟩] .done)
  (.seq (.ops false [⟨(some 18), .call 8 [], none⟩,
    ⟨(some 5), .mov (.t 18), none⟩] .done)
  (.seq (.seq (.ops false [⟨(some 19), .mov (.t 5), none⟩,
     ⟨(some 20), .un .not (.t 19), none⟩] .done)
   (.cond (.t 20)
    (.seq (.ops false [⟨(some 4), .mov (.c (.v (.bool false))), none⟩] .done)
     .ret)
    .skip))
  (.seq (.ops false [⟨(some 21), .mov (.t 1), none⟩,
    ⟨(some 22), .bin .rem (.t 21) (.c (.v (.int .i64 16))), none⟩,
    ⟨(some 23), .bin .add (.t 22) (.c (.v (.int .i64 16))), none⟩,
    ⟨(some 24), .bin .rem (.t 23) (.c (.v (.int .i64 16))), none⟩,
    ⟨(some 25), .bin .mul (.c (.v (.int .i64 4))) (.t 24), none⟩,
    ⟨(some 26), .conv .u32 (.t 25), none⟩,
    ⟨(some 6), .mov (.t 26), none⟩] .done)
  (.seq (.ops false [⟨(some 28), .call 9 [(.c (.v (.int .i64 64))), (.c (.v (.slice none 0 0)))], none⟩,
    ⟨(some 27), .mov (.t 28), none⟩,
    ⟨(some 29), .ext (.t 27) 0, none⟩,
    ⟨(some 30), .ext (.t 27) 1, none⟩,
    ⟨(some 7), .mov (.t 29), none⟩,
    ⟨(some 8), .mov (.t 30), none⟩] .done)
  (.seq (.seq (.ops false [⟨(some 31), .mov (.t 7), none⟩,
     ⟨(some 32), .eqp 0 true false (.t 31) (.c (.v (.pointer none))), none⟩,
     ⟨(some 33), .mov (.t 32), none⟩,
     ⟨(some 34), .mov (.t 8), some (33, false)⟩,
     ⟨(some 35), .eqp 1 true true (.t 34) (.c (.v .nilIface)), some (33, false)⟩,
     ⟨(some 36), .pick (.t 33) (.c (.v (.bool true))) (.t 35), none⟩] .done)
   (.cond (.t 36)
    (.seq (.ops false [⟨(some 4), .mov (.c (.v (.bool false))), none⟩] .done)
     .ret)
    .skip))
  (.seq (.seq (.ops false [⟨(some 9), .mov (.c (.v (.int .u32 0))), none⟩] .done)
   (.block 0 (.loop (.seq (.seq (.ops false [⟨(some 37), .mov (.t 9), none⟩,
        ⟨(some 38), .bin .lss (.t 37) (.c (.v (.int .u32 4))), none⟩] .done)
      (.cond (.t 38)
       .skip
       (.exit 0)))
     (.seq (.block 1 (.seq (.ops false [⟨(some 41), .mov (.t 7), none⟩,
         ⟨(some 42), .mov (.t 6), none⟩,
         ⟨(some 43), .mov (.t 9), none⟩,
         ⟨(some 44), .bin .add (.t 42) (.t 43), none⟩,
         ⟨(some 45), .mov (.t 0), none⟩,
         ⟨(some 46), .mov (.t 9), none⟩,
         ⟨(some 47), .bin .mul (.c (.v (.int .u32 8))) (.t 46), none⟩,
         ⟨(some 48), .bin .shr (.t 45) (.t 47), none⟩,
         ⟨(some 49), .call 14 [(.t 41), (.t 44), (.c (.v (.int .i64 1))), (.t 48)], none⟩,
         ⟨(some 50), .un .not (.t 49), none⟩] .done)
       (.cond (.t 50)
        (.seq (.ops false [⟨(some 4), .mov (.c (.v (.bool false))), none⟩] .done)
         .ret)
        .skip)))
     (.ops false [⟨(some 39), .mov (.t 9), none⟩,
      ⟨(some 40), .bin .add (.t 39) (.c (.v (.int .u32 1))), none⟩,
      ⟨(some 9), .mov (.t 40), none⟩] .done))))))
  (.seq (.ops false [⟨(some 52), .mov (.t 7), none⟩,
    ⟨(some 53), .mov (.t 6), none⟩,
    ⟨(some 54), .call 15 [(.t 52), (.t 53), (.c (.v (.int .i64 4)))], none⟩,
    ⟨(some 51), .mov (.t 54), none⟩,
    ⟨(some 55), .ext (.t 51) 0, none⟩,
    ⟨(some 56), .ext (.t 51) 1, none⟩,
    ⟨(some 10), .mov (.t 55), none⟩,
    ⟨(some 11), .mov (.t 56), none⟩] .done)
  (.seq (.ops false [⟨(some 58), .mov (.t 7), none⟩,
    ⟨(some 59), .mov (.t 6), none⟩,
    ⟨(some 60), .call 15 [(.t 58), (.t 59), (.c (.v (.int .i64 2)))], none⟩,
    ⟨(some 57), .mov (.t 60), none⟩,
    ⟨(some 61), .ext (.t 57) 0, none⟩,
    ⟨(some 62), .ext (.t 57) 1, none⟩,
    ⟨(some 12), .mov (.t 61), none⟩,
    ⟨(some 13), .mov (.t 62), none⟩] .done)
  (.seq (.ops false [⟨(some 64), .mov (.t 7), none⟩,
    ⟨(some 65), .mov (.t 6), none⟩,
    ⟨(some 66), .bin .add (.t 65) (.c (.v (.int .u32 2))), none⟩,
    ⟨(some 67), .call 15 [(.t 64), (.t 66), (.c (.v (.int .i64 2)))], none⟩,
    ⟨(some 63), .mov (.t 67), none⟩,
    ⟨(some 68), .ext (.t 63) 0, none⟩,
    ⟨(some 69), .ext (.t 63) 1, none⟩,
    ⟨(some 14), .mov (.t 68), none⟩,
    ⟨(some 15), .mov (.t 69), none⟩] .done)
  (.seq (.ops false [⟨(some 71), .call 9 [(.c (.v (.int .i64 64))), (.c (.v (.slice none 0 0)))], none⟩,
    ⟨(some 70), .mov (.t 71), none⟩,
    ⟨(some 72), .ext (.t 70) 0, none⟩,
    ⟨(some 73), .ext (.t 70) 1, none⟩,
    ⟨(some 16), .mov (.t 72), none⟩,
    ⟨(some 17), .mov (.t 73), none⟩] .done)
  (.seq (.seq (.ops false [⟨(some 74), .mov (.t 16), none⟩,
     ⟨(some 75), .eqp 0 true false (.t 74) (.c (.v (.pointer none))), none⟩,
     ⟨(some 76), .mov (.t 75), none⟩,
     ⟨(some 77), .mov (.t 17), some (76, false)⟩,
     ⟨(some 78), .eqp 1 true true (.t 77) (.c (.v .nilIface)), some (76, false)⟩,
     ⟨(some 79), .pick (.t 76) (.c (.v (.bool true))) (.t 78), none⟩,
     ⟨(some 80), .mov (.t 79), none⟩,
     ⟨(some 81), .mov (.t 16), some (80, false)⟩,
     ⟨(some 82), .mov (.t 6), some (80, false)⟩,
     ⟨(some 83), .bin .add (.t 82) (.c (.v (.int .u32 2))), some (80, false)⟩,
     ⟨(some 84), .mov (.t 0), some (80, false)⟩,
     ⟨(some 85), .bin .shr (.t 84) (.c (.v (.int .u64 16))), some (80, false)⟩,
     ⟨(some 86), .call 14 [(.t 81), (.t 83), (.c (.v (.int .i64 2))), (.t 85)], some (80, false)⟩,
     ⟨(some 87), .un .not (.t 86), some (80, false)⟩,
     ⟨(some 88), .pick (.t 80) (.c (.v (.bool true))) (.t 87), none⟩,
     ⟨(some 89), .mov (.t 88), none⟩,
     ⟨(some 90), .mov (.t 16), some (89, false)⟩,
     ⟨(some 91), .mov (.t 6), some (89, false)⟩,
     ⟨(some 92), .mov (.t 0), some (89, false)⟩,
     ⟨(some 93), .call 14 [(.t 90), (.t 91), (.c (.v (.int .i64 2))), (.t 92)], some (89, false)⟩,
     ⟨(some 94), .un .not (.t 93), some (89, false)⟩,
     ⟨(some 95), .pick (.t 89) (.c (.v (.bool true))) (.t 94), none⟩] .done)
   (.cond (.t 95)
    (.seq (.ops false [⟨(some 4), .mov (.c (.v (.bool false))), none⟩] .done)
     .ret)
    .skip))
  (.seq (.ops false [⟨(some 96), .mov (.t 5), none⟩,
    ⟨(some 97), .mov (.t 96), none⟩,
    ⟨(some 98), .mov (.t 10), some (97, true)⟩,
    ⟨(some 99), .mov (.t 0), some (97, true)⟩,
    ⟨(some 100), .bin .eql (.t 98) (.t 99), some (97, true)⟩,
    ⟨(some 101), .pick (.t 97) (.t 100) (.c (.v (.bool false))), none⟩,
    ⟨(some 102), .mov (.t 101), none⟩,
    ⟨(some 103), .mov (.t 12), some (102, true)⟩,
    ⟨(some 104), .mov (.t 0), some (102, true)⟩,
    ⟨(some 105), .bin .and (.t 104) (.c (.v (.int .u32 65535))), some (102, true)⟩,
    ⟨(some 106), .bin .eql (.t 103) (.t 105), some (102, true)⟩,
    ⟨(some 107), .pick (.t 102) (.t 106) (.c (.v (.bool false))), none⟩,
    ⟨(some 108), .mov (.t 107), none⟩,
    ⟨(some 109), .mov (.t 14), some (108, true)⟩,
    ⟨(some 110), .mov (.t 0), some (108, true)⟩,
    ⟨(some 111), .bin .shr (.t 110) (.c (.v (.int .u64 16))), some (108, true)⟩,
    ⟨(some 112), .bin .eql (.t 109) (.t 111), some (108, true)⟩,
    ⟨(some 113), .pick (.t 108) (.t 112) (.c (.v (.bool false))), none⟩,
    ⟨(some 114), .mov (.t 113), none⟩,
    ⟨(some 115), .mov (.t 7), some (114, true)⟩,
    ⟨(some 116), .mov (.t 16), some (114, true)⟩,
    ⟨(some 117), .call 16 [(.t 115), (.t 116)], some (114, true)⟩,
    ⟨(some 118), .pick (.t 114) (.t 117) (.c (.v (.bool false))), none⟩,
    ⟨(some 4), .mov (.t 118), none⟩] .done)
  .ret)))))))))))))⟩
theorem pf4_eq : (Tryd.f4.body.map fun c => (cfn Tryd.prog pl4 Tryd.f4 c, guardsAll pl4 c)) = some (pf4, true) := by kernel_rfl

/-- corral/corrallaw7.MemParts  sizes [(6, 25), (15, 34)] -/
def pl5 : Nat → DT := dtGet [(6, (.take 0 [0, 5, 6, 7, 8, 9, 10, 11, 12, 13, 14, 15, 16, 17, 18, 19, 20, 21, 22, 23] (.take 1 [1, 4, 5, 6, 7, 8, 9, 10, 11, 12, 13, 14, 15, 16, 17, 18, 19, 20, 21, 22, 23] (.take 2 [2, 4, 5, 6, 7, 8, 9, 10, 11, 12, 13, 14, 15, 16, 17, 18, 19, 20, 21, 22, 23] (.take 3 [3, 4, 5, 6, 7, 8, 9, 10, 11, 12, 13, 14, 15, 16, 17, 18, 19, 20, 21, 22, 23] (.eff true 4 (.take 5 [5, 6, 7, 8, 9, 10, 11, 12, 13, 14, 15, 16, 17, 18, 19, 20, 21, 22, 23] (.take 6 [6, 7, 8, 9, 10, 11, 12, 13, 14, 15, 16, 17, 18, 19, 20, 21, 22, 23] (.take 7 [7, 13, 14, 16, 15, 17, 18, 19, 20, 21, 22, 23] (.take 8 [8, 12, 13, 14, 16, 15, 17, 18, 19, 20, 21, 22, 23] (.take 9 [9, 12, 13, 14, 16, 15, 17, 18, 19, 20, 21, 22, 23] (.take 10 [10, 12, 13, 14, 16, 15, 17, 18, 19, 20, 21, 22, 23] (.take 11 [11, 12, 13, 14, 16, 15, 17, 18, 19, 20, 21, 22, 23] (.eff true 12 (.eff true 13 (.take 14 [14, 15, 16, 17, 18, 19, 20, 21, 22, 23] (.take 15 [15, 16, 17, 18, 19, 20, 21, 22, 23] (.take 16 [16, 17, 18, 19, 20, 21, 22, 23] (.take 17 [17, 18, 22, 23] (.take 19 [19, 20, 21, 22, 23] (.take 20 [20, 21, 22, 23] (.take 21 [21, 22, 23] (.eff true 18 (.take 22 [22, 23] (.take 23 [23] .done))))))))))))))))))))))))), (15, (.take 0 [0, 1, 2, 3, 4, 5, 6, 7, 8, 9, 10, 11, 12, 13, 14, 15, 31, 32, 16, 17, 18, 19, 20, 21, 22, 23, 24, 25, 26, 27, 28, 29, 30] (.take 1 [1, 2, 3, 4, 5, 6, 7, 8, 9, 10, 11, 12, 13, 14, 15, 31, 32, 16, 17, 18, 19, 20, 21, 22, 23, 24, 25, 26, 27, 28, 29, 30] (.take 2 [2, 3, 4, 5, 6, 7, 8, 9, 10, 11, 12, 13, 14, 15, 31, 32, 16, 17, 18, 19, 20, 21, 22, 23, 24, 25, 26, 27, 28, 29, 30] (.take 3 [3, 6, 10, 11, 12, 13, 14, 15, 31, 32, 16, 17, 18, 19, 20, 21, 22, 23, 24, 25, 26, 27, 28, 29, 30] (.take 4 [4, 5, 6, 10, 11, 12, 13, 14, 15, 31, 32, 16, 17, 18, 19, 20, 21, 22, 23, 24, 25, 26, 27, 28, 29, 30] (.take 5 [5, 6, 10, 11, 12, 13, 14, 15, 31, 32, 16, 17, 18, 19, 20, 21, 22, 23, 24, 25, 26, 27, 28, 29, 30] (.take 7 [7, 10, 11, 13, 12, 14, 15, 31, 32, 16, 17, 18, 19, 20, 21, 22, 23, 24, 25, 26, 27, 28, 29, 30] (.take 8 [8, 9, 10, 11, 13, 12, 14, 15, 31, 32, 16, 17, 18, 19, 20, 21, 22, 23, 24, 25, 26, 27, 28, 29, 30] (.take 9 [9, 10, 11, 13, 12, 14, 15, 31, 32, 16, 17, 18, 19, 20, 21, 22, 23, 24, 25, 26, 27, 28, 29, 30] (.eff true 6 (.eff true 10 (.take 11 [11, 12, 13, 14, 15, 31, 32, 16, 17, 18, 19, 20, 21, 22, 23, 24, 25, 26, 27, 28, 29, 30] (.take 12 [12, 13, 14, 15, 31, 32, 16, 17, 18, 19, 20, 21, 22, 23, 24, 25, 26, 27, 28, 29, 30] (.take 13 [13, 14, 15, 31, 32, 16, 17, 18, 19, 20, 21, 22, 23, 24, 25, 26, 27, 28, 29, 30] (.take 14 [14, 15, 16, 17, 18, 19, 20, 21, 22, 23, 24, 25, 26, 27, 28, 29, 30, 31, 32] (.take 15 [15, 16, 17, 18, 19, 20, 21, 22, 23, 24, 25, 26, 27, 28, 29, 30, 31, 32] (.take 16 [16, 19, 30, 31, 32] (.take 17 [17, 18, 19, 30, 31, 32] (.take 18 [18, 19, 30, 31, 32] (.take 20 [20, 28, 29, 30, 31, 32] (.take 21 [21, 25, 26, 27, 28, 29, 30, 31, 32] (.take 22 [22, 23, 24, 25, 26, 27, 28, 29, 30, 31, 32] (.take 23 [23, 24, 25, 26, 27, 28, 29, 30, 31, 32] (.take 24 [24, 25, 26, 27, 28, 29, 30, 31, 32] (.take 25 [25, 26, 27, 28, 29, 30, 31, 32] (.take 26 [26, 27, 28, 29, 30, 31, 32] (.take 27 [27, 28, 29, 30, 31, 32] (.take 28 [28, 29, 30, 31, 32] (.take 29 [29, 30, 31, 32] (.eff true 19 (.take 30 [30, 31, 32] (.take 31 [31, 32] (.take 32 [32] .done))))))))))))))))))))))))))))))))))]
def pf5 : PFn := ⟨133, [.t 8], (.seq (.ops false [⟨(some 4), .box 34 (.t 0), none⟩,
    ⟨(some 8), .mov (.c (.v (.bool false))), none⟩] .done)
  (.seq (.ops false [⟨(some 15), .call 8 [], none⟩,
    ⟨(some 9), .mov (.t 15), none⟩] .done)
  (.seq (.seq (.ops false [⟨(some 16), .mov (.t 9), none⟩,
     ⟨(some 17), .un .not (.t 16), none⟩] .done)
   (.cond (.t 17)
    (.seq (.ops false [⟨(some 8), .mov (.c (.v (.bool false))), none⟩] .done)
     .ret)
    .skip))
  (.seq (.ops false [⟨(some 18), .load (some 4) (.t 4), none⟩,
    ⟨(some 19), .mov (.t 1), none⟩,
    ⟨(some 20), .mov (.t 2), none⟩,
    ⟨(some 21), .call 17 [(.t 18), (.t 19), (.t 20)], none⟩,
    ⟨(some 10), .mov (.t 21), none⟩] .done)
  (.seq (.ops false [⟨(some 22), .load (some 4) (.t 4), none⟩,
    ⟨(some 23), .mov (.t 1), none⟩,
    ⟨(some 24), .mov (.t 2), none⟩,
    ⟨(some 25), .mov (.t 3), none⟩,
    ⟨(some 26), .call 18 [(.t 22), (.t 23), (.t 24), (.t 25)], none⟩,
    ⟨(some 11), .box 34 (.c (.agg [(.v (.int .u32 0)), (.v (.int .u32 0)), (.v (.int .u32 0)), (.v (.int .u32 0))])), none⟩,
    ⟨none, .store 4 (.t 11) (.t 26), none⟩] .done)
  (.seq (.seq (.ops true [⟨(some 27), .mov (.t 10), none⟩,
     ⟨(some 28), .load (some 4) (.t 4), none⟩,
     ⟨(some 29), .mov (.t 1), none⟩,
     ⟨(some 30), .mov (.t 2), none⟩,
     ⟨(some 31), .call 19 [(.t 28), (.t 29), (.t 30)], none⟩,
     ⟨(some 32), .bin .neq (.t 27) (.t 31), none⟩,
     ⟨(some 33), .mov (.t 32), none⟩,
     ⟨(some 34), .load (some 4) (.t 11), some (33, false)⟩,
     ⟨(some 35), .load (some 4) (.t 4), some (33, false)⟩,
     ⟨(some 36), .mov (.t 1), some (33, false)⟩,
     ⟨(some 37), .mov (.t 2), some (33, false)⟩,
     ⟨(some 38), .mov (.t 3), some (33, false)⟩,
     ⟨(some 39), .call 21 [(.t 35), (.t 36), (.t 37), (.t 38)], some (33, false)⟩,
     ⟨(some 40), .call 20 [(.t 34), (.t 39)], some (33, false)⟩,
     ⟨(some 41), .un .not (.t 40), some (33, false)⟩,
     ⟨(some 42), .pick (.t 33) (.c (.v (.bool true))) (.t 41), none⟩,
     ⟨(some 43), .mov (.t 42), none⟩,
     ⟨(some 44), .mov (.t 1), some (43, false)⟩,
     ⟨(some 45), .call 22 [(.t 44)], some (43, false)⟩,
     ⟨(some 46), .mov (.t 1), some (43, false)⟩,
     ⟨(some 47), .bin .quo (.t 46) (.c (.v (.int .u32 16))), some (43, false)⟩,
     ⟨(some 48), .conv .i64 (.t 47), some (43, false)⟩,
     ⟨(some 49), .bin .neq (.t 45) (.t 48), some (43, false)⟩,
     ⟨(some 50), .pick (.t 43) (.c (.v (.bool true))) (.t 49), none⟩] (.take 0 [0, 5, 6, 7, 8, 9, 10, 11, 12, 13, 14, 15, 16, 17, 18, 19, 20, 21, 22, 23] (.take 1 [1, 4, 5, 6, 7, 8, 9, 10, 11, 12, 13, 14, 15, 16, 17, 18, 19, 20, 21, 22, 23] (.take 2 [2, 4, 5, 6, 7, 8, 9, 10, 11, 12, 13, 14, 15, 16, 17, 18, 19, 20, 21, 22, 23] (.take 3 [3, 4, 5, 6, 7, 8, 9, 10, 11, 12, 13, 14, 15, 16, 17, 18, 19, 20, 21, 22, 23] (.eff true 4 (.take 5 [5, 6, 7, 8, 9, 10, 11, 12, 13, 14, 15, 16, 17, 18, 19, 20, 21, 22, 23] (.take 6 [6, 7, 8, 9, 10, 11, 12, 13, 14, 15, 16, 17, 18, 19, 20, 21, 22, 23] (.take 7 [7, 13, 14, 16, 15, 17, 18, 19, 20, 21, 22, 23] (.take 8 [8, 12, 13, 14, 16, 15, 17, 18, 19, 20, 21, 22, 23] (.take 9 [9, 12, 13, 14, 16, 15, 17, 18, 19, 20, 21, 22, 23] (.take 10 [10, 12, 13, 14, 16, 15, 17, 18, 19, 20, 21, 22, 23] (.take 11 [11, 12, 13, 14, 16, 15, 17, 18, 19, 20, 21, 22, 23] (.eff true 12 (.eff true 13 (.take 14 [14, 15, 16, 17, 18, 19, 20, 21, 22, 23] (.take 15 [15, 16, 17, 18, 19, 20, 21, 22, 23] (.take 16 [16, 17, 18, 19, 20, 21, 22, 23] (.take 17 [17, 18, 22, 23] (.take 19 [19, 20, 21, 22, 23] (.take 20 [20, 21, 22, 23] (.take 21 [21, 22, 23] (.eff true 18 (.take 22 [22, 23] (.take 23 [23] .done)))))))))))))))))))))))))
   (.cond (.t 50)
    (.seq (.ops false [⟨(some 8), .mov (.c (.v (.bool false))), none⟩] .done)
     .ret)
    .skip))
  (.seq (.ops false [⟨(some 51), .mov (.t 2), none⟩,
    ⟨(some 52), .bin .eql (.t 51) (.c (.v (.int .i64 1))), none⟩,
    ⟨(some 53), .mov (.t 52), none⟩,
    ⟨(some 54), .mov (.t 2), some (53, false)⟩,
    ⟨(some 55), .bin .eql (.t 54) (.c (.v (.int .i64 2))), some (53, false)⟩,
    ⟨(some 56), .pick (.t 53) (.c (.v (.bool true))) (.t 55), none⟩,
    ⟨(some 57), .mov (.t 56), none⟩,
    ⟨(some 58), .mov (.t 2), some (57, false)⟩,
    ⟨(some 59), .bin .eql (.t 58) (.c (.v (.int .i64 4))), some (57, false)⟩,
    ⟨(some 60), .pick (.t 57) (.c (.v (.bool true))) (.t 59), none⟩,
    ⟨(some 61), .mov (.t 60), none⟩,
    ⟨(some 62), .mov (.t 1), some (61, true)⟩,
    ⟨(some 63), .conv .i64 (.t 62), some (61, true)⟩,
    ⟨(some 64), .mov (.t 2), some (61, true)⟩,
    ⟨(some 65), .minmax true [(.t 64), (.c (.v (.int .i64 1)))], some (61, true)⟩,
    ⟨(some 66), .bin .rem (.t 63) (.t 65), some (61, true)⟩,
    ⟨(some 67), .bin .eql (.t 66) (.c (.v (.int .i64 0))), some (61, true)⟩,
    ⟨(some 68), .pick (.t 61) (.t 67) (.c (.v (.bool false))), none⟩,
    ⟨(some 12), .mov (.t 68), none⟩] .done)
  (.seq (.seq (.ops false [⟨(some 69), .mov (.t 12), none⟩,
     ⟨(some 70), .un .not (.t 69), none⟩] .done)
   (.cond (.t 70)
    (.seq (.ops false [⟨(some 71), .mov (.t 9), none⟩,
       ⟨(some 72), .mov (.t 71), none⟩,
       ⟨(some 73), .load (some 4) (.t 11), some (72, true)⟩,
       ⟨(some 74), .load (some 4) (.t 4), some (72, true)⟩,
       ⟨(some 75), .call 20 [(.t 73), (.t 74)], some (72, true)⟩,
       ⟨(some 76), .pick (.t 72) (.t 75) (.c (.v (.bool false))), none⟩,
       ⟨(some 77), .mov (.t 76), none⟩,
       ⟨(some 78), .mov (.t 10), some (77, true)⟩,
       ⟨(some 79), .bin .eql (.t 78) (.c (.v (.int .u32 0))), some (77, true)⟩,
       ⟨(some 80), .pick (.t 77) (.t 79) (.c (.v (.bool false))), none⟩,
       ⟨(some 8), .mov (.t 80), none⟩] .done)
     .ret)
    .skip))
  (.seq (.seq (.ops false [⟨(some 13), .mov (.c (.v (.int .i64 0))), none⟩] .done)
   (.block 0 (.loop (.seq (.seq (.ops false [⟨(some 81), .mov (.t 13), none⟩,
        ⟨(some 82), .bin .lss (.t 81) (.c (.v (.int .i64 16))), none⟩] .done)
      (.cond (.t 82)
       .skip
       (.exit 0)))
     (.seq (.block 1 (.seq (.ops false [⟨(some 85), .mov (.t 13), none⟩,
         ⟨(some 86), .mov (.t 1), none⟩,
         ⟨(some 87), .conv .i64 (.t 86), none⟩,
         ⟨(some 88), .bin .rem (.t 87) (.c (.v (.int .i64 16))), none⟩,
         ⟨(some 89), .bin .geq (.t 85) (.t 88), none⟩,
         ⟨(some 90), .mov (.t 89), none⟩,
         ⟨(some 91), .mov (.t 13), some (90, true)⟩,
         ⟨(some 92), .mov (.t 1), some (90, true)⟩,
         ⟨(some 93), .conv .i64 (.t 92), some (90, true)⟩,
         ⟨(some 94), .bin .rem (.t 93) (.c (.v (.int .i64 16))), some (90, true)⟩,
         ⟨(some 95), .mov (.t 2), some (90, true)⟩,
         ⟨(some 96), .bin .add (.t 94) (.t 95), some (90, true)⟩,
         ⟨(some 97), .bin .lss (.t 91) (.t 96), some (90, true)⟩,
         ⟨(some 98), .pick (.t 90) (.t 97) (.c (.v (.bool false))), none⟩,
         ⟨(some 14), .mov (.t 98), none⟩] .done)
       (.seq (.ops true [⟨(some 99), .mov (.t 14), none⟩,
         ⟨(some 100), .un .not (.t 99), none⟩,
         ⟨(some 101), .mov (.t 100), none⟩,
         ⟨(some 102), .load (some 4) (.t 11), some (101, true)⟩,
         ⟨(some 103), .mov (.t 13), some (101, true)⟩,
         ⟨(some 104), .conv .u32 (.t 103), some (101, true)⟩,
         ⟨(some 105), .call 17 [(.t 102), (.t 104), (.c (.v (.int .i64 1)))], some (101, true)⟩,
         ⟨(some 106), .load (some 4) (.t 4), some (101, true)⟩,
         ⟨(some 107), .mov (.t 13), some (101, true)⟩,
         ⟨(some 108), .conv .u32 (.t 107), some (101, true)⟩,
         ⟨(some 109), .call 17 [(.t 106), (.t 108), (.c (.v (.int .i64 1)))], some (101, true)⟩,
         ⟨(some 110), .bin .neq (.t 105) (.t 109), some (101, true)⟩,
         ⟨(some 111), .pick (.t 101) (.t 110) (.c (.v (.bool false))), none⟩,
         ⟨(some 112), .mov (.t 111), none⟩,
         ⟨(some 113), .mov (.t 14), some (112, false)⟩,
         ⟨(some 114), .mov (.t 113), some (112, false)⟩,
         ⟨(some 115), .load (some 4) (.t 11), some (114, true)⟩,
         ⟨(some 116), .mov (.t 13), some (114, true)⟩,
         ⟨(some 117), .conv .u32 (.t 116), some (114, true)⟩,
         ⟨(some 118), .call 17 [(.t 115), (.t 117), (.c (.v (.int .i64 1)))], some (114, true)⟩,
         ⟨(some 119), .mov (.t 3), some (114, true)⟩,
         ⟨(some 120), .mov (.t 13), some (114, true)⟩,
         ⟨(some 121), .mov (.t 1), some (114, true)⟩,
         ⟨(some 122), .conv .i64 (.t 121), some (114, true)⟩,
         ⟨(some 123), .bin .rem (.t 122) (.c (.v (.int .i64 16))), some (114, true)⟩,
         ⟨(some 124), .bin .sub (.t 120) (.t 123), some (114, true)⟩,
         ⟨(some 125), .bin .mul (.c (.v (.int .i64 8))) (.t 124), some (114, true)⟩,
         ⟨(some 126), .conv .u64 (.t 125), some (114, true)⟩,
         ⟨(some 127), .bin .shr (.t 119) (.t 126), some (114, true)⟩,
         ⟨(some 128), .bin .and (.t 127) (.c (.v (.int .u32 255))), some (114, true)⟩,
         ⟨(some 129), .bin .neq (.t 118) (.t 128), some (114, true)⟩,
         ⟨(some 130), .pick (.t 114) (.t 129) (.c (.v (.bool false))), some (112, false)⟩,
         ⟨(some 131), .pick (.t 112) (.c (.v (.bool true))) (.t 130), none⟩] (.take 0 [0, 1, 2, 3, 4, 5, 6, 7, 8, 9, 10, 11, 12, 13, 14, 15, 31, 32, 16, 17, 18, 19, 20, 21, 22, 23, 24, 25, 26, 27, 28, 29, 30] (.take 1 [1, 2, 3, 4, 5, 6, 7, 8, 9, 10, 11, 12, 13, 14, 15, 31, 32, 16, 17, 18, 19, 20, 21, 22, 23, 24, 25, 26, 27, 28, 29, 30] (.take 2 [2, 3, 4, 5, 6, 7, 8, 9, 10, 11, 12, 13, 14, 15, 31, 32, 16, 17, 18, 19, 20, 21, 22, 23, 24, 25, 26, 27, 28, 29, 30] (.take 3 [3, 6, 10, 11, 12, 13, 14, 15, 31, 32, 16, 17, 18, 19, 20, 21, 22, 23, 24, 25, 26, 27, 28, 29, 30] (.take 4 [4, 5, 6, 10, 11, 12, 13, 14, 15, 31, 32, 16, 17, 18, 19, 20, 21, 22, 23, 24, 25, 26, 27, 28, 29, 30] (.take 5 [5, 6, 10, 11, 12, 13, 14, 15, 31, 32, 16, 17, 18, 19, 20, 21, 22, 23, 24, 25, 26, 27, 28, 29, 30] (.take 7 [7, 10, 11, 13, 12, 14, 15, 31, 32, 16, 17, 18, 19, 20, 21, 22, 23, 24, 25, 26, 27, 28, 29, 30] (.take 8 [8, 9, 10, 11, 13, 12, 14, 15, 31, 32, 16, 17, 18, 19, 20, 21, 22, 23, 24, 25, 26, 27, 28, 29, 30] (.take 9 [9, 10, 11, 13, 12, 14, 15, 31, 32, 16, 17, 18, 19, 20, 21, 22, 23, 24, 25, 26, 27, 28, 29, 30] (.eff true 6 (.eff true 10 (.take 11 [11, 12, 13, 14, 15, 31, 32, 16, 17, 18, 19, 20, 21, 22, 23, 24, 25, 26, 27, 28, 29, 30] (.take 12 [12, 13, 14, 15, 31, 32, 16, 17, 18, 19, 20, 21, 22, 23, 24, 25, 26, 27, 28, 29, 30] (.take 13 [13, 14, 15, 31, 32, 16, 17, 18, 19, 20, 21, 22, 23, 24, 25, 26, 27, 28, 29, 30] (.take 14 [14, 15, 16, 17, 18, 19, 20, 21, 22, 23, 24, 25, 26, 27, 28, 29, 30, 31, 32] (.take 15 [15, 16, 17, 18, 19, 20, 21, 22, 23, 24, 25, 26, 27, 28, 29, 30, 31, 32] (.take 16 [16, 19, 30, 31, 32] (.take 17 [17, 18, 19, 30, 31, 32] (.take 18 [18, 19, 30, 31, 32] (.take 20 [20, 28, 29, 30, 31, 32] (.take 21 [21, 25, 26, 27, 28, 29, 30, 31, 32] (.take 22 [22, 23, 24, 25, 26, 27, 28, 29, 30, 31, 32] (.take 23 [23, 24, 25, 26, 27, 28, 29, 30, 31, 32] (.take 24 [24, 25, 26, 27, 28, 29, 30, 31, 32] (.take 25 [25, 26, 27, 28, 29, 30, 31, 32] (.take 26 [26, 27, 28, 29, 30, 31, 32] (.take 27 [27, 28, 29, 30, 31, 32] (.take 28 [28, 29, 30, 31, 32] (.take 29 [29, 30, 31, 32] (.eff true 19 (.take 30 [30, 31, 32] (.take 31 [31, 32] (.take 32 [32] .done))))))))))))))))))))))))))))))))))
       (.cond (.t 131)
        (.seq (.ops false [⟨(some 8), .mov (.c (.v (.bool false))), none⟩] .done)
         .ret)
        .skip))))
     (.ops false [⟨(some 83), .mov (.t 13), none⟩,
      ⟨(some 84), .bin .add (.t 83) (.c (.v (.int .i64 1))), none⟩,
      ⟨(some 13), .mov (.t 84), none⟩] .done))))))
  (.seq (.ops false [⟨(some 132), .mov (.t 9), none⟩,
    ⟨(some 8), .mov (.t 132), none⟩] .done)
  .ret))))))))))⟩
theorem pf5_eq : (Tryd.f5.body.map fun c => (cfn Tryd.prog pl5 Tryd.f5 c, guardsAll pl5 c)) = some (pf5, true) := by kernel_rfl

/-- corral/corrallaw7.MemPlays  sizes [(18, 18), (20, 14), (35, 35)] -/
def pl6 : Nat → DT := dtGet [(18, (.take 0 [0, 7, 15, 16] (.take 1 [1, 2, 7, 15, 16] (.take 2 [2, 7, 15, 16] (.take 3 [3, 4, 7, 15, 16] (.take 4 [4, 7, 15, 16] (.take 5 [5, 6, 7, 15, 16] (.take 6 [6, 7, 15, 16] (.take 8 [8, 15, 16] (.take 9 [9, 10, 15, 16] (.take 10 [10, 15, 16] (.take 11 [11, 12, 15, 16] (.take 12 [12, 15, 16] (.take 13 [13, 14, 15, 16] (.take 14 [14, 15, 16] (.eff false 7 (.eff false 15 (.take 16 [16] .done)))))))))))))))))), (20, (.take 0 [0, 5, 11, 12] (.take 1 [1, 2, 5, 11, 12] (.take 2 [2, 5, 11, 12] (.take 3 [3, 4, 5, 11, 12] (.take 4 [4, 5, 11, 12] (.take 6 [6, 11, 12] (.take 7 [7, 8, 11, 12] (.take 8 [8, 11, 12] (.take 9 [9, 10, 11, 12] (.take 10 [10, 11, 12] (.eff false 5 (.eff false 11 (.take 12 [12] .done)))))))))))))), (35, (.take 0 [0, 1, 33, 2, 3, 4, 5, 6, 7, 8, 9, 10, 11, 12, 13, 14, 15, 16, 17, 18, 19, 20, 21, 22, 23, 24, 25, 26, 27, 28, 29, 30, 31, 32] (.take 1 [1, 2, 33, 3, 4, 5, 6, 7, 8, 9, 10, 11, 12, 13, 14, 15, 16, 17, 18, 19, 20, 21, 22, 23, 24, 25, 26, 27, 28, 29, 30, 31, 32] (.take 2 [2, 3, 4, 5, 6, 33, 7, 8, 9, 10, 11, 12, 13, 14, 15, 16, 17, 18, 19, 20, 21, 22, 23, 24, 25, 26, 27, 28, 29, 30, 31, 32] (.take 3 [3, 4, 33, 5, 6, 7, 8, 9, 10, 11, 12, 13, 14, 15, 16, 17, 18, 19, 20, 21, 22, 23, 24, 25, 26, 27, 28, 29, 30, 31, 32] (.take 4 [4, 5, 33, 6, 7, 8, 9, 10, 11, 12, 13, 14, 15, 16, 17, 18, 19, 20, 21, 22, 23, 24, 25, 26, 27, 28, 29, 30, 31, 32] (.take 5 [5, 6, 33, 7, 8, 9, 10, 11, 12, 13, 14, 15, 16, 17, 18, 19, 20, 21, 22, 23, 24, 25, 26, 27, 28, 29, 30, 31, 32] (.take 6 [6, 7, 8, 9, 10, 11, 33, 12, 13, 14, 15, 16, 17, 18, 19, 20, 21, 22, 23, 24, 25, 26, 27, 28, 29, 30, 31, 32] (.take 7 [7, 8, 33, 10, 12, 11, 13, 14, 15, 16, 17, 18, 19, 20, 21, 22, 23, 24, 25, 26, 27, 28, 29, 30, 31, 32] (.take 9 [9, 10, 33, 11, 12, 13, 14, 15, 16, 17, 18, 19, 20, 21, 22, 23, 24, 25, 26, 27, 28, 29, 30, 31, 32] (.eff true 8 (.take 10 [10, 11, 33, 12, 13, 14, 15, 16, 17, 18, 19, 20, 21, 22, 23, 24, 25, 26, 27, 28, 29, 30, 31, 32] (.take 11 [11, 12, 33, 13, 14, 15, 16, 17, 18, 19, 20, 21, 22, 23, 24, 25, 26, 27, 28, 29, 30, 31, 32] (.take 12 [12, 13, 14, 15, 16, 17, 18, 19, 20, 21, 22, 23, 24, 25, 26, 33, 27, 28, 29, 30, 31, 32] (.take 13 [13, 15, 33, 24, 25, 26, 27, 28, 29, 30, 31, 32] (.take 14 [14, 15, 33, 24, 25, 26, 27, 28, 29, 30, 31, 32] (.take 16 [16, 17, 33, 18, 19, 24, 25, 27, 26, 28, 29, 30, 31, 32] (.take 17 [17, 18, 33, 19, 24, 25, 27, 26, 28, 29, 30, 31, 32] (.take 18 [18, 19, 33, 24, 25, 27, 26, 28, 29, 30, 31, 32] (.take 19 [19, 24, 33, 25, 27, 26, 28, 29, 30, 31, 32] (.take 20 [20, 21, 33, 22, 23, 24, 25, 27, 26, 28, 29, 30, 31, 32] (.take 21 [21, 22, 33, 23, 24, 25, 27, 26, 28, 29, 30, 31, 32] (.take 22 [22, 23, 33, 24, 25, 27, 26, 28, 29, 30, 31, 32] (.take 23 [23, 24, 33, 25, 27, 26, 28, 29, 30, 31, 32] (.eff true 15 (.eff true 24 (.take 25 [25, 26, 33, 27, 28, 29, 30, 31, 32] (.take 26 [26, 27, 33, 28, 29, 30, 31, 32] (.take 27 [27, 28, 29, 30, 31, 32, 33] (.take 28 [28, 31, 33, 32] (.take 29 [29, 30, 33, 31, 32] (.eff false 30 (.eff true 31 (.take 32 [32, 33] (.take 33 [33] .done)))))))))))))))))))))))))))))))))))]
def pf6 : PFn := ⟨249, [.t 12], (.seq (.ops false [⟨(some 12), .mov (.c (.v (.bool false))), none⟩] .done)
  (.seq (.ops false [⟨(some 33), .call 8 [], none⟩,
    ⟨(some 13), .mov (.t 33), none⟩] .done)
  (.seq (.seq (.ops false [⟨(some 34), .mov (.t 13), none⟩,
     ⟨(some 35), .un .not (.t 34), none⟩] .done)
   (.cond (.t 35)
    (.seq (.ops false [⟨(some 12), .mov (.c (.v (.bool false))), none⟩] .done)
     .ret)
    .skip))
  (.seq (.seq (.ops false [⟨(some 36), .mov (.t 1), none⟩,
     ⟨(some 37), .len (.t 36), none⟩,
     ⟨(some 38), .bin .gtr (.t 37) (.c (.v (.int .i64 2000))), none⟩,
     ⟨(some 39), .mov (.t 38), none⟩,
     ⟨(some 40), .mov (.t 2), some (39, false)⟩,
     ⟨(some 41), .len (.t 40), some (39, false)⟩,
     ⟨(some 42), .bin .gtr (.t 41) (.c (.v (.int .i64 60))), some (39, false)⟩,
     ⟨(some 43), .pick (.t 39) (.c (.v (.bool true))) (.t 42), none⟩,
     ⟨(some 44), .mov (.t 43), none⟩,
     ⟨(some 45), .mov (.t 13), some (44, false)⟩,
     ⟨(some 46), .un .not (.t 45), some (44, false)⟩,
     ⟨(some 47), .pick (.t 44) (.c (.v (.bool true))) (.t 46), none⟩] .done)
   (.cond (.t 47)
    (.seq (.ops false [⟨(some 48), .mov (.t 13), none⟩,
       ⟨(some 12), .mov (.t 48), none⟩] .done)
     .ret)
    .skip))
  (.seq (.ops false [⟨(some 50), .mov (.t 0), none⟩,
    ⟨(some 51), .mov (.t 1), none⟩,
    ⟨(some 52), .call 9 [(.t 50), (.t 51)], none⟩,
    ⟨(some 49), .mov (.t 52), none⟩,
    ⟨(some 53), .ext (.t 49) 0, none⟩,
    ⟨(some 54), .ext (.t 49) 1, none⟩,
    ⟨(some 14), .mov (.t 53), none⟩,
    ⟨(some 15), .mov (.t 54), none⟩] .done)
  (.seq (.ops false [⟨(some 56), .mov (.t 0), none⟩,
    ⟨(some 57), .mov (.t 1), none⟩,
    ⟨(some 58), .call 23 [(.t 56), (.t 57)], none⟩,
    ⟨(some 55), .mov (.t 58), none⟩,
    ⟨(some 59), .ext (.t 55) 0, none⟩,
    ⟨(some 60), .ext (.t 55) 1, none⟩,
    ⟨(some 16), .mov (.t 59), none⟩,
    ⟨(some 17), .mov (.t 60), none⟩] .done)
  (.seq (.seq (.ops false [⟨(some 61), .mov (.t 15), none⟩,
     ⟨(some 62), .mov (.t 17), none⟩,
     ⟨(some 63), .call 10 [(.t 61), (.t 62)], none⟩,
     ⟨(some 64), .un .not (.t 63), none⟩,
     ⟨(some 65), .mov (.t 64), none⟩,
     ⟨(some 66), .mov (.t 14), some (65, false)⟩,
     ⟨(some 67), .eqp 0 true true (.t 66) (.c (.v (.pointer none))), some (65, false)⟩,
     ⟨(some 68), .mov (.t 17), some (65, false)⟩,
     ⟨(some 69), .bin .eql (.t 68) (.c (.v (.int .i64 0))), some (65, false)⟩,
     ⟨(some 70), .eqb true (.t 67) (.t 69), some (65, false)⟩,
     ⟨(some 71), .pick (.t 65) (.c (.v (.bool true))) (.t 70), none⟩] .done)
   (.cond (.t 71)
    (.seq (.ops false [⟨(some 12), .mov (.c (.v (.bool false))), none⟩] .done)
     .ret)
    .skip))
  (.seq (.seq (.ops false [⟨(some 72), .mov (.t 14), none⟩,
     ⟨(some 73), .eqp 0 true false (.t 72) (.c (.v (.pointer none))), none⟩,
     ⟨(some 74), .mov (.t 73), none⟩,
     ⟨(some 75), .mov (.t 0), some (74, false)⟩,
     ⟨(some 76), .bin .gtr (.t 75) (.c (.v (.int .i64 4096))), some (74, false)⟩,
     ⟨(some 77), .pick (.t 74) (.c (.v (.bool true))) (.t 76), none⟩] .done)
   (.cond (.t 77)
    (.seq (.ops false [⟨(some 78), .mov (.t 14), none⟩,
       ⟨(some 79), .eqp 0 true false (.t 78) (.c (.v (.pointer none))), none⟩,
       ⟨(some 80), .mov (.t 79), none⟩,
       ⟨(some 81), .mov (.t 14), some (80, false)⟩,
       ⟨(some 82), .call 11 [(.t 81)], some (80, false)⟩,
       ⟨(some 83), .mov (.t 0), some (80, false)⟩,
       ⟨(some 84), .bin .eql (.t 82) (.t 83), some (80, false)⟩,
       ⟨(some 85), .pick (.t 80) (.c (.v (.bool true))) (.t 84), none⟩,
       ⟨(some 12), .mov (.t 85), none⟩] .done)
     .ret)
    .skip))
  (.seq (.ops false [⟨(some 86), .mov (.t 14), none⟩,
    ⟨(some 87), .call 24 [(.t 86)], none⟩,
    ⟨(some 18), .mov (.t 87), none⟩] .done)
  (.seq (.seq (.ops false [⟨(some 19), .mov (.c (.v (.int .i64 0))), none⟩] .done)
   (.block 0 (.loop (.seq (.seq (.ops false [⟨(some 88), .mov (.t 19), none⟩,
        ⟨(some 89), .mov (.t 2), none⟩,
        ⟨(some 90), .len (.t 89), none⟩,
        ⟨(some 91), .bin .lss (.t 88) (.t 90), none⟩] .done)
      (.cond (.t 91)
       .skip
       (.exit 0)))
     (.seq (.block 1 (.seq (.ops false [⟨(some 94), .mov (.t 2), none⟩,
         ⟨(some 95), .mov (.t 19), none⟩,
         ⟨(some 96), .idx 9 (.t 94) (.t 95), none⟩,
         ⟨(some 97), .load (some 9) (.t 96), none⟩,
         ⟨(some 20), .box 55 (.c (.agg [(.v (.int .i64 0)), (.v (.int .i64 0)), (.v (.int .i64 0)), (.v (.int .u32 0)), (.v (.int .u32 0)), (.v (.int .u32 0)), (.v (.int .u32 0)), (.v (.int .u32 0)), (.v (.int .u32 0))])), none⟩,
         ⟨none, .store 9 (.t 20) (.t 97), none⟩] .done)
       (.seq (.seq (.ops false [⟨(some 98), .fld 0 (.t 20), none⟩,
          ⟨(some 99), .load none (.t 98), none⟩,
          ⟨(some 100), .bin .eql (.t 99) (.c (.v (.int .i64 1))), none⟩] .done)
        (.cond (.t 100)
         (.seq (.ops true [⟨(some 101), .mov (.t 14), none⟩,
            ⟨(some 102), .fld 3 (.t 20), none⟩,
            ⟨(some 103), .load none (.t 102), none⟩,
            ⟨(some 104), .fld 1 (.t 20), none⟩,
            ⟨(some 105), .load none (.t 104), none⟩,
            ⟨(some 106), .fld 4 (.t 20), none⟩,
            ⟨(some 107), .load none (.t 106), none⟩,
            ⟨(some 108), .call 14 [(.t 101), (.t 103), (.t 105), (.t 107)], none⟩,
            ⟨(some 109), .mov (.t 16), none⟩,
            ⟨(some 110), .fld 3 (.t 20), none⟩,
            ⟨(some 111), .load none (.t 110), none⟩,
            ⟨(some 112), .fld 1 (.t 20), none⟩,
            ⟨(some 113), .load none (.t 112), none⟩,
            ⟨(some 114), .fld 4 (.t 20), none⟩,
            ⟨(some 115), .load none (.t 114), none⟩,
            ⟨(some 116), .call 25 [(.t 109), (.t 111), (.t 113), (.t 115)], none⟩,
            ⟨(some 117), .eqb true (.t 108) (.t 116), none⟩] (.take 0 [0, 7, 15, 16] (.take 1 [1, 2, 7, 15, 16] (.take 2 [2, 7, 15, 16] (.take 3 [3, 4, 7, 15, 16] (.take 4 [4, 7, 15, 16] (.take 5 [5, 6, 7, 15, 16] (.take 6 [6, 7, 15, 16] (.take 8 [8, 15, 16] (.take 9 [9, 10, 15, 16] (.take 10 [10, 15, 16] (.take 11 [11, 12, 15, 16] (.take 12 [12, 15, 16] (.take 13 [13, 14, 15, 16] (.take 14 [14, 15, 16] (.eff false 7 (.eff false 15 (.take 16 [16] .done))))))))))))))))))
          (.cond (.t 117)
           (.seq (.ops false [⟨(some 12), .mov (.c (.v (.bool false))), none⟩] .done)
            .ret)
           .skip))
         (.seq (.ops true [⟨(some 118), .mov (.t 14), none⟩,
            ⟨(some 119), .fld 2 (.t 20), none⟩,
            ⟨(some 120), .load none (.t 119), none⟩,
            ⟨(some 121), .fld 5 (.t 20), none⟩,
            ⟨(some 122), .load (some 4) (.t 121), none⟩,
            ⟨(some 123), .call 26 [(.t 118), (.t 120), (.t 122)], none⟩,
            ⟨(some 124), .mov (.t 16), none⟩,
            ⟨(some 125), .fld 2 (.t 20), none⟩,
            ⟨(some 126), .load none (.t 125), none⟩,
            ⟨(some 127), .fld 5 (.t 20), none⟩,
            ⟨(some 128), .load (some 4) (.t 127), none⟩,
            ⟨(some 129), .call 27 [(.t 124), (.t 126), (.t 128)], none⟩,
            ⟨(some 130), .eqb true (.t 123) (.t 129), none⟩] (.take 0 [0, 5, 11, 12] (.take 1 [1, 2, 5, 11, 12] (.take 2 [2, 5, 11, 12] (.take 3 [3, 4, 5, 11, 12] (.take 4 [4, 5, 11, 12] (.take 6 [6, 11, 12] (.take 7 [7, 8, 11, 12] (.take 8 [8, 11, 12] (.take 9 [9, 10, 11, 12] (.take 10 [10, 11, 12] (.eff false 5 (.eff false 11 (.take 12 [12] .done))))))))))))))
          (.cond (.t 130)
           (.seq (.ops false [⟨(some 12), .mov (.c (.v (.bool false))), none⟩] .done)
            .ret)
           .skip))))
       (.seq (.ops false [⟨(some 132), .mov (.t 14), none⟩,
         ⟨(some 133), .mov (.t 3), none⟩,
         ⟨(some 134), .mov (.t 4), none⟩,
         ⟨(some 135), .call 15 [(.t 132), (.t 133), (.t 134)], none⟩,
         ⟨(some 131), .mov (.t 135), none⟩,
         ⟨(some 136), .ext (.t 131) 0, none⟩,
         ⟨(some 137), .ext (.t 131) 1, none⟩,
         ⟨(some 21), .mov (.t 136), none⟩,
         ⟨(some 22), .mov (.t 137), none⟩] .done)
       (.seq (.ops false [⟨(some 139), .mov (.t 16), none⟩,
         ⟨(some 140), .mov (.t 3), none⟩,
         ⟨(some 141), .mov (.t 4), none⟩,
         ⟨(some 142), .call 28 [(.t 139), (.t 140), (.t 141)], none⟩,
         ⟨(some 138), .mov (.t 142), none⟩,
         ⟨(some 143), .ext (.t 138) 0, none⟩,
         ⟨(some 144), .ext (.t 138) 1, none⟩,
         ⟨(some 23), .mov (.t 143), none⟩,
         ⟨(some 24), .mov (.t 144), none⟩] .done)
       (.seq (.ops false [⟨(some 146), .mov (.t 14), none⟩,
         ⟨(some 147), .mov (.t 5), none⟩,
         ⟨(some 148), .call 13 [(.t 146), (.t 147)], none⟩,
         ⟨(some 145), .mov (.t 148), none⟩,
         ⟨(some 149), .ext (.t 145) 0, none⟩,
         ⟨(some 150), .ext (.t 145) 1, none⟩,
         ⟨(some 25), .box 34 (.c (.agg [(.v (.int .u32 0)), (.v (.int .u32 0)), (.v (.int .u32 0)), (.v (.int .u32 0))])), none⟩,
         ⟨none, .store 4 (.t 25) (.t 149), none⟩,
         ⟨(some 26), .mov (.t 150), none⟩] .done)
       (.seq (.ops false [⟨(some 152), .mov (.t 16), none⟩,
         ⟨(some 153), .mov (.t 5), none⟩,
         ⟨(some 154), .call 29 [(.t 152), (.t 153)], none⟩,
         ⟨(some 151), .mov (.t 154), none⟩,
         ⟨(some 155), .ext (.t 151) 0, none⟩,
         ⟨(some 156), .ext (.t 151) 1, none⟩,
         ⟨(some 27), .box 34 (.c (.agg [(.v (.int .u32 0)), (.v (.int .u32 0)), (.v (.int .u32 0)), (.v (.int .u32 0))])), none⟩,
         ⟨none, .store 4 (.t 27) (.t 155), none⟩,
         ⟨(some 28), .mov (.t 156), none⟩] .done)
       (.seq (.ops false [⟨(some 157), .mov (.t 21), none⟩,
         ⟨(some 158), .mov (.t 23), none⟩,
         ⟨(some 159), .bin .neq (.t 157) (.t 158), none⟩,
         ⟨(some 160), .mov (.t 159), none⟩,
         ⟨(some 161), .mov (.t 22), some (160, false)⟩,
         ⟨(some 162), .mov (.t 24), some (160, false)⟩,
         ⟨(some 163), .eqb true (.t 161) (.t 162), some (160, false)⟩,
         ⟨(some 164), .pick (.t 160) (.c (.v (.bool true))) (.t 163), none⟩,
         ⟨(some 165), .mov (.t 164), none⟩,
         ⟨(some 166), .mov (.t 14), some (165, false)⟩,
         ⟨(some 167), .mov (.t 3), some (165, false)⟩,
         ⟨(some 168), .mov (.t 4), some (165, false)⟩,
         ⟨(some 169), .call 12 [(.t 166), (.t 167), (.t 168)], some (165, false)⟩,
         ⟨(some 170), .mov (.t 24), some (165, false)⟩,
         ⟨(some 171), .eqb true (.t 169) (.t 170), some (165, false)⟩,
         ⟨(some 172), .pick (.t 165) (.c (.v (.bool true))) (.t 171), none⟩,
         ⟨(some 173), .mov (.t 172), none⟩,
         ⟨(some 174), .load (some 4) (.t 25), some (173, false)⟩,
         ⟨(some 175), .load (some 4) (.t 27), some (173, false)⟩,
         ⟨(some 176), .call 20 [(.t 174), (.t 175)], some (173, false)⟩,
         ⟨(some 177), .un .not (.t 176), some (173, false)⟩,
         ⟨(some 178), .pick (.t 173) (.c (.v (.bool true))) (.t 177), none⟩,
         ⟨(some 179), .mov (.t 178), none⟩,
         ⟨(some 180), .mov (.t 26), some (179, false)⟩,
         ⟨(some 181), .mov (.t 28), some (179, false)⟩,
         ⟨(some 182), .eqb true (.t 180) (.t 181), some (179, false)⟩,
         ⟨(some 183), .pick (.t 179) (.c (.v (.bool true))) (.t 182), none⟩] .done)
       (.cond (.t 183)
        (.seq (.ops false [⟨(some 12), .mov (.c (.v (.bool false))), none⟩] .done)
         .ret)
        .skip)))))))))
     (.ops false [⟨(some 92), .mov (.t 19), none⟩,
      ⟨(some 93), .bin .add (.t 92) (.c (.v (.int .i64 1))), none⟩,
      ⟨(some 19), .mov (.t 93), none⟩] .done))))))
  (.seq (.seq (.ops false [⟨(some 29), .mov (.c (.v (.int .i64 0))), none⟩] .done)
   (.block 2 (.loop (.seq (.seq (.ops false [⟨(some 184), .mov (.t 29), none⟩,
        ⟨(some 185), .mov (.t 0), none⟩,
        ⟨(some 186), .bin .lss (.t 184) (.t 185), none⟩] .done)
      (.cond (.t 186)
       .skip
       (.exit 2)))
     (.seq (.block 3 (.seq (.ops false [⟨(some 190), .mov (.t 14), none⟩,
         ⟨(some 191), .mov (.t 29), none⟩,
         ⟨(some 192), .conv .u32 (.t 191), none⟩,
         ⟨(some 193), .call 15 [(.t 190), (.t 192), (.c (.v (.int .i64 1)))], none⟩,
         ⟨(some 189), .mov (.t 193), none⟩,
         ⟨(some 194), .ext (.t 189) 0, none⟩,
         ⟨(some 195), .ext (.t 189) 1, none⟩,
         ⟨(some 30), .mov (.t 194), none⟩,
         ⟨(some 31), .mov (.t 195), none⟩] .done)
       (.seq (.ops false [⟨(some 196), .mov (.t 31), none⟩,
         ⟨(some 197), .un .not (.t 196), none⟩,
         ⟨(some 198), .mov (.t 197), none⟩,
         ⟨(some 199), .mov (.t 30), some (198, false)⟩,
         ⟨(some 200), .mov (.t 16), some (198, false)⟩,
         ⟨(some 201), .nilck (.t 200), some (198, false)⟩,
         ⟨(some 202), .fld 0 (.t 201), some (198, false)⟩,
         ⟨(some 203), .load none (.t 202), some (198, false)⟩,
         ⟨(some 204), .mov (.t 29), some (198, false)⟩,
         ⟨(some 205), .idx 1 (.t 203) (.t 204), some (198, false)⟩,
         ⟨(some 206), .load none (.t 205), some (198, false)⟩,
         ⟨(some 207), .conv .u32 (.t 206), some (198, false)⟩,
         ⟨(some 208), .bin .neq (.t 199) (.t 207), some (198, false)⟩,
         ⟨(some 209), .pick (.t 198) (.c (.v (.bool true))) (.t 208), none⟩] .done)
       (.cond (.t 209)
        (.seq (.ops false [⟨(some 12), .mov (.c (.v (.bool false))), none⟩] .done)
         .ret)
        .skip))))
     (.ops false [⟨(some 187), .mov (.t 29), none⟩,
      ⟨(some 188), .bin .add (.t 187) (.c (.v (.int .i64 1))), none⟩,
      ⟨(some 29), .mov (.t 188), none⟩] .done))))))
  (.seq (.ops false [⟨(some 211), .mov (.t 0), none⟩,
    ⟨(some 212), .mov (.t 1), none⟩,
    ⟨(some 213), .call 23 [(.t 211), (.t 212)], none⟩,
    ⟨(some 210), .mov (.t 213), none⟩,
    ⟨(some 214), .ext (.t 210) 0, none⟩,
    ⟨(some 215), .ext (.t 210) 1, none⟩,
    ⟨(some 32), .mov (.t 214), none⟩,
    ⟨(some 17), .mov (.t 215), none⟩] .done)
  (.seq (.ops true [⟨(some 216), .mov (.t 17), none⟩,
    ⟨(some 217), .bin .eql (.t 216) (.c (.v (.int .i64 0))), none⟩,
    ⟨(some 218), .mov (.t 217), none⟩,
    ⟨(some 219), .mov (.t 18), some (218, true)⟩,
    ⟨(some 220), .eqp 0 true true (.t 219) (.c (.v (.pointer none))), some (218, true)⟩,
    ⟨(some 221), .pick (.t 218) (.t 220) (.c (.v (.bool false))), none⟩,
    ⟨(some 222), .mov (.t 221), none⟩,
    ⟨(some 223), .mov (.t 18), some (222, true)⟩,
    ⟨(some 224), .call 11 [(.t 223)], some (222, true)⟩,
    ⟨(some 225), .mov (.t 0), some (222, true)⟩,
    ⟨(some 226), .bin .eql (.t 224) (.t 225), some (222, true)⟩,
    ⟨(some 227), .pick (.t 222) (.t 226) (.c (.v (.bool false))), none⟩,
    ⟨(some 228), .mov (.t 227), none⟩,
    ⟨(some 229), .mov (.t 18), some (228, true)⟩,
    ⟨(some 230), .mov (.t 14), some (228, true)⟩,
    ⟨(some 231), .call 16 [(.t 229), (.t 230)], some (228, true)⟩,
    ⟨(some 232), .mov (.t 16), some (228, true)⟩,
    ⟨(some 233), .nilck (.t 232), some (228, true)⟩,
    ⟨(some 234), .fld 0 (.t 233), some (228, true)⟩,
    ⟨(some 235), .load none (.t 234), some (228, true)⟩,
    ⟨(some 236), .mov (.t 32), some (228, true)⟩,
    ⟨(some 237), .nilck (.t 236), some (228, true)⟩,
    ⟨(some 238), .fld 0 (.t 237), some (228, true)⟩,
    ⟨(some 239), .load none (.t 238), some (228, true)⟩,
    ⟨(some 240), .call 30 [(.t 235), (.t 239)], some (228, true)⟩,
    ⟨(some 241), .eqb false (.t 231) (.t 240), some (228, true)⟩,
    ⟨(some 242), .pick (.t 228) (.t 241) (.c (.v (.bool false))), none⟩,
    ⟨(some 243), .mov (.t 242), none⟩,
    ⟨(some 244), .mov (.t 14), some (243, true)⟩,
    ⟨(some 245), .mov (.t 14), some (243, true)⟩,
    ⟨(some 246), .call 24 [(.t 245)], some (243, true)⟩,
    ⟨(some 247), .call 16 [(.t 244), (.t 246)], some (243, true)⟩,
    ⟨(some 248), .pick (.t 243) (.t 247) (.c (.v (.bool false))), none⟩,
    ⟨(some 12), .mov (.t 248), none⟩] (.take 0 [0, 1, 33, 2, 3, 4, 5, 6, 7, 8, 9, 10, 11, 12, 13, 14, 15, 16, 17, 18, 19, 20, 21, 22, 23, 24, 25, 26, 27, 28, 29, 30, 31, 32] (.take 1 [1, 2, 33, 3, 4, 5, 6, 7, 8, 9, 10, 11, 12, 13, 14, 15, 16, 17, 18, 19, 20, 21, 22, 23, 24, 25, 26, 27, 28, 29, 30, 31, 32] (.take 2 [2, 3, 4, 5, 6, 33, 7, 8, 9, 10, 11, 12, 13, 14, 15, 16, 17, 18, 19, 20, 21, 22, 23, 24, 25, 26, 27, 28, 29, 30, 31, 32] (.take 3 [3, 4, 33, 5, 6, 7, 8, 9, 10, 11, 12, 13, 14, 15, 16, 17, 18, 19, 20, 21, 22, 23, 24, 25, 26, 27, 28, 29, 30, 31, 32] (.take 4 [4, 5, 33, 6, 7, 8, 9, 10, 11, 12, 13, 14, 15, 16, 17, 18, 19, 20, 21, 22, 23, 24, 25, 26, 27, 28, 29, 30, 31, 32] (.take 5 [5, 6, 33, 7, 8, 9, 10, 11, 12, 13, 14, 15, 16, 17, 18, 19, 20, 21, 22, 23, 24, 25, 26, 27, 28, 29, 30, 31, 32] (.take 6 [6, 7, 8, 9, 10, 11, 33, 12, 13, 14, 15, 16, 17, 18, 19, 20, 21, 22, 23, 24, 25, 26, 27, 28, 29, 30, 31, 32] (.take 7 [7, 8, 33, 10, 12, 11, 13, 14, 15, 16, 17, 18, 19, 20, 21, 22, 23, 24, 25, 26, 27, 28, 29, 30, 31, 32] (.take 9 [9, 10, 33, 11, 12, 13, 14, 15, 16, 17, 18, 19, 20, 21, 22, 23, 24, 25, 26, 27, 28, 29, 30, 31, 32] (.eff true 8 (.take 10 [10, 11, 33, 12, 13, 14, 15, 16, 17, 18, 19, 20, 21, 22, 23, 24, 25, 26, 27, 28, 29, 30, 31, 32] (.take 11 [11, 12, 33, 13, 14, 15, 16, 17, 18, 19, 20, 21, 22, 23, 24, 25, 26, 27, 28, 29, 30, 31, 32] (.take 12 [12, 13, 14, 15, 16, 17, 18, 19, 20, 21, 22, 23, 24, 25, 26, 33, 27, 28, 29, 30, 31, 32] (.take 13 [13, 15, 33, 24, 25, 26, 27, 28, 29, 30, 31, 32] (.take 14 [14, 15, 33, 24, 25, 26, 27, 28, 29, 30, 31, 32] (.take 16 [16, 17, 33, 18, 19, 24, 25, 27, 26, 28, 29, 30, 31, 32] (.take 17 [17, 18, 33, 19, 24, 25, 27, 26, 28, 29, 30, 31, 32] (.take 18 [18, 19, 33, 24, 25, 27, 26, 28, 29, 30, 31, 32] (.take 19 [19, 24, 33, 25, 27, 26, 28, 29, 30, 31, 32] (.take 20 [20, 21, 33, 22, 23, 24, 25, 27, 26, 28, 29, 30, 31, 32] (.take 21 [21, 22, 33, 23, 24, 25, 27, 26, 28, 29, 30, 31, 32] (.take 22 [22, 23, 33, 24, 25, 27, 26, 28, 29, 30, 31, 32] (.take 23 [23, 24, 33, 25, 27, 26, 28, 29, 30, 31, 32] (.eff true 15 (.eff true 24 (.take 25 [25, 26, 33, 27, 28, 29, 30, 31, 32] (.take 26 [26, 27, 33, 28, 29, 30, 31, 32] (.take 27 [27, 28, 29, 30, 31, 32, 33] (.take 28 [28, 31, 33, 32] (.take 29 [29, 30, 33, 31, 32] (.eff false 30 (.eff true 31 (.take 32 [32, 33] (.take 33 [33] .done)))))))))))))))))))))))))))))))))))
  .ret)))))))))))))⟩
theorem pf6_eq : (Tryd.f6.body.map fun c => (cfn Tryd.prog pl6 Tryd.f6 c, guardsAll pl6 c)) = some (pf6, true) := by kernel_rfl

/-- corral/corrallaw7.MemLines  sizes [(15, 26)] -/
def pl7 : Nat → DT := dtGet [(15, (.take 0 [0, 1, 24, 2, 3, 4, 5, 6, 7, 8, 9, 10, 11, 12, 13, 14, 15, 16, 17, 18, 19, 20, 21, 22, 23] (.take 1 [1, 2, 3, 4, 24, 5, 6, 7, 8, 9, 10, 11, 12, 13, 14, 15, 16, 17, 18, 19, 20, 21, 22, 23] (.take 2 [2, 3, 24, 4, 5, 6, 7, 8, 9, 10, 11, 12, 13, 14, 15, 16, 17, 18, 19, 20, 21, 22, 23] (.take 3 [3, 4, 24, 5, 6, 7, 8, 9, 10, 11, 12, 13, 14, 15, 16, 17, 18, 19, 20, 21, 22, 23] (.take 4 [4, 5, 6, 7, 24, 8, 9, 10, 11, 12, 13, 14, 15, 16, 17, 18, 19, 20, 21, 22, 23] (.take 5 [5, 6, 24, 7, 8, 9, 10, 11, 12, 13, 14, 15, 16, 17, 18, 19, 20, 21, 22, 23] (.take 6 [6, 7, 24, 8, 9, 10, 11, 12, 13, 14, 15, 16, 17, 18, 19, 20, 21, 22, 23] (.take 7 [7, 8, 9, 10, 11, 12, 13, 14, 15, 24, 16, 17, 18, 19, 20, 21, 22, 23] (.take 8 [8, 14, 24, 15, 16, 17, 18, 19, 20, 21, 22, 23] (.take 9 [9, 13, 24, 14, 15, 16, 17, 18, 19, 20, 21, 22, 23] (.take 10 [10, 13, 24, 14, 15, 16, 17, 18, 19, 20, 21, 22, 23] (.take 11 [11, 13, 24, 14, 15, 16, 17, 18, 19, 20, 21, 22, 23] (.take 12 [12, 13, 24, 14, 15, 16, 17, 18, 19, 20, 21, 22, 23] (.eff false 13 (.eff true 14 (.take 15 [15, 16, 24, 17, 18, 19, 20, 21, 22, 23] (.take 16 [16, 17, 18, 19, 20, 21, 22, 23, 24] (.take 17 [17, 22, 24, 23] (.take 18 [18, 21, 24, 22, 23] (.take 19 [19, 21, 24, 22, 23] (.take 20 [20, 21, 24, 22, 23] (.eff true 21 (.take 22 [22, 23, 24] (.take 23 [23, 24] (.take 24 [24] .done))))))))))))))))))))))))))]
def pf7 : PFn := ⟨108, [.t 10], (.seq (.ops false [⟨(some 5), .box 34 (.t 0), none⟩,
    ⟨(some 10), .mov (.c (.v (.bool false))), none⟩] .done)
  (.seq (.ops false [⟨(some 20), .call 8 [], none⟩,
    ⟨(some 11), .mov (.t 20), none⟩] .done)
  (.seq (.seq (.ops false [⟨(some 21), .mov (.t 11), none⟩,
     ⟨(some 22), .un .not (.t 21), none⟩] .done)
   (.cond (.t 22)
    (.seq (.ops false [⟨(some 10), .mov (.c (.v (.bool false))), none⟩] .done)
     .ret)
    .skip))
  (.seq (.ops false [⟨(some 23), .mov (.t 1), none⟩,
    ⟨(some 24), .bin .rem (.t 23) (.c (.v (.int .i64 16))), none⟩,
    ⟨(some 25), .bin .add (.t 24) (.c (.v (.int .i64 16))), none⟩,
    ⟨(some 26), .bin .rem (.t 25) (.c (.v (.int .i64 16))), none⟩,
    ⟨(some 1), .mov (.t 26), none⟩] .done)
  (.seq (.ops false [⟨(some 27), .bslice 3 [.int .i64] 3 [(.v (.int .i64 0)), (.v (.int .i64 0)), (.v (.int .i64 0))] [(0, 1, (.c (.v (.int .i64 1)))), (1, 1, (.c (.v (.int .i64 2)))), (2, 1, (.c (.v (.int .i64 4))))], none⟩,
    ⟨(some 28), .mov (.t 4), none⟩,
    ⟨(some 29), .bin .rem (.t 28) (.c (.v (.int .i64 3))), none⟩,
    ⟨(some 30), .bin .add (.t 29) (.c (.v (.int .i64 3))), none⟩,
    ⟨(some 31), .bin .rem (.t 30) (.c (.v (.int .i64 3))), none⟩,
    ⟨(some 32), .idx 1 (.t 27) (.t 31), none⟩,
    ⟨(some 33), .load none (.t 32), none⟩,
    ⟨(some 4), .mov (.t 33), none⟩] .done)
  (.seq (.ops false [⟨(some 34), .mov (.t 2), none⟩,
    ⟨(some 35), .bin .rem (.t 34) (.c (.v (.int .u32 256))), none⟩,
    ⟨(some 36), .mov (.t 4), none⟩,
    ⟨(some 37), .bin .sub (.t 36) (.c (.v (.int .i64 1))), none⟩,
    ⟨(some 38), .conv .u32 (.t 37), none⟩,
    ⟨(some 39), .bin .andNot (.t 35) (.t 38), none⟩,
    ⟨(some 2), .mov (.t 39), none⟩] .done)
  (.seq (.ops false [⟨(some 41), .call 9 [(.c (.v (.int .i64 256))), (.c (.v (.slice none 0 0)))], none⟩,
    ⟨(some 40), .mov (.t 41), none⟩,
    ⟨(some 42), .ext (.t 40) 0, none⟩,
    ⟨(some 43), .ext (.t 40) 1, none⟩,
    ⟨(some 12), .mov (.t 42), none⟩,
    ⟨(some 13), .mov (.t 43), none⟩] .done)
  (.seq (.seq (.ops false [⟨(some 44), .mov (.t 12), none⟩,
     ⟨(some 45), .eqp 0 true false (.t 44) (.c (.v (.pointer none))), none⟩,
     ⟨(some 46), .mov (.t 45), none⟩,
     ⟨(some 47), .mov (.t 13), some (46, false)⟩,
     ⟨(some 48), .eqp 1 true true (.t 47) (.c (.v .nilIface)), some (46, false)⟩,
     ⟨(some 49), .pick (.t 46) (.c (.v (.bool true))) (.t 48), none⟩,
     ⟨(some 50), .mov (.t 49), none⟩,
     ⟨(some 51), .mov (.t 12), some (50, false)⟩,
     ⟨(some 52), .mov (.t 1), some (50, false)⟩,
     ⟨(some 53), .load (some 4) (.t 5), some (50, false)⟩,
     ⟨(some 54), .call 26 [(.t 51), (.t 52), (.t 53)], some (50, false)⟩,
     ⟨(some 55), .un .not (.t 54), some (50, false)⟩,
     ⟨(some 56), .pick (.t 50) (.c (.v (.bool true))) (.t 55), none⟩] .done)
   (.cond (.t 56)
    (.seq (.ops false [⟨(some 10), .mov (.c (.v (.bool false))), none⟩] .done)
     .ret)
    .skip))
  (.seq (.ops false [⟨(some 58), .mov (.t 12), none⟩,
    ⟨(some 59), .mov (.t 2), none⟩,
    ⟨(some 60), .call 22 [(.t 59)], none⟩,
    ⟨(some 61), .call 13 [(.t 58), (.t 60)], none⟩,
    ⟨(some 57), .mov (.t 61), none⟩,
    ⟨(some 62), .ext (.t 57) 0, none⟩,
    ⟨(some 63), .ext (.t 57) 1, none⟩,
    ⟨(some 14), .box 34 (.c (.agg [(.v (.int .u32 0)), (.v (.int .u32 0)), (.v (.int .u32 0)), (.v (.int .u32 0))])), none⟩,
    ⟨none, .store 4 (.t 14) (.t 62), none⟩,
    ⟨(some 15), .mov (.t 63), none⟩] .done)
  (.seq (.seq (.ops false [⟨(some 64), .mov (.t 12), none⟩,
     ⟨(some 65), .mov (.t 2), none⟩,
     ⟨(some 66), .mov (.t 4), none⟩,
     ⟨(some 67), .mov (.t 3), none⟩,
     ⟨(some 68), .call 14 [(.t 64), (.t 65), (.t 66), (.t 67)], none⟩,
     ⟨(some 69), .un .not (.t 68), none⟩] .done)
   (.cond (.t 69)
    (.seq (.ops false [⟨(some 10), .mov (.c (.v (.bool false))), none⟩] .done)
     .ret)
    .skip))
  (.seq (.ops false [⟨(some 71), .mov (.t 12), none⟩,
    ⟨(some 72), .mov (.t 2), none⟩,
    ⟨(some 73), .call 22 [(.t 72)], none⟩,
    ⟨(some 74), .call 13 [(.t 71), (.t 73)], none⟩,
    ⟨(some 70), .mov (.t 74), none⟩,
    ⟨(some 75), .ext (.t 70) 0, none⟩,
    ⟨(some 76), .ext (.t 70) 1, none⟩,
    ⟨(some 16), .box 34 (.c (.agg [(.v (.int .u32 0)), (.v (.int .u32 0)), (.v (.int .u32 0)), (.v (.int .u32 0))])), none⟩,
    ⟨none, .store 4 (.t 16) (.t 75), none⟩,
    ⟨(some 17), .mov (.t 76), none⟩] .done)
  (.seq (.ops false [⟨(some 78), .mov (.t 12), none⟩,
    ⟨(some 79), .mov (.t 2), none⟩,
    ⟨(some 80), .mov (.t 4), none⟩,
    ⟨(some 81), .call 15 [(.t 78), (.t 79), (.t 80)], none⟩,
    ⟨(some 77), .mov (.t 81), none⟩,
    ⟨(some 82), .ext (.t 77) 0, none⟩,
    ⟨(some 83), .ext (.t 77) 1, none⟩,
    ⟨(some 18), .mov (.t 82), none⟩,
    ⟨(some 19), .mov (.t 83), none⟩] .done)
  (.seq (.ops true [⟨(some 84), .mov (.t 11), none⟩,
    ⟨(some 85), .mov (.t 84), none⟩,
    ⟨(some 86), .mov (.t 17), some (85, true)⟩,
    ⟨(some 87), .pick (.t 85) (.t 86) (.c (.v (.bool false))), none⟩,
    ⟨(some 88), .mov (.t 87), none⟩,
    ⟨(some 89), .mov (.t 19), some (88, true)⟩,
    ⟨(some 90), .pick (.t 88) (.t 89) (.c (.v (.bool false))), none⟩,
    ⟨(some 91), .mov (.t 90), none⟩,
    ⟨(some 92), .load (some 4) (.t 16), some (91, true)⟩,
    ⟨(some 93), .load (some 4) (.t 14), some (91, true)⟩,
    ⟨(some 94), .mov (.t 2), some (91, true)⟩,
    ⟨(some 95), .mov (.t 4), some (91, true)⟩,
    ⟨(some 96), .mov (.t 3), some (91, true)⟩,
    ⟨(some 97), .call 18 [(.t 93), (.t 94), (.t 95), (.t 96)], some (91, true)⟩,
    ⟨(some 98), .call 20 [(.t 92), (.t 97)], some (91, true)⟩,
    ⟨(some 99), .pick (.t 91) (.t 98) (.c (.v (.bool false))), none⟩,
    ⟨(some 100), .mov (.t 99), none⟩,
    ⟨(some 101), .mov (.t 18), some (100, true)⟩,
    ⟨(some 102), .load (some 4) (.t 16), some (100, true)⟩,
    ⟨(some 103), .mov (.t 2), some (100, true)⟩,
    ⟨(some 104), .mov (.t 4), some (100, true)⟩,
    ⟨(some 105), .call 17 [(.t 102), (.t 103), (.t 104)], some (100, true)⟩,
    ⟨(some 106), .bin .eql (.t 101) (.t 105), some (100, true)⟩,
    ⟨(some 107), .pick (.t 100) (.t 106) (.c (.v (.bool false))), none⟩,
    ⟨(some 10), .mov (.t 107), none⟩] (.take 0 [0, 1, 24, 2, 3, 4, 5, 6, 7, 8, 9, 10, 11, 12, 13, 14, 15, 16, 17, 18, 19, 20, 21, 22, 23] (.take 1 [1, 2, 3, 4, 24, 5, 6, 7, 8, 9, 10, 11, 12, 13, 14, 15, 16, 17, 18, 19, 20, 21, 22, 23] (.take 2 [2, 3, 24, 4, 5, 6, 7, 8, 9, 10, 11, 12, 13, 14, 15, 16, 17, 18, 19, 20, 21, 22, 23] (.take 3 [3, 4, 24, 5, 6, 7, 8, 9, 10, 11, 12, 13, 14, 15, 16, 17, 18, 19, 20, 21, 22, 23] (.take 4 [4, 5, 6, 7, 24, 8, 9, 10, 11, 12, 13, 14, 15, 16, 17, 18, 19, 20, 21, 22, 23] (.take 5 [5, 6, 24, 7, 8, 9, 10, 11, 12, 13, 14, 15, 16, 17, 18, 19, 20, 21, 22, 23] (.take 6 [6, 7, 24, 8, 9, 10, 11, 12, 13, 14, 15, 16, 17, 18, 19, 20, 21, 22, 23] (.take 7 [7, 8, 9, 10, 11, 12, 13, 14, 15, 24, 16, 17, 18, 19, 20, 21, 22, 23] (.take 8 [8, 14, 24, 15, 16, 17, 18, 19, 20, 21, 22, 23] (.take 9 [9, 13, 24, 14, 15, 16, 17, 18, 19, 20, 21, 22, 23] (.take 10 [10, 13, 24, 14, 15, 16, 17, 18, 19, 20, 21, 22, 23] (.take 11 [11, 13, 24, 14, 15, 16, 17, 18, 19, 20, 21, 22, 23] (.take 12 [12, 13, 24, 14, 15, 16, 17, 18, 19, 20, 21, 22, 23] (.eff false 13 (.eff true 14 (.take 15 [15, 16, 24, 17, 18, 19, 20, 21, 22, 23] (.take 16 [16, 17, 18, 19, 20, 21, 22, 23, 24] (.take 17 [17, 22, 24, 23] (.take 18 [18, 21, 24, 22, 23] (.take 19 [19, 21, 24, 22, 23] (.take 20 [20, 21, 24, 22, 23] (.eff true 21 (.take 22 [22, 23, 24] (.take 23 [23, 24] (.take 24 [24] .done))))))))))))))))))))))))))
  .ret)))))))))))))⟩
theorem pf7_eq : (Tryd.f7.body.map fun c => (cfn Tryd.prog pl7 Tryd.f7 c, guardsAll pl7 c)) = some (pf7, true) := by kernel_rfl

/-- corral/corrallaw7.first  sizes [] -/
def pl8 : Nat → DT := dtGet []
def pf8 : PFn := ⟨62, [.t 0], (.seq (.ops false [⟨(some 0), .mov (.c (.v (.bool false))), none⟩] .done)
  (.seq (.ops false [⟨(some 12), .bslice 32 [.int .u32] 1 [(.v (.int .u32 0))] [(0, 1, (.c (.v (.int .u32 67305985))))], none⟩,
    ⟨(some 13), .call 9 [(.c (.v (.int .i64 16))), (.t 12)], none⟩,
    ⟨(some 11), .mov (.t 13), none⟩,
    ⟨(some 14), .ext (.t 11) 0, none⟩,
    ⟨(some 15), .ext (.t 11) 1, none⟩,
    ⟨(some 1), .mov (.t 14), none⟩,
    ⟨(some 2), .mov (.t 15), none⟩] .done)
  (.seq (.seq (.ops false [⟨(some 16), .mov (.t 1), none⟩,
     ⟨(some 17), .eqp 0 true false (.t 16) (.c (.v (.pointer none))), none⟩,
     ⟨(some 18), .mov (.t 17), none⟩,
     ⟨(some 19), .mov (.t 2), some (18, false)⟩,
     ⟨(some 20), .eqp 1 true true (.t 19) (.c (.v .nilIface)), some (18, false)⟩,
     ⟨(some 21), .pick (.t 18) (.c (.v (.bool true))) (.t 20), none⟩] .done)
   (.cond (.t 21)
    (.seq (.ops false [⟨(some 0), .mov (.c (.v (.bool false))), none⟩] .done)
     .ret)
    .skip))
  (.seq (.ops false [⟨(some 23), .mov (.t 1), none⟩,
    ⟨(some 24), .call 15 [(.t 23), (.c (.v (.int .u32 1))), (.c (.v (.int .i64 1)))], none⟩,
    ⟨(some 22), .mov (.t 24), none⟩,
    ⟨(some 25), .ext (.t 22) 0, none⟩,
    ⟨(some 26), .ext (.t 22) 1, none⟩,
    ⟨(some 3), .mov (.t 25), none⟩,
    ⟨(some 4), .mov (.t 26), none⟩] .done)
  (.seq (.ops false [⟨(some 28), .mov (.t 1), none⟩,
    ⟨(some 29), .call 15 [(.t 28), (.c (.v (.int .u32 2))), (.c (.v (.int .i64 2)))], none⟩,
    ⟨(some 27), .mov (.t 29), none⟩,
    ⟨(some 30), .ext (.t 27) 0, none⟩,
    ⟨(some 31), .ext (.t 27) 1, none⟩,
    ⟨(some 5), .mov (.t 30), none⟩,
    ⟨(some 6), .mov (.t 31), none⟩] .done)
  (.seq (.ops false [⟨(some 33), .mov (.t 1), none⟩,
    ⟨(some 34), .call 15 [(.t 33), (.c (.v (.int .u32 16))), (.c (.v (.int .i64 4)))], none⟩,
    ⟨(some 32), .mov (.t 34), none⟩,
    ⟨(some 35), .ext (.t 32) 0, none⟩,
    ⟨(some 36), .ext (.t 32) 1, none⟩,
    ⟨(some 7), .mov (.t 35), none⟩,
    ⟨(some 8), .mov (.t 36), none⟩] .done)
  (.seq (.ops false [⟨(some 38), .mov (.t 1), none⟩,
    ⟨(some 39), .call 15 [(.t 38), (.c (.v (.int .u32 1))), (.c (.v (.int .i64 2)))], none⟩,
    ⟨(some 37), .mov (.t 39), none⟩,
    ⟨(some 40), .ext (.t 37) 0, none⟩,
    ⟨(some 41), .ext (.t 37) 1, none⟩,
    ⟨(some 9), .mov (.t 40), none⟩,
    ⟨(some 10), .mov (.t 41), none⟩] .done)
  (.seq (.ops false [⟨(some 42), .mov (.t 3), none⟩,
    ⟨(some 43), .bin .eql (.t 42) (.c (.v (.int .u32 2))), none⟩,
    ⟨(some 44), .mov (.t 43), none⟩,
    ⟨(some 45), .mov (.t 4), some (44, true)⟩,
    ⟨(some 46), .pick (.t 44) (.t 45) (.c (.v (.bool false))), none⟩,
    ⟨(some 47), .mov (.t 46), none⟩,
    ⟨(some 48), .mov (.t 5), some (47, true)⟩,
    ⟨(some 49), .bin .eql (.t 48) (.c (.v (.int .u32 1027))), some (47, true)⟩,
    ⟨(some 50), .pick (.t 47) (.t 49) (.c (.v (.bool false))), none⟩,
    ⟨(some 51), .mov (.t 50), none⟩,
    ⟨(some 52), .mov (.t 6), some (51, true)⟩,
    ⟨(some 53), .pick (.t 51) (.t 52) (.c (.v (.bool false))), none⟩,
    ⟨(some 54), .mov (.t 53), none⟩,
    ⟨(some 55), .mov (.t 8), some (54, true)⟩,
    ⟨(some 56), .un .not (.t 55), some (54, true)⟩,
    ⟨(some 57), .pick (.t 54) (.t 56) (.c (.v (.bool false))), none⟩,
    ⟨(some 58), .mov (.t 57), none⟩,
    ⟨(some 59), .mov (.t 10), some (58, true)⟩,
    ⟨(some 60), .un .not (.t 59), some (58, true)⟩,
    ⟨(some 61), .pick (.t 58) (.t 60) (.c (.v (.bool false))), none⟩,
    ⟨(some 0), .mov (.t 61), none⟩] .done)
  .ret))))))))⟩
theorem pf8_eq : (Tryd.f8.body.map fun c => (cfn Tryd.prog pl8 Tryd.f8 c, guardsAll pl8 c)) = some (pf8, true) := by kernel_rfl

/-- corral/mem.New  sizes [(2, 4), (4, 4)] -/
def pl9 : Nat → DT := dtGet [(2, (.take 0 [0, 2] (.take 1 [1, 2] (.take 2 [2] .done)))), (4, (.take 0 [0, 2] (.take 1 [1, 2] (.take 2 [2] .done))))]
def pf9 : PFn := ⟨49, [.t 4, .t 5], (.seq (.ops false [⟨(some 4), .mov (.c (.v (.pointer none))), none⟩,
    ⟨(some 5), .mov (.c (.v .nilIface)), none⟩] .done)
  (.seq (.seq (.ops false [⟨(some 9), .mov (.t 0), none⟩,
     ⟨(some 10), .bin .lss (.t 9) (.c (.v (.int .i64 16))), none⟩,
     ⟨(some 11), .mov (.t 10), none⟩,
     ⟨(some 12), .mov (.t 0), some (11, false)⟩,
     ⟨(some 13), .bin .gtr (.t 12) (.c (.v (.int .i64 65536))), some (11, false)⟩,
     ⟨(some 14), .pick (.t 11) (.c (.v (.bool true))) (.t 13), none⟩,
     ⟨(some 15), .mov (.t 14), none⟩,
     ⟨(some 16), .mov (.t 0), some (15, false)⟩,
     ⟨(some 17), .bin .rem (.t 16) (.c (.v (.int .i64 16))), some (15, false)⟩,
     ⟨(some 18), .bin .neq (.t 17) (.c (.v (.int .i64 0))), some (15, false)⟩,
     ⟨(some 19), .pick (.t 15) (.c (.v (.bool true))) (.t 18), none⟩] .done)
   (.cond (.t 19)
    (.seq (.ops true [⟨(some 20), .load none (.c (.v (.pointer (some ⟨0, 0, none⟩)))), none⟩,
       ⟨(some 4), .mov (.c (.v (.pointer none))), none⟩,
       ⟨(some 5), .mov (.t 20), none⟩] (.take 0 [0, 2] (.take 1 [1, 2] (.take 2 [2] .done))))
     .ret)
    .skip))
  (.seq (.seq (.ops false [⟨(some 21), .mov (.t 1), none⟩,
     ⟨(some 22), .len (.t 21), none⟩,
     ⟨(some 23), .mov (.t 0), none⟩,
     ⟨(some 24), .bin .quo (.t 23) (.c (.v (.int .i64 4))), none⟩,
     ⟨(some 25), .bin .gtr (.t 22) (.t 24), none⟩] .done)
   (.cond (.t 25)
    (.seq (.ops true [⟨(some 26), .load none (.c (.v (.pointer (some ⟨1, 0, none⟩)))), none⟩,
       ⟨(some 4), .mov (.c (.v (.pointer none))), none⟩,
       ⟨(some 5), .mov (.t 26), none⟩] (.take 0 [0, 2] (.take 1 [1, 2] (.take 2 [2] .done))))
     .ret)
    .skip))
  (.seq (.ops false [⟨(some 27), .mov (.t 0), none⟩,
    ⟨(some 28), .mslice 5 [.int .u8] [(.int .u8 0)] 1 (.t 27) (.t 27), none⟩,
    ⟨(some 29), .build [(.v (.slice none 0 0))] [(0, 1, (.t 28))], none⟩,
    ⟨(some 30), .box 64 (.t 29), none⟩,
    ⟨(some 6), .mov (.t 30), none⟩] .done)
  (.seq (.seq (.ops false [⟨(some 31), .mov (.t 1), none⟩,
     ⟨(some 32), .len (.t 31), none⟩,
     ⟨(some 33), .mov (.c (.v (.int .i64 0))), none⟩] .done)
   (.block 0 (.loop (.seq (.ops false [⟨(some 34), .bin .lss (.t 33) (.t 32), none⟩] .done)
     (.seq (.cond (.t 34)
       .skip
       (.exit 0))
     (.seq (.block 1 (.seq (.ops false [⟨(some 35), .mov (.t 33), none⟩,
         ⟨(some 36), .idx 1 (.t 31) (.t 33), none⟩,
         ⟨(some 37), .load none (.t 36), none⟩,
         ⟨(some 7), .mov (.t 35), none⟩,
         ⟨(some 8), .mov (.t 37), none⟩] .done)
       (.ops false [⟨(some 38), .mov (.t 6), none⟩,
        ⟨(some 39), .nilck (.t 38), none⟩,
        ⟨(some 40), .fld 0 (.t 39), none⟩,
        ⟨(some 41), .load none (.t 40), none⟩,
        ⟨(some 42), .mov (.t 7), none⟩,
        ⟨(some 43), .bin .mul (.c (.v (.int .i64 4))) (.t 42), none⟩,
        ⟨(some 44), .slice 1 (.t 41) (some (.t 43)) none none, none⟩,
        ⟨(some 45), .mov (.t 8), none⟩,
        ⟨(some 46), .call 31 [(.t 44), (.c (.v (.int .i64 4))), (.t 45)], none⟩] .done)))
     (.ops false [⟨(some 47), .bin .add (.t 33) (.c (.v (.int .i64 1))), none⟩,
      ⟨(some 33), .mov (.t 47), none⟩] .done)))))))
  (.seq (.ops false [⟨(some 48), .mov (.t 6), none⟩,
    ⟨(some 4), .mov (.t 48), none⟩,
    ⟨(some 5), .mov (.c (.v .nilIface)), none⟩] .done)
  .ret))))))⟩
theorem pf9_eq : (Tryd.f9.body.map fun c => (cfn Tryd.prog pl9 Tryd.f9 c, guardsAll pl9 c)) = some (pf9, true) := by kernel_rfl

/-- corral/corralsee.Is  sizes [] -/
def pl10 : Nat → DT := dtGet []
def pf10 : PFn := ⟨9, [.t 4], (.seq (.ops false [⟨(some 4), .mov (.c (.v (.bool false))), none⟩] .done)
  (.seq (.ops false [⟨(some 5), .mov (.t 0), none⟩,
    ⟨(some 6), .mov (.t 1), none⟩,
    ⟨(some 7), .call 33 [(.t 6)], none⟩,
    ⟨(some 8), .call 32 [(.t 5), (.t 7)], none⟩,
    ⟨(some 4), .mov (.t 8), none⟩] .done)
  .ret))⟩
theorem pf10_eq : (Tryd.f10.body.map fun c => (cfn Tryd.prog pl10 Tryd.f10 c, guardsAll pl10 c)) = some (pf10, true) := by kernel_rfl

/-- (*corral/mem.Memory).Bytes  sizes [] -/
def pl11 : Nat → DT := dtGet []
def pf11 : PFn := ⟨8, [.t 2], (.seq (.ops false [⟨(some 2), .mov (.c (.v (.int .i64 0))), none⟩] .done)
  (.seq (.ops false [⟨(some 3), .mov (.t 0), none⟩,
    ⟨(some 4), .nilck (.t 3), none⟩,
    ⟨(some 5), .fld 0 (.t 4), none⟩,
    ⟨(some 6), .load none (.t 5), none⟩,
    ⟨(some 7), .len (.t 6), none⟩,
    ⟨(some 2), .mov (.t 7), none⟩] .done)
  .ret))⟩
theorem pf11_eq : (Tryd.f11.body.map fun c => (cfn Tryd.prog pl11 Tryd.f11 c, guardsAll pl11 c)) = some (pf11, true) := by kernel_rfl

/-- (*corral/mem.Memory).Has  sizes [] -/
def pl12 : Nat → DT := dtGet []
def pf12 : PFn := ⟨22, [.t 6], (.seq (.ops false [⟨(some 6), .mov (.c (.v (.bool false))), none⟩] .done)
  (.seq (.ops false [⟨(some 7), .mov (.t 1), none⟩,
    ⟨(some 8), .mov (.t 2), none⟩,
    ⟨(some 9), .call 34 [(.t 7), (.t 8)], none⟩,
    ⟨(some 10), .mov (.t 9), none⟩,
    ⟨(some 11), .mov (.t 1), some (10, true)⟩,
    ⟨(some 12), .conv .i64 (.t 11), some (10, true)⟩,
    ⟨(some 13), .mov (.t 0), some (10, true)⟩,
    ⟨(some 14), .nilck (.t 13), some (10, true)⟩,
    ⟨(some 15), .fld 0 (.t 14), some (10, true)⟩,
    ⟨(some 16), .load none (.t 15), some (10, true)⟩,
    ⟨(some 17), .len (.t 16), some (10, true)⟩,
    ⟨(some 18), .mov (.t 2), some (10, true)⟩,
    ⟨(some 19), .bin .sub (.t 17) (.t 18), some (10, true)⟩,
    ⟨(some 20), .bin .leq (.t 12) (.t 19), some (10, true)⟩,
    ⟨(some 21), .pick (.t 10) (.t 20) (.c (.v (.bool false))), none⟩,
    ⟨(some 6), .mov (.t 21), none⟩] .done)
  .ret))⟩
theorem pf12_eq : (Tryd.f12.body.map fun c => (cfn Tryd.prog pl12 Tryd.f12 c, guardsAll pl12 c)) = some (pf12, true) := by kernel_rfl

/-- (*corral/mem.Memory).Line  sizes [] -/
def pl13 : Nat → DT := dtGet []
def pf13 : PFn := ⟨35, [.cell 4 (some 4), .t 5], (.seq (.ops false [⟨(some 4), .box 34 (.c (.agg [(.v (.int .u32 0)), (.v (.int .u32 0)), (.v (.int .u32 0)), (.v (.int .u32 0))])), none⟩,
    ⟨(some 5), .mov (.c (.v (.bool false))), none⟩] .done)
  (.seq (.ops false [⟨(some 6), .box 34 (.c (.agg [(.v (.int .u32 0)), (.v (.int .u32 0)), (.v (.int .u32 0)), (.v (.int .u32 0))])), none⟩] .done)
  (.seq (.seq (.ops false [⟨(some 8), .mov (.t 1), none⟩,
     ⟨(some 9), .bin .lss (.t 8) (.c (.v (.int .i64 0))), none⟩,
     ⟨(some 10), .mov (.t 9), none⟩,
     ⟨(some 11), .mov (.t 1), some (10, false)⟩,
     ⟨(some 12), .mov (.t 0), some (10, false)⟩,
     ⟨(some 13), .call 35 [(.t 12)], some (10, false)⟩,
     ⟨(some 14), .bin .geq (.t 11) (.t 13), some (10, false)⟩,
     ⟨(some 15), .pick (.t 10) (.c (.v (.bool true))) (.t 14), none⟩] .done)
   (.cond (.t 15)
    (.seq (.ops false [⟨(some 16), .load (some 4) (.t 6), none⟩,
       ⟨none, .store 4 (.t 4) (.t 16), none⟩,
       ⟨(some 5), .mov (.c (.v (.bool false))), none⟩] .done)
     .ret)
    .skip))
  (.seq (.seq (.ops false [⟨(some 17), .mov (.c (.v (.int .i64 0))), none⟩] .done)
   (.block 0 (.loop (.seq (.ops false [⟨(some 18), .bin .lss (.t 17) (.c (.v (.int .i64 4))), none⟩] .done)
     (.seq (.cond (.t 18)
       .skip
       (.exit 0))
     (.seq (.block 1 (.seq (.ops false [⟨(some 19), .mov (.t 17), none⟩,
         ⟨(some 7), .mov (.t 19), none⟩] .done)
       (.ops false [⟨(some 20), .mov (.t 7), none⟩,
        ⟨(some 21), .mov (.t 0), none⟩,
        ⟨(some 22), .nilck (.t 21), none⟩,
        ⟨(some 23), .fld 0 (.t 22), none⟩,
        ⟨(some 24), .load none (.t 23), none⟩,
        ⟨(some 25), .mov (.t 1), none⟩,
        ⟨(some 26), .bin .mul (.t 25) (.c (.v (.int .i64 16))), none⟩,
        ⟨(some 27), .mov (.t 7), none⟩,
        ⟨(some 28), .bin .mul (.t 27) (.c (.v (.int .i64 4))), none⟩,
        ⟨(some 29), .bin .add (.t 26) (.t 28), none⟩,
        ⟨(some 30), .slice 1 (.t 24) (some (.t 29)) none none, none⟩,
        ⟨(some 31), .call 36 [(.t 30), (.c (.v (.int .i64 4)))], none⟩,
        ⟨(some 32), .idxa 4 1 (.t 6) (.t 20), none⟩,
        ⟨none, .store 1 (.t 32) (.t 31), none⟩] .done)))
     (.ops false [⟨(some 33), .bin .add (.t 17) (.c (.v (.int .i64 1))), none⟩,
      ⟨(some 17), .mov (.t 33), none⟩] .done)))))))
  (.seq (.ops false [⟨(some 34), .load (some 4) (.t 6), none⟩,
    ⟨none, .store 4 (.t 4) (.t 34), none⟩,
    ⟨(some 5), .mov (.c (.v (.bool true))), none⟩] .done)
  .ret)))))⟩
theorem pf13_eq : (Tryd.f13.body.map fun c => (cfn Tryd.prog pl13 Tryd.f13 c, guardsAll pl13 c)) = some (pf13, true) := by kernel_rfl

/-- (*corral/mem.Memory).Store  sizes [] -/
def pl14 : Nat → DT := dtGet []
def pf14 : PFn := ⟨23, [.t 8], (.seq (.ops false [⟨(some 8), .mov (.c (.v (.bool false))), none⟩] .done)
  (.seq (.seq (.ops false [⟨(some 9), .mov (.t 0), none⟩,
     ⟨(some 10), .mov (.t 1), none⟩,
     ⟨(some 11), .mov (.t 2), none⟩,
     ⟨(some 12), .call 12 [(.t 9), (.t 10), (.t 11)], none⟩,
     ⟨(some 13), .un .not (.t 12), none⟩] .done)
   (.cond (.t 13)
    (.seq (.ops false [⟨(some 8), .mov (.c (.v (.bool false))), none⟩] .done)
     .ret)
    .skip))
  (.seq (.ops false [⟨(some 14), .mov (.t 0), none⟩,
    ⟨(some 15), .nilck (.t 14), none⟩,
    ⟨(some 16), .fld 0 (.t 15), none⟩,
    ⟨(some 17), .load none (.t 16), none⟩,
    ⟨(some 18), .mov (.t 1), none⟩,
    ⟨(some 19), .slice 1 (.t 17) (some (.t 18)) none none, none⟩,
    ⟨(some 20), .mov (.t 2), none⟩,
    ⟨(some 21), .mov (.t 3), none⟩,
    ⟨(some 22), .call 31 [(.t 19), (.t 20), (.t 21)], none⟩] .done)
  (.seq (.ops false [⟨(some 8), .mov (.c (.v (.bool true))), none⟩] .done)
  .ret))))⟩
theorem pf14_eq : (Tryd.f14.body.map fun c => (cfn Tryd.prog pl14 Tryd.f14 c, guardsAll pl14 c)) = some (pf14, true) := by kernel_rfl

/-- (*corral/mem.Memory).Load  sizes [] -/
def pl15 : Nat → DT := dtGet []
def pf15 : PFn := ⟨21, [.t 6, .t 7], (.seq (.ops false [⟨(some 6), .mov (.c (.v (.int .u32 0))), none⟩,
    ⟨(some 7), .mov (.c (.v (.bool false))), none⟩] .done)
  (.seq (.seq (.ops false [⟨(some 8), .mov (.t 0), none⟩,
     ⟨(some 9), .mov (.t 1), none⟩,
     ⟨(some 10), .mov (.t 2), none⟩,
     ⟨(some 11), .call 12 [(.t 8), (.t 9), (.t 10)], none⟩,
     ⟨(some 12), .un .not (.t 11), none⟩] .done)
   (.cond (.t 12)
    (.seq (.ops false [⟨(some 6), .mov (.c (.v (.int .u32 0))), none⟩,
       ⟨(some 7), .mov (.c (.v (.bool false))), none⟩] .done)
     .ret)
    .skip))
  (.seq (.ops false [⟨(some 13), .mov (.t 0), none⟩,
    ⟨(some 14), .nilck (.t 13), none⟩,
    ⟨(some 15), .fld 0 (.t 14), none⟩,
    ⟨(some 16), .load none (.t 15), none⟩,
    ⟨(some 17), .mov (.t 1), none⟩,
    ⟨(some 18), .slice 1 (.t 16) (some (.t 17)) none none, none⟩,
    ⟨(some 19), .mov (.t 2), none⟩,
    ⟨(some 20), .call 36 [(.t 18), (.t 19)], none⟩,
    ⟨(some 6), .mov (.t 20), none⟩,
    ⟨(some 7), .mov (.c (.v (.bool true))), none⟩] .done)
  .ret)))⟩
theorem pf15_eq : (Tryd.f15.body.map fun c => (cfn Tryd.prog pl15 Tryd.f15 c, guardsAll pl15 c)) = some (pf15, true) := by kernel_rfl

/-- (*corral/mem.Memory).Same  sizes [(1, 11)] -/
def pl16 : Nat → DT := dtGet [(1, (.take 0 [0, 1, 9, 2, 3, 8] (.take 1 [1, 2, 9, 3, 8] (.take 2 [2, 3, 9, 8] (.take 3 [3, 8, 9] (.take 4 [4, 5, 9, 6, 7, 8] (.take 5 [5, 6, 9, 7, 8] (.take 6 [6, 7, 9, 8] (.take 7 [7, 8, 9] (.eff true 8 (.take 9 [9] .done)))))))))))]
def pf16 : PFn := ⟨14, [.t 4], (.seq (.ops false [⟨(some 4), .mov (.c (.v (.bool false))), none⟩] .done)
  (.seq (.ops true [⟨(some 5), .mov (.t 0), none⟩,
    ⟨(some 6), .nilck (.t 5), none⟩,
    ⟨(some 7), .fld 0 (.t 6), none⟩,
    ⟨(some 8), .load none (.t 7), none⟩,
    ⟨(some 9), .mov (.t 1), none⟩,
    ⟨(some 10), .nilck (.t 9), none⟩,
    ⟨(some 11), .fld 0 (.t 10), none⟩,
    ⟨(some 12), .load none (.t 11), none⟩,
    ⟨(some 13), .call 37 [(.t 8), (.t 12)], none⟩,
    ⟨(some 4), .mov (.t 13), none⟩] (.take 0 [0, 1, 9, 2, 3, 8] (.take 1 [1, 2, 9, 3, 8] (.take 2 [2, 3, 9, 8] (.take 3 [3, 8, 9] (.take 4 [4, 5, 9, 6, 7, 8] (.take 5 [5, 6, 9, 7, 8] (.take 6 [6, 7, 9, 8] (.take 7 [7, 8, 9] (.eff true 8 (.take 9 [9] .done)))))))))))
  .ret))⟩
theorem pf16_eq : (Tryd.f16.body.map fun c => (cfn Tryd.prog pl16 Tryd.f16 c, guardsAll pl16 c)) = some (pf16, true) := by kernel_rfl

/-- corral/mem.Part  sizes [] -/
def pl17 : Nat → DT := dtGet []
def pf17 : PFn := ⟨32, [.t 6], (.seq (.ops false [⟨(some 3), .box 34 (.t 0), none⟩,
    ⟨(some 6), .mov (.c (.v (.int .u32 0))), none⟩] .done)
  (.seq (.seq (.ops false [⟨(some 9), .mov (.t 1), none⟩,
     ⟨(some 10), .mov (.t 2), none⟩,
     ⟨(some 11), .call 34 [(.t 9), (.t 10)], none⟩,
     ⟨(some 12), .un .not (.t 11), none⟩] .done)
   (.cond (.t 12)
    (.seq (.ops false [⟨(some 6), .mov (.c (.v (.int .u32 0))), none⟩] .done)
     .ret)
    .skip))
  (.seq (.ops false [⟨(some 13), .mov (.t 1), none⟩,
    ⟨(some 14), .bin .rem (.t 13) (.c (.v (.int .u32 16))), none⟩,
    ⟨(some 7), .mov (.t 14), none⟩] .done)
  (.seq (.ops false [⟨(some 15), .mov (.t 7), none⟩,
    ⟨(some 16), .bin .quo (.t 15) (.c (.v (.int .u32 4))), none⟩,
    ⟨(some 17), .idxa 4 1 (.t 3) (.t 16), none⟩,
    ⟨(some 18), .load none (.t 17), none⟩,
    ⟨(some 19), .mov (.t 7), none⟩,
    ⟨(some 20), .bin .rem (.t 19) (.c (.v (.int .u32 4))), none⟩,
    ⟨(some 21), .bin .mul (.c (.v (.int .u32 8))) (.t 20), none⟩,
    ⟨(some 22), .bin .shr (.t 18) (.t 21), none⟩,
    ⟨(some 8), .mov (.t 22), none⟩] .done)
  (.seq (.seq (.ops false [⟨(some 23), .mov (.t 2), none⟩,
     ⟨(some 24), .bin .lss (.t 23) (.c (.v (.int .i64 4))), none⟩] .done)
   (.cond (.t 24)
    (.ops false [⟨(some 25), .mov (.t 8), none⟩,
      ⟨(some 26), .mov (.t 2), none⟩,
      ⟨(some 27), .bin .mul (.c (.v (.int .i64 8))) (.t 26), none⟩,
      ⟨(some 28), .bin .shl (.c (.v (.int .u32 1))) (.t 27), none⟩,
      ⟨(some 29), .bin .sub (.t 28) (.c (.v (.int .u32 1))), none⟩,
      ⟨(some 30), .bin .and (.t 25) (.t 29), none⟩,
      ⟨(some 8), .mov (.t 30), none⟩] .done)
    .skip))
  (.seq (.ops false [⟨(some 31), .mov (.t 8), none⟩,
    ⟨(some 6), .mov (.t 31), none⟩] .done)
  .ret))))))⟩
theorem pf17_eq : (Tryd.f17.body.map fun c => (cfn Tryd.prog pl17 Tryd.f17 c, guardsAll pl17 c)) = some (pf17, true) := by kernel_rfl

/-- corral/mem.With  sizes [] -/
def pl18 : Nat → DT := dtGet []
def pf18 : PFn := ⟨46, [.cell 8 (some 4)], (.seq (.ops false [⟨(some 4), .box 34 (.t 0), none⟩,
    ⟨(some 8), .box 34 (.c (.agg [(.v (.int .u32 0)), (.v (.int .u32 0)), (.v (.int .u32 0)), (.v (.int .u32 0))])), none⟩] .done)
  (.seq (.seq (.ops false [⟨(some 12), .mov (.t 1), none⟩,
     ⟨(some 13), .mov (.t 2), none⟩,
     ⟨(some 14), .call 34 [(.t 12), (.t 13)], none⟩,
     ⟨(some 15), .un .not (.t 14), none⟩] .done)
   (.cond (.t 15)
    (.seq (.ops false [⟨(some 16), .load (some 4) (.t 4), none⟩,
       ⟨none, .store 4 (.t 8) (.t 16), none⟩] .done)
     .ret)
    .skip))
  (.seq (.ops false [⟨(some 17), .mov (.t 1), none⟩,
    ⟨(some 18), .bin .rem (.t 17) (.c (.v (.int .u32 16))), none⟩,
    ⟨(some 9), .mov (.t 18), none⟩] .done)
  (.seq (.ops false [⟨(some 19), .mov (.t 9), none⟩,
    ⟨(some 20), .bin .rem (.t 19) (.c (.v (.int .u32 4))), none⟩,
    ⟨(some 21), .bin .mul (.c (.v (.int .u32 8))) (.t 20), none⟩,
    ⟨(some 10), .mov (.t 21), none⟩] .done)
  (.seq (.ops false [⟨(some 11), .mov (.c (.v (.int .u32 4294967295))), none⟩] .done)
  (.seq (.seq (.ops false [⟨(some 22), .mov (.t 2), none⟩,
     ⟨(some 23), .bin .lss (.t 22) (.c (.v (.int .i64 4))), none⟩] .done)
   (.cond (.t 23)
    (.ops false [⟨(some 24), .mov (.t 2), none⟩,
      ⟨(some 25), .bin .mul (.c (.v (.int .i64 8))) (.t 24), none⟩,
      ⟨(some 26), .bin .shl (.c (.v (.int .u32 1))) (.t 25), none⟩,
      ⟨(some 27), .bin .sub (.t 26) (.c (.v (.int .u32 1))), none⟩,
      ⟨(some 28), .mov (.t 10), none⟩,
      ⟨(some 29), .bin .shl (.t 27) (.t 28), none⟩,
      ⟨(some 11), .mov (.t 29), none⟩] .done)
    .skip))
  (.seq (.ops false [⟨(some 30), .mov (.t 9), none⟩,
    ⟨(some 31), .bin .quo (.t 30) (.c (.v (.int .u32 4))), none⟩,
    ⟨(some 32), .mov (.t 9), none⟩,
    ⟨(some 33), .bin .quo (.t 32) (.c (.v (.int .u32 4))), none⟩,
    ⟨(some 34), .idxa 4 1 (.t 4) (.t 33), none⟩,
    ⟨(some 35), .load none (.t 34), none⟩,
    ⟨(some 36), .mov (.t 11), none⟩,
    ⟨(some 37), .bin .andNot (.t 35) (.t 36), none⟩,
    ⟨(some 38), .mov (.t 3), none⟩,
    ⟨(some 39), .mov (.t 10), none⟩,
    ⟨(some 40), .bin .shl (.t 38) (.t 39), none⟩,
    ⟨(some 41), .mov (.t 11), none⟩,
    ⟨(some 42), .bin .and (.t 40) (.t 41), none⟩,
    ⟨(some 43), .bin .or (.t 37) (.t 42), none⟩,
    ⟨(some 44), .idxa 4 1 (.t 4) (.t 31), none⟩,
    ⟨none, .store 1 (.t 44) (.t 43), none⟩] .done)
  (.seq (.ops false [⟨(some 45), .load (some 4) (.t 4), none⟩,
    ⟨none, .store 4 (.t 8) (.t 45), none⟩] .done)
  .ret))))))))⟩
theorem pf18_eq : (Tryd.f18.body.map fun c => (cfn Tryd.prog pl18 Tryd.f18 c, guardsAll pl18 c)) = some (pf18, true) := by kernel_rfl

/-- corral/corralref6.Part  sizes [] -/
def pl19 : Nat → DT := dtGet []
def pf19 : PFn := ⟨25, [.t 6], (.seq (.ops false [⟨(some 3), .box 34 (.t 0), none⟩,
    ⟨(some 6), .mov (.c (.v (.int .u32 0))), none⟩] .done)
  (.seq (.seq (.ops false [⟨(some 8), .mov (.t 1), none⟩,
     ⟨(some 9), .mov (.t 2), none⟩,
     ⟨(some 10), .call 38 [(.t 8), (.t 9)], none⟩,
     ⟨(some 11), .un .not (.t 10), none⟩] .done)
   (.cond (.t 11)
    (.seq (.ops false [⟨(some 6), .mov (.c (.v (.int .u32 0))), none⟩] .done)
     .ret)
    .skip))
  (.seq (.ops false [⟨(some 12), .mov (.t 1), none⟩,
    ⟨(some 13), .conv .i64 (.t 12), none⟩,
    ⟨(some 14), .bin .rem (.t 13) (.c (.v (.int .i64 16))), none⟩,
    ⟨(some 7), .mov (.t 14), none⟩] .done)
  (.seq (.ops false [⟨(some 15), .mov (.t 7), none⟩,
    ⟨(some 16), .bin .quo (.t 15) (.c (.v (.int .i64 4))), none⟩,
    ⟨(some 17), .idxa 4 1 (.t 3) (.t 16), none⟩,
    ⟨(some 18), .load none (.t 17), none⟩,
    ⟨(some 19), .mov (.t 7), none⟩,
    ⟨(some 20), .bin .rem (.t 19) (.c (.v (.int .i64 4))), none⟩,
    ⟨(some 21), .bin .mul (.c (.v (.int .i64 8))) (.t 20), none⟩,
    ⟨(some 22), .mov (.t 2), none⟩,
    ⟨(some 23), .bin .mul (.c (.v (.int .i64 8))) (.t 22), none⟩,
    ⟨(some 24), .call 39 [(.t 18), (.t 21), (.t 23)], none⟩,
    ⟨(some 6), .mov (.t 24), none⟩] .done)
  .ret))))⟩
theorem pf19_eq : (Tryd.f19.body.map fun c => (cfn Tryd.prog pl19 Tryd.f19 c, guardsAll pl19 c)) = some (pf19, true) := by kernel_rfl

/-- corral/corralref.SameLine  sizes [] -/
def pl20 : Nat → DT := dtGet []
def pf20 : PFn := ⟨31, [.t 4], (.seq (.ops false [⟨(some 2), .box 34 (.t 0), none⟩,
    ⟨(some 3), .box 34 (.t 1), none⟩,
    ⟨(some 4), .mov (.c (.v (.bool false))), none⟩] .done)
  (.seq (.ops false [⟨(some 5), .idxa 4 1 (.t 2) (.c (.v (.int .i64 0))), none⟩,
    ⟨(some 6), .load none (.t 5), none⟩,
    ⟨(some 7), .idxa 4 1 (.t 3) (.c (.v (.int .i64 0))), none⟩,
    ⟨(some 8), .load none (.t 7), none⟩,
    ⟨(some 9), .bin .eql (.t 6) (.t 8), none⟩,
    ⟨(some 10), .mov (.t 9), none⟩,
    ⟨(some 11), .idxa 4 1 (.t 2) (.c (.v (.int .i64 1))), some (10, true)⟩,
    ⟨(some 12), .load none (.t 11), some (10, true)⟩,
    ⟨(some 13), .idxa 4 1 (.t 3) (.c (.v (.int .i64 1))), some (10, true)⟩,
    ⟨(some 14), .load none (.t 13), some (10, true)⟩,
    ⟨(some 15), .bin .eql (.t 12) (.t 14), some (10, true)⟩,
    ⟨(some 16), .pick (.t 10) (.t 15) (.c (.v (.bool false))), none⟩,
    ⟨(some 17), .mov (.t 16), none⟩,
    ⟨(some 18), .idxa 4 1 (.t 2) (.c (.v (.int .i64 2))), some (17, true)⟩,
    ⟨(some 19), .load none (.t 18), some (17, true)⟩,
    ⟨(some 20), .idxa 4 1 (.t 3) (.c (.v (.int .i64 2))), some (17, true)⟩,
    ⟨(some 21), .load none (.t 20), some (17, true)⟩,
    ⟨(some 22), .bin .eql (.t 19) (.t 21), some (17, true)⟩,
    ⟨(some 23), .pick (.t 17) (.t 22) (.c (.v (.bool false))), none⟩,
    ⟨(some 24), .mov (.t 23), none⟩,
    ⟨(some 25), .idxa 4 1 (.t 2) (.c (.v (.int .i64 3))), some (24, true)⟩,
    ⟨(some 26), .load none (.t 25), some (24, true)⟩,
    ⟨(some 27), .idxa 4 1 (.t 3) (.c (.v (.int .i64 3))), some (24, true)⟩,
    ⟨(some 28), .load none (.t 27), some (24, true)⟩,
    ⟨(some 29), .bin .eql (.t 26) (.t 28), some (24, true)⟩,
    ⟨(some 30), .pick (.t 24) (.t 29) (.c (.v (.bool false))), none⟩,
    ⟨(some 4), .mov (.t 30), none⟩] .done)
  .ret))⟩
theorem pf20_eq : (Tryd.f20.body.map fun c => (cfn Tryd.prog pl20 Tryd.f20 c, guardsAll pl20 c)) = some (pf20, true) := by kernel_rfl

/-- corral/corralref6.With  sizes [(5, 19)] -/
def pl21 : Nat → DT := dtGet [(5, (.take 0 [0, 1, 16, 17] (.take 1 [1, 16, 17] (.take 2 [2, 3, 16, 17, 4, 5, 7, 15] (.take 3 [3, 4, 16, 17, 5, 7, 15] (.take 4 [4, 5, 16, 17, 7, 15] (.take 5 [5, 7, 16, 17, 15] (.take 6 [6, 7, 16, 17, 15] (.take 7 [7, 15, 16, 17] (.take 8 [8, 14, 16, 17, 15] (.take 9 [9, 10, 16, 17, 11, 14, 15] (.take 10 [10, 11, 16, 17, 14, 15] (.take 11 [11, 14, 16, 17, 15] (.take 12 [12, 13, 16, 17, 14, 15] (.take 13 [13, 14, 16, 17, 15] (.eff true 14 (.take 15 [15, 16, 17] (.take 16 [16, 17] (.eff false 17 .done)))))))))))))))))))]
def pf21 : PFn := ⟨43, [.cell 8 (some 4)], (.seq (.ops false [⟨(some 4), .box 34 (.t 0), none⟩,
    ⟨(some 8), .box 34 (.c (.agg [(.v (.int .u32 0)), (.v (.int .u32 0)), (.v (.int .u32 0)), (.v (.int .u32 0))])), none⟩] .done)
  (.seq (.seq (.ops false [⟨(some 11), .mov (.t 1), none⟩,
     ⟨(some 12), .mov (.t 2), none⟩,
     ⟨(some 13), .call 38 [(.t 11), (.t 12)], none⟩,
     ⟨(some 14), .un .not (.t 13), none⟩] .done)
   (.cond (.t 14)
    (.seq (.ops false [⟨(some 15), .load (some 4) (.t 4), none⟩,
       ⟨none, .store 4 (.t 8) (.t 15), none⟩] .done)
     .ret)
    .skip))
  (.seq (.ops false [⟨(some 16), .mov (.t 1), none⟩,
    ⟨(some 17), .conv .i64 (.t 16), none⟩,
    ⟨(some 18), .bin .rem (.t 17) (.c (.v (.int .i64 16))), none⟩,
    ⟨(some 9), .mov (.t 18), none⟩] .done)
  (.seq (.ops false [⟨(some 19), .mov (.t 9), none⟩,
    ⟨(some 20), .bin .rem (.t 19) (.c (.v (.int .i64 4))), none⟩,
    ⟨(some 21), .bin .mul (.c (.v (.int .i64 8))) (.t 20), none⟩,
    ⟨(some 22), .mov (.t 2), none⟩,
    ⟨(some 23), .bin .mul (.c (.v (.int .i64 8))) (.t 22), none⟩,
    ⟨(some 24), .call 40 [(.c (.v (.int .u32 4294967295))), (.t 21), (.t 23)], none⟩,
    ⟨(some 10), .mov (.t 24), none⟩] .done)
  (.seq (.ops true [⟨(some 25), .mov (.t 9), none⟩,
    ⟨(some 26), .bin .quo (.t 25) (.c (.v (.int .i64 4))), none⟩,
    ⟨(some 27), .mov (.t 9), none⟩,
    ⟨(some 28), .bin .quo (.t 27) (.c (.v (.int .i64 4))), none⟩,
    ⟨(some 29), .idxa 4 1 (.t 4) (.t 28), none⟩,
    ⟨(some 30), .load none (.t 29), none⟩,
    ⟨(some 31), .mov (.t 10), none⟩,
    ⟨(some 32), .bin .andNot (.t 30) (.t 31), none⟩,
    ⟨(some 33), .mov (.t 3), none⟩,
    ⟨(some 34), .mov (.t 9), none⟩,
    ⟨(some 35), .bin .rem (.t 34) (.c (.v (.int .i64 4))), none⟩,
    ⟨(some 36), .bin .mul (.c (.v (.int .i64 8))) (.t 35), none⟩,
    ⟨(some 37), .mov (.t 2), none⟩,
    ⟨(some 38), .bin .mul (.c (.v (.int .i64 8))) (.t 37), none⟩,
    ⟨(some 39), .call 40 [(.t 33), (.t 36), (.t 38)], none⟩,
    ⟨(some 40), .bin .or (.t 32) (.t 39), none⟩,
    ⟨(some 41), .idxa 4 1 (.t 4) (.t 26), none⟩,
    ⟨none, .store 1 (.t 41) (.t 40), none⟩] (.take 0 [0, 1, 16, 17] (.take 1 [1, 16, 17] (.take 2 [2, 3, 16, 17, 4, 5, 7, 15] (.take 3 [3, 4, 16, 17, 5, 7, 15] (.take 4 [4, 5, 16, 17, 7, 15] (.take 5 [5, 7, 16, 17, 15] (.take 6 [6, 7, 16, 17, 15] (.take 7 [7, 15, 16, 17] (.take 8 [8, 14, 16, 17, 15] (.take 9 [9, 10, 16, 17, 11, 14, 15] (.take 10 [10, 11, 16, 17, 14, 15] (.take 11 [11, 14, 16, 17, 15] (.take 12 [12, 13, 16, 17, 14, 15] (.take 13 [13, 14, 16, 17, 15] (.eff true 14 (.take 15 [15, 16, 17] (.take 16 [16, 17] (.eff false 17 .done)))))))))))))))))))
  (.seq (.ops false [⟨(some 42), .load (some 4) (.t 4), none⟩,
    ⟨none, .store 4 (.t 8) (.t 42), none⟩] .done)
  .ret))))))⟩
theorem pf21_eq : (Tryd.f21.body.map fun c => (cfn Tryd.prog pl21 Tryd.f21 c, guardsAll pl21 c)) = some (pf21, true) := by kernel_rfl

/-- corral/mem.LineOf  sizes [] -/
def pl22 : Nat → DT := dtGet []
def pf22 : PFn := ⟨6, [.t 2], (.seq (.ops false [⟨(some 2), .mov (.c (.v (.int .i64 0))), none⟩] .done)
  (.seq (.ops false [⟨(some 3), .mov (.t 0), none⟩,
    ⟨(some 4), .bin .quo (.t 3) (.c (.v (.int .u32 16))), none⟩,
    ⟨(some 5), .conv .i64 (.t 4), none⟩,
    ⟨(some 2), .mov (.t 5), none⟩] .done)
  .ret))⟩
theorem pf22_eq : (Tryd.f22.body.map fun c => (cfn Tryd.prog pl22 Tryd.f22 c, guardsAll pl22 c)) = some (pf22, true) := by kernel_rfl

/-- corral/corralref6.NewMemory  sizes [] -/
def pl23 : Nat → DT := dtGet []
def pf23 : PFn := ⟨44, [.t 4, .t 5], (.seq (.ops false [⟨(some 4), .mov (.c (.v (.pointer none))), none⟩,
    ⟨(some 5), .mov (.c (.v (.int .i64 0))), none⟩] .done)
  (.seq (.seq (.ops false [⟨(some 8), .mov (.t 0), none⟩,
     ⟨(some 9), .bin .lss (.t 8) (.c (.v (.int .i64 16))), none⟩,
     ⟨(some 10), .mov (.t 9), none⟩,
     ⟨(some 11), .mov (.t 0), some (10, false)⟩,
     ⟨(some 12), .bin .gtr (.t 11) (.c (.v (.int .i64 65536))), some (10, false)⟩,
     ⟨(some 13), .pick (.t 10) (.c (.v (.bool true))) (.t 12), none⟩,
     ⟨(some 14), .mov (.t 13), none⟩,
     ⟨(some 15), .mov (.t 0), some (14, false)⟩,
     ⟨(some 16), .bin .rem (.t 15) (.c (.v (.int .i64 16))), some (14, false)⟩,
     ⟨(some 17), .bin .neq (.t 16) (.c (.v (.int .i64 0))), some (14, false)⟩,
     ⟨(some 18), .pick (.t 14) (.c (.v (.bool true))) (.t 17), none⟩] .done)
   (.cond (.t 18)
    (.seq (.ops false [⟨(some 4), .mov (.c (.v (.pointer none))), none⟩,
       ⟨(some 5), .mov (.c (.v (.int .i64 106))), none⟩] .done)
     .ret)
    .skip))
  (.seq (.seq (.ops false [⟨(some 19), .mov (.t 1), none⟩,
     ⟨(some 20), .len (.t 19), none⟩,
     ⟨(some 21), .mov (.t 0), none⟩,
     ⟨(some 22), .bin .quo (.t 21) (.c (.v (.int .i64 4))), none⟩,
     ⟨(some 23), .bin .gtr (.t 20) (.t 22), none⟩] .done)
   (.cond (.t 23)
    (.seq (.ops false [⟨(some 4), .mov (.c (.v (.pointer none))), none⟩,
       ⟨(some 5), .mov (.c (.v (.int .i64 101))), none⟩] .done)
     .ret)
    .skip))
  (.seq (.ops false [⟨(some 24), .mov (.t 0), none⟩,
    ⟨(some 25), .mslice 5 [.int .u8] [(.int .u8 0)] 1 (.t 24) (.t 24), none⟩,
    ⟨(some 26), .build [(.v (.slice none 0 0))] [(0, 1, (.t 25))], none⟩,
    ⟨(some 27), .box 59 (.t 26), none⟩,
    ⟨(some 6), .mov (.t 27), none⟩] .done)
  (.seq (.seq (.ops false [⟨(some 7), .mov (.c (.v (.int .i64 0))), none⟩] .done)
   (.block 0 (.loop (.seq (.seq (.ops false [⟨(some 28), .mov (.t 7), none⟩,
        ⟨(some 29), .mov (.t 1), none⟩,
        ⟨(some 30), .len (.t 29), none⟩,
        ⟨(some 31), .bin .lss (.t 28) (.t 30), none⟩] .done)
      (.cond (.t 31)
       .skip
       (.exit 0)))
     (.seq (.block 1 (.ops false [⟨(some 34), .mov (.t 6), none⟩,
        ⟨(some 35), .mov (.t 7), none⟩,
        ⟨(some 36), .bin .mul (.c (.v (.int .i64 4))) (.t 35), none⟩,
        ⟨(some 37), .conv .u32 (.t 36), none⟩,
        ⟨(some 38), .mov (.t 1), none⟩,
        ⟨(some 39), .mov (.t 7), none⟩,
        ⟨(some 40), .idx 1 (.t 38) (.t 39), none⟩,
        ⟨(some 41), .load none (.t 40), none⟩,
        ⟨(some 42), .call 25 [(.t 34), (.t 37), (.c (.v (.int .i64 4))), (.t 41)], none⟩] .done))
     (.ops false [⟨(some 32), .mov (.t 7), none⟩,
      ⟨(some 33), .bin .add (.t 32) (.c (.v (.int .i64 1))), none⟩,
      ⟨(some 7), .mov (.t 33), none⟩] .done))))))
  (.seq (.ops false [⟨(some 43), .mov (.t 6), none⟩,
    ⟨(some 4), .mov (.t 43), none⟩,
    ⟨(some 5), .mov (.c (.v (.int .i64 0))), none⟩] .done)
  .ret))))))⟩
theorem pf23_eq : (Tryd.f23.body.map fun c => (cfn Tryd.prog pl23 Tryd.f23 c, guardsAll pl23 c)) = some (pf23, true) := by kernel_rfl

/-- (*corral/mem.Memory).Clone  sizes [] -/
def pl24 : Nat → DT := dtGet []
def pf24 : PFn := ⟨10, [.t 2], (.seq (.ops false [⟨(some 2), .mov (.c (.v (.pointer none))), none⟩] .done)
  (.seq (.ops false [⟨(some 3), .mov (.t 0), none⟩,
    ⟨(some 4), .nilck (.t 3), none⟩,
    ⟨(some 5), .fld 0 (.t 4), none⟩,
    ⟨(some 6), .load none (.t 5), none⟩,
    ⟨(some 7), .call 41 [(.t 6)], none⟩,
    ⟨(some 8), .build [(.v (.slice none 0 0))] [(0, 1, (.t 7))], none⟩,
    ⟨(some 9), .box 64 (.t 8), none⟩,
    ⟨(some 2), .mov (.t 9), none⟩] .done)
  .ret))⟩
theorem pf24_eq : (Tryd.f24.body.map fun c => (cfn Tryd.prog pl24 Tryd.f24 c, guardsAll pl24 c)) = some (pf24, true) := by kernel_rfl

/-- (*corral/corralref6.Memory).Store  sizes [] -/
def pl25 : Nat → DT := dtGet []
def pf25 : PFn := ⟨35, [.t 8], (.seq (.ops false [⟨(some 8), .mov (.c (.v (.bool false))), none⟩] .done)
  (.seq (.seq (.ops false [⟨(some 10), .mov (.t 0), none⟩,
     ⟨(some 11), .mov (.t 1), none⟩,
     ⟨(some 12), .mov (.t 2), none⟩,
     ⟨(some 13), .call 42 [(.t 10), (.t 11), (.t 12)], none⟩,
     ⟨(some 14), .un .not (.t 13), none⟩] .done)
   (.cond (.t 14)
    (.seq (.ops false [⟨(some 8), .mov (.c (.v (.bool false))), none⟩] .done)
     .ret)
    .skip))
  (.seq (.seq (.ops false [⟨(some 9), .mov (.c (.v (.int .i64 0))), none⟩] .done)
   (.block 0 (.loop (.seq (.seq (.ops false [⟨(some 15), .mov (.t 9), none⟩,
        ⟨(some 16), .mov (.t 2), none⟩,
        ⟨(some 17), .bin .lss (.t 15) (.t 16), none⟩] .done)
      (.cond (.t 17)
       .skip
       (.exit 0)))
     (.seq (.block 1 (.ops false [⟨(some 20), .mov (.t 0), none⟩,
        ⟨(some 21), .nilck (.t 20), none⟩,
        ⟨(some 22), .fld 0 (.t 21), none⟩,
        ⟨(some 23), .load none (.t 22), none⟩,
        ⟨(some 24), .mov (.t 1), none⟩,
        ⟨(some 25), .conv .i64 (.t 24), none⟩,
        ⟨(some 26), .mov (.t 9), none⟩,
        ⟨(some 27), .bin .add (.t 25) (.t 26), none⟩,
        ⟨(some 28), .mov (.t 3), none⟩,
        ⟨(some 29), .mov (.t 9), none⟩,
        ⟨(some 30), .bin .mul (.c (.v (.int .i64 8))) (.t 29), none⟩,
        ⟨(some 31), .conv .u64 (.t 30), none⟩,
        ⟨(some 32), .bin .shr (.t 28) (.t 31), none⟩,
        ⟨(some 33), .conv .u8 (.t 32), none⟩,
        ⟨(some 34), .idx 1 (.t 23) (.t 27), none⟩,
        ⟨none, .store 1 (.t 34) (.t 33), none⟩] .done))
     (.ops false [⟨(some 18), .mov (.t 9), none⟩,
      ⟨(some 19), .bin .add (.t 18) (.c (.v (.int .i64 1))), none⟩,
      ⟨(some 9), .mov (.t 19), none⟩] .done))))))
  (.seq (.ops false [⟨(some 8), .mov (.c (.v (.bool true))), none⟩] .done)
  .ret))))⟩
theorem pf25_eq : (Tryd.f25.body.map fun c => (cfn Tryd.prog pl25 Tryd.f25 c, guardsAll pl25 c)) = some (pf25, true) := by kernel_rfl

/-- (*corral/mem.Memory).SetLine  sizes [] -/
def pl26 : Nat → DT := dtGet []
def pf26 : PFn := ⟨35, [.t 6], (.seq (.ops false [⟨(some 5), .box 34 (.t 2), none⟩,
    ⟨(some 6), .mov (.c (.v (.bool false))), none⟩] .done)
  (.seq (.seq (.ops false [⟨(some 9), .mov (.t 1), none⟩,
     ⟨(some 10), .bin .lss (.t 9) (.c (.v (.int .i64 0))), none⟩,
     ⟨(some 11), .mov (.t 10), none⟩,
     ⟨(some 12), .mov (.t 1), some (11, false)⟩,
     ⟨(some 13), .mov (.t 0), some (11, false)⟩,
     ⟨(some 14), .call 35 [(.t 13)], some (11, false)⟩,
     ⟨(some 15), .bin .geq (.t 12) (.t 14), some (11, false)⟩,
     ⟨(some 16), .pick (.t 11) (.c (.v (.bool true))) (.t 15), none⟩] .done)
   (.cond (.t 16)
    (.seq (.ops false [⟨(some 6), .mov (.c (.v (.bool false))), none⟩] .done)
     .ret)
    .skip))
  (.seq (.seq (.ops false [⟨(some 17), .load (some 4) (.t 5), none⟩,
     ⟨(some 18), .mov (.c (.v (.int .i64 0))), none⟩] .done)
   (.block 0 (.loop (.seq (.ops false [⟨(some 19), .bin .lss (.t 18) (.c (.v (.int .i64 4))), none⟩] .done)
     (.seq (.cond (.t 19)
       .skip
       (.exit 0))
     (.seq (.block 1 (.seq (.ops false [⟨(some 20), .mov (.t 18), none⟩,
         ⟨(some 21), .ixv 4 (.t 17) (.t 18), none⟩,
         ⟨(some 7), .mov (.t 20), none⟩,
         ⟨(some 8), .mov (.t 21), none⟩] .done)
       (.ops false [⟨(some 22), .mov (.t 0), none⟩,
        ⟨(some 23), .nilck (.t 22), none⟩,
        ⟨(some 24), .fld 0 (.t 23), none⟩,
        ⟨(some 25), .load none (.t 24), none⟩,
        ⟨(some 26), .mov (.t 1), none⟩,
        ⟨(some 27), .bin .mul (.t 26) (.c (.v (.int .i64 16))), none⟩,
        ⟨(some 28), .mov (.t 7), none⟩,
        ⟨(some 29), .bin .mul (.t 28) (.c (.v (.int .i64 4))), none⟩,
        ⟨(some 30), .bin .add (.t 27) (.t 29), none⟩,
        ⟨(some 31), .slice 1 (.t 25) (some (.t 30)) none none, none⟩,
        ⟨(some 32), .mov (.t 8), none⟩,
        ⟨(some 33), .call 31 [(.t 31), (.c (.v (.int .i64 4))), (.t 32)], none⟩] .done)))
     (.ops false [⟨(some 34), .bin .add (.t 18) (.c (.v (.int .i64 1))), none⟩,
      ⟨(some 18), .mov (.t 34), none⟩] .done)))))))
  (.seq (.ops false [⟨(some 6), .mov (.c (.v (.bool true))), none⟩] .done)
  .ret))))⟩
theorem pf26_eq : (Tryd.f26.body.map fun c => (cfn Tryd.prog pl26 Tryd.f26 c, guardsAll pl26 c)) = some (pf26, true) := by kernel_rfl

/-- (*corral/corralref6.Memory).SetLine  sizes [] -/
def pl27 : Nat → DT := dtGet []
def pf27 : PFn := ⟨35, [.t 6], (.seq (.ops false [⟨(some 5), .box 34 (.t 2), none⟩,
    ⟨(some 6), .mov (.c (.v (.bool false))), none⟩] .done)
  (.seq (.seq (.ops false [⟨(some 8), .mov (.t 1), none⟩,
     ⟨(some 9), .bin .lss (.t 8) (.c (.v (.int .i64 0))), none⟩,
     ⟨(some 10), .mov (.t 9), none⟩,
     ⟨(some 11), .mov (.t 1), some (10, false)⟩,
     ⟨(some 12), .mov (.t 0), some (10, false)⟩,
     ⟨(some 13), .nilck (.t 12), some (10, false)⟩,
     ⟨(some 14), .fld 0 (.t 13), some (10, false)⟩,
     ⟨(some 15), .load none (.t 14), some (10, false)⟩,
     ⟨(some 16), .len (.t 15), some (10, false)⟩,
     ⟨(some 17), .bin .quo (.t 16) (.c (.v (.int .i64 16))), some (10, false)⟩,
     ⟨(some 18), .bin .geq (.t 11) (.t 17), some (10, false)⟩,
     ⟨(some 19), .pick (.t 10) (.c (.v (.bool true))) (.t 18), none⟩] .done)
   (.cond (.t 19)
    (.seq (.ops false [⟨(some 6), .mov (.c (.v (.bool false))), none⟩] .done)
     .ret)
    .skip))
  (.seq (.seq (.ops false [⟨(some 7), .mov (.c (.v (.int .i64 0))), none⟩] .done)
   (.block 0 (.loop (.seq (.seq (.ops false [⟨(some 20), .mov (.t 7), none⟩,
        ⟨(some 21), .bin .lss (.t 20) (.c (.v (.int .i64 4))), none⟩] .done)
      (.cond (.t 21)
       .skip
       (.exit 0)))
     (.seq (.block 1 (.ops false [⟨(some 24), .mov (.t 0), none⟩,
        ⟨(some 25), .mov (.t 1), none⟩,
        ⟨(some 26), .bin .mul (.t 25) (.c (.v (.int .i64 16))), none⟩,
        ⟨(some 27), .mov (.t 7), none⟩,
        ⟨(some 28), .bin .mul (.c (.v (.int .i64 4))) (.t 27), none⟩,
        ⟨(some 29), .bin .add (.t 26) (.t 28), none⟩,
        ⟨(some 30), .conv .u32 (.t 29), none⟩,
        ⟨(some 31), .mov (.t 7), none⟩,
        ⟨(some 32), .idxa 4 1 (.t 5) (.t 31), none⟩,
        ⟨(some 33), .load none (.t 32), none⟩,
        ⟨(some 34), .call 25 [(.t 24), (.t 30), (.c (.v (.int .i64 4))), (.t 33)], none⟩] .done))
     (.ops false [⟨(some 22), .mov (.t 7), none⟩,
      ⟨(some 23), .bin .add (.t 22) (.c (.v (.int .i64 1))), none⟩,
      ⟨(some 7), .mov (.t 23), none⟩] .done))))))
  (.seq (.ops false [⟨(some 6), .mov (.c (.v (.bool true))), none⟩] .done)
  .ret))))⟩
theorem pf27_eq : (Tryd.f27.body.map fun c => (cfn Tryd.prog pl27 Tryd.f27 c, guardsAll pl27 c)) = some (pf27, true) := by kernel_rfl

/-- (*corral/corralref6.Memory).Load  sizes [] -/
def pl28 : Nat → DT := dtGet []
def pf28 : PFn := ⟨36, [.t 6, .t 7], (.seq (.ops false [⟨(some 6), .mov (.c (.v (.int .u32 0))), none⟩,
    ⟨(some 7), .mov (.c (.v (.bool false))), none⟩] .done)
  (.seq (.seq (.ops false [⟨(some 10), .mov (.t 0), none⟩,
     ⟨(some 11), .mov (.t 1), none⟩,
     ⟨(some 12), .mov (.t 2), none⟩,
     ⟨(some 13), .call 42 [(.t 10), (.t 11), (.t 12)], none⟩,
     ⟨(some 14), .un .not (.t 13), none⟩] .done)
   (.cond (.t 14)
    (.seq (.ops false [⟨(some 6), .mov (.c (.v (.int .u32 0))), none⟩,
       ⟨(some 7), .mov (.c (.v (.bool false))), none⟩] .done)
     .ret)
    .skip))
  (.seq (.ops false [⟨(some 8), .mov (.c (.v (.int .u32 0))), none⟩] .done)
  (.seq (.seq (.ops false [⟨(some 15), .mov (.t 2), none⟩,
     ⟨(some 16), .bin .sub (.t 15) (.c (.v (.int .i64 1))), none⟩,
     ⟨(some 9), .mov (.t 16), none⟩] .done)
   (.block 0 (.loop (.seq (.seq (.ops false [⟨(some 17), .mov (.t 9), none⟩,
        ⟨(some 18), .bin .geq (.t 17) (.c (.v (.int .i64 0))), none⟩] .done)
      (.cond (.t 18)
       .skip
       (.exit 0)))
     (.seq (.block 1 (.ops false [⟨(some 21), .mov (.t 8), none⟩,
        ⟨(some 22), .bin .shl (.t 21) (.c (.v (.int .u64 8))), none⟩,
        ⟨(some 23), .mov (.t 0), none⟩,
        ⟨(some 24), .nilck (.t 23), none⟩,
        ⟨(some 25), .fld 0 (.t 24), none⟩,
        ⟨(some 26), .load none (.t 25), none⟩,
        ⟨(some 27), .mov (.t 1), none⟩,
        ⟨(some 28), .conv .i64 (.t 27), none⟩,
        ⟨(some 29), .mov (.t 9), none⟩,
        ⟨(some 30), .bin .add (.t 28) (.t 29), none⟩,
        ⟨(some 31), .idx 1 (.t 26) (.t 30), none⟩,
        ⟨(some 32), .load none (.t 31), none⟩,
        ⟨(some 33), .conv .u32 (.t 32), none⟩,
        ⟨(some 34), .bin .or (.t 22) (.t 33), none⟩,
        ⟨(some 8), .mov (.t 34), none⟩] .done))
     (.ops false [⟨(some 19), .mov (.t 9), none⟩,
      ⟨(some 20), .bin .sub (.t 19) (.c (.v (.int .i64 1))), none⟩,
      ⟨(some 9), .mov (.t 20), none⟩] .done))))))
  (.seq (.ops false [⟨(some 35), .mov (.t 8), none⟩,
    ⟨(some 6), .mov (.t 35), none⟩,
    ⟨(some 7), .mov (.c (.v (.bool true))), none⟩] .done)
  .ret)))))⟩
theorem pf28_eq : (Tryd.f28.body.map fun c => (cfn Tryd.prog pl28 Tryd.f28 c, guardsAll pl28 c)) = some (pf28, true) := by kernel_rfl

/-- (*corral/corralref6.Memory).Line  sizes [] -/
def pl29 : Nat → DT := dtGet []
def pf29 : PFn := ⟨39, [.cell 4 (some 4), .t 5], (.seq (.ops false [⟨(some 4), .box 34 (.c (.agg [(.v (.int .u32 0)), (.v (.int .u32 0)), (.v (.int .u32 0)), (.v (.int .u32 0))])), none⟩,
    ⟨(some 5), .mov (.c (.v (.bool false))), none⟩] .done)
  (.seq (.ops false [⟨(some 6), .box 34 (.c (.agg [(.v (.int .u32 0)), (.v (.int .u32 0)), (.v (.int .u32 0)), (.v (.int .u32 0))])), none⟩] .done)
  (.seq (.seq (.ops false [⟨(some 8), .mov (.t 1), none⟩,
     ⟨(some 9), .bin .lss (.t 8) (.c (.v (.int .i64 0))), none⟩,
     ⟨(some 10), .mov (.t 9), none⟩,
     ⟨(some 11), .mov (.t 1), some (10, false)⟩,
     ⟨(some 12), .mov (.t 0), some (10, false)⟩,
     ⟨(some 13), .nilck (.t 12), some (10, false)⟩,
     ⟨(some 14), .fld 0 (.t 13), some (10, false)⟩,
     ⟨(some 15), .load none (.t 14), some (10, false)⟩,
     ⟨(some 16), .len (.t 15), some (10, false)⟩,
     ⟨(some 17), .bin .quo (.t 16) (.c (.v (.int .i64 16))), some (10, false)⟩,
     ⟨(some 18), .bin .geq (.t 11) (.t 17), some (10, false)⟩,
     ⟨(some 19), .pick (.t 10) (.c (.v (.bool true))) (.t 18), none⟩] .done)
   (.cond (.t 19)
    (.seq (.ops false [⟨(some 20), .load (some 4) (.t 6), none⟩,
       ⟨none, .store 4 (.t 4) (.t 20), none⟩,
       ⟨(some 5), .mov (.c (.v (.bool false))), none⟩] .done)
     .ret)
    .skip))
  (.seq (.seq (.ops false [⟨(some 7), .mov (.c (.v (.int .i64 0))), none⟩] .done)
   (.block 0 (.loop (.seq (.seq (.ops false [⟨(some 21), .mov (.t 7), none⟩,
        ⟨(some 22), .bin .lss (.t 21) (.c (.v (.int .i64 4))), none⟩] .done)
      (.cond (.t 22)
       .skip
       (.exit 0)))
     (.seq (.block 1 (.ops false [⟨(some 26), .mov (.t 7), none⟩,
        ⟨(some 27), .mov (.t 0), none⟩,
        ⟨(some 28), .mov (.t 1), none⟩,
        ⟨(some 29), .bin .mul (.t 28) (.c (.v (.int .i64 16))), none⟩,
        ⟨(some 30), .mov (.t 7), none⟩,
        ⟨(some 31), .bin .mul (.c (.v (.int .i64 4))) (.t 30), none⟩,
        ⟨(some 32), .bin .add (.t 29) (.t 31), none⟩,
        ⟨(some 33), .conv .u32 (.t 32), none⟩,
        ⟨(some 34), .call 28 [(.t 27), (.t 33), (.c (.v (.int .i64 4)))], none⟩,
        ⟨(some 25), .mov (.t 34), none⟩,
        ⟨(some 35), .ext (.t 25) 0, none⟩,
        ⟨(some 36), .ext (.t 25) 1, none⟩,
        ⟨(some 37), .idxa 4 1 (.t 6) (.t 26), none⟩,
        ⟨none, .store 1 (.t 37) (.t 35), none⟩] .done))
     (.ops false [⟨(some 23), .mov (.t 7), none⟩,
      ⟨(some 24), .bin .add (.t 23) (.c (.v (.int .i64 1))), none⟩,
      ⟨(some 7), .mov (.t 24), none⟩] .done))))))
  (.seq (.ops false [⟨(some 38), .load (some 4) (.t 6), none⟩,
    ⟨none, .store 4 (.t 4) (.t 38), none⟩,
    ⟨(some 5), .mov (.c (.v (.bool true))), none⟩] .done)
  .ret)))))⟩
theorem pf29_eq : (Tryd.f29.body.map fun c => (cfn Tryd.prog pl29 Tryd.f29 c, guardsAll pl29 c)) = some (pf29, true) := by kernel_rfl

/-- corral/corralref.SameBytes  sizes [(6, 11)] -/
def pl30 : Nat → DT := dtGet [(6, (.take 0 [0, 2, 9, 3, 8] (.take 1 [1, 2, 9, 3, 8] (.take 2 [2, 3, 9, 8] (.take 3 [3, 8, 9] (.take 4 [4, 6, 9, 7, 8] (.take 5 [5, 6, 9, 7, 8] (.take 6 [6, 7, 9, 8] (.take 7 [7, 8, 9] (.take 8 [8, 9] (.take 9 [9] .done)))))))))))]
def pf30 : PFn := ⟨29, [.t 4], (.seq (.ops false [⟨(some 4), .mov (.c (.v (.bool false))), none⟩] .done)
  (.seq (.seq (.ops false [⟨(some 7), .mov (.t 0), none⟩,
     ⟨(some 8), .len (.t 7), none⟩,
     ⟨(some 9), .mov (.t 1), none⟩,
     ⟨(some 10), .len (.t 9), none⟩,
     ⟨(some 11), .bin .neq (.t 8) (.t 10), none⟩] .done)
   (.cond (.t 11)
    (.seq (.ops false [⟨(some 4), .mov (.c (.v (.bool false))), none⟩] .done)
     .ret)
    .skip))
  (.seq (.seq (.ops false [⟨(some 5), .mov (.c (.v (.int .i64 0))), none⟩] .done)
   (.block 0 (.loop (.seq (.seq (.ops false [⟨(some 12), .mov (.t 5), none⟩,
        ⟨(some 13), .mov (.t 0), none⟩,
        ⟨(some 14), .len (.t 13), none⟩,
        ⟨(some 15), .bin .lss (.t 12) (.t 14), none⟩] .done)
      (.cond (.t 15)
       .skip
       (.exit 0)))
     (.seq (.block 1 (.seq (.ops true [⟨(some 18), .mov (.t 0), none⟩,
         ⟨(some 19), .mov (.t 5), none⟩,
         ⟨(some 20), .idx 1 (.t 18) (.t 19), none⟩,
         ⟨(some 21), .load none (.t 20), none⟩,
         ⟨(some 22), .mov (.t 1), none⟩,
         ⟨(some 23), .mov (.t 5), none⟩,
         ⟨(some 24), .idx 1 (.t 22) (.t 23), none⟩,
         ⟨(some 25), .load none (.t 24), none⟩,
         ⟨(some 26), .bin .eql (.t 21) (.t 25), none⟩,
         ⟨(some 6), .mov (.t 26), none⟩] (.take 0 [0, 2, 9, 3, 8] (.take 1 [1, 2, 9, 3, 8] (.take 2 [2, 3, 9, 8] (.take 3 [3, 8, 9] (.take 4 [4, 6, 9, 7, 8] (.take 5 [5, 6, 9, 7, 8] (.take 6 [6, 7, 9, 8] (.take 7 [7, 8, 9] (.take 8 [8, 9] (.take 9 [9] .done)))))))))))
       (.seq (.ops false [⟨(some 27), .mov (.t 6), none⟩,
         ⟨(some 28), .un .not (.t 27), none⟩] .done)
       (.cond (.t 28)
        (.seq (.ops false [⟨(some 4), .mov (.c (.v (.bool false))), none⟩] .done)
         .ret)
        .skip))))
     (.ops false [⟨(some 16), .mov (.t 5), none⟩,
      ⟨(some 17), .bin .add (.t 16) (.c (.v (.int .i64 1))), none⟩,
      ⟨(some 5), .mov (.t 17), none⟩] .done))))))
  (.seq (.ops false [⟨(some 4), .mov (.c (.v (.bool true))), none⟩] .done)
  .ret))))⟩
theorem pf30_eq : (Tryd.f30.body.map fun c => (cfn Tryd.prog pl30 Tryd.f30 c, guardsAll pl30 c)) = some (pf30, true) := by kernel_rfl

/-- corral/mem.put  sizes [] -/
def pl31 : Nat → DT := dtGet []
def pf31 : PFn := ⟨20, [], (.seq (.ops false [⟨(some 7), .mov (.t 1), none⟩,
    ⟨(some 8), .mov (.c (.v (.int .i64 0))), none⟩] .done)
  (.block 0 (.loop (.seq (.ops false [⟨(some 9), .bin .lss (.t 8) (.t 7), none⟩] .done)
    (.seq (.cond (.t 9)
      .skip
      (.exit 0))
    (.seq (.block 1 (.seq (.ops false [⟨(some 10), .mov (.t 8), none⟩,
        ⟨(some 6), .mov (.t 10), none⟩] .done)
      (.ops false [⟨(some 11), .mov (.t 0), none⟩,
       ⟨(some 12), .mov (.t 6), none⟩,
       ⟨(some 13), .mov (.t 2), none⟩,
       ⟨(some 14), .mov (.t 6), none⟩,
       ⟨(some 15), .bin .mul (.c (.v (.int .i64 8))) (.t 14), none⟩,
       ⟨(some 16), .bin .shr (.t 13) (.t 15), none⟩,
       ⟨(some 17), .conv .u8 (.t 16), none⟩,
       ⟨(some 18), .idx 1 (.t 11) (.t 12), none⟩,
       ⟨none, .store 1 (.t 18) (.t 17), none⟩] .done)))
    (.ops false [⟨(some 19), .bin .add (.t 8) (.c (.v (.int .i64 1))), none⟩,
     ⟨(some 8), .mov (.t 19), none⟩] .done)))))))⟩
theorem pf31_eq : (Tryd.f31.body.map fun c => (cfn Tryd.prog pl31 Tryd.f31 c, guardsAll pl31 c)) = some (pf31, true) := by kernel_rfl

/-- corral/corralsee.Same  sizes [] -/
def pl32 : Nat → DT := dtGet []
def pf32 : PFn := ⟨11, [.t 4], (.seq (.ops false [⟨(some 3), .box 68 (.t 1), none⟩,
    ⟨(some 4), .mov (.c (.v (.bool false))), none⟩] .done)
  (.seq (.ops false [⟨(some 6), .mov (.t 0), none⟩,
    ⟨(some 7), .call 43 [(.t 6)], none⟩,
    ⟨(some 5), .box 68 (.c (.agg [(.v (.int .i64 0)), (.v (.slice none 0 0))])), none⟩,
    ⟨none, .store 2 (.t 5) (.t 7), none⟩] .done)
  (.seq (.ops false [⟨(some 8), .load (some 2) (.t 5), none⟩,
    ⟨(some 9), .load (some 2) (.t 3), none⟩,
    ⟨(some 10), .call 44 [(.t 8), (.t 9)], none⟩,
    ⟨(some 4), .mov (.t 10), none⟩] .done)
  .ret)))⟩
theorem pf32_eq : (Tryd.f32.body.map fun c => (cfn Tryd.prog pl32 Tryd.f32 c, guardsAll pl32 c)) = some (pf32, true) := by kernel_rfl

/-- corral/corralref.Bare  sizes [] -/
def pl33 : Nat → DT := dtGet []
def pf33 : PFn := ⟨5, [.cell 2 (some 2)], (.seq (.ops false [⟨(some 2), .box 68 (.c (.agg [(.v (.int .i64 0)), (.v (.slice none 0 0))])), none⟩] .done)
  (.seq (.ops false [⟨(some 3), .mov (.t 0), none⟩,
    ⟨(some 4), .build [(.v (.int .i64 0)), (.v (.slice none 0 0))] [(0, 1, (.t 3))], none⟩,
    ⟨none, .store 2 (.t 2) (.t 4), none⟩] .done)
  .ret))⟩
theorem pf33_eq : (Tryd.f33.body.map fun c => (cfn Tryd.prog pl33 Tryd.f33 c, guardsAll pl33 c)) = some (pf33, true) := by kernel_rfl

/-- corral/mem.fair  sizes [] -/
def pl34 : Nat → DT := dtGet []
def pf34 : PFn := ⟨22, [.t 4], (.seq (.ops false [⟨(some 4), .mov (.c (.v (.bool false))), none⟩] .done)
  (.seq (.ops false [⟨(some 5), .mov (.t 1), none⟩,
    ⟨(some 6), .bin .eql (.t 5) (.c (.v (.int .i64 1))), none⟩,
    ⟨(some 7), .mov (.t 6), none⟩,
    ⟨(some 8), .mov (.t 1), some (7, false)⟩,
    ⟨(some 9), .bin .eql (.t 8) (.c (.v (.int .i64 2))), some (7, false)⟩,
    ⟨(some 10), .pick (.t 7) (.c (.v (.bool true))) (.t 9), none⟩,
    ⟨(some 11), .mov (.t 10), none⟩,
    ⟨(some 12), .mov (.t 1), some (11, false)⟩,
    ⟨(some 13), .bin .eql (.t 12) (.c (.v (.int .i64 4))), some (11, false)⟩,
    ⟨(some 14), .pick (.t 11) (.c (.v (.bool true))) (.t 13), none⟩,
    ⟨(some 15), .mov (.t 14), none⟩,
    ⟨(some 16), .mov (.t 0), some (15, true)⟩,
    ⟨(some 17), .mov (.t 1), some (15, true)⟩,
    ⟨(some 18), .conv .u32 (.t 17), some (15, true)⟩,
    ⟨(some 19), .bin .rem (.t 16) (.t 18), some (15, true)⟩,
    ⟨(some 20), .bin .eql (.t 19) (.c (.v (.int .u32 0))), some (15, true)⟩,
    ⟨(some 21), .pick (.t 15) (.t 20) (.c (.v (.bool false))), none⟩,
    ⟨(some 4), .mov (.t 21), none⟩] .done)
  .ret))⟩
theorem pf34_eq : (Tryd.f34.body.map fun c => (cfn Tryd.prog pl34 Tryd.f34 c, guardsAll pl34 c)) = some (pf34, true) := by kernel_rfl

/-- (*corral/mem.Memory).lines  sizes [] -/
def pl35 : Nat → DT := dtGet []
def pf35 : PFn := ⟨9, [.t 2], (.seq (.ops false [⟨(some 2), .mov (.c (.v (.int .i64 0))), none⟩] .done)
  (.seq (.ops false [⟨(some 3), .mov (.t 0), none⟩,
    ⟨(some 4), .nilck (.t 3), none⟩,
    ⟨(some 5), .fld 0 (.t 4), none⟩,
    ⟨(some 6), .load none (.t 5), none⟩,
    ⟨(some 7), .len (.t 6), none⟩,
    ⟨(some 8), .bin .quo (.t 7) (.c (.v (.int .i64 16))), none⟩,
    ⟨(some 2), .mov (.t 8), none⟩] .done)
  .ret))⟩
theorem pf35_eq : (Tryd.f35.body.map fun c => (cfn Tryd.prog pl35 Tryd.f35 c, guardsAll pl35 c)) = some (pf35, true) := by kernel_rfl

/-- corral/mem.get  sizes [] -/
def pl36 : Nat → DT := dtGet []
def pf36 : PFn := ⟨23, [.t 4], (.seq (.ops false [⟨(some 4), .mov (.c (.v (.int .u32 0))), none⟩] .done)
  (.seq (.ops false [⟨(some 5), .mov (.c (.v (.int .u32 0))), none⟩] .done)
  (.seq (.seq (.ops false [⟨(some 7), .mov (.t 1), none⟩,
     ⟨(some 8), .mov (.c (.v (.int .i64 0))), none⟩] .done)
   (.block 0 (.loop (.seq (.ops false [⟨(some 9), .bin .lss (.t 8) (.t 7), none⟩] .done)
     (.seq (.cond (.t 9)
       .skip
       (.exit 0))
     (.seq (.block 1 (.seq (.ops false [⟨(some 10), .mov (.t 8), none⟩,
         ⟨(some 6), .mov (.t 10), none⟩] .done)
       (.ops false [⟨(some 11), .mov (.t 5), none⟩,
        ⟨(some 12), .mov (.t 0), none⟩,
        ⟨(some 13), .mov (.t 6), none⟩,
        ⟨(some 14), .idx 1 (.t 12) (.t 13), none⟩,
        ⟨(some 15), .load none (.t 14), none⟩,
        ⟨(some 16), .conv .u32 (.t 15), none⟩,
        ⟨(some 17), .mov (.t 6), none⟩,
        ⟨(some 18), .bin .mul (.c (.v (.int .i64 8))) (.t 17), none⟩,
        ⟨(some 19), .bin .shl (.t 16) (.t 18), none⟩,
        ⟨(some 20), .bin .or (.t 11) (.t 19), none⟩,
        ⟨(some 5), .mov (.t 20), none⟩] .done)))
     (.ops false [⟨(some 21), .bin .add (.t 8) (.c (.v (.int .i64 1))), none⟩,
      ⟨(some 8), .mov (.t 21), none⟩] .done)))))))
  (.seq (.ops false [⟨(some 22), .mov (.t 5), none⟩,
    ⟨(some 4), .mov (.t 22), none⟩] .done)
  .ret))))⟩
theorem pf36_eq : (Tryd.f36.body.map fun c => (cfn Tryd.prog pl36 Tryd.f36 c, guardsAll pl36 c)) = some (pf36, true) := by kernel_rfl

/-- slices.Equal[[]byte,byte]  sizes [(6, 10)] -/
def pl37 : Nat → DT := dtGet [(6, (.take 0 [0, 2, 3, 8] (.take 1 [1, 2, 3, 8] (.take 2 [2, 3, 8] (.take 3 [3, 8] (.take 4 [4, 6, 7, 8] (.take 5 [5, 6, 7, 8] (.take 6 [6, 7, 8] (.take 7 [7, 8] (.take 8 [8] .done))))))))))]
def pf37 : PFn := ⟨26, [.t 4], (.seq (.ops false [⟨(some 4), .mov (.c (.v (.bool false))), none⟩] .done)
  (.seq (.seq (.ops false [⟨(some 6), .mov (.t 0), none⟩,
     ⟨(some 7), .len (.t 6), none⟩,
     ⟨(some 8), .mov (.t 1), none⟩,
     ⟨(some 9), .len (.t 8), none⟩,
     ⟨(some 10), .bin .neq (.t 7) (.t 9), none⟩] .done)
   (.cond (.t 10)
    (.seq (.ops false [⟨(some 4), .mov (.c (.v (.bool false))), none⟩] .done)
     .ret)
    .skip))
  (.seq (.seq (.ops false [⟨(some 11), .mov (.t 0), none⟩,
     ⟨(some 12), .len (.t 11), none⟩,
     ⟨(some 13), .mov (.c (.v (.int .i64 0))), none⟩] .done)
   (.block 0 (.loop (.seq (.ops false [⟨(some 14), .bin .lss (.t 13) (.t 12), none⟩] .done)
     (.seq (.cond (.t 14)
       .skip
       (.exit 0))
     (.seq (.block 1 (.seq (.ops false [⟨(some 15), .mov (.t 13), none⟩,
         ⟨(some 5), .mov (.t 15), none⟩] .done)
       (.seq (.ops true [⟨(some 16), .mov (.t 0), none⟩,
         ⟨(some 17), .mov (.t 5), none⟩,
         ⟨(some 18), .idx 1 (.t 16) (.t 17), none⟩,
         ⟨(some 19), .load none (.t 18), none⟩,
         ⟨(some 20), .mov (.t 1), none⟩,
         ⟨(some 21), .mov (.t 5), none⟩,
         ⟨(some 22), .idx 1 (.t 20) (.t 21), none⟩,
         ⟨(some 23), .load none (.t 22), none⟩,
         ⟨(some 24), .bin .neq (.t 19) (.t 23), none⟩] (.take 0 [0, 2, 3, 8] (.take 1 [1, 2, 3, 8] (.take 2 [2, 3, 8] (.take 3 [3, 8] (.take 4 [4, 6, 7, 8] (.take 5 [5, 6, 7, 8] (.take 6 [6, 7, 8] (.take 7 [7, 8] (.take 8 [8] .done))))))))))
       (.cond (.t 24)
        (.seq (.ops false [⟨(some 4), .mov (.c (.v (.bool false))), none⟩] .done)
         .ret)
        .skip))))
     (.ops false [⟨(some 25), .bin .add (.t 13) (.c (.v (.int .i64 1))), none⟩,
      ⟨(some 13), .mov (.t 25), none⟩] .done)))))))
  (.seq (.ops false [⟨(some 4), .mov (.c (.v (.bool true))), none⟩] .done)
  .ret))))⟩
theorem pf37_eq : (Tryd.f37.body.map fun c => (cfn Tryd.prog pl37 Tryd.f37 c, guardsAll pl37 c)) = some (pf37, true) := by kernel_rfl

/-- corral/corralref6.fits  sizes [] -/
def pl38 : Nat → DT := dtGet []
def pf38 : PFn := ⟨22, [.t 4], (.seq (.ops false [⟨(some 4), .mov (.c (.v (.bool false))), none⟩] .done)
  (.seq (.ops false [⟨(some 5), .mov (.t 1), none⟩,
    ⟨(some 6), .bin .eql (.t 5) (.c (.v (.int .i64 1))), none⟩,
    ⟨(some 7), .mov (.t 6), none⟩,
    ⟨(some 8), .mov (.t 1), some (7, false)⟩,
    ⟨(some 9), .bin .eql (.t 8) (.c (.v (.int .i64 2))), some (7, false)⟩,
    ⟨(some 10), .pick (.t 7) (.c (.v (.bool true))) (.t 9), none⟩,
    ⟨(some 11), .mov (.t 10), none⟩,
    ⟨(some 12), .mov (.t 1), some (11, false)⟩,
    ⟨(some 13), .bin .eql (.t 12) (.c (.v (.int .i64 4))), some (11, false)⟩,
    ⟨(some 14), .pick (.t 11) (.c (.v (.bool true))) (.t 13), none⟩,
    ⟨(some 15), .mov (.t 14), none⟩,
    ⟨(some 16), .mov (.t 0), some (15, true)⟩,
    ⟨(some 17), .conv .i64 (.t 16), some (15, true)⟩,
    ⟨(some 18), .mov (.t 1), some (15, true)⟩,
    ⟨(some 19), .bin .rem (.t 17) (.t 18), some (15, true)⟩,
    ⟨(some 20), .bin .eql (.t 19) (.c (.v (.int .i64 0))), some (15, true)⟩,
    ⟨(some 21), .pick (.t 15) (.t 20) (.c (.v (.bool false))), none⟩,
    ⟨(some 4), .mov (.t 21), none⟩] .done)
  .ret))⟩
theorem pf38_eq : (Tryd.f38.body.map fun c => (cfn Tryd.prog pl38 Tryd.f38 c, guardsAll pl38 c)) = some (pf38, true) := by kernel_rfl

/-- corral/corralref1.Bits  sizes [] -/
def pl39 : Nat → DT := dtGet []
def pf39 : PFn := ⟨30, [.t 6], (.seq (.ops false [⟨(some 6), .mov (.c (.v (.int .u32 0))), none⟩] .done)
  (.seq (.seq (.ops false [⟨(some 7), .mov (.t 1), none⟩,
     ⟨(some 8), .bin .lss (.t 7) (.c (.v (.int .i64 0))), none⟩,
     ⟨(some 9), .mov (.t 8), none⟩,
     ⟨(some 10), .mov (.t 1), some (9, false)⟩,
     ⟨(some 11), .bin .gtr (.t 10) (.c (.v (.int .i64 31))), some (9, false)⟩,
     ⟨(some 12), .pick (.t 9) (.c (.v (.bool true))) (.t 11), none⟩,
     ⟨(some 13), .mov (.t 12), none⟩,
     ⟨(some 14), .mov (.t 2), some (13, false)⟩,
     ⟨(some 15), .bin .lss (.t 14) (.c (.v (.int .i64 1))), some (13, false)⟩,
     ⟨(some 16), .pick (.t 13) (.c (.v (.bool true))) (.t 15), none⟩] .done)
   (.cond (.t 16)
    (.seq (.ops false [⟨(some 6), .mov (.c (.v (.int .u32 0))), none⟩] .done)
     .ret)
    .skip))
  (.seq (.ops false [⟨(some 17), .mov (.t 0), none⟩,
    ⟨(some 18), .mov (.t 1), none⟩,
    ⟨(some 19), .conv .u64 (.t 18), none⟩,
    ⟨(some 20), .bin .shr (.t 17) (.t 19), none⟩,
    ⟨(some 0), .mov (.t 20), none⟩] .done)
  (.seq (.seq (.ops false [⟨(some 21), .mov (.t 2), none⟩,
     ⟨(some 22), .bin .geq (.t 21) (.c (.v (.int .i64 32))), none⟩] .done)
   (.cond (.t 22)
    (.seq (.ops false [⟨(some 23), .mov (.t 0), none⟩,
       ⟨(some 6), .mov (.t 23), none⟩] .done)
     .ret)
    .skip))
  (.seq (.ops false [⟨(some 24), .mov (.t 0), none⟩,
    ⟨(some 25), .mov (.t 2), none⟩,
    ⟨(some 26), .conv .u64 (.t 25), none⟩,
    ⟨(some 27), .bin .shl (.c (.v (.int .u32 1))) (.t 26), none⟩,
    ⟨(some 28), .bin .sub (.t 27) (.c (.v (.int .u32 1))), none⟩,
    ⟨(some 29), .bin .and (.t 24) (.t 28), none⟩,
    ⟨(some 6), .mov (.t 29), none⟩] .done)
  .ret)))))⟩
theorem pf39_eq : (Tryd.f39.body.map fun c => (cfn Tryd.prog pl39 Tryd.f39 c, guardsAll pl39 c)) = some (pf39, true) := by kernel_rfl

/-- corral/corralref1.Place  sizes [] -/
def pl40 : Nat → DT := dtGet []
def pf40 : PFn := ⟨23, [.t 6], (.seq (.ops false [⟨(some 6), .mov (.c (.v (.int .u32 0))), none⟩] .done)
  (.seq (.seq (.ops false [⟨(some 7), .mov (.t 1), none⟩,
     ⟨(some 8), .bin .lss (.t 7) (.c (.v (.int .i64 0))), none⟩,
     ⟨(some 9), .mov (.t 8), none⟩,
     ⟨(some 10), .mov (.t 1), some (9, false)⟩,
     ⟨(some 11), .bin .gtr (.t 10) (.c (.v (.int .i64 31))), some (9, false)⟩,
     ⟨(some 12), .pick (.t 9) (.c (.v (.bool true))) (.t 11), none⟩,
     ⟨(some 13), .mov (.t 12), none⟩,
     ⟨(some 14), .mov (.t 2), some (13, false)⟩,
     ⟨(some 15), .bin .lss (.t 14) (.c (.v (.int .i64 1))), some (13, false)⟩,
     ⟨(some 16), .pick (.t 13) (.c (.v (.bool true))) (.t 15), none⟩] .done)
   (.cond (.t 16)
    (.seq (.ops false [⟨(some 6), .mov (.c (.v (.int .u32 0))), none⟩] .done)
     .ret)
    .skip))
  (.seq (.ops false [⟨(some 17), .mov (.t 0), none⟩,
    ⟨(some 18), .mov (.t 2), none⟩,
    ⟨(some 19), .call 39 [(.t 17), (.c (.v (.int .i64 0))), (.t 18)], none⟩,
    ⟨(some 20), .mov (.t 1), none⟩,
    ⟨(some 21), .conv .u64 (.t 20), none⟩,
    ⟨(some 22), .bin .shl (.t 19) (.t 21), none⟩,
    ⟨(some 6), .mov (.t 22), none⟩] .done)
  .ret)))⟩
theorem pf40_eq : (Tryd.f40.body.map fun c => (cfn Tryd.prog pl40 Tryd.f40 c, guardsAll pl40 c)) = some (pf40, true) := by kernel_rfl

/-- slices.Clone[[]byte,byte]  sizes [] -/
def pl41 : Nat → DT := dtGet []
def pf41 : PFn := ⟨8, [.t 2], (.seq (.ops false [⟨(some 2), .mov (.c (.v (.slice none 0 0))), none⟩] .done)
  (.seq (.seq (.ops false [⟨(some 3), .mov (.t 0), none⟩,
     ⟨(some 4), .eqp 3 true false (.t 3) (.c (.v (.slice none 0 0))), none⟩] .done)
   (.cond (.t 4)
    (.seq (.ops false [⟨(some 2), .mov (.c (.v (.slice none 0 0))), none⟩] .done)
     .ret)
    .skip))
  (.seq (.ops false [⟨(some 5), .bslice 5 [.int .u8] 0 [] [], none⟩,
    ⟨(some 6), .mov (.t 0), none⟩,
    ⟨(some 7), .append 5 [.int .u8] [(.int .u8 0)] 1 (.t 5) (.t 6), none⟩,
    ⟨(some 2), .mov (.t 7), none⟩] .done)
  .ret)))⟩
theorem pf41_eq : (Tryd.f41.body.map fun c => (cfn Tryd.prog pl41 Tryd.f41 c, guardsAll pl41 c)) = some (pf41, true) := by kernel_rfl

/-- (*corral/corralref6.Memory).Has  sizes [] -/
def pl42 : Nat → DT := dtGet []
def pf42 : PFn := ⟨15, [.t 6], (.seq (.ops false [⟨(some 6), .mov (.c (.v (.bool false))), none⟩] .done)
  (.seq (.ops false [⟨(some 7), .mov (.t 0), none⟩,
    ⟨(some 8), .nilck (.t 7), none⟩,
    ⟨(some 9), .fld 0 (.t 8), none⟩,
    ⟨(some 10), .load none (.t 9), none⟩,
    ⟨(some 11), .len (.t 10), none⟩,
    ⟨(some 12), .mov (.t 1), none⟩,
    ⟨(some 13), .mov (.t 2), none⟩,
    ⟨(some 14), .call 45 [(.t 11), (.t 12), (.t 13)], none⟩,
    ⟨(some 6), .mov (.t 14), none⟩] .done)
  .ret))⟩
theorem pf42_eq : (Tryd.f42.body.map fun c => (cfn Tryd.prog pl42 Tryd.f42 c, guardsAll pl42 c)) = some (pf42, true) := by kernel_rfl

/-- corral/corralsee.Fault  sizes [] -/
def pl43 : Nat → DT := dtGet []
def pf43 : PFn := ⟨8, [.cell 2 (some 2)], (.seq (.ops false [⟨(some 2), .box 68 (.c (.agg [(.v (.int .i64 0)), (.v (.slice none 0 0))])), none⟩] .done)
  (.seq (.seq (.ops false [⟨(some 3), .mov (.t 0), none⟩,
     ⟨(some 4), .eqp 1 true false (.t 3) (.c (.v .nilIface)), none⟩] .done)
   (.cond (.t 4)
    (.seq (.ops false [⟨(some 5), .call 46 [], none⟩,
       ⟨none, .store 2 (.t 2) (.t 5), none⟩] .done)
     .ret)
    .skip))
  (.seq (.ops false [⟨(some 6), .mov (.t 0), none⟩,
    ⟨(some 7), .call 47 [(.t 6), (.c (.v (.int .i64 9)))], none⟩,
    ⟨none, .store 2 (.t 2) (.t 7), none⟩] .done)
  .ret)))⟩
theorem pf43_eq : (Tryd.f43.body.map fun c => (cfn Tryd.prog pl43 Tryd.f43 c, guardsAll pl43 c)) = some (pf43, true) := by kernel_rfl

/-- corral/corralref.SameFault  sizes [] -/
def pl44 : Nat → DT := dtGet []
def pf44 : PFn := ⟨19, [.t 4], (.seq (.ops false [⟨(some 2), .box 68 (.t 0), none⟩,
    ⟨(some 3), .box 68 (.t 1), none⟩,
    ⟨(some 4), .mov (.c (.v (.bool false))), none⟩] .done)
  (.seq (.ops false [⟨(some 6), .fld 1 (.t 2), none⟩,
    ⟨(some 7), .load none (.t 6), none⟩,
    ⟨(some 8), .fld 1 (.t 3), none⟩,
    ⟨(some 9), .load none (.t 8), none⟩,
    ⟨(some 10), .call 48 [(.t 7), (.t 9)], none⟩,
    ⟨(some 5), .mov (.t 10), none⟩] .done)
  (.seq (.ops false [⟨(some 11), .fld 0 (.t 2), none⟩,
    ⟨(some 12), .load none (.t 11), none⟩,
    ⟨(some 13), .fld 0 (.t 3), none⟩,
    ⟨(some 14), .load none (.t 13), none⟩,
    ⟨(some 15), .bin .eql (.t 12) (.t 14), none⟩,
    ⟨(some 16), .mov (.t 15), none⟩,
    ⟨(some 17), .mov (.t 5), some (16, true)⟩,
    ⟨(some 18), .pick (.t 16) (.t 17) (.c (.v (.bool false))), none⟩,
    ⟨(some 4), .mov (.t 18), none⟩] .done)
  .ret)))⟩
theorem pf44_eq : (Tryd.f44.body.map fun c => (cfn Tryd.prog pl44 Tryd.f44 c, guardsAll pl44 c)) = some (pf44, true) := by kernel_rfl

/-- corral/corralref6.Inside  sizes [] -/
def pl45 : Nat → DT := dtGet []
def pf45 : PFn := ⟨37, [.t 6], (.seq (.ops false [⟨(some 6), .mov (.c (.v (.bool false))), none⟩] .done)
  (.seq (.ops false [⟨(some 7), .mov (.t 2), none⟩,
    ⟨(some 8), .bin .eql (.t 7) (.c (.v (.int .i64 1))), none⟩,
    ⟨(some 9), .mov (.t 8), none⟩,
    ⟨(some 10), .mov (.t 2), some (9, false)⟩,
    ⟨(some 11), .bin .eql (.t 10) (.c (.v (.int .i64 2))), some (9, false)⟩,
    ⟨(some 12), .pick (.t 9) (.c (.v (.bool true))) (.t 11), none⟩,
    ⟨(some 13), .mov (.t 12), none⟩,
    ⟨(some 14), .mov (.t 2), some (13, false)⟩,
    ⟨(some 15), .bin .eql (.t 14) (.c (.v (.int .i64 4))), some (13, false)⟩,
    ⟨(some 16), .pick (.t 13) (.c (.v (.bool true))) (.t 15), none⟩,
    ⟨(some 17), .mov (.t 16), none⟩,
    ⟨(some 18), .mov (.t 1), some (17, true)⟩,
    ⟨(some 19), .conv .i64 (.t 18), some (17, true)⟩,
    ⟨(some 20), .mov (.t 2), some (17, true)⟩,
    ⟨(some 21), .bin .rem (.t 19) (.t 20), some (17, true)⟩,
    ⟨(some 22), .bin .eql (.t 21) (.c (.v (.int .i64 0))), some (17, true)⟩,
    ⟨(some 23), .pick (.t 17) (.t 22) (.c (.v (.bool false))), none⟩,
    ⟨(some 24), .mov (.t 23), none⟩,
    ⟨(some 25), .mov (.t 0), some (24, true)⟩,
    ⟨(some 26), .mov (.t 2), some (24, true)⟩,
    ⟨(some 27), .bin .geq (.t 25) (.t 26), some (24, true)⟩,
    ⟨(some 28), .pick (.t 24) (.t 27) (.c (.v (.bool false))), none⟩,
    ⟨(some 29), .mov (.t 28), none⟩,
    ⟨(some 30), .mov (.t 1), some (29, true)⟩,
    ⟨(some 31), .conv .i64 (.t 30), some (29, true)⟩,
    ⟨(some 32), .mov (.t 0), some (29, true)⟩,
    ⟨(some 33), .mov (.t 2), some (29, true)⟩,
    ⟨(some 34), .bin .sub (.t 32) (.t 33), some (29, true)⟩,
    ⟨(some 35), .bin .leq (.t 31) (.t 34), some (29, true)⟩,
    ⟨(some 36), .pick (.t 29) (.t 35) (.c (.v (.bool false))), none⟩,
    ⟨(some 6), .mov (.t 36), none⟩] .done)
  .ret))⟩
theorem pf45_eq : (Tryd.f45.body.map fun c => (cfn Tryd.prog pl45 Tryd.f45 c, guardsAll pl45 c)) = some (pf45, true) := by kernel_rfl

/-- corral/corralref.None  sizes [] -/
def pl46 : Nat → DT := dtGet []
def pf46 : PFn := ⟨2, [.cell 0 (some 2)], (.seq (.ops false [⟨(some 0), .box 68 (.c (.agg [(.v (.int .i64 0)), (.v (.slice none 0 0))])), none⟩] .done)
  (.seq (.ops false [⟨(some 1), .build [(.v (.int .i64 0)), (.v (.slice none 0 0))] [], none⟩,
    ⟨none, .store 2 (.t 0) (.t 1), none⟩] .done)
  .ret))⟩
theorem pf46_eq : (Tryd.f46.body.map fun c => (cfn Tryd.prog pl46 Tryd.f46 c, guardsAll pl46 c)) = some (pf46, true) := by kernel_rfl

/-- corral/corralsee.fault  sizes [(9, 13)] -/
def pl47 : Nat → DT := dtGet [(9, (.take 0 [0, 1, 11, 10] (.take 1 [1, 10, 11] (.take 2 [2, 3, 11, 4, 5, 6, 9, 10] (.take 3 [3, 4, 11, 5, 6, 9, 10] (.take 4 [4, 5, 11, 6, 9, 10] (.take 5 [5, 6, 11, 9, 10] (.take 7 [7, 8, 11, 9, 10] (.take 8 [8, 9, 11, 10] (.eff true 6 (.eff false 9 (.take 10 [10, 11] (.eff false 11 .done)))))))))))))]
def pf47 : PFn := ⟨42, [.cell 4 (some 2)], (.seq (.ops false [⟨(some 4), .box 68 (.c (.agg [(.v (.int .i64 0)), (.v (.slice none 0 0))])), none⟩] .done)
  (.seq (.seq (.ops false [⟨(some 7), .mov (.t 0), none⟩,
     ⟨(some 8), .eqp 1 true false (.t 7) (.c (.v .nilIface)), none⟩,
     ⟨(some 9), .mov (.t 8), none⟩,
     ⟨(some 10), .mov (.t 1), some (9, false)⟩,
     ⟨(some 11), .bin .eql (.t 10) (.c (.v (.int .i64 0))), some (9, false)⟩,
     ⟨(some 12), .pick (.t 9) (.c (.v (.bool true))) (.t 11), none⟩] .done)
   (.cond (.t 12)
    (.seq (.ops false [⟨(some 13), .call 33 [(.c (.v (.int .i64 (-1))))], none⟩,
       ⟨none, .store 2 (.t 4) (.t 13), none⟩] .done)
     .ret)
    .skip))
  (.seq (.seq (.ops false [⟨(some 14), .mov (.t 0), none⟩] .done)
   (.block 0 (.seq (.ops false [⟨(some 15), .tassert 79 true (.v (.pointer none)) (.t 14), none⟩,
      ⟨(some 16), .ext (.t 15) 1, none⟩,
      ⟨(some 17), .ext (.t 15) 0, none⟩] .done)
    (.cond (.t 16)
     (.seq (.ops false [⟨(some 5), .mov (.t 17), none⟩] .done)
      (.seq (.seq (.ops false [⟨(some 18), .mov (.t 5), none⟩,
         ⟨(some 19), .eqp 0 true false (.t 18) (.c (.v (.pointer none))), none⟩] .done)
       (.cond (.t 19)
        (.seq (.ops false [⟨(some 20), .call 33 [(.c (.v (.int .i64 (-1))))], none⟩,
           ⟨none, .store 2 (.t 4) (.t 20), none⟩] .done)
         .ret)
        .skip))
      (.seq (.ops false [⟨(some 21), .mov (.t 5), none⟩,
        ⟨(some 22), .nilck (.t 21), none⟩,
        ⟨(some 23), .fld 1 (.t 22), none⟩,
        ⟨(some 24), .load none (.t 23), none⟩,
        ⟨(some 25), .mov (.t 1), none⟩,
        ⟨(some 26), .bin .sub (.t 25) (.c (.v (.int .i64 1))), none⟩,
        ⟨(some 27), .call 47 [(.t 24), (.t 26)], none⟩,
        ⟨(some 6), .box 68 (.c (.agg [(.v (.int .i64 0)), (.v (.slice none 0 0))])), none⟩,
        ⟨none, .store 2 (.t 6) (.t 27), none⟩] .done)
      (.seq (.ops true [⟨(some 28), .fld 0 (.t 6), none⟩,
        ⟨(some 29), .load none (.t 28), none⟩,
        ⟨(some 30), .mov (.t 5), none⟩,
        ⟨(some 31), .nilck (.t 30), none⟩,
        ⟨(some 32), .fld 0 (.t 31), none⟩,
        ⟨(some 33), .load none (.t 32), none⟩,
        ⟨(some 34), .bslice 3 [.int .i64] 1 [(.v (.int .i64 0))] [(0, 1, (.t 33))], none⟩,
        ⟨(some 35), .fld 1 (.t 6), none⟩,
        ⟨(some 36), .load none (.t 35), none⟩,
        ⟨(some 37), .append 3 [.int .i64] [(.int .i64 0)] 8 (.t 34) (.t 36), none⟩,
        ⟨(some 38), .build [(.v (.int .i64 0)), (.v (.slice none 0 0))] [(0, 1, (.t 29)), (1, 1, (.t 37))], none⟩,
        ⟨none, .store 2 (.t 4) (.t 38), none⟩] (.take 0 [0, 1, 11, 10] (.take 1 [1, 10, 11] (.take 2 [2, 3, 11, 4, 5, 6, 9, 10] (.take 3 [3, 4, 11, 5, 6, 9, 10] (.take 4 [4, 5, 11, 6, 9, 10] (.take 5 [5, 6, 11, 9, 10] (.take 7 [7, 8, 11, 9, 10] (.take 8 [8, 9, 11, 10] (.eff true 6 (.eff false 9 (.take 10 [10, 11] (.eff false 11 .done)))))))))))))
      .ret))))
     .skip))))
  (.seq (.ops false [⟨(some 39), .mov (.t 0), none⟩,
    ⟨(some 40), .call 49 [(.t 39)], none⟩,
    ⟨(some 41), .call 33 [(.t 40)], none⟩,
    ⟨none, .store 2 (.t 4) (.t 41), none⟩] .done)
  .ret))))⟩
theorem pf47_eq : (Tryd.f47.body.map fun c => (cfn Tryd.prog pl47 Tryd.f47 c, guardsAll pl47 c)) = some (pf47, true) := by kernel_rfl

/-- corral/corralref.SameInts  sizes [(6, 11)] -/
def pl48 : Nat → DT := dtGet [(6, (.take 0 [0, 2, 9, 3, 8] (.take 1 [1, 2, 9, 3, 8] (.take 2 [2, 3, 9, 8] (.take 3 [3, 8, 9] (.take 4 [4, 6, 9, 7, 8] (.take 5 [5, 6, 9, 7, 8] (.take 6 [6, 7, 9, 8] (.take 7 [7, 8, 9] (.take 8 [8, 9] (.take 9 [9] .done)))))))))))]
def pf48 : PFn := ⟨29, [.t 4], (.seq (.ops false [⟨(some 4), .mov (.c (.v (.bool false))), none⟩] .done)
  (.seq (.seq (.ops false [⟨(some 7), .mov (.t 0), none⟩,
     ⟨(some 8), .len (.t 7), none⟩,
     ⟨(some 9), .mov (.t 1), none⟩,
     ⟨(some 10), .len (.t 9), none⟩,
     ⟨(some 11), .bin .neq (.t 8) (.t 10), none⟩] .done)
   (.cond (.t 11)
    (.seq (.ops false [⟨(some 4), .mov (.c (.v (.bool false))), none⟩] .done)
     .ret)
    .skip))
  (.seq (.seq (.ops false [⟨(some 5), .mov (.c (.v (.int .i64 0))), none⟩] .done)
   (.block 0 (.loop (.seq (.seq (.ops false [⟨(some 12), .mov (.t 5), none⟩,
        ⟨(some 13), .mov (.t 0), none⟩,
        ⟨(some 14), .len (.t 13), none⟩,
        ⟨(some 15), .bin .lss (.t 12) (.t 14), none⟩] .done)
      (.cond (.t 15)
       .skip
       (.exit 0)))
     (.seq (.block 1 (.seq (.ops true [⟨(some 18), .mov (.t 0), none⟩,
         ⟨(some 19), .mov (.t 5), none⟩,
         ⟨(some 20), .idx 1 (.t 18) (.t 19), none⟩,
         ⟨(some 21), .load none (.t 20), none⟩,
         ⟨(some 22), .mov (.t 1), none⟩,
         ⟨(some 23), .mov (.t 5), none⟩,
         ⟨(some 24), .idx 1 (.t 22) (.t 23), none⟩,
         ⟨(some 25), .load none (.t 24), none⟩,
         ⟨(some 26), .bin .eql (.t 21) (.t 25), none⟩,
         ⟨(some 6), .mov (.t 26), none⟩] (.take 0 [0, 2, 9, 3, 8] (.take 1 [1, 2, 9, 3, 8] (.take 2 [2, 3, 9, 8] (.take 3 [3, 8, 9] (.take 4 [4, 6, 9, 7, 8] (.take 5 [5, 6, 9, 7, 8] (.take 6 [6, 7, 9, 8] (.take 7 [7, 8, 9] (.take 8 [8, 9] (.take 9 [9] .done)))))))))))
       (.seq (.ops false [⟨(some 27), .mov (.t 6), none⟩,
         ⟨(some 28), .un .not (.t 27), none⟩] .done)
       (.cond (.t 28)
        (.seq (.ops false [⟨(some 4), .mov (.c (.v (.bool false))), none⟩] .done)
         .ret)
        .skip))))
     (.ops false [⟨(some 16), .mov (.t 5), none⟩,
      ⟨(some 17), .bin .add (.t 16) (.c (.v (.int .i64 1))), none⟩,
      ⟨(some 5), .mov (.t 17), none⟩] .done))))))
  (.seq (.ops false [⟨(some 4), .mov (.c (.v (.bool true))), none⟩] .done)
  .ret))))⟩
theorem pf48_eq : (Tryd.f48.body.map fun c => (cfn Tryd.prog pl48 Tryd.f48 c, guardsAll pl48 c)) = some (pf48, true) := by kernel_rfl

/-- corral/corralsee.sentinel  sizes [] -/
def pl49 : Nat → DT := dtGet []
def pf49 : PFn := ⟨20, [.t 2], (.seq (.ops false [⟨(some 2), .mov (.c (.v (.int .i64 0))), none⟩] .done)
  (.seq (.ops false [⟨(some 5), .call 50 [], none⟩,
    ⟨(some 3), .mov (.t 5), none⟩] .done)
  (.seq (.seq (.ops false [⟨(some 4), .mov (.c (.v (.int .i64 0))), none⟩] .done)
   (.block 0 (.loop (.seq (.seq (.ops false [⟨(some 6), .mov (.t 4), none⟩,
        ⟨(some 7), .mov (.t 3), none⟩,
        ⟨(some 8), .len (.t 7), none⟩,
        ⟨(some 9), .bin .lss (.t 6) (.t 8), none⟩] .done)
      (.cond (.t 9)
       .skip
       (.exit 0)))
     (.seq (.block 1 (.seq (.ops false [⟨(some 12), .mov (.t 0), none⟩,
         ⟨(some 13), .mov (.t 3), none⟩,
         ⟨(some 14), .mov (.t 4), none⟩,
         ⟨(some 15), .idx 1 (.t 13) (.t 14), none⟩,
         ⟨(some 16), .load none (.t 15), none⟩,
         ⟨(some 17), .call 51 [(.t 12), (.t 16)], none⟩] .done)
       (.cond (.t 17)
        (.seq (.ops false [⟨(some 18), .mov (.t 4), none⟩,
           ⟨(some 19), .bin .add (.c (.v (.int .i64 101))) (.t 18), none⟩,
           ⟨(some 2), .mov (.t 19), none⟩] .done)
         .ret)
        .skip)))
     (.ops false [⟨(some 10), .mov (.t 4), none⟩,
      ⟨(some 11), .bin .add (.t 10) (.c (.v (.int .i64 1))), none⟩,
      ⟨(some 4), .mov (.t 11), none⟩] .done))))))
  (.seq (.ops false [⟨(some 2), .mov (.c (.v (.int .i64 (-1)))), none⟩] .done)
  .ret))))⟩
theorem pf49_eq : (Tryd.f49.body.map fun c => (cfn Tryd.prog pl49 Tryd.f49 c, guardsAll pl49 c)) = some (pf49, true) := by kernel_rfl

/-- corral/corralsee.sentinels  sizes [] -/
def pl50 : Nat → DT := dtGet []
def pf50 : PFn := ⟨13, [.t 0], (.seq (.ops false [⟨(some 0), .mov (.c (.v (.slice none 0 0))), none⟩] .done)
  (.seq (.ops false [⟨(some 1), .load none (.c (.v (.pointer (some ⟨1, 0, none⟩)))), none⟩,
    ⟨(some 2), .load none (.c (.v (.pointer (some ⟨2, 0, none⟩)))), none⟩,
    ⟨(some 3), .load none (.c (.v (.pointer (some ⟨3, 0, none⟩)))), none⟩,
    ⟨(some 4), .load none (.c (.v (.pointer (some ⟨4, 0, none⟩)))), none⟩,
    ⟨(some 5), .load none (.c (.v (.pointer (some ⟨5, 0, none⟩)))), none⟩,
    ⟨(some 6), .load none (.c (.v (.pointer (some ⟨0, 0, none⟩)))), none⟩,
    ⟨(some 7), .load none (.c (.v (.pointer (some ⟨6, 0, none⟩)))), none⟩,
    ⟨(some 8), .load none (.c (.v (.pointer (some ⟨7, 0, none⟩)))), none⟩,
    ⟨(some 9), .load none (.c (.v (.pointer (some ⟨8, 0, none⟩)))), none⟩,
    ⟨(some 10), .load none (.c (.v (.pointer (some ⟨9, 0, none⟩)))), none⟩,
    ⟨(some 11), .load none (.c (.v (.pointer (some ⟨10, 0, none⟩)))), none⟩,
    ⟨(some 12), .bslice 25 [.raw] 11 [(.v .nilIface), (.v .nilIface), (.v .nilIface), (.v .nilIface), (.v .nilIface), (.v .nilIface), (.v .nilIface), (.v .nilIface), (.v .nilIface), (.v .nilIface), (.v .nilIface)] [(0, 1, (.t 1)), (1, 1, (.t 2)), (2, 1, (.t 3)), (3, 1, (.t 4)), (4, 1, (.t 5)), (5, 1, (.t 6)), (6, 1, (.t 7)), (7, 1, (.t 8)), (8, 1, (.t 9)), (9, 1, (.t 10)), (10, 1, (.t 11))], none⟩,
    ⟨(some 0), .mov (.t 12), none⟩] .done)
  .ret))⟩
theorem pf50_eq : (Tryd.f50.body.map fun c => (cfn Tryd.prog pl50 Tryd.f50 c, guardsAll pl50 c)) = some (pf50, true) := by kernel_rfl

/-- corral/corralsee.Alike  sizes [] -/
def pl51 : Nat → DT := dtGet []
def pf51 : PFn := ⟨20, [.t 4], (.seq (.ops false [⟨(some 4), .mov (.c (.v (.bool false))), none⟩] .done)
  (.seq (.seq (.ops false [⟨(some 5), .mov (.t 0), none⟩,
     ⟨(some 6), .eqp 1 true false (.t 5) (.c (.v .nilIface)), none⟩,
     ⟨(some 7), .mov (.t 6), none⟩,
     ⟨(some 8), .mov (.t 1), some (7, false)⟩,
     ⟨(some 9), .eqp 1 true false (.t 8) (.c (.v .nilIface)), some (7, false)⟩,
     ⟨(some 10), .pick (.t 7) (.c (.v (.bool true))) (.t 9), none⟩] .done)
   (.cond (.t 10)
    (.seq (.ops false [⟨(some 11), .mov (.t 0), none⟩,
       ⟨(some 12), .eqp 1 true false (.t 11) (.c (.v .nilIface)), none⟩,
       ⟨(some 13), .mov (.t 12), none⟩,
       ⟨(some 14), .mov (.t 1), some (13, true)⟩,
       ⟨(some 15), .eqp 1 true false (.t 14) (.c (.v .nilIface)), some (13, true)⟩,
       ⟨(some 16), .pick (.t 13) (.t 15) (.c (.v (.bool false))), none⟩,
       ⟨(some 4), .mov (.t 16), none⟩] .done)
     .ret)
    .skip))
  (.seq (.ops false [⟨(some 17), .mov (.t 0), none⟩,
    ⟨(some 18), .mov (.t 1), none⟩,
    ⟨(some 19), .eqp 1 false false (.t 17) (.t 18), none⟩,
    ⟨(some 4), .mov (.t 19), none⟩] .done)
  .ret)))⟩
theorem pf51_eq : (Tryd.f51.body.map fun c => (cfn Tryd.prog pl51 Tryd.f51 c, guardsAll pl51 c)) = some (pf51, true) := by kernel_rfl

theorem at3 : Tryd.prog.funcs[3]? = some Tryd.f3 ∧ (Tryd.f3.name == "runtime.NumGoroutine") = false := ⟨by kernel_rfl, by kernel_rfl⟩
theorem at4 : Tryd.prog.funcs[4]? = some Tryd.f4 ∧ (Tryd.f4.name == "runtime.NumGoroutine") = false := ⟨by kernel_rfl, by kernel_rfl⟩
theorem at5 : Tryd.prog.funcs[5]? = some Tryd.f5 ∧ (Tryd.f5.name == "runtime.NumGoroutine") = false := ⟨by kernel_rfl, by kernel_rfl⟩
theorem at6 : Tryd.prog.funcs[6]? = some Tryd.f6 ∧ (Tryd.f6.name == "runtime.NumGoroutine") = false := ⟨by kernel_rfl, by kernel_rfl⟩
theorem at7 : Tryd.prog.funcs[7]? = some Tryd.f7 ∧ (Tryd.f7.name == "runtime.NumGoroutine") = false := ⟨by kernel_rfl, by kernel_rfl⟩
theorem at8 : Tryd.prog.funcs[8]? = some Tryd.f8 ∧ (Tryd.f8.name == "runtime.NumGoroutine") = false := ⟨by kernel_rfl, by kernel_rfl⟩
theorem at9 : Tryd.prog.funcs[9]? = some Tryd.f9 ∧ (Tryd.f9.name == "runtime.NumGoroutine") = false := ⟨by kernel_rfl, by kernel_rfl⟩
theorem at10 : Tryd.prog.funcs[10]? = some Tryd.f10 ∧ (Tryd.f10.name == "runtime.NumGoroutine") = false := ⟨by kernel_rfl, by kernel_rfl⟩
theorem at11 : Tryd.prog.funcs[11]? = some Tryd.f11 ∧ (Tryd.f11.name == "runtime.NumGoroutine") = false := ⟨by kernel_rfl, by kernel_rfl⟩
theorem at12 : Tryd.prog.funcs[12]? = some Tryd.f12 ∧ (Tryd.f12.name == "runtime.NumGoroutine") = false := ⟨by kernel_rfl, by kernel_rfl⟩
theorem at13 : Tryd.prog.funcs[13]? = some Tryd.f13 ∧ (Tryd.f13.name == "runtime.NumGoroutine") = false := ⟨by kernel_rfl, by kernel_rfl⟩
theorem at14 : Tryd.prog.funcs[14]? = some Tryd.f14 ∧ (Tryd.f14.name == "runtime.NumGoroutine") = false := ⟨by kernel_rfl, by kernel_rfl⟩
theorem at15 : Tryd.prog.funcs[15]? = some Tryd.f15 ∧ (Tryd.f15.name == "runtime.NumGoroutine") = false := ⟨by kernel_rfl, by kernel_rfl⟩
theorem at16 : Tryd.prog.funcs[16]? = some Tryd.f16 ∧ (Tryd.f16.name == "runtime.NumGoroutine") = false := ⟨by kernel_rfl, by kernel_rfl⟩
theorem at17 : Tryd.prog.funcs[17]? = some Tryd.f17 ∧ (Tryd.f17.name == "runtime.NumGoroutine") = false := ⟨by kernel_rfl, by kernel_rfl⟩
theorem at18 : Tryd.prog.funcs[18]? = some Tryd.f18 ∧ (Tryd.f18.name == "runtime.NumGoroutine") = false := ⟨by kernel_rfl, by kernel_rfl⟩
theorem at19 : Tryd.prog.funcs[19]? = some Tryd.f19 ∧ (Tryd.f19.name == "runtime.NumGoroutine") = false := ⟨by kernel_rfl, by kernel_rfl⟩
theorem at20 : Tryd.prog.funcs[20]? = some Tryd.f20 ∧ (Tryd.f20.name == "runtime.NumGoroutine") = false := ⟨by kernel_rfl, by kernel_rfl⟩
theorem at21 : Tryd.prog.funcs[21]? = some Tryd.f21 ∧ (Tryd.f21.name == "runtime.NumGoroutine") = false := ⟨by kernel_rfl, by kernel_rfl⟩
theorem at22 : Tryd.prog.funcs[22]? = some Tryd.f22 ∧ (Tryd.f22.name == "runtime.NumGoroutine") = false := ⟨by kernel_rfl, by kernel_rfl⟩
theorem at23 : Tryd.prog.funcs[23]? = some Tryd.f23 ∧ (Tryd.f23.name == "runtime.NumGoroutine") = false := ⟨by kernel_rfl, by kernel_rfl⟩
theorem at24 : Tryd.prog.funcs[24]? = some Tryd.f24 ∧ (Tryd.f24.name == "runtime.NumGoroutine") = false := ⟨by kernel_rfl, by kernel_rfl⟩
theorem at25 : Tryd.prog.funcs[25]? = some Tryd.f25 ∧ (Tryd.f25.name == "runtime.NumGoroutine") = false := ⟨by kernel_rfl, by kernel_rfl⟩
theorem at26 : Tryd.prog.funcs[26]? = some Tryd.f26 ∧ (Tryd.f26.name == "runtime.NumGoroutine") = false := ⟨by kernel_rfl, by kernel_rfl⟩
theorem at27 : Tryd.prog.funcs[27]? = some Tryd.f27 ∧ (Tryd.f27.name == "runtime.NumGoroutine") = false := ⟨by kernel_rfl, by kernel_rfl⟩
theorem at28 : Tryd.prog.funcs[28]? = some Tryd.f28 ∧ (Tryd.f28.name == "runtime.NumGoroutine") = false := ⟨by kernel_rfl, by kernel_rfl⟩
theorem at29 : Tryd.prog.funcs[29]? = some Tryd.f29 ∧ (Tryd.f29.name == "runtime.NumGoroutine") = false := ⟨by kernel_rfl, by kernel_rfl⟩
theorem at30 : Tryd.prog.funcs[30]? = some Tryd.f30 ∧ (Tryd.f30.name == "runtime.NumGoroutine") = false := ⟨by kernel_rfl, by kernel_rfl⟩
theorem at31 : Tryd.prog.funcs[31]? = some Tryd.f31 ∧ (Tryd.f31.name == "runtime.NumGoroutine") = false := ⟨by kernel_rfl, by kernel_rfl⟩
theorem at32 : Tryd.prog.funcs[32]? = some Tryd.f32 ∧ (Tryd.f32.name == "runtime.NumGoroutine") = false := ⟨by kernel_rfl, by kernel_rfl⟩
theorem at33 : Tryd.prog.funcs[33]? = some Tryd.f33 ∧ (Tryd.f33.name == "runtime.NumGoroutine") = false := ⟨by kernel_rfl, by kernel_rfl⟩
theorem at34 : Tryd.prog.funcs[34]? = some Tryd.f34 ∧ (Tryd.f34.name == "runtime.NumGoroutine") = false := ⟨by kernel_rfl, by kernel_rfl⟩
theorem at35 : Tryd.prog.funcs[35]? = some Tryd.f35 ∧ (Tryd.f35.name == "runtime.NumGoroutine") = false := ⟨by kernel_rfl, by kernel_rfl⟩
theorem at36 : Tryd.prog.funcs[36]? = some Tryd.f36 ∧ (Tryd.f36.name == "runtime.NumGoroutine") = false := ⟨by kernel_rfl, by kernel_rfl⟩
theorem at37 : Tryd.prog.funcs[37]? = some Tryd.f37 ∧ (Tryd.f37.name == "runtime.NumGoroutine") = false := ⟨by kernel_rfl, by kernel_rfl⟩
theorem at38 : Tryd.prog.funcs[38]? = some Tryd.f38 ∧ (Tryd.f38.name == "runtime.NumGoroutine") = false := ⟨by kernel_rfl, by kernel_rfl⟩
theorem at39 : Tryd.prog.funcs[39]? = some Tryd.f39 ∧ (Tryd.f39.name == "runtime.NumGoroutine") = false := ⟨by kernel_rfl, by kernel_rfl⟩
theorem at40 : Tryd.prog.funcs[40]? = some Tryd.f40 ∧ (Tryd.f40.name == "runtime.NumGoroutine") = false := ⟨by kernel_rfl, by kernel_rfl⟩
theorem at41 : Tryd.prog.funcs[41]? = some Tryd.f41 ∧ (Tryd.f41.name == "runtime.NumGoroutine") = false := ⟨by kernel_rfl, by kernel_rfl⟩
theorem at42 : Tryd.prog.funcs[42]? = some Tryd.f42 ∧ (Tryd.f42.name == "runtime.NumGoroutine") = false := ⟨by kernel_rfl, by kernel_rfl⟩
theorem at43 : Tryd.prog.funcs[43]? = some Tryd.f43 ∧ (Tryd.f43.name == "runtime.NumGoroutine") = false := ⟨by kernel_rfl, by kernel_rfl⟩
theorem at44 : Tryd.prog.funcs[44]? = some Tryd.f44 ∧ (Tryd.f44.name == "runtime.NumGoroutine") = false := ⟨by kernel_rfl, by kernel_rfl⟩
theorem at45 : Tryd.prog.funcs[45]? = some Tryd.f45 ∧ (Tryd.f45.name == "runtime.NumGoroutine") = false := ⟨by kernel_rfl, by kernel_rfl⟩
theorem at46 : Tryd.prog.funcs[46]? = some Tryd.f46 ∧ (Tryd.f46.name == "runtime.NumGoroutine") = false := ⟨by kernel_rfl, by kernel_rfl⟩
theorem at47 : Tryd.prog.funcs[47]? = some Tryd.f47 ∧ (Tryd.f47.name == "runtime.NumGoroutine") = false := ⟨by kernel_rfl, by kernel_rfl⟩
theorem at48 : Tryd.prog.funcs[48]? = some Tryd.f48 ∧ (Tryd.f48.name == "runtime.NumGoroutine") = false := ⟨by kernel_rfl, by kernel_rfl⟩
theorem at49 : Tryd.prog.funcs[49]? = some Tryd.f49 ∧ (Tryd.f49.name == "runtime.NumGoroutine") = false := ⟨by kernel_rfl, by kernel_rfl⟩
theorem at50 : Tryd.prog.funcs[50]? = some Tryd.f50 ∧ (Tryd.f50.name == "runtime.NumGoroutine") = false := ⟨by kernel_rfl, by kernel_rfl⟩
theorem at51 : Tryd.prog.funcs[51]? = some Tryd.f51 ∧ (Tryd.f51.name == "runtime.NumGoroutine") = false := ⟨by kernel_rfl, by kernel_rfl⟩
def tab : List (Nat × PFn) := [(3, pf3), (4, pf4), (5, pf5), (6, pf6), (7, pf7), (8, pf8), (9, pf9), (10, pf10), (11, pf11), (12, pf12), (13, pf13), (14, pf14), (15, pf15), (16, pf16), (17, pf17), (18, pf18), (19, pf19), (20, pf20), (21, pf21), (22, pf22), (23, pf23), (24, pf24), (25, pf25), (26, pf26), (27, pf27), (28, pf28), (29, pf29), (30, pf30), (31, pf31), (32, pf32), (33, pf33), (34, pf34), (35, pf35), (36, pf36), (37, pf37), (38, pf38), (39, pf39), (40, pf40), (41, pf41), (42, pf42), (43, pf43), (44, pf44), (45, pf45), (46, pf46), (47, pf47), (48, pf48), (49, pf49), (50, pf50), (51, pf51)]
theorem tab_ok : TabOK Tryd.prog tab :=
  .cons mixed at3 pf3_eq (.cons mixed at4 pf4_eq (.cons mixed at5 pf5_eq (.cons mixed at6 pf6_eq (.cons mixed at7 pf7_eq (.cons mixed at8 pf8_eq (.cons mixed at9 pf9_eq (.cons mixed at10 pf10_eq (.cons mixed at11 pf11_eq (.cons mixed at12 pf12_eq (.cons mixed at13 pf13_eq (.cons mixed at14 pf14_eq (.cons mixed at15 pf15_eq (.cons mixed at16 pf16_eq (.cons mixed at17 pf17_eq (.cons mixed at18 pf18_eq (.cons mixed at19 pf19_eq (.cons mixed at20 pf20_eq (.cons mixed at21 pf21_eq (.cons mixed at22 pf22_eq (.cons mixed at23 pf23_eq (.cons mixed at24 pf24_eq (.cons mixed at25 pf25_eq (.cons mixed at26 pf26_eq (.cons mixed at27 pf27_eq (.cons mixed at28 pf28_eq (.cons mixed at29 pf29_eq (.cons mixed at30 pf30_eq (.cons mixed at31 pf31_eq (.cons mixed at32 pf32_eq (.cons mixed at33 pf33_eq (.cons mixed at34 pf34_eq (.cons mixed at35 pf35_eq (.cons mixed at36 pf36_eq (.cons mixed at37 pf37_eq (.cons mixed at38 pf38_eq (.cons mixed at39 pf39_eq (.cons mixed at40 pf40_eq (.cons mixed at41 pf41_eq (.cons mixed at42 pf42_eq (.cons mixed at43 pf43_eq (.cons mixed at44 pf44_eq (.cons mixed at45 pf45_eq (.cons mixed at46 pf46_eq (.cons mixed at47 pf47_eq (.cons mixed at48 pf48_eq (.cons mixed at49 pf49_eq (.cons mixed at50 pf50_eq (.cons mixed at51 pf51_eq (.nil)))))))))))))))))))))))))))))))))))))))))))))))))
noncomputable def G0 : Nat → Option Trans := tabG (tget []) (tget tab) 5
theorem G0_ok : GOK Tryd.prog G0 := tabG_ok .nil tab_ok 5
end Go.Proofs.YtncninjgfllcdaaDoor
