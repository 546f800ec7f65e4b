/-
  The programs of the functions that the laws reach, read off the given program by the kernel.
-/
import Derived.Test.YthmofpilphfkcaaDoorProg
import Derived.Test.YthmofpilphfkcaaDoorVcs
namespace Go.Proofs.YthmofpilphfkcaaDoor
open Go Go.Vc
set_option maxRecDepth 100000
theorem mixed : Tryd.prog.follows .mixedOrders = true := by kernel_rfl
/-- corral/corrallaw24.RobOrder  sizes [] -/
def pl3 : Nat → DT := dtGet []
def pf3 : PFn := ⟨109, [.t 4], (.seq (.ops false [⟨(some 4), .mov (.c (.v (.bool false))), none⟩] .done)
  (.seq (.ops false [⟨(some 17), .call 6 [], none⟩,
    ⟨(some 5), .mov (.t 17), none⟩] .done)
  (.seq (.seq (.ops false [⟨(some 18), .mov (.t 5), none⟩,
     ⟨(some 19), .un .not (.t 18), none⟩] .done)
   (.cond (.t 19)
    (.seq (.ops false [⟨(some 4), .mov (.c (.v (.bool false))), none⟩] .done)
     .ret)
    .skip))
  (.seq (.ops false [⟨(some 20), .mov (.t 0), none⟩,
    ⟨(some 21), .call 7 [(.t 20), (.c (.v (.int .i64 40)))], none⟩,
    ⟨(some 22), .bin .add (.t 21) (.c (.v (.int .i64 1))), none⟩,
    ⟨(some 0), .mov (.t 22), none⟩] .done)
  (.seq (.seq (.ops false [⟨(some 23), .mov (.t 1), none⟩,
     ⟨(some 24), .len (.t 23), none⟩,
     ⟨(some 25), .bin .gtr (.t 24) (.c (.v (.int .i64 60))), none⟩,
     ⟨(some 26), .mov (.t 25), none⟩,
     ⟨(some 27), .mov (.t 5), some (26, false)⟩,
     ⟨(some 28), .un .not (.t 27), some (26, false)⟩,
     ⟨(some 29), .pick (.t 26) (.c (.v (.bool true))) (.t 28), none⟩] .done)
   (.cond (.t 29)
    (.seq (.ops false [⟨(some 30), .mov (.t 5), none⟩,
       ⟨(some 4), .mov (.t 30), none⟩] .done)
     .ret)
    .skip))
  (.seq (.ops false [⟨(some 32), .mov (.t 0), none⟩,
    ⟨(some 33), .call 8 [(.t 32)], none⟩,
    ⟨(some 31), .mov (.t 33), none⟩,
    ⟨(some 34), .ext (.t 31) 0, none⟩,
    ⟨(some 35), .ext (.t 31) 1, none⟩,
    ⟨(some 6), .mov (.t 34), none⟩,
    ⟨(some 7), .mov (.t 35), none⟩] .done)
  (.seq (.seq (.ops false [⟨(some 36), .mov (.t 6), none⟩,
     ⟨(some 37), .eqp 0 true false (.t 36) (.c (.v (.pointer none))), none⟩,
     ⟨(some 38), .mov (.t 37), none⟩,
     ⟨(some 39), .mov (.t 7), some (38, false)⟩,
     ⟨(some 40), .eqp 1 true true (.t 39) (.c (.v .nilIface)), some (38, false)⟩,
     ⟨(some 41), .pick (.t 38) (.c (.v (.bool true))) (.t 40), none⟩] .done)
   (.cond (.t 41)
    (.seq (.ops false [⟨(some 4), .mov (.c (.v (.bool false))), none⟩] .done)
     .ret)
    .skip))
  (.seq (.seq (.ops false [⟨(some 8), .mov (.c (.v (.int .i64 0))), none⟩] .done)
   (.block 0 (.loop (.seq (.seq (.ops false [⟨(some 42), .mov (.t 8), none⟩,
        ⟨(some 43), .mov (.t 0), none⟩,
        ⟨(some 44), .bin .lss (.t 42) (.t 43), none⟩] .done)
      (.cond (.t 44)
       .skip
       (.exit 0)))
     (.seq (.block 1 (.seq (.ops false [⟨(some 48), .mov (.t 6), none⟩,
         ⟨(some 49), .call 9 [(.t 48)], none⟩,
         ⟨(some 47), .mov (.t 49), none⟩,
         ⟨(some 50), .ext (.t 47) 0, none⟩,
         ⟨(some 51), .ext (.t 47) 1, none⟩,
         ⟨(some 9), .mov (.t 50), none⟩,
         ⟨(some 10), .mov (.t 51), none⟩] .done)
       (.seq (.ops false [⟨(some 52), .mov (.t 9), none⟩,
         ⟨(some 53), .mov (.t 8), none⟩,
         ⟨(some 54), .bin .neq (.t 52) (.t 53), none⟩,
         ⟨(some 55), .mov (.t 54), none⟩,
         ⟨(some 56), .mov (.t 10), some (55, false)⟩,
         ⟨(some 57), .un .not (.t 56), some (55, false)⟩,
         ⟨(some 58), .pick (.t 55) (.c (.v (.bool true))) (.t 57), none⟩] .done)
       (.cond (.t 58)
        (.seq (.ops false [⟨(some 4), .mov (.c (.v (.bool false))), none⟩] .done)
         .ret)
        .skip))))
     (.ops false [⟨(some 45), .mov (.t 8), none⟩,
      ⟨(some 46), .bin .add (.t 45) (.c (.v (.int .i64 1))), none⟩,
      ⟨(some 8), .mov (.t 46), none⟩] .done))))))
  (.seq (.ops false [⟨(some 59), .mov (.t 0), none⟩,
    ⟨(some 60), .mslice 4 [.bool] [(.bool false)] 1 (.t 59) (.t 59), none⟩,
    ⟨(some 11), .mov (.t 60), none⟩] .done)
  (.seq (.ops false [⟨(some 12), .mov (.c (.v (.int .i64 0))), none⟩] .done)
  (.seq (.seq (.ops false [⟨(some 13), .mov (.c (.v (.int .i64 0))), none⟩] .done)
   (.block 2 (.loop (.seq (.seq (.ops false [⟨(some 61), .mov (.t 13), none⟩,
        ⟨(some 62), .mov (.t 1), none⟩,
        ⟨(some 63), .len (.t 62), none⟩,
        ⟨(some 64), .bin .lss (.t 61) (.t 63), none⟩] .done)
      (.cond (.t 64)
       .skip
       (.exit 2)))
     (.seq (.block 3 (.seq (.ops false [⟨(some 67), .mov (.t 1), none⟩,
         ⟨(some 68), .mov (.t 13), none⟩,
         ⟨(some 69), .idx 1 (.t 67) (.t 68), none⟩,
         ⟨(some 70), .load none (.t 69), none⟩,
         ⟨(some 71), .mov (.t 0), none⟩,
         ⟨(some 72), .call 7 [(.t 70), (.t 71)], none⟩,
         ⟨(some 14), .mov (.t 72), none⟩] .done)
       (.seq (.ops false [⟨(some 73), .mov (.t 6), none⟩,
         ⟨(some 74), .mov (.t 14), none⟩,
         ⟨(some 75), .bslice 3 [.int .i64] 1 [(.v (.int .i64 0))] [(0, 1, (.t 74))], none⟩,
         ⟨(some 76), .call 10 [(.t 73), (.t 75)], none⟩] .done)
       (.seq (.ops false [⟨(some 77), .mov (.t 11), none⟩,
         ⟨(some 78), .mov (.t 14), none⟩,
         ⟨(some 79), .idx 1 (.t 77) (.t 78), none⟩,
         ⟨none, .store 1 (.t 79) (.c (.v (.bool true))), none⟩] .done)
       (.block 4 (.loop (.block 5 (.seq (.ops false [⟨(some 81), .mov (.t 6), none⟩,
            ⟨(some 82), .call 11 [(.t 81)], none⟩,
            ⟨(some 80), .mov (.t 82), none⟩,
            ⟨(some 83), .ext (.t 80) 0, none⟩,
            ⟨(some 84), .ext (.t 80) 1, none⟩,
            ⟨(some 15), .mov (.t 83), none⟩,
            ⟨(some 16), .mov (.t 84), none⟩] .done)
          (.seq (.seq (.ops false [⟨(some 85), .mov (.t 16), none⟩,
             ⟨(some 86), .mov (.t 12), none⟩,
             ⟨(some 87), .mov (.t 0), none⟩,
             ⟨(some 88), .bin .lss (.t 86) (.t 87), none⟩,
             ⟨(some 89), .mov (.t 88), none⟩,
             ⟨(some 90), .mov (.t 11), some (89, true)⟩,
             ⟨(some 91), .mov (.t 12), some (89, true)⟩,
             ⟨(some 92), .idx 1 (.t 90) (.t 91), some (89, true)⟩,
             ⟨(some 93), .load none (.t 92), some (89, true)⟩,
             ⟨(some 94), .pick (.t 89) (.t 93) (.c (.v (.bool false))), none⟩,
             ⟨(some 95), .eqb true (.t 85) (.t 94), none⟩] .done)
           (.cond (.t 95)
            (.seq (.ops false [⟨(some 4), .mov (.c (.v (.bool false))), none⟩] .done)
             .ret)
            .skip))
          (.seq (.seq (.ops false [⟨(some 96), .mov (.t 16), none⟩,
             ⟨(some 97), .un .not (.t 96), none⟩] .done)
           (.cond (.t 97)
            (.exit 4)
            .skip))
          (.seq (.seq (.ops false [⟨(some 98), .mov (.t 15), none⟩,
             ⟨(some 99), .mov (.t 12), none⟩,
             ⟨(some 100), .bin .neq (.t 98) (.t 99), none⟩] .done)
           (.cond (.t 100)
            (.seq (.ops false [⟨(some 4), .mov (.c (.v (.bool false))), none⟩] .done)
             .ret)
            .skip))
          (.ops false [⟨(some 101), .mov (.t 12), none⟩,
           ⟨(some 102), .bin .add (.t 101) (.c (.v (.int .i64 1))), none⟩,
           ⟨(some 12), .mov (.t 102), none⟩] .done))))))))))))
     (.ops false [⟨(some 65), .mov (.t 13), none⟩,
      ⟨(some 66), .bin .add (.t 65) (.c (.v (.int .i64 1))), none⟩,
      ⟨(some 13), .mov (.t 66), none⟩] .done))))))
  (.seq (.ops false [⟨(some 103), .mov (.t 6), none⟩,
    ⟨(some 104), .call 12 [(.t 103)], none⟩,
    ⟨(some 105), .mov (.t 0), none⟩,
    ⟨(some 106), .mov (.t 12), none⟩,
    ⟨(some 107), .bin .sub (.t 105) (.t 106), none⟩,
    ⟨(some 108), .bin .eql (.t 104) (.t 107), none⟩,
    ⟨(some 4), .mov (.t 108), none⟩] .done)
  .ret))))))))))))⟩
theorem pf3_eq : (Tryd.f3.body.map fun c => (cfn Tryd.prog pl3 Tryd.f3 c, guardsAll pl3 c)) = some (pf3, true) := by kernel_rfl

/-- corral/corrallaw24.RobCuts  sizes [] -/
def pl4 : Nat → DT := dtGet []
def pf4 : PFn := ⟨138, [.t 6], (.seq (.ops false [⟨(some 6), .mov (.c (.v (.bool false))), none⟩] .done)
  (.seq (.ops false [⟨(some 17), .call 6 [], none⟩,
    ⟨(some 7), .mov (.t 17), none⟩] .done)
  (.seq (.seq (.ops false [⟨(some 18), .mov (.t 7), none⟩,
     ⟨(some 19), .un .not (.t 18), none⟩] .done)
   (.cond (.t 19)
    (.seq (.ops false [⟨(some 6), .mov (.c (.v (.bool false))), none⟩] .done)
     .ret)
    .skip))
  (.seq (.ops false [⟨(some 20), .mov (.t 0), none⟩,
    ⟨(some 21), .call 7 [(.t 20), (.c (.v (.int .i64 40)))], none⟩,
    ⟨(some 22), .bin .add (.t 21) (.c (.v (.int .i64 1))), none⟩,
    ⟨(some 0), .mov (.t 22), none⟩] .done)
  (.seq (.ops false [⟨(some 23), .mov (.t 1), none⟩,
    ⟨(some 24), .mov (.t 0), none⟩,
    ⟨(some 25), .bin .add (.t 24) (.c (.v (.int .i64 1))), none⟩,
    ⟨(some 26), .call 7 [(.t 23), (.t 25)], none⟩,
    ⟨(some 27), .bin .sub (.t 26) (.c (.v (.int .i64 1))), none⟩,
    ⟨(some 1), .mov (.t 27), none⟩] .done)
  (.seq (.ops false [⟨(some 28), .mov (.t 2), none⟩,
    ⟨(some 29), .call 7 [(.t 28), (.c (.v (.int .i64 10)))], none⟩,
    ⟨(some 2), .mov (.t 29), none⟩] .done)
  (.seq (.ops false [⟨(some 31), .call 8 [(.c (.v (.int .i64 64)))], none⟩,
    ⟨(some 30), .mov (.t 31), none⟩,
    ⟨(some 32), .ext (.t 30) 0, none⟩,
    ⟨(some 33), .ext (.t 30) 1, none⟩,
    ⟨(some 8), .mov (.t 32), none⟩,
    ⟨(some 9), .mov (.t 33), none⟩] .done)
  (.seq (.seq (.ops false [⟨(some 34), .mov (.t 8), none⟩,
     ⟨(some 35), .eqp 0 true false (.t 34) (.c (.v (.pointer none))), none⟩,
     ⟨(some 36), .mov (.t 35), none⟩,
     ⟨(some 37), .mov (.t 9), some (36, false)⟩,
     ⟨(some 38), .eqp 1 true true (.t 37) (.c (.v .nilIface)), some (36, false)⟩,
     ⟨(some 39), .pick (.t 36) (.c (.v (.bool true))) (.t 38), none⟩] .done)
   (.cond (.t 39)
    (.seq (.ops false [⟨(some 6), .mov (.c (.v (.bool false))), none⟩] .done)
     .ret)
    .skip))
  (.seq (.seq (.ops false [⟨(some 10), .mov (.c (.v (.int .i64 0))), none⟩] .done)
   (.block 0 (.loop (.seq (.seq (.ops false [⟨(some 40), .mov (.t 10), none⟩,
        ⟨(some 41), .mov (.t 0), none⟩,
        ⟨(some 42), .bin .lss (.t 40) (.t 41), none⟩] .done)
      (.cond (.t 42)
       .skip
       (.exit 0)))
     (.seq (.block 1 (.ops false [⟨(some 45), .mov (.t 8), none⟩,
        ⟨(some 46), .call 9 [(.t 45)], none⟩] .done))
     (.ops false [⟨(some 43), .mov (.t 10), none⟩,
      ⟨(some 44), .bin .add (.t 43) (.c (.v (.int .i64 1))), none⟩,
      ⟨(some 10), .mov (.t 44), none⟩] .done))))))
  (.seq (.ops false [⟨(some 47), .mov (.t 8), none⟩,
    ⟨(some 48), .mov (.t 1), none⟩,
    ⟨(some 49), .call 13 [(.t 47), (.t 48)], none⟩,
    ⟨(some 11), .mov (.t 49), none⟩] .done)
  (.seq (.seq (.ops false [⟨(some 50), .mov (.t 11), none⟩,
     ⟨(some 51), .len (.t 50), none⟩,
     ⟨(some 52), .mov (.t 0), none⟩,
     ⟨(some 53), .bin .sub (.t 52) (.c (.v (.int .i64 1))), none⟩,
     ⟨(some 54), .mov (.t 1), none⟩,
     ⟨(some 55), .bin .sub (.t 53) (.t 54), none⟩,
     ⟨(some 56), .bin .neq (.t 51) (.t 55), none⟩] .done)
   (.cond (.t 56)
    (.seq (.ops false [⟨(some 6), .mov (.c (.v (.bool false))), none⟩] .done)
     .ret)
    .skip))
  (.seq (.seq (.ops false [⟨(some 12), .mov (.c (.v (.int .i64 0))), none⟩] .done)
   (.block 2 (.loop (.seq (.seq (.ops false [⟨(some 57), .mov (.t 12), none⟩,
        ⟨(some 58), .mov (.t 11), none⟩,
        ⟨(some 59), .len (.t 58), none⟩,
        ⟨(some 60), .bin .lss (.t 57) (.t 59), none⟩] .done)
      (.cond (.t 60)
       .skip
       (.exit 2)))
     (.seq (.block 3 (.seq (.ops false [⟨(some 63), .mov (.t 11), none⟩,
         ⟨(some 64), .mov (.t 12), none⟩,
         ⟨(some 65), .idx 1 (.t 63) (.t 64), none⟩,
         ⟨(some 66), .load none (.t 65), none⟩,
         ⟨(some 67), .mov (.t 0), none⟩,
         ⟨(some 68), .bin .sub (.t 67) (.c (.v (.int .i64 1))), none⟩,
         ⟨(some 69), .mov (.t 12), none⟩,
         ⟨(some 70), .bin .sub (.t 68) (.t 69), none⟩,
         ⟨(some 71), .bin .neq (.t 66) (.t 70), none⟩] .done)
       (.cond (.t 71)
        (.seq (.ops false [⟨(some 6), .mov (.c (.v (.bool false))), none⟩] .done)
         .ret)
        .skip)))
     (.ops false [⟨(some 61), .mov (.t 12), none⟩,
      ⟨(some 62), .bin .add (.t 61) (.c (.v (.int .i64 1))), none⟩,
      ⟨(some 12), .mov (.t 62), none⟩] .done))))))
  (.seq (.seq (.ops false [⟨(some 13), .mov (.c (.v (.int .i64 0))), none⟩] .done)
   (.block 4 (.loop (.seq (.seq (.ops false [⟨(some 72), .mov (.t 13), none⟩,
        ⟨(some 73), .mov (.t 2), none⟩,
        ⟨(some 74), .bin .lss (.t 72) (.t 73), none⟩] .done)
      (.cond (.t 74)
       .skip
       (.exit 4)))
     (.seq (.block 5 (.seq (.ops false [⟨(some 78), .mov (.t 8), none⟩,
         ⟨(some 79), .call 9 [(.t 78)], none⟩,
         ⟨(some 77), .mov (.t 79), none⟩,
         ⟨(some 80), .ext (.t 77) 0, none⟩,
         ⟨(some 81), .ext (.t 77) 1, none⟩,
         ⟨(some 14), .mov (.t 80), none⟩,
         ⟨(some 15), .mov (.t 81), none⟩] .done)
       (.seq (.ops false [⟨(some 82), .mov (.t 15), none⟩,
         ⟨(some 83), .un .not (.t 82), none⟩,
         ⟨(some 84), .mov (.t 83), none⟩,
         ⟨(some 85), .mov (.t 14), some (84, false)⟩,
         ⟨(some 86), .mov (.t 0), some (84, false)⟩,
         ⟨(some 87), .mov (.t 13), some (84, false)⟩,
         ⟨(some 88), .bin .add (.t 86) (.t 87), some (84, false)⟩,
         ⟨(some 89), .bin .neq (.t 85) (.t 88), some (84, false)⟩,
         ⟨(some 90), .pick (.t 84) (.c (.v (.bool true))) (.t 89), none⟩] .done)
       (.cond (.t 90)
        (.seq (.ops false [⟨(some 6), .mov (.c (.v (.bool false))), none⟩] .done)
         .ret)
        .skip))))
     (.ops false [⟨(some 75), .mov (.t 13), none⟩,
      ⟨(some 76), .bin .add (.t 75) (.c (.v (.int .i64 1))), none⟩,
      ⟨(some 13), .mov (.t 76), none⟩] .done))))))
  (.seq (.ops false [⟨(some 91), .mov (.t 8), none⟩,
    ⟨(some 92), .call 14 [(.t 91)], none⟩,
    ⟨(some 16), .mov (.t 92), none⟩] .done)
  (.seq (.ops false [⟨(some 93), .mov (.t 7), none⟩,
    ⟨(some 94), .mov (.t 93), none⟩,
    ⟨(some 95), .mov (.t 16), some (94, true)⟩,
    ⟨(some 96), .len (.t 95), some (94, true)⟩,
    ⟨(some 97), .mov (.t 1), some (94, true)⟩,
    ⟨(some 98), .bin .add (.t 97) (.c (.v (.int .i64 1))), some (94, true)⟩,
    ⟨(some 99), .mov (.t 2), some (94, true)⟩,
    ⟨(some 100), .bin .add (.t 98) (.t 99), some (94, true)⟩,
    ⟨(some 101), .bin .eql (.t 96) (.t 100), some (94, true)⟩,
    ⟨(some 102), .pick (.t 94) (.t 101) (.c (.v (.bool false))), none⟩,
    ⟨(some 103), .mov (.t 102), none⟩,
    ⟨(some 104), .mov (.t 2), some (103, true)⟩,
    ⟨(some 105), .bin .eql (.t 104) (.c (.v (.int .i64 0))), some (103, true)⟩,
    ⟨(some 106), .mov (.t 105), some (103, true)⟩,
    ⟨(some 107), .mov (.t 16), some (106, false)⟩,
    ⟨(some 108), .mov (.t 16), some (106, false)⟩,
    ⟨(some 109), .len (.t 108), some (106, false)⟩,
    ⟨(some 110), .bin .sub (.t 109) (.c (.v (.int .i64 1))), some (106, false)⟩,
    ⟨(some 111), .idx 1 (.t 107) (.t 110), some (106, false)⟩,
    ⟨(some 112), .load none (.t 111), some (106, false)⟩,
    ⟨(some 113), .mov (.t 0), some (106, false)⟩,
    ⟨(some 114), .mov (.t 2), some (106, false)⟩,
    ⟨(some 115), .bin .add (.t 113) (.t 114), some (106, false)⟩,
    ⟨(some 116), .bin .sub (.t 115) (.c (.v (.int .i64 1))), some (106, false)⟩,
    ⟨(some 117), .bin .eql (.t 112) (.t 116), some (106, false)⟩,
    ⟨(some 118), .pick (.t 106) (.c (.v (.bool true))) (.t 117), some (103, true)⟩,
    ⟨(some 119), .pick (.t 103) (.t 118) (.c (.v (.bool false))), none⟩,
    ⟨(some 120), .mov (.t 119), none⟩,
    ⟨(some 121), .mov (.t 8), some (120, true)⟩,
    ⟨(some 122), .mov (.t 0), some (120, true)⟩,
    ⟨(some 123), .bin .add (.t 122) (.c (.v (.int .i64 100))), some (120, true)⟩,
    ⟨(some 124), .call 13 [(.t 121), (.t 123)], some (120, true)⟩,
    ⟨(some 125), .len (.t 124), some (120, true)⟩,
    ⟨(some 126), .bin .eql (.t 125) (.c (.v (.int .i64 0))), some (120, true)⟩,
    ⟨(some 127), .pick (.t 120) (.t 126) (.c (.v (.bool false))), none⟩,
    ⟨(some 128), .mov (.t 127), none⟩,
    ⟨(some 129), .mov (.t 8), some (128, true)⟩,
    ⟨(some 130), .mov (.t 0), some (128, true)⟩,
    ⟨(some 131), .bin .add (.t 130) (.c (.v (.int .i64 100))), some (128, true)⟩,
    ⟨(some 132), .bslice 3 [.int .i64] 1 [(.v (.int .i64 0))] [(0, 1, (.t 131))], some (128, true)⟩,
    ⟨(some 133), .call 10 [(.t 129), (.t 132)], some (128, true)⟩,
    ⟨(some 134), .bin .eql (.t 133) (.c (.v (.int .i64 0))), some (128, true)⟩,
    ⟨(some 135), .pick (.t 128) (.t 134) (.c (.v (.bool false))), none⟩,
    ⟨(some 136), .mov (.t 135), none⟩,
    ⟨(some 137), .pick (.t 136) (.c (.v (.bool true))) (.c (.v (.bool false))), none⟩,
    ⟨(some 6), .mov (.t 137), none⟩] .done)
  .ret)))))))))))))))⟩
theorem pf4_eq : (Tryd.f4.body.map fun c => (cfn Tryd.prog pl4 Tryd.f4 c, guardsAll pl4 c)) = some (pf4, true) := by kernel_rfl

/-- corral/corrallaw24.RobPlays  sizes [(27, 10), (19, 11), (40, 49)] -/
def pl5 : Nat → DT := dtGet [(27, (.take 0 [0, 3, 7, 8] (.take 1 [1, 2, 3, 7, 8] (.take 2 [2, 3, 7, 8] (.take 4 [4, 7, 8] (.take 5 [5, 6, 7, 8] (.take 6 [6, 7, 8] (.eff false 3 (.eff false 7 (.take 8 [8] .done)))))))))), (19, (.take 0 [0, 3, 7, 8, 9] (.take 1 [1, 2, 3, 7, 8, 9] (.take 2 [2, 3, 7, 8, 9] (.take 4 [4, 7, 8, 9] (.take 5 [5, 6, 7, 8, 9] (.take 6 [6, 7, 8, 9] (.eff false 3 (.eff false 7 (.eff true 8 (.take 9 [9] .done))))))))))), (40, (.take 0 [0, 2, 3, 4, 5, 6, 7, 8, 9, 10, 11, 12, 13, 14, 15, 16, 17, 18, 19, 20, 21, 22, 23, 24, 25, 26, 27, 28, 29, 30, 31, 32, 33, 34, 35, 36, 37, 38, 39, 40, 41, 42, 43, 44, 45, 46, 47] (.take 1 [1, 2, 3, 4, 5, 6, 7, 8, 9, 10, 11, 12, 13, 14, 15, 16, 17, 18, 19, 20, 21, 22, 23, 24, 25, 26, 27, 28, 29, 30, 31, 32, 33, 34, 35, 36, 37, 38, 39, 40, 41, 42, 43, 44, 45, 46, 47] (.take 2 [2, 3, 4, 5, 6, 7, 8, 9, 10, 11, 12, 13, 14, 15, 16, 17, 18, 19, 20, 21, 22, 23, 24, 25, 26, 27, 28, 29, 30, 31, 32, 33, 34, 35, 36, 37, 38, 39, 40, 41, 42, 43, 44, 45, 46, 47] (.take 3 [3, 4, 5, 6, 7, 8, 9, 10, 11, 12, 13, 14, 15, 16, 17, 18, 19, 20, 21, 22, 23, 24, 25, 26, 27, 28, 29, 30, 31, 32, 33, 34, 35, 36, 37, 38, 39, 40, 41, 42, 43, 44, 45, 46, 47] (.take 4 [4, 6, 7, 8, 9, 10, 11, 12, 13, 14, 15, 16, 17, 18, 19, 20, 21, 22, 23, 24, 25, 26, 27, 28, 29, 30, 31, 32, 33, 34, 35, 36, 37, 38, 39, 40, 41, 42, 43, 44, 45, 46, 47] (.take 5 [5, 6, 7, 8, 9, 10, 11, 12, 13, 14, 15, 16, 17, 18, 19, 20, 21, 22, 23, 24, 25, 26, 27, 28, 29, 30, 31, 32, 33, 34, 35, 36, 37, 38, 39, 40, 41, 42, 43, 44, 45, 46, 47] (.take 6 [6, 7, 8, 9, 10, 11, 12, 13, 14, 15, 16, 17, 18, 19, 20, 21, 22, 23, 24, 25, 26, 27, 28, 29, 30, 31, 32, 33, 34, 35, 36, 37, 38, 39, 40, 41, 42, 43, 44, 45, 46, 47] (.take 7 [7, 8, 9, 10, 11, 12, 13, 14, 15, 16, 17, 18, 19, 20, 21, 22, 23, 24, 25, 26, 27, 28, 29, 30, 31, 32, 33, 34, 35, 36, 37, 38, 39, 40, 41, 42, 43, 44, 45, 46, 47] (.take 8 [8, 9, 10, 11, 12, 13, 14, 15, 16, 17, 18, 19, 20, 21, 22, 23, 24, 25, 26, 27, 28, 29, 30, 31, 32, 33, 34, 35, 36, 37, 38, 39, 40, 41, 42, 43, 44, 45, 46, 47] (.take 9 [9, 16, 17, 18, 19, 20, 21, 22, 23, 24, 25, 26, 27, 28, 29, 30, 31, 32, 33, 34, 35, 36, 37, 38, 39, 40, 41, 42, 43, 44, 45, 46, 47] (.take 10 [10, 11, 12, 13, 14, 15, 16, 17, 18, 19, 20, 21, 22, 23, 24, 25, 26, 27, 28, 29, 30, 31, 32, 33, 34, 35, 36, 37, 38, 39, 40, 41, 42, 43, 44, 45, 46, 47] (.take 11 [11, 12, 13, 14, 15, 16, 17, 18, 19, 20, 21, 22, 23, 24, 25, 26, 27, 28, 29, 30, 31, 32, 33, 34, 35, 36, 37, 38, 39, 40, 41, 42, 43, 44, 45, 46, 47] (.take 12 [12, 13, 14, 15, 16, 17, 18, 19, 20, 21, 22, 23, 24, 25, 26, 27, 28, 29, 30, 31, 32, 33, 34, 35, 36, 37, 38, 39, 40, 41, 42, 43, 44, 45, 46, 47] (.take 13 [13, 14, 15, 16, 17, 18, 19, 20, 21, 22, 23, 24, 25, 26, 27, 28, 29, 30, 31, 32, 33, 34, 35, 36, 37, 38, 39, 40, 41, 42, 43, 44, 45, 46, 47] (.take 14 [14, 15, 16, 17, 18, 19, 20, 21, 22, 23, 24, 25, 26, 27, 28, 29, 30, 31, 32, 33, 34, 35, 36, 37, 38, 39, 40, 41, 42, 43, 44, 45, 46, 47] (.take 15 [15, 16, 17, 18, 19, 20, 21, 22, 23, 24, 25, 26, 27, 28, 29, 30, 31, 32, 33, 34, 35, 36, 37, 38, 39, 40, 41, 42, 43, 44, 45, 46, 47] (.take 16 [16, 17, 18, 19, 20, 21, 22, 23, 24, 25, 26, 27, 28, 29, 30, 31, 32, 33, 34, 35, 36, 37, 38, 39, 40, 41, 42, 43, 44, 45, 46, 47] (.take 17 [17, 18, 19, 20, 21, 22, 23, 24, 25, 26, 27, 28, 29, 30, 31, 32, 33, 34, 35, 36, 37, 38, 39, 40, 41, 42, 43, 44, 45, 46, 47] (.take 18 [18, 19, 20, 21, 22, 23, 24, 25, 26, 27, 28, 29, 30, 31, 32, 33, 34, 35, 36, 37, 38, 39, 40, 41, 42, 43, 44, 45, 46, 47] (.take 19 [19, 20, 26, 28, 27, 29, 30, 31, 32, 33, 34, 35, 36, 37, 38, 39, 40, 41, 42, 43, 44, 45, 46, 47] (.take 21 [21, 22, 23, 24, 25, 26, 27, 28, 29, 30, 31, 32, 33, 34, 35, 36, 37, 38, 39, 40, 41, 42, 43, 44, 45, 46, 47] (.take 22 [22, 23, 24, 25, 26, 27, 28, 29, 30, 31, 32, 33, 34, 35, 36, 37, 38, 39, 40, 41, 42, 43, 44, 45, 46, 47] (.take 23 [23, 24, 25, 26, 27, 28, 29, 30, 31, 32, 33, 34, 35, 36, 37, 38, 39, 40, 41, 42, 43, 44, 45, 46, 47] (.take 24 [24, 25, 26, 27, 28, 29, 30, 31, 32, 33, 34, 35, 36, 37, 38, 39, 40, 41, 42, 43, 44, 45, 46, 47] (.take 25 [25, 26, 27, 28, 29, 30, 31, 32, 33, 34, 35, 36, 37, 38, 39, 40, 41, 42, 43, 44, 45, 46, 47] (.eff true 20 (.take 26 [26, 27, 28, 29, 30, 31, 32, 33, 34, 35, 36, 37, 38, 39, 40, 41, 42, 43, 44, 45, 46, 47] (.take 27 [27, 28, 29, 30, 31, 32, 33, 34, 35, 36, 37, 38, 39, 40, 41, 42, 43, 44, 45, 46, 47] (.take 28 [28, 29, 30, 31, 32, 33, 34, 35, 36, 37, 38, 39, 40, 41, 42, 43, 44, 45, 46, 47] (.take 29 [29, 30, 38, 40, 39, 41, 42, 43, 44, 45, 46, 47] (.take 31 [31, 37, 38, 39, 40, 41, 42, 43, 44, 45, 46, 47] (.take 32 [32, 33, 34, 35, 36, 37, 38, 39, 40, 41, 42, 43, 44, 45, 46, 47] (.take 33 [33, 34, 35, 36, 37, 38, 39, 40, 41, 42, 43, 44, 45, 46, 47] (.take 34 [34, 35, 36, 37, 38, 39, 40, 41, 42, 43, 44, 45, 46, 47] (.take 35 [35, 36, 37, 38, 39, 40, 41, 42, 43, 44, 45, 46, 47] (.take 36 [36, 37, 38, 39, 40, 41, 42, 43, 44, 45, 46, 47] (.take 37 [37, 38, 39, 40, 41, 42, 43, 44, 45, 46, 47] (.eff true 30 (.take 38 [38, 39, 40, 41, 42, 43, 44, 45, 46, 47] (.take 39 [39, 40, 41, 42, 43, 44, 45, 46, 47] (.take 40 [40, 41, 42, 43, 44, 45, 46, 47] (.take 41 [41, 42, 44, 45, 46, 47] (.take 43 [43, 44, 45, 46, 47] (.eff true 42 (.eff true 44 (.eff true 45 (.take 46 [46, 47] (.take 47 [47] .done)))))))))))))))))))))))))))))))))))))))))))))))))]
def pf5 : PFn := ⟨212, [.t 4], (.seq (.ops false [⟨(some 4), .mov (.c (.v (.bool false))), none⟩] .done)
  (.seq (.ops false [⟨(some 24), .call 6 [], none⟩,
    ⟨(some 5), .mov (.t 24), none⟩] .done)
  (.seq (.seq (.ops false [⟨(some 25), .mov (.t 5), none⟩,
     ⟨(some 26), .un .not (.t 25), none⟩] .done)
   (.cond (.t 26)
    (.seq (.ops false [⟨(some 4), .mov (.c (.v (.bool false))), none⟩] .done)
     .ret)
    .skip))
  (.seq (.seq (.ops false [⟨(some 27), .mov (.t 1), none⟩,
     ⟨(some 28), .len (.t 27), none⟩,
     ⟨(some 29), .bin .gtr (.t 28) (.c (.v (.int .i64 100))), none⟩,
     ⟨(some 30), .mov (.t 29), none⟩,
     ⟨(some 31), .mov (.t 5), some (30, false)⟩,
     ⟨(some 32), .un .not (.t 31), some (30, false)⟩,
     ⟨(some 33), .pick (.t 30) (.c (.v (.bool true))) (.t 32), none⟩] .done)
   (.cond (.t 33)
    (.seq (.ops false [⟨(some 34), .mov (.t 5), none⟩,
       ⟨(some 4), .mov (.t 34), none⟩] .done)
     .ret)
    .skip))
  (.seq (.ops false [⟨(some 36), .mov (.t 0), none⟩,
    ⟨(some 37), .call 8 [(.t 36)], none⟩,
    ⟨(some 35), .mov (.t 37), none⟩,
    ⟨(some 38), .ext (.t 35) 0, none⟩,
    ⟨(some 39), .ext (.t 35) 1, none⟩,
    ⟨(some 6), .mov (.t 38), none⟩,
    ⟨(some 7), .mov (.t 39), none⟩] .done)
  (.seq (.seq (.ops false [⟨(some 40), .mov (.t 0), none⟩,
     ⟨(some 41), .bin .lss (.t 40) (.c (.v (.int .i64 1))), none⟩,
     ⟨(some 42), .mov (.t 41), none⟩,
     ⟨(some 43), .mov (.t 0), some (42, false)⟩,
     ⟨(some 44), .bin .gtr (.t 43) (.c (.v (.int .i64 128))), some (42, false)⟩,
     ⟨(some 45), .pick (.t 42) (.c (.v (.bool true))) (.t 44), none⟩] .done)
   (.cond (.t 45)
    (.seq (.ops false [⟨(some 46), .mov (.t 6), none⟩,
       ⟨(some 47), .eqp 0 true false (.t 46) (.c (.v (.pointer none))), none⟩,
       ⟨(some 48), .mov (.t 47), none⟩,
       ⟨(some 49), .mov (.t 7), some (48, true)⟩,
       ⟨(some 50), .call 15 [(.t 49), (.c (.v (.int .i64 106)))], some (48, true)⟩,
       ⟨(some 51), .pick (.t 48) (.t 50) (.c (.v (.bool false))), none⟩,
       ⟨(some 4), .mov (.t 51), none⟩] .done)
     .ret)
    .skip))
  (.seq (.seq (.ops false [⟨(some 52), .mov (.t 6), none⟩,
     ⟨(some 53), .eqp 0 true false (.t 52) (.c (.v (.pointer none))), none⟩,
     ⟨(some 54), .mov (.t 53), none⟩,
     ⟨(some 55), .mov (.t 7), some (54, false)⟩,
     ⟨(some 56), .eqp 1 true true (.t 55) (.c (.v .nilIface)), some (54, false)⟩,
     ⟨(some 57), .pick (.t 54) (.c (.v (.bool true))) (.t 56), none⟩] .done)
   (.cond (.t 57)
    (.seq (.ops false [⟨(some 4), .mov (.c (.v (.bool false))), none⟩] .done)
     .ret)
    .skip))
  (.seq (.ops false [⟨(some 58), .mov (.t 0), none⟩,
    ⟨(some 59), .build [(.v (.int .i64 0)), (.v (.int .i64 0)), (.v (.slice none 0 0))] [(0, 1, (.t 58))], none⟩,
    ⟨(some 60), .box 44 (.t 59), none⟩,
    ⟨(some 8), .mov (.t 60), none⟩] .done)
  (.seq (.seq (.ops false [⟨(some 9), .mov (.c (.v (.int .i64 0))), none⟩] .done)
   (.block 0 (.loop (.seq (.seq (.ops false [⟨(some 61), .mov (.t 9), none⟩,
        ⟨(some 62), .mov (.t 1), none⟩,
        ⟨(some 63), .len (.t 62), none⟩,
        ⟨(some 64), .bin .lss (.t 61) (.t 63), none⟩] .done)
      (.cond (.t 64)
       .skip
       (.exit 0)))
     (.seq (.block 1 (.seq (.ops false [⟨(some 67), .mov (.t 1), none⟩,
         ⟨(some 68), .mov (.t 9), none⟩,
         ⟨(some 69), .idx 3 (.t 67) (.t 68), none⟩,
         ⟨(some 70), .load (some 3) (.t 69), none⟩,
         ⟨(some 10), .box 46 (.c (.agg [(.v (.int .i64 0)), (.v (.int .i64 0)), (.v (.slice none 0 0))])), none⟩,
         ⟨none, .store 3 (.t 10) (.t 70), none⟩] .done)
       (.seq (.seq (.ops false [⟨(some 71), .fld 2 (.t 10), none⟩,
          ⟨(some 72), .load none (.t 71), none⟩,
          ⟨(some 73), .len (.t 72), none⟩,
          ⟨(some 74), .bin .gtr (.t 73) (.c (.v (.int .i64 20))), none⟩] .done)
        (.cond (.t 74)
         (.seq (.ops false [⟨(some 4), .mov (.c (.v (.bool true))), none⟩] .done)
          .ret)
         .skip))
       (.seq (.seq (.ops false [⟨(some 75), .fld 0 (.t 10), none⟩,
          ⟨(some 76), .load none (.t 75), none⟩] .done)
        (.block 2 (.seq (.ops false [⟨(some 88), .bin .eql (.t 76) (.c (.v (.int .i64 1))), none⟩,
           ⟨(some 87), .mov (.t 88), none⟩] .done)
         (.cond (.t 87)
          (.seq (.ops false [⟨(some 90), .mov (.t 6), none⟩,
             ⟨(some 91), .call 9 [(.t 90)], none⟩,
             ⟨(some 89), .mov (.t 91), none⟩,
             ⟨(some 92), .ext (.t 89) 0, none⟩,
             ⟨(some 93), .ext (.t 89) 1, none⟩,
             ⟨(some 11), .mov (.t 92), none⟩,
             ⟨(some 12), .mov (.t 93), none⟩] .done)
           (.seq (.ops false [⟨(some 95), .mov (.t 8), none⟩,
             ⟨(some 96), .call 16 [(.t 95)], none⟩,
             ⟨(some 94), .mov (.t 96), none⟩,
             ⟨(some 97), .ext (.t 94) 0, none⟩,
             ⟨(some 98), .ext (.t 94) 1, none⟩,
             ⟨(some 13), .mov (.t 97), none⟩,
             ⟨(some 14), .mov (.t 98), none⟩] .done)
           (.seq (.ops false [⟨(some 99), .mov (.t 11), none⟩,
             ⟨(some 100), .mov (.t 13), none⟩,
             ⟨(some 101), .bin .neq (.t 99) (.t 100), none⟩,
             ⟨(some 102), .mov (.t 101), none⟩,
             ⟨(some 103), .mov (.t 12), some (102, false)⟩,
             ⟨(some 104), .mov (.t 14), some (102, false)⟩,
             ⟨(some 105), .eqb true (.t 103) (.t 104), some (102, false)⟩,
             ⟨(some 106), .pick (.t 102) (.c (.v (.bool true))) (.t 105), none⟩] .done)
           (.cond (.t 106)
            (.seq (.ops false [⟨(some 4), .mov (.c (.v (.bool false))), none⟩] .done)
             .ret)
            .skip))))
          (.seq (.ops false [⟨(some 108), .bin .eql (.t 76) (.c (.v (.int .i64 2))), none⟩,
             ⟨(some 107), .mov (.t 108), none⟩] .done)
           (.cond (.t 107)
            (.seq (.ops true [⟨(some 109), .mov (.t 6), none⟩,
               ⟨(some 110), .fld 2 (.t 10), none⟩,
               ⟨(some 111), .load none (.t 110), none⟩,
               ⟨(some 112), .call 10 [(.t 109), (.t 111)], none⟩,
               ⟨(some 113), .mov (.t 8), none⟩,
               ⟨(some 114), .fld 2 (.t 10), none⟩,
               ⟨(some 115), .load none (.t 114), none⟩,
               ⟨(some 116), .call 17 [(.t 113), (.t 115)], none⟩,
               ⟨(some 117), .bin .neq (.t 112) (.t 116), none⟩] (.take 0 [0, 3, 7, 8] (.take 1 [1, 2, 3, 7, 8] (.take 2 [2, 3, 7, 8] (.take 4 [4, 7, 8] (.take 5 [5, 6, 7, 8] (.take 6 [6, 7, 8] (.eff false 3 (.eff false 7 (.take 8 [8] .done))))))))))
             (.cond (.t 117)
              (.seq (.ops false [⟨(some 4), .mov (.c (.v (.bool false))), none⟩] .done)
               .ret)
              .skip))
            (.seq (.ops false [⟨(some 119), .bin .eql (.t 76) (.c (.v (.int .i64 3))), none⟩,
               ⟨(some 118), .mov (.t 119), none⟩] .done)
             (.cond (.t 118)
              (.seq (.ops false [⟨(some 121), .mov (.t 6), none⟩,
                 ⟨(some 122), .call 11 [(.t 121)], none⟩,
                 ⟨(some 120), .mov (.t 122), none⟩,
                 ⟨(some 123), .ext (.t 120) 0, none⟩,
                 ⟨(some 124), .ext (.t 120) 1, none⟩,
                 ⟨(some 15), .mov (.t 123), none⟩,
                 ⟨(some 16), .mov (.t 124), none⟩] .done)
               (.seq (.ops false [⟨(some 126), .mov (.t 8), none⟩,
                 ⟨(some 127), .call 18 [(.t 126)], none⟩,
                 ⟨(some 125), .mov (.t 127), none⟩,
                 ⟨(some 128), .ext (.t 125) 0, none⟩,
                 ⟨(some 129), .ext (.t 125) 1, none⟩,
                 ⟨(some 17), .mov (.t 128), none⟩,
                 ⟨(some 18), .mov (.t 129), none⟩] .done)
               (.seq (.ops false [⟨(some 130), .mov (.t 15), none⟩,
                 ⟨(some 131), .mov (.t 17), none⟩,
                 ⟨(some 132), .bin .neq (.t 130) (.t 131), none⟩,
                 ⟨(some 133), .mov (.t 132), none⟩,
                 ⟨(some 134), .mov (.t 16), some (133, false)⟩,
                 ⟨(some 135), .mov (.t 18), some (133, false)⟩,
                 ⟨(some 136), .eqb true (.t 134) (.t 135), some (133, false)⟩,
                 ⟨(some 137), .pick (.t 133) (.c (.v (.bool true))) (.t 136), none⟩] .done)
               (.cond (.t 137)
                (.seq (.ops false [⟨(some 4), .mov (.c (.v (.bool false))), none⟩] .done)
                 .ret)
                .skip))))
              (.seq (.ops true [⟨(some 77), .mov (.t 6), none⟩,
                 ⟨(some 78), .fld 1 (.t 10), none⟩,
                 ⟨(some 79), .load none (.t 78), none⟩,
                 ⟨(some 80), .call 13 [(.t 77), (.t 79)], none⟩,
                 ⟨(some 81), .mov (.t 8), none⟩,
                 ⟨(some 82), .fld 1 (.t 10), none⟩,
                 ⟨(some 83), .load none (.t 82), none⟩,
                 ⟨(some 84), .call 20 [(.t 81), (.t 83)], none⟩,
                 ⟨(some 85), .call 19 [(.t 80), (.t 84)], none⟩,
                 ⟨(some 86), .un .not (.t 85), none⟩] (.take 0 [0, 3, 7, 8, 9] (.take 1 [1, 2, 3, 7, 8, 9] (.take 2 [2, 3, 7, 8, 9] (.take 4 [4, 7, 8, 9] (.take 5 [5, 6, 7, 8, 9] (.take 6 [6, 7, 8, 9] (.eff false 3 (.eff false 7 (.eff true 8 (.take 9 [9] .done)))))))))))
               (.cond (.t 86)
                (.seq (.ops false [⟨(some 4), .mov (.c (.v (.bool false))), none⟩] .done)
                 .ret)
                .skip))))))))))
       (.seq (.ops false [⟨(some 139), .mov (.t 6), none⟩,
         ⟨(some 140), .call 21 [(.t 139)], none⟩,
         ⟨(some 138), .mov (.t 140), none⟩,
         ⟨(some 141), .ext (.t 138) 0, none⟩,
         ⟨(some 142), .ext (.t 138) 1, none⟩,
         ⟨(some 143), .ext (.t 138) 2, none⟩,
         ⟨(some 19), .mov (.t 141), none⟩,
         ⟨(some 20), .mov (.t 142), none⟩,
         ⟨(some 21), .mov (.t 143), none⟩] .done)
       (.seq (.ops false [⟨(some 22), .mov (.c (.v (.int .i64 0))), none⟩] .done)
       (.seq (.ops false [⟨(some 23), .mov (.c (.v (.bool false))), none⟩] .done)
       (.seq (.seq (.ops false [⟨(some 144), .mov (.t 8), none⟩,
          ⟨(some 145), .nilck (.t 144), none⟩,
          ⟨(some 146), .fld 2 (.t 145), none⟩,
          ⟨(some 147), .load none (.t 146), none⟩,
          ⟨(some 148), .len (.t 147), none⟩,
          ⟨(some 149), .bin .gtr (.t 148) (.c (.v (.int .i64 0))), none⟩] .done)
        (.cond (.t 149)
         (.seq (.ops false [⟨(some 150), .mov (.t 8), none⟩,
            ⟨(some 151), .nilck (.t 150), none⟩,
            ⟨(some 152), .fld 2 (.t 151), none⟩,
            ⟨(some 153), .load none (.t 152), none⟩,
            ⟨(some 154), .idx 2 (.t 153) (.c (.v (.int .i64 0))), none⟩,
            ⟨(some 155), .fld 0 (.t 154), none⟩,
            ⟨(some 156), .load none (.t 155), none⟩,
            ⟨(some 22), .mov (.t 156), none⟩] .done)
          (.ops false [⟨(some 157), .mov (.t 8), none⟩,
           ⟨(some 158), .nilck (.t 157), none⟩,
           ⟨(some 159), .fld 2 (.t 158), none⟩,
           ⟨(some 160), .load none (.t 159), none⟩,
           ⟨(some 161), .idx 2 (.t 160) (.c (.v (.int .i64 0))), none⟩,
           ⟨(some 162), .fld 1 (.t 161), none⟩,
           ⟨(some 163), .load none (.t 162), none⟩,
           ⟨(some 23), .mov (.t 163), none⟩] .done))
         .skip))
       (.seq (.ops true [⟨(some 164), .mov (.t 19), none⟩,
         ⟨(some 165), .mov (.t 22), none⟩,
         ⟨(some 166), .bin .neq (.t 164) (.t 165), none⟩,
         ⟨(some 167), .mov (.t 166), none⟩,
         ⟨(some 168), .mov (.t 20), some (167, false)⟩,
         ⟨(some 169), .mov (.t 23), some (167, false)⟩,
         ⟨(some 170), .eqb true (.t 168) (.t 169), some (167, false)⟩,
         ⟨(some 171), .pick (.t 167) (.c (.v (.bool true))) (.t 170), none⟩,
         ⟨(some 172), .mov (.t 171), none⟩,
         ⟨(some 173), .mov (.t 21), some (172, false)⟩,
         ⟨(some 174), .mov (.t 8), some (172, false)⟩,
         ⟨(some 175), .nilck (.t 174), some (172, false)⟩,
         ⟨(some 176), .fld 2 (.t 175), some (172, false)⟩,
         ⟨(some 177), .load none (.t 176), some (172, false)⟩,
         ⟨(some 178), .len (.t 177), some (172, false)⟩,
         ⟨(some 179), .bin .gtr (.t 178) (.c (.v (.int .i64 0))), some (172, false)⟩,
         ⟨(some 180), .eqb true (.t 173) (.t 179), some (172, false)⟩,
         ⟨(some 181), .pick (.t 172) (.c (.v (.bool true))) (.t 180), none⟩,
         ⟨(some 182), .mov (.t 181), none⟩,
         ⟨(some 183), .mov (.t 6), some (182, false)⟩,
         ⟨(some 184), .call 12 [(.t 183)], some (182, false)⟩,
         ⟨(some 185), .mov (.t 8), some (182, false)⟩,
         ⟨(some 186), .nilck (.t 185), some (182, false)⟩,
         ⟨(some 187), .fld 2 (.t 186), some (182, false)⟩,
         ⟨(some 188), .load none (.t 187), some (182, false)⟩,
         ⟨(some 189), .len (.t 188), some (182, false)⟩,
         ⟨(some 190), .bin .neq (.t 184) (.t 189), some (182, false)⟩,
         ⟨(some 191), .pick (.t 182) (.c (.v (.bool true))) (.t 190), none⟩,
         ⟨(some 192), .mov (.t 191), none⟩,
         ⟨(some 193), .mov (.t 6), some (192, false)⟩,
         ⟨(some 194), .call 22 [(.t 193)], some (192, false)⟩,
         ⟨(some 195), .mov (.t 0), some (192, false)⟩,
         ⟨(some 196), .mov (.t 8), some (192, false)⟩,
         ⟨(some 197), .nilck (.t 196), some (192, false)⟩,
         ⟨(some 198), .fld 2 (.t 197), some (192, false)⟩,
         ⟨(some 199), .load none (.t 198), some (192, false)⟩,
         ⟨(some 200), .len (.t 199), some (192, false)⟩,
         ⟨(some 201), .bin .sub (.t 195) (.t 200), some (192, false)⟩,
         ⟨(some 202), .bin .neq (.t 194) (.t 201), some (192, false)⟩,
         ⟨(some 203), .pick (.t 192) (.c (.v (.bool true))) (.t 202), none⟩,
         ⟨(some 204), .mov (.t 203), none⟩,
         ⟨(some 205), .mov (.t 6), some (204, false)⟩,
         ⟨(some 206), .call 14 [(.t 205)], some (204, false)⟩,
         ⟨(some 207), .mov (.t 8), some (204, false)⟩,
         ⟨(some 208), .call 23 [(.t 207)], some (204, false)⟩,
         ⟨(some 209), .call 19 [(.t 206), (.t 208)], some (204, false)⟩,
         ⟨(some 210), .un .not (.t 209), some (204, false)⟩,
         ⟨(some 211), .pick (.t 204) (.c (.v (.bool true))) (.t 210), none⟩] (.take 0 [0, 2, 3, 4, 5, 6, 7, 8, 9, 10, 11, 12, 13, 14, 15, 16, 17, 18, 19, 20, 21, 22, 23, 24, 25, 26, 27, 28, 29, 30, 31, 32, 33, 34, 35, 36, 37, 38, 39, 40, 41, 42, 43, 44, 45, 46, 47] (.take 1 [1, 2, 3, 4, 5, 6, 7, 8, 9, 10, 11, 12, 13, 14, 15, 16, 17, 18, 19, 20, 21, 22, 23, 24, 25, 26, 27, 28, 29, 30, 31, 32, 33, 34, 35, 36, 37, 38, 39, 40, 41, 42, 43, 44, 45, 46, 47] (.take 2 [2, 3, 4, 5, 6, 7, 8, 9, 10, 11, 12, 13, 14, 15, 16, 17, 18, 19, 20, 21, 22, 23, 24, 25, 26, 27, 28, 29, 30, 31, 32, 33, 34, 35, 36, 37, 38, 39, 40, 41, 42, 43, 44, 45, 46, 47] (.take 3 [3, 4, 5, 6, 7, 8, 9, 10, 11, 12, 13, 14, 15, 16, 17, 18, 19, 20, 21, 22, 23, 24, 25, 26, 27, 28, 29, 30, 31, 32, 33, 34, 35, 36, 37, 38, 39, 40, 41, 42, 43, 44, 45, 46, 47] (.take 4 [4, 6, 7, 8, 9, 10, 11, 12, 13, 14, 15, 16, 17, 18, 19, 20, 21, 22, 23, 24, 25, 26, 27, 28, 29, 30, 31, 32, 33, 34, 35, 36, 37, 38, 39, 40, 41, 42, 43, 44, 45, 46, 47] (.take 5 [5, 6, 7, 8, 9, 10, 11, 12, 13, 14, 15, 16, 17, 18, 19, 20, 21, 22, 23, 24, 25, 26, 27, 28, 29, 30, 31, 32, 33, 34, 35, 36, 37, 38, 39, 40, 41, 42, 43, 44, 45, 46, 47] (.take 6 [6, 7, 8, 9, 10, 11, 12, 13, 14, 15, 16, 17, 18, 19, 20, 21, 22, 23, 24, 25, 26, 27, 28, 29, 30, 31, 32, 33, 34, 35, 36, 37, 38, 39, 40, 41, 42, 43, 44, 45, 46, 47] (.take 7 [7, 8, 9, 10, 11, 12, 13, 14, 15, 16, 17, 18, 19, 20, 21, 22, 23, 24, 25, 26, 27, 28, 29, 30, 31, 32, 33, 34, 35, 36, 37, 38, 39, 40, 41, 42, 43, 44, 45, 46, 47] (.take 8 [8, 9, 10, 11, 12, 13, 14, 15, 16, 17, 18, 19, 20, 21, 22, 23, 24, 25, 26, 27, 28, 29, 30, 31, 32, 33, 34, 35, 36, 37, 38, 39, 40, 41, 42, 43, 44, 45, 46, 47] (.take 9 [9, 16, 17, 18, 19, 20, 21, 22, 23, 24, 25, 26, 27, 28, 29, 30, 31, 32, 33, 34, 35, 36, 37, 38, 39, 40, 41, 42, 43, 44, 45, 46, 47] (.take 10 [10, 11, 12, 13, 14, 15, 16, 17, 18, 19, 20, 21, 22, 23, 24, 25, 26, 27, 28, 29, 30, 31, 32, 33, 34, 35, 36, 37, 38, 39, 40, 41, 42, 43, 44, 45, 46, 47] (.take 11 [11, 12, 13, 14, 15, 16, 17, 18, 19, 20, 21, 22, 23, 24, 25, 26, 27, 28, 29, 30, 31, 32, 33, 34, 35, 36, 37, 38, 39, 40, 41, 42, 43, 44, 45, 46, 47] (.take 12 [12, 13, 14, 15, 16, 17, 18, 19, 20, 21, 22, 23, 24, 25, 26, 27, 28, 29, 30, 31, 32, 33, 34, 35, 36, 37, 38, 39, 40, 41, 42, 43, 44, 45, 46, 47] (.take 13 [13, 14, 15, 16, 17, 18, 19, 20, 21, 22, 23, 24, 25, 26, 27, 28, 29, 30, 31, 32, 33, 34, 35, 36, 37, 38, 39, 40, 41, 42, 43, 44, 45, 46, 47] (.take 14 [14, 15, 16, 17, 18, 19, 20, 21, 22, 23, 24, 25, 26, 27, 28, 29, 30, 31, 32, 33, 34, 35, 36, 37, 38, 39, 40, 41, 42, 43, 44, 45, 46, 47] (.take 15 [15, 16, 17, 18, 19, 20, 21, 22, 23, 24, 25, 26, 27, 28, 29, 30, 31, 32, 33, 34, 35, 36, 37, 38, 39, 40, 41, 42, 43, 44, 45, 46, 47] (.take 16 [16, 17, 18, 19, 20, 21, 22, 23, 24, 25, 26, 27, 28, 29, 30, 31, 32, 33, 34, 35, 36, 37, 38, 39, 40, 41, 42, 43, 44, 45, 46, 47] (.take 17 [17, 18, 19, 20, 21, 22, 23, 24, 25, 26, 27, 28, 29, 30, 31, 32, 33, 34, 35, 36, 37, 38, 39, 40, 41, 42, 43, 44, 45, 46, 47] (.take 18 [18, 19, 20, 21, 22, 23, 24, 25, 26, 27, 28, 29, 30, 31, 32, 33, 34, 35, 36, 37, 38, 39, 40, 41, 42, 43, 44, 45, 46, 47] (.take 19 [19, 20, 26, 28, 27, 29, 30, 31, 32, 33, 34, 35, 36, 37, 38, 39, 40, 41, 42, 43, 44, 45, 46, 47] (.take 21 [21, 22, 23, 24, 25, 26, 27, 28, 29, 30, 31, 32, 33, 34, 35, 36, 37, 38, 39, 40, 41, 42, 43, 44, 45, 46, 47] (.take 22 [22, 23, 24, 25, 26, 27, 28, 29, 30, 31, 32, 33, 34, 35, 36, 37, 38, 39, 40, 41, 42, 43, 44, 45, 46, 47] (.take 23 [23, 24, 25, 26, 27, 28, 29, 30, 31, 32, 33, 34, 35, 36, 37, 38, 39, 40, 41, 42, 43, 44, 45, 46, 47] (.take 24 [24, 25, 26, 27, 28, 29, 30, 31, 32, 33, 34, 35, 36, 37, 38, 39, 40, 41, 42, 43, 44, 45, 46, 47] (.take 25 [25, 26, 27, 28, 29, 30, 31, 32, 33, 34, 35, 36, 37, 38, 39, 40, 41, 42, 43, 44, 45, 46, 47] (.eff true 20 (.take 26 [26, 27, 28, 29, 30, 31, 32, 33, 34, 35, 36, 37, 38, 39, 40, 41, 42, 43, 44, 45, 46, 47] (.take 27 [27, 28, 29, 30, 31, 32, 33, 34, 35, 36, 37, 38, 39, 40, 41, 42, 43, 44, 45, 46, 47] (.take 28 [28, 29, 30, 31, 32, 33, 34, 35, 36, 37, 38, 39, 40, 41, 42, 43, 44, 45, 46, 47] (.take 29 [29, 30, 38, 40, 39, 41, 42, 43, 44, 45, 46, 47] (.take 31 [31, 37, 38, 39, 40, 41, 42, 43, 44, 45, 46, 47] (.take 32 [32, 33, 34, 35, 36, 37, 38, 39, 40, 41, 42, 43, 44, 45, 46, 47] (.take 33 [33, 34, 35, 36, 37, 38, 39, 40, 41, 42, 43, 44, 45, 46, 47] (.take 34 [34, 35, 36, 37, 38, 39, 40, 41, 42, 43, 44, 45, 46, 47] (.take 35 [35, 36, 37, 38, 39, 40, 41, 42, 43, 44, 45, 46, 47] (.take 36 [36, 37, 38, 39, 40, 41, 42, 43, 44, 45, 46, 47] (.take 37 [37, 38, 39, 40, 41, 42, 43, 44, 45, 46, 47] (.eff true 30 (.take 38 [38, 39, 40, 41, 42, 43, 44, 45, 46, 47] (.take 39 [39, 40, 41, 42, 43, 44, 45, 46, 47] (.take 40 [40, 41, 42, 43, 44, 45, 46, 47] (.take 41 [41, 42, 44, 45, 46, 47] (.take 43 [43, 44, 45, 46, 47] (.eff true 42 (.eff true 44 (.eff true 45 (.take 46 [46, 47] (.take 47 [47] .done)))))))))))))))))))))))))))))))))))))))))))))))))
       (.cond (.t 211)
        (.seq (.ops false [⟨(some 4), .mov (.c (.v (.bool false))), none⟩] .done)
         .ret)
        .skip))))))))))
     (.ops false [⟨(some 65), .mov (.t 9), none⟩,
      ⟨(some 66), .bin .add (.t 65) (.c (.v (.int .i64 1))), none⟩,
      ⟨(some 9), .mov (.t 66), none⟩] .done))))))
  (.seq (.ops false [⟨(some 4), .mov (.c (.v (.bool true))), none⟩] .done)
  .ret))))))))))⟩
theorem pf5_eq : (Tryd.f5.body.map fun c => (cfn Tryd.prog pl5 Tryd.f5 c, guardsAll pl5 c)) = some (pf5, true) := by kernel_rfl

/-- corral/corrallaw24.first  sizes [] -/
def pl6 : Nat → DT := dtGet []
def pf6 : PFn := ⟨88, [.t 0], (.seq (.ops false [⟨(some 0), .mov (.c (.v (.bool false))), none⟩] .done)
  (.seq (.ops false [⟨(some 17), .call 8 [(.c (.v (.int .i64 2)))], none⟩,
    ⟨(some 16), .mov (.t 17), none⟩,
    ⟨(some 18), .ext (.t 16) 0, none⟩,
    ⟨(some 19), .ext (.t 16) 1, none⟩,
    ⟨(some 1), .mov (.t 18), none⟩,
    ⟨(some 2), .mov (.t 19), none⟩] .done)
  (.seq (.seq (.ops false [⟨(some 20), .mov (.t 1), none⟩,
     ⟨(some 21), .eqp 0 true false (.t 20) (.c (.v (.pointer none))), none⟩,
     ⟨(some 22), .mov (.t 21), none⟩,
     ⟨(some 23), .mov (.t 2), some (22, false)⟩,
     ⟨(some 24), .eqp 1 true true (.t 23) (.c (.v .nilIface)), some (22, false)⟩,
     ⟨(some 25), .pick (.t 22) (.c (.v (.bool true))) (.t 24), none⟩] .done)
   (.cond (.t 25)
    (.seq (.ops false [⟨(some 0), .mov (.c (.v (.bool false))), none⟩] .done)
     .ret)
    .skip))
  (.seq (.ops false [⟨(some 27), .mov (.t 1), none⟩,
    ⟨(some 28), .call 9 [(.t 27)], none⟩,
    ⟨(some 26), .mov (.t 28), none⟩,
    ⟨(some 29), .ext (.t 26) 0, none⟩,
    ⟨(some 30), .ext (.t 26) 1, none⟩,
    ⟨(some 3), .mov (.t 29), none⟩,
    ⟨(some 4), .mov (.t 30), none⟩] .done)
  (.seq (.ops false [⟨(some 32), .mov (.t 1), none⟩,
    ⟨(some 33), .call 9 [(.t 32)], none⟩,
    ⟨(some 31), .mov (.t 33), none⟩,
    ⟨(some 34), .ext (.t 31) 0, none⟩,
    ⟨(some 35), .ext (.t 31) 1, none⟩,
    ⟨(some 5), .mov (.t 34), none⟩,
    ⟨(some 6), .mov (.t 35), none⟩] .done)
  (.seq (.ops false [⟨(some 37), .mov (.t 1), none⟩,
    ⟨(some 38), .call 9 [(.t 37)], none⟩,
    ⟨(some 36), .mov (.t 38), none⟩,
    ⟨(some 39), .ext (.t 36) 0, none⟩,
    ⟨(some 40), .ext (.t 36) 1, none⟩,
    ⟨(some 7), .mov (.t 39), none⟩,
    ⟨(some 8), .mov (.t 40), none⟩] .done)
  (.seq (.ops false [⟨(some 41), .mov (.t 1), none⟩,
    ⟨(some 42), .bslice 3 [.int .i64] 1 [(.v (.int .i64 0))] [(0, 1, (.c (.v (.int .i64 1))))], none⟩,
    ⟨(some 43), .call 10 [(.t 41), (.t 42)], none⟩,
    ⟨(some 9), .mov (.t 43), none⟩] .done)
  (.seq (.ops false [⟨(some 45), .mov (.t 1), none⟩,
    ⟨(some 46), .call 11 [(.t 45)], none⟩,
    ⟨(some 44), .mov (.t 46), none⟩,
    ⟨(some 47), .ext (.t 44) 0, none⟩,
    ⟨(some 48), .ext (.t 44) 1, none⟩,
    ⟨(some 10), .mov (.t 47), none⟩,
    ⟨(some 11), .mov (.t 48), none⟩] .done)
  (.seq (.ops false [⟨(some 49), .mov (.t 1), none⟩,
    ⟨(some 50), .bslice 3 [.int .i64] 1 [(.v (.int .i64 0))] [(0, 1, (.c (.v (.int .i64 0))))], none⟩,
    ⟨(some 51), .call 10 [(.t 49), (.t 50)], none⟩] .done)
  (.seq (.ops false [⟨(some 53), .mov (.t 1), none⟩,
    ⟨(some 54), .call 11 [(.t 53)], none⟩,
    ⟨(some 52), .mov (.t 54), none⟩,
    ⟨(some 55), .ext (.t 52) 0, none⟩,
    ⟨(some 56), .ext (.t 52) 1, none⟩,
    ⟨(some 12), .mov (.t 55), none⟩,
    ⟨(some 13), .mov (.t 56), none⟩] .done)
  (.seq (.ops false [⟨(some 58), .mov (.t 1), none⟩,
    ⟨(some 59), .call 11 [(.t 58)], none⟩,
    ⟨(some 57), .mov (.t 59), none⟩,
    ⟨(some 60), .ext (.t 57) 0, none⟩,
    ⟨(some 61), .ext (.t 57) 1, none⟩,
    ⟨(some 14), .mov (.t 60), none⟩,
    ⟨(some 15), .mov (.t 61), none⟩] .done)
  (.seq (.ops false [⟨(some 62), .mov (.t 3), none⟩,
    ⟨(some 63), .bin .eql (.t 62) (.c (.v (.int .i64 0))), none⟩,
    ⟨(some 64), .mov (.t 63), none⟩,
    ⟨(some 65), .mov (.t 5), some (64, true)⟩,
    ⟨(some 66), .bin .eql (.t 65) (.c (.v (.int .i64 1))), some (64, true)⟩,
    ⟨(some 67), .pick (.t 64) (.t 66) (.c (.v (.bool false))), none⟩,
    ⟨(some 68), .mov (.t 67), none⟩,
    ⟨(some 69), .mov (.t 8), some (68, true)⟩,
    ⟨(some 70), .un .not (.t 69), some (68, true)⟩,
    ⟨(some 71), .pick (.t 68) (.t 70) (.c (.v (.bool false))), none⟩,
    ⟨(some 72), .mov (.t 71), none⟩,
    ⟨(some 73), .mov (.t 9), some (72, true)⟩,
    ⟨(some 74), .bin .eql (.t 73) (.c (.v (.int .i64 1))), some (72, true)⟩,
    ⟨(some 75), .pick (.t 72) (.t 74) (.c (.v (.bool false))), none⟩,
    ⟨(some 76), .mov (.t 75), none⟩,
    ⟨(some 77), .mov (.t 11), some (76, true)⟩,
    ⟨(some 78), .un .not (.t 77), some (76, true)⟩,
    ⟨(some 79), .pick (.t 76) (.t 78) (.c (.v (.bool false))), none⟩,
    ⟨(some 80), .mov (.t 79), none⟩,
    ⟨(some 81), .mov (.t 12), some (80, true)⟩,
    ⟨(some 82), .bin .eql (.t 81) (.c (.v (.int .i64 0))), some (80, true)⟩,
    ⟨(some 83), .pick (.t 80) (.t 82) (.c (.v (.bool false))), none⟩,
    ⟨(some 84), .mov (.t 83), none⟩,
    ⟨(some 85), .mov (.t 14), some (84, true)⟩,
    ⟨(some 86), .bin .eql (.t 85) (.c (.v (.int .i64 1))), some (84, true)⟩,
    ⟨(some 87), .pick (.t 84) (.t 86) (.c (.v (.bool false))), none⟩,
    ⟨(some 0), .mov (.t 87), none⟩] .done)
  .ret))))))))))))⟩
theorem pf6_eq : (Tryd.f6.body.map fun c => (cfn Tryd.prog pl6 Tryd.f6 c, guardsAll pl6 c)) = some (pf6, true) := by kernel_rfl

/-- corral/corralworld.Number  sizes [] -/
def pl7 : Nat → DT := dtGet []
def pf7 : PFn := ⟨12, [.t 4], (.seq (.ops false [⟨(some 4), .mov (.c (.v (.int .i64 0))), none⟩] .done)
  (.seq (.ops false [⟨(some 5), .mov (.t 0), none⟩,
    ⟨(some 6), .mov (.t 1), none⟩,
    ⟨(some 7), .bin .rem (.t 5) (.t 6), none⟩,
    ⟨(some 8), .mov (.t 1), none⟩,
    ⟨(some 9), .bin .add (.t 7) (.t 8), none⟩,
    ⟨(some 10), .mov (.t 1), none⟩,
    ⟨(some 11), .bin .rem (.t 9) (.t 10), none⟩,
    ⟨(some 4), .mov (.t 11), none⟩] .done)
  .ret))⟩
theorem pf7_eq : (Tryd.f7.body.map fun c => (cfn Tryd.prog pl7 Tryd.f7 c, guardsAll pl7 c)) = some (pf7, true) := by kernel_rfl

/-- corral/rob.New  sizes [(2, 4)] -/
def pl8 : Nat → DT := dtGet [(2, (.take 0 [0, 2] (.take 1 [1, 2] (.take 2 [2] .done))))]
def pf8 : PFn := ⟨14, [.t 2, .t 3], (.seq (.ops false [⟨(some 2), .mov (.c (.v (.pointer none))), none⟩,
    ⟨(some 3), .mov (.c (.v .nilIface)), none⟩] .done)
  (.seq (.seq (.ops false [⟨(some 4), .mov (.t 0), none⟩,
     ⟨(some 5), .bin .lss (.t 4) (.c (.v (.int .i64 1))), none⟩,
     ⟨(some 6), .mov (.t 5), none⟩,
     ⟨(some 7), .mov (.t 0), some (6, false)⟩,
     ⟨(some 8), .bin .gtr (.t 7) (.c (.v (.int .i64 128))), some (6, false)⟩,
     ⟨(some 9), .pick (.t 6) (.c (.v (.bool true))) (.t 8), none⟩] .done)
   (.cond (.t 9)
    (.seq (.ops true [⟨(some 10), .load none (.c (.v (.pointer (some ⟨0, 0, none⟩)))), none⟩,
       ⟨(some 2), .mov (.c (.v (.pointer none))), none⟩,
       ⟨(some 3), .mov (.t 10), none⟩] (.take 0 [0, 2] (.take 1 [1, 2] (.take 2 [2] .done))))
     .ret)
    .skip))
  (.seq (.ops false [⟨(some 11), .mov (.t 0), none⟩,
    ⟨(some 12), .build [(.v (.int .i64 0)), (.v (.int .i64 0)), (.v (.slice none 0 0))] [(0, 1, (.t 11))], none⟩,
    ⟨(some 13), .box 56 (.t 12), none⟩,
    ⟨(some 2), .mov (.t 13), none⟩,
    ⟨(some 3), .mov (.c (.v .nilIface)), none⟩] .done)
  .ret)))⟩
theorem pf8_eq : (Tryd.f8.body.map fun c => (cfn Tryd.prog pl8 Tryd.f8 c, guardsAll pl8 c)) = some (pf8, true) := by kernel_rfl

/-- (*corral/rob.Buffer).Push  sizes [(1, 11)] -/
def pl9 : Nat → DT := dtGet [(1, (.take 0 [0, 1, 2, 3, 4, 9] (.take 1 [1, 2, 3, 4, 9] (.take 2 [2, 3, 4, 9] (.take 3 [3, 4, 9] (.take 4 [4, 9] (.take 5 [5, 6, 7, 8, 9] (.take 6 [6, 7, 8, 9] (.take 7 [7, 8, 9] (.take 8 [8, 9] (.take 9 [9] .done)))))))))))]
def pf9 : PFn := ⟨38, [.t 2, .t 3], (.seq (.ops false [⟨(some 2), .mov (.c (.v (.int .i64 0))), none⟩,
    ⟨(some 3), .mov (.c (.v (.bool false))), none⟩] .done)
  (.seq (.seq (.ops true [⟨(some 5), .mov (.t 0), none⟩,
     ⟨(some 6), .nilck (.t 5), none⟩,
     ⟨(some 7), .fld 2 (.t 6), none⟩,
     ⟨(some 8), .load none (.t 7), none⟩,
     ⟨(some 9), .len (.t 8), none⟩,
     ⟨(some 10), .mov (.t 0), none⟩,
     ⟨(some 11), .nilck (.t 10), none⟩,
     ⟨(some 12), .fld 0 (.t 11), none⟩,
     ⟨(some 13), .load none (.t 12), none⟩,
     ⟨(some 14), .bin .geq (.t 9) (.t 13), none⟩] (.take 0 [0, 1, 2, 3, 4, 9] (.take 1 [1, 2, 3, 4, 9] (.take 2 [2, 3, 4, 9] (.take 3 [3, 4, 9] (.take 4 [4, 9] (.take 5 [5, 6, 7, 8, 9] (.take 6 [6, 7, 8, 9] (.take 7 [7, 8, 9] (.take 8 [8, 9] (.take 9 [9] .done)))))))))))
   (.cond (.t 14)
    (.seq (.ops false [⟨(some 2), .mov (.c (.v (.int .i64 0))), none⟩,
       ⟨(some 3), .mov (.c (.v (.bool false))), none⟩] .done)
     .ret)
    .skip))
  (.seq (.ops false [⟨(some 15), .mov (.t 0), none⟩,
    ⟨(some 16), .nilck (.t 15), none⟩,
    ⟨(some 17), .fld 1 (.t 16), none⟩,
    ⟨(some 18), .load none (.t 17), none⟩,
    ⟨(some 4), .mov (.t 18), none⟩] .done)
  (.seq (.ops false [⟨(some 19), .mov (.t 0), none⟩,
    ⟨(some 20), .nilck (.t 19), none⟩,
    ⟨(some 21), .fld 1 (.t 20), none⟩,
    ⟨(some 22), .load none (.t 21), none⟩,
    ⟨(some 23), .bin .add (.t 22) (.c (.v (.int .i64 1))), none⟩,
    ⟨(some 24), .nilck (.t 19), none⟩,
    ⟨(some 25), .fld 1 (.t 24), none⟩,
    ⟨none, .store 1 (.t 25) (.t 23), none⟩] .done)
  (.seq (.ops false [⟨(some 26), .mov (.t 0), none⟩,
    ⟨(some 27), .mov (.t 0), none⟩,
    ⟨(some 28), .nilck (.t 27), none⟩,
    ⟨(some 29), .fld 2 (.t 28), none⟩,
    ⟨(some 30), .load none (.t 29), none⟩,
    ⟨(some 31), .mov (.t 4), none⟩,
    ⟨(some 32), .build [(.v (.int .i64 0)), (.v (.bool false))] [(0, 1, (.t 31))], none⟩,
    ⟨(some 33), .bslice 58 [.int .i64, .bool] 1 [(.v (.int .i64 0)), (.v (.bool false))] [(0, 2, (.t 32))], none⟩,
    ⟨(some 34), .append 58 [.int .i64, .bool] [(.int .i64 0), (.bool false)] 16 (.t 30) (.t 33), none⟩,
    ⟨(some 35), .nilck (.t 26), none⟩,
    ⟨(some 36), .fld 2 (.t 35), none⟩,
    ⟨none, .store 1 (.t 36) (.t 34), none⟩] .done)
  (.seq (.ops false [⟨(some 37), .mov (.t 4), none⟩,
    ⟨(some 2), .mov (.t 37), none⟩,
    ⟨(some 3), .mov (.c (.v (.bool true))), none⟩] .done)
  .ret))))))⟩
theorem pf9_eq : (Tryd.f9.body.map fun c => (cfn Tryd.prog pl9 Tryd.f9 c, guardsAll pl9 c)) = some (pf9, true) := by kernel_rfl

/-- (*corral/rob.Buffer).Done  sizes [] -/
def pl10 : Nat → DT := dtGet []
def pf10 : PFn := ⟨56, [.t 4], (.seq (.ops false [⟨(some 4), .mov (.c (.v (.int .i64 0))), none⟩] .done)
  (.seq (.ops false [⟨(some 5), .mov (.c (.v (.int .i64 0))), none⟩] .done)
  (.seq (.seq (.ops false [⟨(some 9), .mov (.t 1), none⟩,
     ⟨(some 10), .len (.t 9), none⟩,
     ⟨(some 11), .mov (.c (.v (.int .i64 0))), none⟩] .done)
   (.block 0 (.loop (.seq (.ops false [⟨(some 12), .bin .lss (.t 11) (.t 10), none⟩] .done)
     (.seq (.cond (.t 12)
       .skip
       (.exit 0))
     (.seq (.block 1 (.seq (.ops false [⟨(some 13), .idx 1 (.t 9) (.t 11), none⟩,
         ⟨(some 14), .load none (.t 13), none⟩,
         ⟨(some 7), .mov (.t 14), none⟩] .done)
       (.seq (.ops false [⟨(some 15), .mov (.t 0), none⟩,
         ⟨(some 16), .nilck (.t 15), none⟩,
         ⟨(some 17), .fld 2 (.t 16), none⟩,
         ⟨(some 18), .load none (.t 17), none⟩,
         ⟨(some 19), .len (.t 18), none⟩,
         ⟨(some 20), .mov (.c (.v (.int .i64 0))), none⟩] .done)
       (.block 2 (.loop (.seq (.ops false [⟨(some 21), .bin .lss (.t 20) (.t 19), none⟩] .done)
         (.seq (.cond (.t 21)
           .skip
           (.exit 2))
         (.seq (.block 3 (.seq (.ops false [⟨(some 22), .mov (.t 20), none⟩,
             ⟨(some 8), .mov (.t 22), none⟩] .done)
           (.seq (.ops false [⟨(some 23), .mov (.t 0), none⟩,
             ⟨(some 24), .nilck (.t 23), none⟩,
             ⟨(some 25), .fld 2 (.t 24), none⟩,
             ⟨(some 26), .load none (.t 25), none⟩,
             ⟨(some 27), .mov (.t 8), none⟩,
             ⟨(some 28), .idx 2 (.t 26) (.t 27), none⟩,
             ⟨(some 29), .fld 0 (.t 28), none⟩,
             ⟨(some 30), .load none (.t 29), none⟩,
             ⟨(some 31), .mov (.t 7), none⟩,
             ⟨(some 32), .bin .eql (.t 30) (.t 31), none⟩,
             ⟨(some 33), .mov (.t 32), none⟩,
             ⟨(some 34), .mov (.t 0), some (33, true)⟩,
             ⟨(some 35), .nilck (.t 34), some (33, true)⟩,
             ⟨(some 36), .fld 2 (.t 35), some (33, true)⟩,
             ⟨(some 37), .load none (.t 36), some (33, true)⟩,
             ⟨(some 38), .mov (.t 8), some (33, true)⟩,
             ⟨(some 39), .idx 2 (.t 37) (.t 38), some (33, true)⟩,
             ⟨(some 40), .fld 1 (.t 39), some (33, true)⟩,
             ⟨(some 41), .load none (.t 40), some (33, true)⟩,
             ⟨(some 42), .un .not (.t 41), some (33, true)⟩,
             ⟨(some 43), .pick (.t 33) (.t 42) (.c (.v (.bool false))), none⟩] .done)
           (.cond (.t 43)
            (.seq (.ops false [⟨(some 44), .mov (.t 0), none⟩,
               ⟨(some 45), .nilck (.t 44), none⟩,
               ⟨(some 46), .fld 2 (.t 45), none⟩,
               ⟨(some 47), .load none (.t 46), none⟩,
               ⟨(some 48), .mov (.t 8), none⟩,
               ⟨(some 49), .idx 2 (.t 47) (.t 48), none⟩,
               ⟨(some 50), .fld 1 (.t 49), none⟩,
               ⟨none, .store 1 (.t 50) (.c (.v (.bool true))), none⟩] .done)
             (.ops false [⟨(some 51), .mov (.t 5), none⟩,
              ⟨(some 52), .bin .add (.t 51) (.c (.v (.int .i64 1))), none⟩,
              ⟨(some 5), .mov (.t 52), none⟩] .done))
            .skip))))
         (.ops false [⟨(some 53), .bin .add (.t 20) (.c (.v (.int .i64 1))), none⟩,
          ⟨(some 20), .mov (.t 53), none⟩] .done)))))))))
     (.ops false [⟨(some 54), .bin .add (.t 11) (.c (.v (.int .i64 1))), none⟩,
      ⟨(some 11), .mov (.t 54), none⟩] .done)))))))
  (.seq (.ops false [⟨(some 55), .mov (.t 5), none⟩,
    ⟨(some 4), .mov (.t 55), none⟩] .done)
  .ret))))⟩
theorem pf10_eq : (Tryd.f10.body.map fun c => (cfn Tryd.prog pl10 Tryd.f10 c, guardsAll pl10 c)) = some (pf10, true) := by kernel_rfl

/-- (*corral/rob.Buffer).Pop  sizes [] -/
def pl11 : Nat → DT := dtGet []
def pf11 : PFn := ⟨25, [.t 2, .t 3], (.seq (.ops false [⟨(some 2), .mov (.c (.v (.int .i64 0))), none⟩,
    ⟨(some 3), .mov (.c (.v (.bool false))), none⟩] .done)
  (.seq (.ops false [⟨(some 8), .mov (.t 0), none⟩,
    ⟨(some 9), .call 21 [(.t 8)], none⟩,
    ⟨(some 7), .mov (.t 9), none⟩,
    ⟨(some 10), .ext (.t 7) 0, none⟩,
    ⟨(some 11), .ext (.t 7) 1, none⟩,
    ⟨(some 12), .ext (.t 7) 2, none⟩,
    ⟨(some 4), .mov (.t 10), none⟩,
    ⟨(some 5), .mov (.t 11), none⟩,
    ⟨(some 6), .mov (.t 12), none⟩] .done)
  (.seq (.seq (.ops false [⟨(some 13), .mov (.t 5), none⟩,
     ⟨(some 14), .un .not (.t 13), none⟩] .done)
   (.cond (.t 14)
    (.seq (.ops false [⟨(some 2), .mov (.c (.v (.int .i64 0))), none⟩,
       ⟨(some 3), .mov (.c (.v (.bool false))), none⟩] .done)
     .ret)
    .skip))
  (.seq (.ops false [⟨(some 15), .mov (.t 0), none⟩,
    ⟨(some 16), .mov (.t 0), none⟩,
    ⟨(some 17), .nilck (.t 16), none⟩,
    ⟨(some 18), .fld 2 (.t 17), none⟩,
    ⟨(some 19), .load none (.t 18), none⟩,
    ⟨(some 20), .slice 2 (.t 19) (some (.c (.v (.int .i64 1)))) none none, none⟩,
    ⟨(some 21), .call 24 [(.t 20)], none⟩,
    ⟨(some 22), .nilck (.t 15), none⟩,
    ⟨(some 23), .fld 2 (.t 22), none⟩,
    ⟨none, .store 1 (.t 23) (.t 21), none⟩] .done)
  (.seq (.ops false [⟨(some 24), .mov (.t 4), none⟩,
    ⟨(some 2), .mov (.t 24), none⟩,
    ⟨(some 3), .mov (.c (.v (.bool true))), none⟩] .done)
  .ret)))))⟩
theorem pf11_eq : (Tryd.f11.body.map fun c => (cfn Tryd.prog pl11 Tryd.f11 c, guardsAll pl11 c)) = some (pf11, true) := by kernel_rfl

/-- (*corral/rob.Buffer).Len  sizes [] -/
def pl12 : Nat → DT := dtGet []
def pf12 : PFn := ⟨8, [.t 2], (.seq (.ops false [⟨(some 2), .mov (.c (.v (.int .i64 0))), none⟩] .done)
  (.seq (.ops false [⟨(some 3), .mov (.t 0), none⟩,
    ⟨(some 4), .nilck (.t 3), none⟩,
    ⟨(some 5), .fld 2 (.t 4), none⟩,
    ⟨(some 6), .load none (.t 5), none⟩,
    ⟨(some 7), .len (.t 6), none⟩,
    ⟨(some 2), .mov (.t 7), none⟩] .done)
  .ret))⟩
theorem pf12_eq : (Tryd.f12.body.map fun c => (cfn Tryd.prog pl12 Tryd.f12 c, guardsAll pl12 c)) = some (pf12, true) := by kernel_rfl

/-- (*corral/rob.Buffer).Cut  sizes [(999999, 2)] -/
def pl13 : Nat → DT := dtGet [(999999, (.take 31 [2] .done))]
def pf13 : PFn := ⟨47, [.t 4], (.seq (.ops false [⟨(some 3), .box 3 (.t 1), none⟩,
    ⟨(some 4), .mov (.c (.v (.slice none 0 0))), none⟩] .done)
  (.seq (.ops false [⟨(some 9), .mov (.t 0), none⟩,
    ⟨(some 10), .nilck (.t 9), none⟩,
    ⟨(some 11), .fld 2 (.t 10), none⟩,
    ⟨(some 12), .load none (.t 11), none⟩,
    ⟨(some 13), .clo (.func 26) [] [(.t 3)], none⟩,
    ⟨(some 14), .call 25 [(.t 12), (.t 13)], none⟩,
    ⟨(some 5), .mov (.t 14), none⟩] .done)
  (.seq (.seq (.ops false [⟨(some 15), .mov (.t 5), none⟩,
     ⟨(some 16), .bin .lss (.t 15) (.c (.v (.int .i64 0))), none⟩,
     ⟨(some 17), .mov (.t 16), none⟩,
     ⟨(some 18), .load none (.t 3), some (17, true)⟩,
     ⟨(some 19), .bin .neq (.t 18) (.c (.v (.int .i64 (-1)))), some (17, true)⟩,
     ⟨(some 20), .pick (.t 17) (.t 19) (.c (.v (.bool false))), none⟩] .done)
   (.cond (.t 20)
    (.seq (.ops false [⟨(some 4), .mov (.c (.v (.slice none 0 0))), none⟩] .done)
     .ret)
    .skip))
  (.seq (.ops false [⟨(some 6), .box 22 (.c (.v (.slice none 0 0))), none⟩] .done)
  (.seq (.seq (.ops false [⟨(some 21), .mov (.t 0), none⟩,
     ⟨(some 22), .nilck (.t 21), none⟩,
     ⟨(some 23), .fld 2 (.t 22), none⟩,
     ⟨(some 24), .load none (.t 23), none⟩,
     ⟨(some 25), .mov (.t 5), none⟩,
     ⟨(some 26), .bin .add (.t 25) (.c (.v (.int .i64 1))), none⟩,
     ⟨(some 27), .slice 2 (.t 24) (some (.t 26)) none none, none⟩,
     ⟨(some 28), .call 27 [(.t 27)], none⟩] .done)
   (.block 0 (.rangef (.t 28) [(31, some 2)] [29, 30] (.ops false [⟨(some 8), .box 58 (.c (.agg [(.v (.int .i64 0)), (.v (.bool false))])), none⟩,
      ⟨none, .store 2 (.t 8) (.t 30), none⟩] .done) (.block 1 (.ops false [⟨(some 31), .load none (.t 6), none⟩,
       ⟨(some 32), .fld 0 (.t 8), none⟩,
       ⟨(some 33), .load none (.t 32), none⟩,
       ⟨(some 34), .bslice 3 [.int .i64] 1 [(.v (.int .i64 0))] [(0, 1, (.t 33))], none⟩,
       ⟨(some 35), .append 3 [.int .i64] [(.int .i64 0)] 8 (.t 31) (.t 34), none⟩,
       ⟨none, .store 1 (.t 6) (.t 35), none⟩] .done)))))
  (.seq (.ops false [⟨(some 36), .mov (.t 0), none⟩,
    ⟨(some 37), .mov (.t 0), none⟩,
    ⟨(some 38), .nilck (.t 37), none⟩,
    ⟨(some 39), .fld 2 (.t 38), none⟩,
    ⟨(some 40), .load none (.t 39), none⟩,
    ⟨(some 41), .mov (.t 5), none⟩,
    ⟨(some 42), .bin .add (.t 41) (.c (.v (.int .i64 1))), none⟩,
    ⟨(some 43), .slice 2 (.t 40) none (some (.t 42)) none, none⟩,
    ⟨(some 44), .nilck (.t 36), none⟩,
    ⟨(some 45), .fld 2 (.t 44), none⟩,
    ⟨none, .store 1 (.t 45) (.t 43), none⟩] .done)
  (.seq (.ops false [⟨(some 46), .load none (.t 6), none⟩,
    ⟨(some 4), .mov (.t 46), none⟩] .done)
  .ret)))))))⟩
theorem pf13_eq : (Tryd.f13.body.map fun c => (cfn Tryd.prog pl13 Tryd.f13 c, guardsAll pl13 c)) = some (pf13, true) := by kernel_rfl

/-- (*corral/rob.Buffer).Ids  sizes [] -/
def pl14 : Nat → DT := dtGet []
def pf14 : PFn := ⟨22, [.t 2], (.seq (.ops false [⟨(some 2), .mov (.c (.v (.slice none 0 0))), none⟩] .done)
  (.seq (.ops false [⟨(some 3), .mov (.c (.v (.slice none 0 0))), none⟩] .done)
  (.seq (.seq (.ops false [⟨(some 6), .mov (.t 0), none⟩,
     ⟨(some 7), .nilck (.t 6), none⟩,
     ⟨(some 8), .fld 2 (.t 7), none⟩,
     ⟨(some 9), .load none (.t 8), none⟩,
     ⟨(some 10), .len (.t 9), none⟩,
     ⟨(some 11), .mov (.c (.v (.int .i64 0))), none⟩] .done)
   (.block 0 (.loop (.seq (.ops false [⟨(some 12), .bin .lss (.t 11) (.t 10), none⟩] .done)
     (.seq (.cond (.t 12)
       .skip
       (.exit 0))
     (.seq (.block 1 (.seq (.ops false [⟨(some 13), .idx 2 (.t 9) (.t 11), none⟩,
         ⟨(some 14), .load (some 2) (.t 13), none⟩,
         ⟨(some 5), .box 58 (.c (.agg [(.v (.int .i64 0)), (.v (.bool false))])), none⟩,
         ⟨none, .store 2 (.t 5) (.t 14), none⟩] .done)
       (.ops false [⟨(some 15), .mov (.t 3), none⟩,
        ⟨(some 16), .fld 0 (.t 5), none⟩,
        ⟨(some 17), .load none (.t 16), none⟩,
        ⟨(some 18), .bslice 3 [.int .i64] 1 [(.v (.int .i64 0))] [(0, 1, (.t 17))], none⟩,
        ⟨(some 19), .append 3 [.int .i64] [(.int .i64 0)] 8 (.t 15) (.t 18), none⟩,
        ⟨(some 3), .mov (.t 19), none⟩] .done)))
     (.ops false [⟨(some 20), .bin .add (.t 11) (.c (.v (.int .i64 1))), none⟩,
      ⟨(some 11), .mov (.t 20), none⟩] .done)))))))
  (.seq (.ops false [⟨(some 21), .mov (.t 3), none⟩,
    ⟨(some 2), .mov (.t 21), none⟩] .done)
  .ret))))⟩
theorem pf14_eq : (Tryd.f14.body.map fun c => (cfn Tryd.prog pl14 Tryd.f14 c, guardsAll pl14 c)) = some (pf14, true) := by kernel_rfl

/-- corral/corralsee.Is  sizes [] -/
def pl15 : Nat → DT := dtGet []
def pf15 : PFn := ⟨9, [.t 4], (.seq (.ops false [⟨(some 4), .mov (.c (.v (.bool false))), none⟩] .done)
  (.seq (.ops false [⟨(some 5), .mov (.t 0), none⟩,
    ⟨(some 6), .mov (.t 1), none⟩,
    ⟨(some 7), .call 29 [(.t 6)], none⟩,
    ⟨(some 8), .call 28 [(.t 5), (.t 7)], none⟩,
    ⟨(some 4), .mov (.t 8), none⟩] .done)
  .ret))⟩
theorem pf15_eq : (Tryd.f15.body.map fun c => (cfn Tryd.prog pl15 Tryd.f15 c, guardsAll pl15 c)) = some (pf15, true) := by kernel_rfl

/-- (*corral/corralref21.Buffer).Push  sizes [(1, 11), (3, 41)] -/
def pl16 : Nat → DT := dtGet [(1, (.take 0 [0, 1, 2, 3, 4, 9] (.take 1 [1, 2, 3, 4, 9] (.take 2 [2, 3, 4, 9] (.take 3 [3, 4, 9] (.take 4 [4, 9] (.take 5 [5, 6, 7, 8, 9] (.take 6 [6, 7, 8, 9] (.take 7 [7, 8, 9] (.take 8 [8, 9] (.take 9 [9] .done))))))))))), (3, (.take 0 [0, 20, 21, 22] (.take 1 [1, 2, 20, 21, 22, 3, 4, 5, 6, 7, 12, 19] (.take 2 [2, 3, 20, 21, 22, 4, 5, 6, 7, 12, 19] (.take 3 [3, 4, 20, 21, 22, 5, 6, 7, 12, 19] (.take 4 [4, 5, 20, 21, 22, 6, 7, 12, 19] (.take 5 [5, 6, 20, 21, 22, 7, 12, 19] (.take 6 [6, 7, 20, 21, 22, 12, 19] (.take 8 [8, 9, 20, 21, 22, 10, 11, 12, 19] (.take 9 [9, 10, 20, 21, 22, 11, 12, 19] (.take 10 [10, 11, 20, 21, 22, 12, 19] (.take 11 [11, 12, 20, 21, 22, 19] (.take 13 [13, 14, 20, 21, 22, 15, 16, 17, 18, 19] (.take 14 [14, 15, 20, 21, 22, 16, 17, 18, 19] (.take 15 [15, 16, 20, 21, 22, 17, 18, 19] (.take 16 [16, 17, 20, 21, 22, 18, 19] (.take 17 [17, 18, 20, 21, 22, 19] (.both (.eff true 7 (.both (.eff false 12 (.eff true 18 (.eff false 19 (.take 20 [20, 21, 22] (.take 21 [21, 22] (.eff false 22 .done)))))) (.eff true 18 (.eff false 12 (.eff false 19 (.take 20 [20, 21, 22] (.take 21 [21, 22] (.eff false 22 .done)))))))) (.eff true 18 (.eff true 7 (.eff false 12 (.eff false 19 (.take 20 [20, 21, 22] (.take 21 [21, 22] (.eff false 22 .done)))))))))))))))))))))))))]
def pf16 : PFn := ⟨49, [.t 2, .t 3], (.seq (.ops false [⟨(some 2), .mov (.c (.v (.int .i64 0))), none⟩,
    ⟨(some 3), .mov (.c (.v (.bool false))), none⟩] .done)
  (.seq (.seq (.ops true [⟨(some 4), .mov (.t 0), none⟩,
     ⟨(some 5), .nilck (.t 4), none⟩,
     ⟨(some 6), .fld 2 (.t 5), none⟩,
     ⟨(some 7), .load none (.t 6), none⟩,
     ⟨(some 8), .len (.t 7), none⟩,
     ⟨(some 9), .mov (.t 0), none⟩,
     ⟨(some 10), .nilck (.t 9), none⟩,
     ⟨(some 11), .fld 0 (.t 10), none⟩,
     ⟨(some 12), .load none (.t 11), none⟩,
     ⟨(some 13), .bin .geq (.t 8) (.t 12), none⟩] (.take 0 [0, 1, 2, 3, 4, 9] (.take 1 [1, 2, 3, 4, 9] (.take 2 [2, 3, 4, 9] (.take 3 [3, 4, 9] (.take 4 [4, 9] (.take 5 [5, 6, 7, 8, 9] (.take 6 [6, 7, 8, 9] (.take 7 [7, 8, 9] (.take 8 [8, 9] (.take 9 [9] .done)))))))))))
   (.cond (.t 13)
    (.seq (.ops false [⟨(some 2), .mov (.c (.v (.int .i64 0))), none⟩,
       ⟨(some 3), .mov (.c (.v (.bool false))), none⟩] .done)
     .ret)
    .skip))
  (.seq (.ops true [⟨(some 14), .mov (.t 0), none⟩,
    ⟨(some 15), .mov (.t 0), none⟩,
    ⟨(some 16), .nilck (.t 15), none⟩,
    ⟨(some 17), .fld 2 (.t 16), none⟩,
    ⟨(some 18), .load none (.t 17), none⟩,
    ⟨(some 19), .len (.t 18), none⟩,
    ⟨(some 20), .bin .add (.t 19) (.c (.v (.int .i64 1))), none⟩,
    ⟨(some 21), .mslice 52 [.int .i64, .bool] [(.int .i64 0), (.bool false)] 16 (.c (.v (.int .i64 0))) (.t 20), none⟩,
    ⟨(some 22), .mov (.t 0), none⟩,
    ⟨(some 23), .nilck (.t 22), none⟩,
    ⟨(some 24), .fld 2 (.t 23), none⟩,
    ⟨(some 25), .load none (.t 24), none⟩,
    ⟨(some 26), .append 52 [.int .i64, .bool] [(.int .i64 0), (.bool false)] 16 (.t 21) (.t 25), none⟩,
    ⟨(some 27), .mov (.t 0), none⟩,
    ⟨(some 28), .nilck (.t 27), none⟩,
    ⟨(some 29), .fld 1 (.t 28), none⟩,
    ⟨(some 30), .load none (.t 29), none⟩,
    ⟨(some 31), .build [(.v (.int .i64 0)), (.v (.bool false))] [(0, 1, (.t 30))], none⟩,
    ⟨(some 32), .bslice 52 [.int .i64, .bool] 1 [(.v (.int .i64 0)), (.v (.bool false))] [(0, 2, (.t 31))], none⟩,
    ⟨(some 33), .append 52 [.int .i64, .bool] [(.int .i64 0), (.bool false)] 16 (.t 26) (.t 32), none⟩,
    ⟨(some 34), .nilck (.t 14), none⟩,
    ⟨(some 35), .fld 2 (.t 34), none⟩,
    ⟨none, .store 1 (.t 35) (.t 33), none⟩] (.take 0 [0, 20, 21, 22] (.take 1 [1, 2, 20, 21, 22, 3, 4, 5, 6, 7, 12, 19] (.take 2 [2, 3, 20, 21, 22, 4, 5, 6, 7, 12, 19] (.take 3 [3, 4, 20, 21, 22, 5, 6, 7, 12, 19] (.take 4 [4, 5, 20, 21, 22, 6, 7, 12, 19] (.take 5 [5, 6, 20, 21, 22, 7, 12, 19] (.take 6 [6, 7, 20, 21, 22, 12, 19] (.take 8 [8, 9, 20, 21, 22, 10, 11, 12, 19] (.take 9 [9, 10, 20, 21, 22, 11, 12, 19] (.take 10 [10, 11, 20, 21, 22, 12, 19] (.take 11 [11, 12, 20, 21, 22, 19] (.take 13 [13, 14, 20, 21, 22, 15, 16, 17, 18, 19] (.take 14 [14, 15, 20, 21, 22, 16, 17, 18, 19] (.take 15 [15, 16, 20, 21, 22, 17, 18, 19] (.take 16 [16, 17, 20, 21, 22, 18, 19] (.take 17 [17, 18, 20, 21, 22, 19] (.both (.eff true 7 (.both (.eff false 12 (.eff true 18 (.eff false 19 (.take 20 [20, 21, 22] (.take 21 [21, 22] (.eff false 22 .done)))))) (.eff true 18 (.eff false 12 (.eff false 19 (.take 20 [20, 21, 22] (.take 21 [21, 22] (.eff false 22 .done)))))))) (.eff true 18 (.eff true 7 (.eff false 12 (.eff false 19 (.take 20 [20, 21, 22] (.take 21 [21, 22] (.eff false 22 .done)))))))))))))))))))))))))
  (.seq (.ops false [⟨(some 36), .mov (.t 0), none⟩,
    ⟨(some 37), .mov (.t 0), none⟩,
    ⟨(some 38), .nilck (.t 37), none⟩,
    ⟨(some 39), .fld 1 (.t 38), none⟩,
    ⟨(some 40), .load none (.t 39), none⟩,
    ⟨(some 41), .bin .add (.t 40) (.c (.v (.int .i64 1))), none⟩,
    ⟨(some 42), .nilck (.t 36), none⟩,
    ⟨(some 43), .fld 1 (.t 42), none⟩,
    ⟨none, .store 1 (.t 43) (.t 41), none⟩] .done)
  (.seq (.ops false [⟨(some 44), .mov (.t 0), none⟩,
    ⟨(some 45), .nilck (.t 44), none⟩,
    ⟨(some 46), .fld 1 (.t 45), none⟩,
    ⟨(some 47), .load none (.t 46), none⟩,
    ⟨(some 48), .bin .sub (.t 47) (.c (.v (.int .i64 1))), none⟩,
    ⟨(some 2), .mov (.t 48), none⟩,
    ⟨(some 3), .mov (.c (.v (.bool true))), none⟩] .done)
  .ret)))))⟩
theorem pf16_eq : (Tryd.f16.body.map fun c => (cfn Tryd.prog pl16 Tryd.f16 c, guardsAll pl16 c)) = some (pf16, true) := by kernel_rfl

/-- (*corral/corralref21.Buffer).Done  sizes [] -/
def pl17 : Nat → DT := dtGet []
def pf17 : PFn := ⟨47, [.t 4], (.seq (.ops false [⟨(some 4), .mov (.c (.v (.int .i64 0))), none⟩] .done)
  (.seq (.ops false [⟨(some 5), .mov (.c (.v (.int .i64 0))), none⟩] .done)
  (.seq (.seq (.ops false [⟨(some 6), .mov (.c (.v (.int .i64 0))), none⟩] .done)
   (.block 0 (.loop (.seq (.seq (.ops false [⟨(some 7), .mov (.t 6), none⟩,
        ⟨(some 8), .mov (.t 0), none⟩,
        ⟨(some 9), .nilck (.t 8), none⟩,
        ⟨(some 10), .fld 2 (.t 9), none⟩,
        ⟨(some 11), .load none (.t 10), none⟩,
        ⟨(some 12), .len (.t 11), none⟩,
        ⟨(some 13), .bin .lss (.t 7) (.t 12), none⟩] .done)
      (.cond (.t 13)
       .skip
       (.exit 0)))
     (.seq (.block 1 (.seq (.ops false [⟨(some 16), .mov (.t 0), none⟩,
         ⟨(some 17), .nilck (.t 16), none⟩,
         ⟨(some 18), .fld 2 (.t 17), none⟩,
         ⟨(some 19), .load none (.t 18), none⟩,
         ⟨(some 20), .mov (.t 6), none⟩,
         ⟨(some 21), .idx 2 (.t 19) (.t 20), none⟩,
         ⟨(some 22), .fld 1 (.t 21), none⟩,
         ⟨(some 23), .load none (.t 22), none⟩,
         ⟨(some 24), .un .not (.t 23), none⟩,
         ⟨(some 25), .mov (.t 24), none⟩,
         ⟨(some 26), .mov (.t 1), some (25, true)⟩,
         ⟨(some 27), .mov (.t 0), some (25, true)⟩,
         ⟨(some 28), .nilck (.t 27), some (25, true)⟩,
         ⟨(some 29), .fld 2 (.t 28), some (25, true)⟩,
         ⟨(some 30), .load none (.t 29), some (25, true)⟩,
         ⟨(some 31), .mov (.t 6), some (25, true)⟩,
         ⟨(some 32), .idx 2 (.t 30) (.t 31), some (25, true)⟩,
         ⟨(some 33), .fld 0 (.t 32), some (25, true)⟩,
         ⟨(some 34), .load none (.t 33), some (25, true)⟩,
         ⟨(some 35), .call 30 [(.t 26), (.t 34)], some (25, true)⟩,
         ⟨(some 36), .pick (.t 25) (.t 35) (.c (.v (.bool false))), none⟩] .done)
       (.cond (.t 36)
        (.seq (.ops false [⟨(some 37), .mov (.t 0), none⟩,
           ⟨(some 38), .nilck (.t 37), none⟩,
           ⟨(some 39), .fld 2 (.t 38), none⟩,
           ⟨(some 40), .load none (.t 39), none⟩,
           ⟨(some 41), .mov (.t 6), none⟩,
           ⟨(some 42), .idx 2 (.t 40) (.t 41), none⟩,
           ⟨(some 43), .fld 1 (.t 42), none⟩,
           ⟨none, .store 1 (.t 43) (.c (.v (.bool true))), none⟩] .done)
         (.ops false [⟨(some 44), .mov (.t 5), none⟩,
          ⟨(some 45), .bin .add (.t 44) (.c (.v (.int .i64 1))), none⟩,
          ⟨(some 5), .mov (.t 45), none⟩] .done))
        .skip)))
     (.ops false [⟨(some 14), .mov (.t 6), none⟩,
      ⟨(some 15), .bin .add (.t 14) (.c (.v (.int .i64 1))), none⟩,
      ⟨(some 6), .mov (.t 15), none⟩] .done))))))
  (.seq (.ops false [⟨(some 46), .mov (.t 5), none⟩,
    ⟨(some 4), .mov (.t 46), none⟩] .done)
  .ret))))⟩
theorem pf17_eq : (Tryd.f17.body.map fun c => (cfn Tryd.prog pl17 Tryd.f17 c, guardsAll pl17 c)) = some (pf17, true) := by kernel_rfl

/-- (*corral/corralref21.Buffer).Pop  sizes [] -/
def pl18 : Nat → DT := dtGet []
def pf18 : PFn := ⟨37, [.t 2, .t 3], (.seq (.ops false [⟨(some 2), .mov (.c (.v (.int .i64 0))), none⟩,
    ⟨(some 3), .mov (.c (.v (.bool false))), none⟩] .done)
  (.seq (.seq (.ops false [⟨(some 5), .mov (.t 0), none⟩,
     ⟨(some 6), .nilck (.t 5), none⟩,
     ⟨(some 7), .fld 2 (.t 6), none⟩,
     ⟨(some 8), .load none (.t 7), none⟩,
     ⟨(some 9), .len (.t 8), none⟩,
     ⟨(some 10), .bin .eql (.t 9) (.c (.v (.int .i64 0))), none⟩,
     ⟨(some 11), .mov (.t 10), none⟩,
     ⟨(some 12), .mov (.t 0), some (11, false)⟩,
     ⟨(some 13), .nilck (.t 12), some (11, false)⟩,
     ⟨(some 14), .fld 2 (.t 13), some (11, false)⟩,
     ⟨(some 15), .load none (.t 14), some (11, false)⟩,
     ⟨(some 16), .idx 2 (.t 15) (.c (.v (.int .i64 0))), some (11, false)⟩,
     ⟨(some 17), .fld 1 (.t 16), some (11, false)⟩,
     ⟨(some 18), .load none (.t 17), some (11, false)⟩,
     ⟨(some 19), .un .not (.t 18), some (11, false)⟩,
     ⟨(some 20), .pick (.t 11) (.c (.v (.bool true))) (.t 19), none⟩] .done)
   (.cond (.t 20)
    (.seq (.ops false [⟨(some 2), .mov (.c (.v (.int .i64 0))), none⟩,
       ⟨(some 3), .mov (.c (.v (.bool false))), none⟩] .done)
     .ret)
    .skip))
  (.seq (.ops false [⟨(some 21), .mov (.t 0), none⟩,
    ⟨(some 22), .nilck (.t 21), none⟩,
    ⟨(some 23), .fld 2 (.t 22), none⟩,
    ⟨(some 24), .load none (.t 23), none⟩,
    ⟨(some 25), .idx 2 (.t 24) (.c (.v (.int .i64 0))), none⟩,
    ⟨(some 26), .fld 0 (.t 25), none⟩,
    ⟨(some 27), .load none (.t 26), none⟩,
    ⟨(some 4), .mov (.t 27), none⟩] .done)
  (.seq (.ops false [⟨(some 28), .mov (.t 0), none⟩,
    ⟨(some 29), .mov (.t 0), none⟩,
    ⟨(some 30), .nilck (.t 29), none⟩,
    ⟨(some 31), .fld 2 (.t 30), none⟩,
    ⟨(some 32), .load none (.t 31), none⟩,
    ⟨(some 33), .slice 2 (.t 32) (some (.c (.v (.int .i64 1)))) none none, none⟩,
    ⟨(some 34), .nilck (.t 28), none⟩,
    ⟨(some 35), .fld 2 (.t 34), none⟩,
    ⟨none, .store 1 (.t 35) (.t 33), none⟩] .done)
  (.seq (.ops false [⟨(some 36), .mov (.t 4), none⟩,
    ⟨(some 2), .mov (.t 36), none⟩,
    ⟨(some 3), .mov (.c (.v (.bool true))), none⟩] .done)
  .ret)))))⟩
theorem pf18_eq : (Tryd.f18.body.map fun c => (cfn Tryd.prog pl18 Tryd.f18 c, guardsAll pl18 c)) = some (pf18, true) := by kernel_rfl

/-- corral/corralref.SameInts  sizes [(6, 11)] -/
def pl19 : Nat → DT := dtGet [(6, (.take 0 [0, 2, 9, 3, 8] (.take 1 [1, 2, 9, 3, 8] (.take 2 [2, 3, 9, 8] (.take 3 [3, 8, 9] (.take 4 [4, 6, 9, 7, 8] (.take 5 [5, 6, 9, 7, 8] (.take 6 [6, 7, 9, 8] (.take 7 [7, 8, 9] (.take 8 [8, 9] (.take 9 [9] .done)))))))))))]
def pf19 : PFn := ⟨29, [.t 4], (.seq (.ops false [⟨(some 4), .mov (.c (.v (.bool false))), none⟩] .done)
  (.seq (.seq (.ops false [⟨(some 7), .mov (.t 0), none⟩,
     ⟨(some 8), .len (.t 7), none⟩,
     ⟨(some 9), .mov (.t 1), none⟩,
     ⟨(some 10), .len (.t 9), none⟩,
     ⟨(some 11), .bin .neq (.t 8) (.t 10), none⟩] .done)
   (.cond (.t 11)
    (.seq (.ops false [⟨(some 4), .mov (.c (.v (.bool false))), none⟩] .done)
     .ret)
    .skip))
  (.seq (.seq (.ops false [⟨(some 5), .mov (.c (.v (.int .i64 0))), none⟩] .done)
   (.block 0 (.loop (.seq (.seq (.ops false [⟨(some 12), .mov (.t 5), none⟩,
        ⟨(some 13), .mov (.t 0), none⟩,
        ⟨(some 14), .len (.t 13), none⟩,
        ⟨(some 15), .bin .lss (.t 12) (.t 14), none⟩] .done)
      (.cond (.t 15)
       .skip
       (.exit 0)))
     (.seq (.block 1 (.seq (.ops true [⟨(some 18), .mov (.t 0), none⟩,
         ⟨(some 19), .mov (.t 5), none⟩,
         ⟨(some 20), .idx 1 (.t 18) (.t 19), none⟩,
         ⟨(some 21), .load none (.t 20), none⟩,
         ⟨(some 22), .mov (.t 1), none⟩,
         ⟨(some 23), .mov (.t 5), none⟩,
         ⟨(some 24), .idx 1 (.t 22) (.t 23), none⟩,
         ⟨(some 25), .load none (.t 24), none⟩,
         ⟨(some 26), .bin .eql (.t 21) (.t 25), none⟩,
         ⟨(some 6), .mov (.t 26), none⟩] (.take 0 [0, 2, 9, 3, 8] (.take 1 [1, 2, 9, 3, 8] (.take 2 [2, 3, 9, 8] (.take 3 [3, 8, 9] (.take 4 [4, 6, 9, 7, 8] (.take 5 [5, 6, 9, 7, 8] (.take 6 [6, 7, 9, 8] (.take 7 [7, 8, 9] (.take 8 [8, 9] (.take 9 [9] .done)))))))))))
       (.seq (.ops false [⟨(some 27), .mov (.t 6), none⟩,
         ⟨(some 28), .un .not (.t 27), none⟩] .done)
       (.cond (.t 28)
        (.seq (.ops false [⟨(some 4), .mov (.c (.v (.bool false))), none⟩] .done)
         .ret)
        .skip))))
     (.ops false [⟨(some 16), .mov (.t 5), none⟩,
      ⟨(some 17), .bin .add (.t 16) (.c (.v (.int .i64 1))), none⟩,
      ⟨(some 5), .mov (.t 17), none⟩] .done))))))
  (.seq (.ops false [⟨(some 4), .mov (.c (.v (.bool true))), none⟩] .done)
  .ret))))⟩
theorem pf19_eq : (Tryd.f19.body.map fun c => (cfn Tryd.prog pl19 Tryd.f19 c, guardsAll pl19 c)) = some (pf19, true) := by kernel_rfl

/-- (*corral/corralref21.Buffer).Cut  sizes [] -/
def pl20 : Nat → DT := dtGet []
def pf20 : PFn := ⟨67, [.t 4], (.seq (.ops false [⟨(some 4), .mov (.c (.v (.slice none 0 0))), none⟩] .done)
  (.seq (.ops false [⟨(some 5), .mov (.c (.v (.int .i64 (-1)))), none⟩] .done)
  (.seq (.seq (.ops false [⟨(some 6), .mov (.c (.v (.int .i64 0))), none⟩] .done)
   (.block 0 (.loop (.seq (.seq (.ops false [⟨(some 9), .mov (.t 6), none⟩,
        ⟨(some 10), .mov (.t 0), none⟩,
        ⟨(some 11), .nilck (.t 10), none⟩,
        ⟨(some 12), .fld 2 (.t 11), none⟩,
        ⟨(some 13), .load none (.t 12), none⟩,
        ⟨(some 14), .len (.t 13), none⟩,
        ⟨(some 15), .bin .lss (.t 9) (.t 14), none⟩] .done)
      (.cond (.t 15)
       .skip
       (.exit 0)))
     (.seq (.block 1 (.seq (.ops false [⟨(some 18), .mov (.t 0), none⟩,
         ⟨(some 19), .nilck (.t 18), none⟩,
         ⟨(some 20), .fld 2 (.t 19), none⟩,
         ⟨(some 21), .load none (.t 20), none⟩,
         ⟨(some 22), .mov (.t 6), none⟩,
         ⟨(some 23), .idx 2 (.t 21) (.t 22), none⟩,
         ⟨(some 24), .fld 0 (.t 23), none⟩,
         ⟨(some 25), .load none (.t 24), none⟩,
         ⟨(some 26), .mov (.t 1), none⟩,
         ⟨(some 27), .bin .eql (.t 25) (.t 26), none⟩] .done)
       (.cond (.t 27)
        (.ops false [⟨(some 28), .mov (.t 6), none⟩,
          ⟨(some 29), .bin .add (.t 28) (.c (.v (.int .i64 1))), none⟩,
          ⟨(some 5), .mov (.t 29), none⟩] .done)
        .skip)))
     (.ops false [⟨(some 16), .mov (.t 6), none⟩,
      ⟨(some 17), .bin .add (.t 16) (.c (.v (.int .i64 1))), none⟩,
      ⟨(some 6), .mov (.t 17), none⟩] .done))))))
  (.seq (.seq (.ops false [⟨(some 30), .mov (.t 1), none⟩,
     ⟨(some 31), .bin .eql (.t 30) (.c (.v (.int .i64 (-1)))), none⟩] .done)
   (.cond (.t 31)
    (.ops false [⟨(some 5), .mov (.c (.v (.int .i64 0))), none⟩] .done)
    .skip))
  (.seq (.ops false [⟨(some 7), .mov (.c (.v (.slice none 0 0))), none⟩] .done)
  (.seq (.seq (.ops false [⟨(some 32), .mov (.t 5), none⟩,
     ⟨(some 33), .bin .lss (.t 32) (.c (.v (.int .i64 0))), none⟩] .done)
   (.cond (.t 33)
    (.seq (.ops false [⟨(some 34), .mov (.t 7), none⟩,
       ⟨(some 4), .mov (.t 34), none⟩] .done)
     .ret)
    .skip))
  (.seq (.seq (.ops false [⟨(some 35), .mov (.t 0), none⟩,
     ⟨(some 36), .nilck (.t 35), none⟩,
     ⟨(some 37), .fld 2 (.t 36), none⟩,
     ⟨(some 38), .load none (.t 37), none⟩,
     ⟨(some 39), .len (.t 38), none⟩,
     ⟨(some 40), .bin .sub (.t 39) (.c (.v (.int .i64 1))), none⟩,
     ⟨(some 8), .mov (.t 40), none⟩] .done)
   (.block 2 (.loop (.seq (.seq (.ops false [⟨(some 41), .mov (.t 8), none⟩,
        ⟨(some 42), .mov (.t 5), none⟩,
        ⟨(some 43), .bin .geq (.t 41) (.t 42), none⟩] .done)
      (.cond (.t 43)
       .skip
       (.exit 2)))
     (.seq (.block 3 (.ops false [⟨(some 46), .mov (.t 7), none⟩,
        ⟨(some 47), .mov (.t 0), none⟩,
        ⟨(some 48), .nilck (.t 47), none⟩,
        ⟨(some 49), .fld 2 (.t 48), none⟩,
        ⟨(some 50), .load none (.t 49), none⟩,
        ⟨(some 51), .mov (.t 8), none⟩,
        ⟨(some 52), .idx 2 (.t 50) (.t 51), none⟩,
        ⟨(some 53), .fld 0 (.t 52), none⟩,
        ⟨(some 54), .load none (.t 53), none⟩,
        ⟨(some 55), .bslice 3 [.int .i64] 1 [(.v (.int .i64 0))] [(0, 1, (.t 54))], none⟩,
        ⟨(some 56), .append 3 [.int .i64] [(.int .i64 0)] 8 (.t 46) (.t 55), none⟩,
        ⟨(some 7), .mov (.t 56), none⟩] .done))
     (.ops false [⟨(some 44), .mov (.t 8), none⟩,
      ⟨(some 45), .bin .sub (.t 44) (.c (.v (.int .i64 1))), none⟩,
      ⟨(some 8), .mov (.t 45), none⟩] .done))))))
  (.seq (.ops false [⟨(some 57), .mov (.t 0), none⟩,
    ⟨(some 58), .mov (.t 0), none⟩,
    ⟨(some 59), .nilck (.t 58), none⟩,
    ⟨(some 60), .fld 2 (.t 59), none⟩,
    ⟨(some 61), .load none (.t 60), none⟩,
    ⟨(some 62), .mov (.t 5), none⟩,
    ⟨(some 63), .slice 2 (.t 61) none (some (.t 62)) none, none⟩,
    ⟨(some 64), .nilck (.t 57), none⟩,
    ⟨(some 65), .fld 2 (.t 64), none⟩,
    ⟨none, .store 1 (.t 65) (.t 63), none⟩] .done)
  (.seq (.ops false [⟨(some 66), .mov (.t 7), none⟩,
    ⟨(some 4), .mov (.t 66), none⟩] .done)
  .ret)))))))))⟩
theorem pf20_eq : (Tryd.f20.body.map fun c => (cfn Tryd.prog pl20 Tryd.f20 c, guardsAll pl20 c)) = some (pf20, true) := by kernel_rfl

/-- (*corral/rob.Buffer).Head  sizes [(3, 18)] -/
def pl21 : Nat → DT := dtGet [(3, (.take 0 [0, 1, 14, 15, 16, 2, 3, 4, 5, 6] (.take 1 [1, 2, 14, 15, 16, 3, 4, 5, 6] (.take 2 [2, 3, 14, 15, 16, 4, 5, 6] (.take 3 [3, 4, 14, 15, 16, 5, 6] (.take 4 [4, 5, 14, 15, 16, 6] (.take 5 [5, 6, 14, 15, 16] (.take 6 [6, 14, 15, 16] (.take 7 [7, 8, 15, 16, 9, 10, 11, 12, 13] (.take 8 [8, 9, 15, 16, 10, 11, 12, 13] (.take 9 [9, 10, 15, 16, 11, 12, 13] (.take 10 [10, 11, 15, 16, 12, 13] (.take 11 [11, 12, 15, 16, 13] (.take 12 [12, 13, 15, 16] (.take 13 [13, 15, 16] (.take 14 [14, 15, 16] (.take 15 [15, 16] (.take 16 [16] .done))))))))))))))))))]
def pf21 : PFn := ⟨25, [.t 2, .t 3, .t 4], (.seq (.ops false [⟨(some 2), .mov (.c (.v (.int .i64 0))), none⟩,
    ⟨(some 3), .mov (.c (.v (.bool false))), none⟩,
    ⟨(some 4), .mov (.c (.v (.bool false))), none⟩] .done)
  (.seq (.seq (.ops false [⟨(some 5), .mov (.t 0), none⟩,
     ⟨(some 6), .nilck (.t 5), none⟩,
     ⟨(some 7), .fld 2 (.t 6), none⟩,
     ⟨(some 8), .load none (.t 7), none⟩,
     ⟨(some 9), .len (.t 8), none⟩,
     ⟨(some 10), .bin .eql (.t 9) (.c (.v (.int .i64 0))), none⟩] .done)
   (.cond (.t 10)
    (.seq (.ops false [⟨(some 2), .mov (.c (.v (.int .i64 0))), none⟩,
       ⟨(some 3), .mov (.c (.v (.bool false))), none⟩,
       ⟨(some 4), .mov (.c (.v (.bool false))), none⟩] .done)
     .ret)
    .skip))
  (.seq (.ops true [⟨(some 11), .mov (.t 0), none⟩,
    ⟨(some 12), .nilck (.t 11), none⟩,
    ⟨(some 13), .fld 2 (.t 12), none⟩,
    ⟨(some 14), .load none (.t 13), none⟩,
    ⟨(some 15), .idx 2 (.t 14) (.c (.v (.int .i64 0))), none⟩,
    ⟨(some 16), .fld 0 (.t 15), none⟩,
    ⟨(some 17), .load none (.t 16), none⟩,
    ⟨(some 18), .mov (.t 0), none⟩,
    ⟨(some 19), .nilck (.t 18), none⟩,
    ⟨(some 20), .fld 2 (.t 19), none⟩,
    ⟨(some 21), .load none (.t 20), none⟩,
    ⟨(some 22), .idx 2 (.t 21) (.c (.v (.int .i64 0))), none⟩,
    ⟨(some 23), .fld 1 (.t 22), none⟩,
    ⟨(some 24), .load none (.t 23), none⟩,
    ⟨(some 2), .mov (.t 17), none⟩,
    ⟨(some 3), .mov (.t 24), none⟩,
    ⟨(some 4), .mov (.c (.v (.bool true))), none⟩] (.take 0 [0, 1, 14, 15, 16, 2, 3, 4, 5, 6] (.take 1 [1, 2, 14, 15, 16, 3, 4, 5, 6] (.take 2 [2, 3, 14, 15, 16, 4, 5, 6] (.take 3 [3, 4, 14, 15, 16, 5, 6] (.take 4 [4, 5, 14, 15, 16, 6] (.take 5 [5, 6, 14, 15, 16] (.take 6 [6, 14, 15, 16] (.take 7 [7, 8, 15, 16, 9, 10, 11, 12, 13] (.take 8 [8, 9, 15, 16, 10, 11, 12, 13] (.take 9 [9, 10, 15, 16, 11, 12, 13] (.take 10 [10, 11, 15, 16, 12, 13] (.take 11 [11, 12, 15, 16, 13] (.take 12 [12, 13, 15, 16] (.take 13 [13, 15, 16] (.take 14 [14, 15, 16] (.take 15 [15, 16] (.take 16 [16] .done))))))))))))))))))
  .ret)))⟩
theorem pf21_eq : (Tryd.f21.body.map fun c => (cfn Tryd.prog pl21 Tryd.f21 c, guardsAll pl21 c)) = some (pf21, true) := by kernel_rfl

/-- (*corral/rob.Buffer).Room  sizes [(1, 12)] -/
def pl22 : Nat → DT := dtGet [(1, (.take 0 [0, 1, 10, 2, 3, 9] (.take 1 [1, 2, 10, 3, 9] (.take 2 [2, 3, 10, 9] (.take 3 [3, 9, 10] (.take 4 [4, 5, 10, 6, 7, 8, 9] (.take 5 [5, 6, 10, 7, 8, 9] (.take 6 [6, 7, 10, 8, 9] (.take 7 [7, 8, 10, 9] (.take 8 [8, 9, 10] (.take 9 [9, 10] (.take 10 [10] .done))))))))))))]
def pf22 : PFn := ⟨13, [.t 2], (.seq (.ops false [⟨(some 2), .mov (.c (.v (.int .i64 0))), none⟩] .done)
  (.seq (.ops true [⟨(some 3), .mov (.t 0), none⟩,
    ⟨(some 4), .nilck (.t 3), none⟩,
    ⟨(some 5), .fld 0 (.t 4), none⟩,
    ⟨(some 6), .load none (.t 5), none⟩,
    ⟨(some 7), .mov (.t 0), none⟩,
    ⟨(some 8), .nilck (.t 7), none⟩,
    ⟨(some 9), .fld 2 (.t 8), none⟩,
    ⟨(some 10), .load none (.t 9), none⟩,
    ⟨(some 11), .len (.t 10), none⟩,
    ⟨(some 12), .bin .sub (.t 6) (.t 11), none⟩,
    ⟨(some 2), .mov (.t 12), none⟩] (.take 0 [0, 1, 10, 2, 3, 9] (.take 1 [1, 2, 10, 3, 9] (.take 2 [2, 3, 10, 9] (.take 3 [3, 9, 10] (.take 4 [4, 5, 10, 6, 7, 8, 9] (.take 5 [5, 6, 10, 7, 8, 9] (.take 6 [6, 7, 10, 8, 9] (.take 7 [7, 8, 10, 9] (.take 8 [8, 9, 10] (.take 9 [9, 10] (.take 10 [10] .done))))))))))))
  .ret))⟩
theorem pf22_eq : (Tryd.f22.body.map fun c => (cfn Tryd.prog pl22 Tryd.f22 c, guardsAll pl22 c)) = some (pf22, true) := by kernel_rfl

/-- (*corral/corralref21.Buffer).Ids  sizes [] -/
def pl23 : Nat → DT := dtGet []
def pf23 : PFn := ⟨26, [.t 2], (.seq (.ops false [⟨(some 2), .mov (.c (.v (.slice none 0 0))), none⟩] .done)
  (.seq (.ops false [⟨(some 3), .mov (.c (.v (.slice none 0 0))), none⟩] .done)
  (.seq (.seq (.ops false [⟨(some 4), .mov (.c (.v (.int .i64 0))), none⟩] .done)
   (.block 0 (.loop (.seq (.seq (.ops false [⟨(some 5), .mov (.t 4), none⟩,
        ⟨(some 6), .mov (.t 0), none⟩,
        ⟨(some 7), .nilck (.t 6), none⟩,
        ⟨(some 8), .fld 2 (.t 7), none⟩,
        ⟨(some 9), .load none (.t 8), none⟩,
        ⟨(some 10), .len (.t 9), none⟩,
        ⟨(some 11), .bin .lss (.t 5) (.t 10), none⟩] .done)
      (.cond (.t 11)
       .skip
       (.exit 0)))
     (.seq (.block 1 (.ops false [⟨(some 14), .mov (.t 3), none⟩,
        ⟨(some 15), .mov (.t 0), none⟩,
        ⟨(some 16), .nilck (.t 15), none⟩,
        ⟨(some 17), .fld 2 (.t 16), none⟩,
        ⟨(some 18), .load none (.t 17), none⟩,
        ⟨(some 19), .mov (.t 4), none⟩,
        ⟨(some 20), .idx 2 (.t 18) (.t 19), none⟩,
        ⟨(some 21), .fld 0 (.t 20), none⟩,
        ⟨(some 22), .load none (.t 21), none⟩,
        ⟨(some 23), .bslice 3 [.int .i64] 1 [(.v (.int .i64 0))] [(0, 1, (.t 22))], none⟩,
        ⟨(some 24), .append 3 [.int .i64] [(.int .i64 0)] 8 (.t 14) (.t 23), none⟩,
        ⟨(some 3), .mov (.t 24), none⟩] .done))
     (.ops false [⟨(some 12), .mov (.t 4), none⟩,
      ⟨(some 13), .bin .add (.t 12) (.c (.v (.int .i64 1))), none⟩,
      ⟨(some 4), .mov (.t 13), none⟩] .done))))))
  (.seq (.ops false [⟨(some 25), .mov (.t 3), none⟩,
    ⟨(some 2), .mov (.t 25), none⟩] .done)
  .ret))))⟩
theorem pf23_eq : (Tryd.f23.body.map fun c => (cfn Tryd.prog pl23 Tryd.f23 c, guardsAll pl23 c)) = some (pf23, true) := by kernel_rfl

/-- slices.Clone[[]corral/rob.one,corral/rob.one]  sizes [] -/
def pl24 : Nat → DT := dtGet []
def pf24 : PFn := ⟨8, [.t 2], (.seq (.ops false [⟨(some 2), .mov (.c (.v (.slice none 0 0))), none⟩] .done)
  (.seq (.seq (.ops false [⟨(some 3), .mov (.t 0), none⟩,
     ⟨(some 4), .eqp 3 true false (.t 3) (.c (.v (.slice none 0 0))), none⟩] .done)
   (.cond (.t 4)
    (.seq (.ops false [⟨(some 2), .mov (.c (.v (.slice none 0 0))), none⟩] .done)
     .ret)
    .skip))
  (.seq (.ops false [⟨(some 5), .bslice 58 [.int .i64, .bool] 0 [] [], none⟩,
    ⟨(some 6), .mov (.t 0), none⟩,
    ⟨(some 7), .append 58 [.int .i64, .bool] [(.int .i64 0), (.bool false)] 16 (.t 5) (.t 6), none⟩,
    ⟨(some 2), .mov (.t 7), none⟩] .done)
  .ret)))⟩
theorem pf24_eq : (Tryd.f24.body.map fun c => (cfn Tryd.prog pl24 Tryd.f24 c, guardsAll pl24 c)) = some (pf24, true) := by kernel_rfl

/-- slices.IndexFunc[[]corral/rob.one,corral/rob.one]  sizes [] -/
def pl25 : Nat → DT := dtGet []
def pf25 : PFn := ⟨19, [.t 4], (.seq (.ops false [⟨(some 4), .mov (.c (.v (.int .i64 0))), none⟩] .done)
  (.seq (.seq (.ops false [⟨(some 6), .mov (.t 0), none⟩,
     ⟨(some 7), .len (.t 6), none⟩,
     ⟨(some 8), .mov (.c (.v (.int .i64 0))), none⟩] .done)
   (.block 0 (.loop (.seq (.ops false [⟨(some 9), .bin .lss (.t 8) (.t 7), none⟩] .done)
     (.seq (.cond (.t 9)
       .skip
       (.exit 0))
     (.seq (.block 1 (.seq (.ops false [⟨(some 10), .mov (.t 8), none⟩,
         ⟨(some 5), .mov (.t 10), none⟩] .done)
       (.seq (.ops false [⟨(some 11), .mov (.t 1), none⟩,
         ⟨(some 12), .mov (.t 0), none⟩,
         ⟨(some 13), .mov (.t 5), none⟩,
         ⟨(some 14), .idx 2 (.t 12) (.t 13), none⟩,
         ⟨(some 15), .load (some 2) (.t 14), none⟩,
         ⟨(some 16), .callv (.t 11) [(.t 15)], none⟩] .done)
       (.cond (.t 16)
        (.seq (.ops false [⟨(some 17), .mov (.t 5), none⟩,
           ⟨(some 4), .mov (.t 17), none⟩] .done)
         .ret)
        .skip))))
     (.ops false [⟨(some 18), .bin .add (.t 8) (.c (.v (.int .i64 1))), none⟩,
      ⟨(some 8), .mov (.t 18), none⟩] .done)))))))
  (.seq (.ops false [⟨(some 4), .mov (.c (.v (.int .i64 (-1)))), none⟩] .done)
  .ret)))⟩
theorem pf25_eq : (Tryd.f25.body.map fun c => (cfn Tryd.prog pl25 Tryd.f25 c, guardsAll pl25 c)) = some (pf25, true) := by kernel_rfl

/-- (*corral/rob.Buffer).Cut$1  sizes [] -/
def pl26 : Nat → DT := dtGet []
def pf26 : PFn := ⟨8, [.t 3], (.seq (.ops false [⟨(some 2), .box 58 (.t 0), none⟩,
    ⟨(some 3), .mov (.c (.v (.bool false))), none⟩] .done)
  (.seq (.ops false [⟨(some 4), .fld 0 (.t 2), none⟩,
    ⟨(some 5), .load none (.t 4), none⟩,
    ⟨(some 6), .load none (.t 1), none⟩,
    ⟨(some 7), .bin .eql (.t 5) (.t 6), none⟩,
    ⟨(some 3), .mov (.t 7), none⟩] .done)
  .ret))⟩
theorem pf26_eq : (Tryd.f26.body.map fun c => (cfn Tryd.prog pl26 Tryd.f26 c, guardsAll pl26 c)) = some (pf26, true) := by kernel_rfl

/-- slices.Backward[[]corral/rob.one,corral/rob.one]  sizes [] -/
def pl27 : Nat → DT := dtGet []
def pf27 : PFn := ⟨4, [.t 2], (.seq (.ops false [⟨(some 1), .box 54 (.t 0), none⟩,
    ⟨(some 2), .mov (.c (.v .nilFunc)), none⟩] .done)
  (.seq (.ops false [⟨(some 3), .clo (.func 31) [] [(.t 1)], none⟩,
    ⟨(some 2), .mov (.t 3), none⟩] .done)
  .ret))⟩
theorem pf27_eq : (Tryd.f27.body.map fun c => (cfn Tryd.prog pl27 Tryd.f27 c, guardsAll pl27 c)) = some (pf27, true) := by kernel_rfl

/-- corral/corralsee.Same  sizes [] -/
def pl28 : Nat → DT := dtGet []
def pf28 : PFn := ⟨11, [.t 4], (.seq (.ops false [⟨(some 3), .box 67 (.t 1), none⟩,
    ⟨(some 4), .mov (.c (.v (.bool false))), none⟩] .done)
  (.seq (.ops false [⟨(some 6), .mov (.t 0), none⟩,
    ⟨(some 7), .call 32 [(.t 6)], none⟩,
    ⟨(some 5), .box 67 (.c (.agg [(.v (.int .i64 0)), (.v (.slice none 0 0))])), none⟩,
    ⟨none, .store 2 (.t 5) (.t 7), none⟩] .done)
  (.seq (.ops false [⟨(some 8), .load (some 2) (.t 5), none⟩,
    ⟨(some 9), .load (some 2) (.t 3), none⟩,
    ⟨(some 10), .call 33 [(.t 8), (.t 9)], none⟩,
    ⟨(some 4), .mov (.t 10), none⟩] .done)
  .ret)))⟩
theorem pf28_eq : (Tryd.f28.body.map fun c => (cfn Tryd.prog pl28 Tryd.f28 c, guardsAll pl28 c)) = some (pf28, true) := by kernel_rfl

/-- corral/corralref.Bare  sizes [] -/
def pl29 : Nat → DT := dtGet []
def pf29 : PFn := ⟨5, [.cell 2 (some 2)], (.seq (.ops false [⟨(some 2), .box 67 (.c (.agg [(.v (.int .i64 0)), (.v (.slice none 0 0))])), none⟩] .done)
  (.seq (.ops false [⟨(some 3), .mov (.t 0), none⟩,
    ⟨(some 4), .build [(.v (.int .i64 0)), (.v (.slice none 0 0))] [(0, 1, (.t 3))], none⟩,
    ⟨none, .store 2 (.t 2) (.t 4), none⟩] .done)
  .ret))⟩
theorem pf29_eq : (Tryd.f29.body.map fun c => (cfn Tryd.prog pl29 Tryd.f29 c, guardsAll pl29 c)) = some (pf29, true) := by kernel_rfl

/-- corral/corralref.Among  sizes [] -/
def pl30 : Nat → DT := dtGet []
def pf30 : PFn := ⟨18, [.t 4], (.seq (.ops false [⟨(some 4), .mov (.c (.v (.bool false))), none⟩] .done)
  (.seq (.seq (.ops false [⟨(some 5), .mov (.c (.v (.int .i64 0))), none⟩] .done)
   (.block 0 (.loop (.seq (.seq (.ops false [⟨(some 6), .mov (.t 5), none⟩,
        ⟨(some 7), .mov (.t 0), none⟩,
        ⟨(some 8), .len (.t 7), none⟩,
        ⟨(some 9), .bin .lss (.t 6) (.t 8), none⟩] .done)
      (.cond (.t 9)
       .skip
       (.exit 0)))
     (.seq (.block 1 (.seq (.ops false [⟨(some 12), .mov (.t 0), none⟩,
         ⟨(some 13), .mov (.t 5), none⟩,
         ⟨(some 14), .idx 1 (.t 12) (.t 13), none⟩,
         ⟨(some 15), .load none (.t 14), none⟩,
         ⟨(some 16), .mov (.t 1), none⟩,
         ⟨(some 17), .bin .eql (.t 15) (.t 16), none⟩] .done)
       (.cond (.t 17)
        (.seq (.ops false [⟨(some 4), .mov (.c (.v (.bool true))), none⟩] .done)
         .ret)
        .skip)))
     (.ops false [⟨(some 10), .mov (.t 5), none⟩,
      ⟨(some 11), .bin .add (.t 10) (.c (.v (.int .i64 1))), none⟩,
      ⟨(some 5), .mov (.t 11), none⟩] .done))))))
  (.seq (.ops false [⟨(some 4), .mov (.c (.v (.bool false))), none⟩] .done)
  .ret)))⟩
theorem pf30_eq : (Tryd.f30.body.map fun c => (cfn Tryd.prog pl30 Tryd.f30 c, guardsAll pl30 c)) = some (pf30, true) := by kernel_rfl

/-- slices.Backward[[]corral/rob.one,corral/rob.one]$1  sizes [] -/
def pl31 : Nat → DT := dtGet []
def pf31 : PFn := ⟨19, [], (.seq (.ops false [⟨(some 4), .load none (.t 1), none⟩,
    ⟨(some 5), .len (.t 4), none⟩,
    ⟨(some 6), .bin .sub (.t 5) (.c (.v (.int .i64 1))), none⟩,
    ⟨(some 3), .mov (.t 6), none⟩] .done)
  (.block 0 (.loop (.seq (.seq (.ops false [⟨(some 7), .mov (.t 3), none⟩,
       ⟨(some 8), .bin .geq (.t 7) (.c (.v (.int .i64 0))), none⟩] .done)
     (.cond (.t 8)
      .skip
      (.exit 0)))
    (.seq (.block 1 (.seq (.ops false [⟨(some 11), .mov (.t 0), none⟩,
        ⟨(some 12), .mov (.t 3), none⟩,
        ⟨(some 13), .load none (.t 1), none⟩,
        ⟨(some 14), .mov (.t 3), none⟩,
        ⟨(some 15), .idx 2 (.t 13) (.t 14), none⟩,
        ⟨(some 16), .load (some 2) (.t 15), none⟩,
        ⟨(some 17), .callv (.t 11) [(.t 12), (.t 16)], none⟩,
        ⟨(some 18), .un .not (.t 17), none⟩] .done)
      (.cond (.t 18)
       .ret
       .skip)))
    (.ops false [⟨(some 9), .mov (.t 3), none⟩,
     ⟨(some 10), .bin .sub (.t 9) (.c (.v (.int .i64 1))), none⟩,
     ⟨(some 3), .mov (.t 10), none⟩] .done))))))⟩
theorem pf31_eq : (Tryd.f31.body.map fun c => (cfn Tryd.prog pl31 Tryd.f31 c, guardsAll pl31 c)) = some (pf31, true) := by kernel_rfl

/-- corral/corralsee.Fault  sizes [] -/
def pl32 : Nat → DT := dtGet []
def pf32 : PFn := ⟨8, [.cell 2 (some 2)], (.seq (.ops false [⟨(some 2), .box 67 (.c (.agg [(.v (.int .i64 0)), (.v (.slice none 0 0))])), none⟩] .done)
  (.seq (.seq (.ops false [⟨(some 3), .mov (.t 0), none⟩,
     ⟨(some 4), .eqp 1 true false (.t 3) (.c (.v .nilIface)), none⟩] .done)
   (.cond (.t 4)
    (.seq (.ops false [⟨(some 5), .call 34 [], none⟩,
       ⟨none, .store 2 (.t 2) (.t 5), none⟩] .done)
     .ret)
    .skip))
  (.seq (.ops false [⟨(some 6), .mov (.t 0), none⟩,
    ⟨(some 7), .call 35 [(.t 6), (.c (.v (.int .i64 9)))], none⟩,
    ⟨none, .store 2 (.t 2) (.t 7), none⟩] .done)
  .ret)))⟩
theorem pf32_eq : (Tryd.f32.body.map fun c => (cfn Tryd.prog pl32 Tryd.f32 c, guardsAll pl32 c)) = some (pf32, true) := by kernel_rfl

/-- corral/corralref.SameFault  sizes [] -/
def pl33 : Nat → DT := dtGet []
def pf33 : PFn := ⟨19, [.t 4], (.seq (.ops false [⟨(some 2), .box 67 (.t 0), none⟩,
    ⟨(some 3), .box 67 (.t 1), none⟩,
    ⟨(some 4), .mov (.c (.v (.bool false))), none⟩] .done)
  (.seq (.ops false [⟨(some 6), .fld 1 (.t 2), none⟩,
    ⟨(some 7), .load none (.t 6), none⟩,
    ⟨(some 8), .fld 1 (.t 3), none⟩,
    ⟨(some 9), .load none (.t 8), none⟩,
    ⟨(some 10), .call 19 [(.t 7), (.t 9)], none⟩,
    ⟨(some 5), .mov (.t 10), none⟩] .done)
  (.seq (.ops false [⟨(some 11), .fld 0 (.t 2), none⟩,
    ⟨(some 12), .load none (.t 11), none⟩,
    ⟨(some 13), .fld 0 (.t 3), none⟩,
    ⟨(some 14), .load none (.t 13), none⟩,
    ⟨(some 15), .bin .eql (.t 12) (.t 14), none⟩,
    ⟨(some 16), .mov (.t 15), none⟩,
    ⟨(some 17), .mov (.t 5), some (16, true)⟩,
    ⟨(some 18), .pick (.t 16) (.t 17) (.c (.v (.bool false))), none⟩,
    ⟨(some 4), .mov (.t 18), none⟩] .done)
  .ret)))⟩
theorem pf33_eq : (Tryd.f33.body.map fun c => (cfn Tryd.prog pl33 Tryd.f33 c, guardsAll pl33 c)) = some (pf33, true) := by kernel_rfl

/-- corral/corralref.None  sizes [] -/
def pl34 : Nat → DT := dtGet []
def pf34 : PFn := ⟨2, [.cell 0 (some 2)], (.seq (.ops false [⟨(some 0), .box 67 (.c (.agg [(.v (.int .i64 0)), (.v (.slice none 0 0))])), none⟩] .done)
  (.seq (.ops false [⟨(some 1), .build [(.v (.int .i64 0)), (.v (.slice none 0 0))] [], none⟩,
    ⟨none, .store 2 (.t 0) (.t 1), none⟩] .done)
  .ret))⟩
theorem pf34_eq : (Tryd.f34.body.map fun c => (cfn Tryd.prog pl34 Tryd.f34 c, guardsAll pl34 c)) = some (pf34, true) := by kernel_rfl

/-- corral/corralsee.fault  sizes [(9, 13)] -/
def pl35 : Nat → DT := dtGet [(9, (.take 0 [0, 1, 11, 10] (.take 1 [1, 10, 11] (.take 2 [2, 3, 11, 4, 5, 6, 9, 10] (.take 3 [3, 4, 11, 5, 6, 9, 10] (.take 4 [4, 5, 11, 6, 9, 10] (.take 5 [5, 6, 11, 9, 10] (.take 7 [7, 8, 11, 9, 10] (.take 8 [8, 9, 11, 10] (.eff true 6 (.eff false 9 (.take 10 [10, 11] (.eff false 11 .done)))))))))))))]
def pf35 : PFn := ⟨42, [.cell 4 (some 2)], (.seq (.ops false [⟨(some 4), .box 67 (.c (.agg [(.v (.int .i64 0)), (.v (.slice none 0 0))])), none⟩] .done)
  (.seq (.seq (.ops false [⟨(some 7), .mov (.t 0), none⟩,
     ⟨(some 8), .eqp 1 true false (.t 7) (.c (.v .nilIface)), none⟩,
     ⟨(some 9), .mov (.t 8), none⟩,
     ⟨(some 10), .mov (.t 1), some (9, false)⟩,
     ⟨(some 11), .bin .eql (.t 10) (.c (.v (.int .i64 0))), some (9, false)⟩,
     ⟨(some 12), .pick (.t 9) (.c (.v (.bool true))) (.t 11), none⟩] .done)
   (.cond (.t 12)
    (.seq (.ops false [⟨(some 13), .call 29 [(.c (.v (.int .i64 (-1))))], none⟩,
       ⟨none, .store 2 (.t 4) (.t 13), none⟩] .done)
     .ret)
    .skip))
  (.seq (.seq (.ops false [⟨(some 14), .mov (.t 0), none⟩] .done)
   (.block 0 (.seq (.ops false [⟨(some 15), .tassert 75 true (.v (.pointer none)) (.t 14), none⟩,
      ⟨(some 16), .ext (.t 15) 1, none⟩,
      ⟨(some 17), .ext (.t 15) 0, none⟩] .done)
    (.cond (.t 16)
     (.seq (.ops false [⟨(some 5), .mov (.t 17), none⟩] .done)
      (.seq (.seq (.ops false [⟨(some 18), .mov (.t 5), none⟩,
         ⟨(some 19), .eqp 0 true false (.t 18) (.c (.v (.pointer none))), none⟩] .done)
       (.cond (.t 19)
        (.seq (.ops false [⟨(some 20), .call 29 [(.c (.v (.int .i64 (-1))))], none⟩,
           ⟨none, .store 2 (.t 4) (.t 20), none⟩] .done)
         .ret)
        .skip))
      (.seq (.ops false [⟨(some 21), .mov (.t 5), none⟩,
        ⟨(some 22), .nilck (.t 21), none⟩,
        ⟨(some 23), .fld 1 (.t 22), none⟩,
        ⟨(some 24), .load none (.t 23), none⟩,
        ⟨(some 25), .mov (.t 1), none⟩,
        ⟨(some 26), .bin .sub (.t 25) (.c (.v (.int .i64 1))), none⟩,
        ⟨(some 27), .call 35 [(.t 24), (.t 26)], none⟩,
        ⟨(some 6), .box 67 (.c (.agg [(.v (.int .i64 0)), (.v (.slice none 0 0))])), none⟩,
        ⟨none, .store 2 (.t 6) (.t 27), none⟩] .done)
      (.seq (.ops true [⟨(some 28), .fld 0 (.t 6), none⟩,
        ⟨(some 29), .load none (.t 28), none⟩,
        ⟨(some 30), .mov (.t 5), none⟩,
        ⟨(some 31), .nilck (.t 30), none⟩,
        ⟨(some 32), .fld 0 (.t 31), none⟩,
        ⟨(some 33), .load none (.t 32), none⟩,
        ⟨(some 34), .bslice 3 [.int .i64] 1 [(.v (.int .i64 0))] [(0, 1, (.t 33))], none⟩,
        ⟨(some 35), .fld 1 (.t 6), none⟩,
        ⟨(some 36), .load none (.t 35), none⟩,
        ⟨(some 37), .append 3 [.int .i64] [(.int .i64 0)] 8 (.t 34) (.t 36), none⟩,
        ⟨(some 38), .build [(.v (.int .i64 0)), (.v (.slice none 0 0))] [(0, 1, (.t 29)), (1, 1, (.t 37))], none⟩,
        ⟨none, .store 2 (.t 4) (.t 38), none⟩] (.take 0 [0, 1, 11, 10] (.take 1 [1, 10, 11] (.take 2 [2, 3, 11, 4, 5, 6, 9, 10] (.take 3 [3, 4, 11, 5, 6, 9, 10] (.take 4 [4, 5, 11, 6, 9, 10] (.take 5 [5, 6, 11, 9, 10] (.take 7 [7, 8, 11, 9, 10] (.take 8 [8, 9, 11, 10] (.eff true 6 (.eff false 9 (.take 10 [10, 11] (.eff false 11 .done)))))))))))))
      .ret))))
     .skip))))
  (.seq (.ops false [⟨(some 39), .mov (.t 0), none⟩,
    ⟨(some 40), .call 36 [(.t 39)], none⟩,
    ⟨(some 41), .call 29 [(.t 40)], none⟩,
    ⟨none, .store 2 (.t 4) (.t 41), none⟩] .done)
  .ret))))⟩
theorem pf35_eq : (Tryd.f35.body.map fun c => (cfn Tryd.prog pl35 Tryd.f35 c, guardsAll pl35 c)) = some (pf35, true) := by kernel_rfl

/-- corral/corralsee.sentinel  sizes [] -/
def pl36 : Nat → DT := dtGet []
def pf36 : PFn := ⟨20, [.t 2], (.seq (.ops false [⟨(some 2), .mov (.c (.v (.int .i64 0))), none⟩] .done)
  (.seq (.ops false [⟨(some 5), .call 37 [], none⟩,
    ⟨(some 3), .mov (.t 5), none⟩] .done)
  (.seq (.seq (.ops false [⟨(some 4), .mov (.c (.v (.int .i64 0))), none⟩] .done)
   (.block 0 (.loop (.seq (.seq (.ops false [⟨(some 6), .mov (.t 4), none⟩,
        ⟨(some 7), .mov (.t 3), none⟩,
        ⟨(some 8), .len (.t 7), none⟩,
        ⟨(some 9), .bin .lss (.t 6) (.t 8), none⟩] .done)
      (.cond (.t 9)
       .skip
       (.exit 0)))
     (.seq (.block 1 (.seq (.ops false [⟨(some 12), .mov (.t 0), none⟩,
         ⟨(some 13), .mov (.t 3), none⟩,
         ⟨(some 14), .mov (.t 4), none⟩,
         ⟨(some 15), .idx 1 (.t 13) (.t 14), none⟩,
         ⟨(some 16), .load none (.t 15), none⟩,
         ⟨(some 17), .call 38 [(.t 12), (.t 16)], none⟩] .done)
       (.cond (.t 17)
        (.seq (.ops false [⟨(some 18), .mov (.t 4), none⟩,
           ⟨(some 19), .bin .add (.c (.v (.int .i64 101))) (.t 18), none⟩,
           ⟨(some 2), .mov (.t 19), none⟩] .done)
         .ret)
        .skip)))
     (.ops false [⟨(some 10), .mov (.t 4), none⟩,
      ⟨(some 11), .bin .add (.t 10) (.c (.v (.int .i64 1))), none⟩,
      ⟨(some 4), .mov (.t 11), none⟩] .done))))))
  (.seq (.ops false [⟨(some 2), .mov (.c (.v (.int .i64 (-1)))), none⟩] .done)
  .ret))))⟩
theorem pf36_eq : (Tryd.f36.body.map fun c => (cfn Tryd.prog pl36 Tryd.f36 c, guardsAll pl36 c)) = some (pf36, true) := by kernel_rfl

/-- corral/corralsee.sentinels  sizes [] -/
def pl37 : Nat → DT := dtGet []
def pf37 : PFn := ⟨13, [.t 0], (.seq (.ops false [⟨(some 0), .mov (.c (.v (.slice none 0 0))), none⟩] .done)
  (.seq (.ops false [⟨(some 1), .load none (.c (.v (.pointer (some ⟨1, 0, none⟩)))), none⟩,
    ⟨(some 2), .load none (.c (.v (.pointer (some ⟨2, 0, none⟩)))), none⟩,
    ⟨(some 3), .load none (.c (.v (.pointer (some ⟨3, 0, none⟩)))), none⟩,
    ⟨(some 4), .load none (.c (.v (.pointer (some ⟨4, 0, none⟩)))), none⟩,
    ⟨(some 5), .load none (.c (.v (.pointer (some ⟨5, 0, none⟩)))), none⟩,
    ⟨(some 6), .load none (.c (.v (.pointer (some ⟨0, 0, none⟩)))), none⟩,
    ⟨(some 7), .load none (.c (.v (.pointer (some ⟨6, 0, none⟩)))), none⟩,
    ⟨(some 8), .load none (.c (.v (.pointer (some ⟨7, 0, none⟩)))), none⟩,
    ⟨(some 9), .load none (.c (.v (.pointer (some ⟨8, 0, none⟩)))), none⟩,
    ⟨(some 10), .load none (.c (.v (.pointer (some ⟨9, 0, none⟩)))), none⟩,
    ⟨(some 11), .load none (.c (.v (.pointer (some ⟨10, 0, none⟩)))), none⟩,
    ⟨(some 12), .bslice 27 [.raw] 11 [(.v .nilIface), (.v .nilIface), (.v .nilIface), (.v .nilIface), (.v .nilIface), (.v .nilIface), (.v .nilIface), (.v .nilIface), (.v .nilIface), (.v .nilIface), (.v .nilIface)] [(0, 1, (.t 1)), (1, 1, (.t 2)), (2, 1, (.t 3)), (3, 1, (.t 4)), (4, 1, (.t 5)), (5, 1, (.t 6)), (6, 1, (.t 7)), (7, 1, (.t 8)), (8, 1, (.t 9)), (9, 1, (.t 10)), (10, 1, (.t 11))], none⟩,
    ⟨(some 0), .mov (.t 12), none⟩] .done)
  .ret))⟩
theorem pf37_eq : (Tryd.f37.body.map fun c => (cfn Tryd.prog pl37 Tryd.f37 c, guardsAll pl37 c)) = some (pf37, true) := by kernel_rfl

/-- corral/corralsee.Alike  sizes [] -/
def pl38 : Nat → DT := dtGet []
def pf38 : PFn := ⟨20, [.t 4], (.seq (.ops false [⟨(some 4), .mov (.c (.v (.bool false))), none⟩] .done)
  (.seq (.seq (.ops false [⟨(some 5), .mov (.t 0), none⟩,
     ⟨(some 6), .eqp 1 true false (.t 5) (.c (.v .nilIface)), none⟩,
     ⟨(some 7), .mov (.t 6), none⟩,
     ⟨(some 8), .mov (.t 1), some (7, false)⟩,
     ⟨(some 9), .eqp 1 true false (.t 8) (.c (.v .nilIface)), some (7, false)⟩,
     ⟨(some 10), .pick (.t 7) (.c (.v (.bool true))) (.t 9), none⟩] .done)
   (.cond (.t 10)
    (.seq (.ops false [⟨(some 11), .mov (.t 0), none⟩,
       ⟨(some 12), .eqp 1 true false (.t 11) (.c (.v .nilIface)), none⟩,
       ⟨(some 13), .mov (.t 12), none⟩,
       ⟨(some 14), .mov (.t 1), some (13, true)⟩,
       ⟨(some 15), .eqp 1 true false (.t 14) (.c (.v .nilIface)), some (13, true)⟩,
       ⟨(some 16), .pick (.t 13) (.t 15) (.c (.v (.bool false))), none⟩,
       ⟨(some 4), .mov (.t 16), none⟩] .done)
     .ret)
    .skip))
  (.seq (.ops false [⟨(some 17), .mov (.t 0), none⟩,
    ⟨(some 18), .mov (.t 1), none⟩,
    ⟨(some 19), .eqp 1 false false (.t 17) (.t 18), none⟩,
    ⟨(some 4), .mov (.t 19), none⟩] .done)
  .ret)))⟩
theorem pf38_eq : (Tryd.f38.body.map fun c => (cfn Tryd.prog pl38 Tryd.f38 c, guardsAll pl38 c)) = some (pf38, true) := by kernel_rfl

theorem at3 : Tryd.prog.funcs[3]? = some Tryd.f3 ∧ (Tryd.f3.name == "runtime.NumGoroutine") = false := ⟨by kernel_rfl, by kernel_rfl⟩
theorem at4 : Tryd.prog.funcs[4]? = some Tryd.f4 ∧ (Tryd.f4.name == "runtime.NumGoroutine") = false := ⟨by kernel_rfl, by kernel_rfl⟩
theorem at5 : Tryd.prog.funcs[5]? = some Tryd.f5 ∧ (Tryd.f5.name == "runtime.NumGoroutine") = false := ⟨by kernel_rfl, by kernel_rfl⟩
theorem at6 : Tryd.prog.funcs[6]? = some Tryd.f6 ∧ (Tryd.f6.name == "runtime.NumGoroutine") = false := ⟨by kernel_rfl, by kernel_rfl⟩
theorem at7 : Tryd.prog.funcs[7]? = some Tryd.f7 ∧ (Tryd.f7.name == "runtime.NumGoroutine") = false := ⟨by kernel_rfl, by kernel_rfl⟩
theorem at8 : Tryd.prog.funcs[8]? = some Tryd.f8 ∧ (Tryd.f8.name == "runtime.NumGoroutine") = false := ⟨by kernel_rfl, by kernel_rfl⟩
theorem at9 : Tryd.prog.funcs[9]? = some Tryd.f9 ∧ (Tryd.f9.name == "runtime.NumGoroutine") = false := ⟨by kernel_rfl, by kernel_rfl⟩
theorem at10 : Tryd.prog.funcs[10]? = some Tryd.f10 ∧ (Tryd.f10.name == "runtime.NumGoroutine") = false := ⟨by kernel_rfl, by kernel_rfl⟩
theorem at11 : Tryd.prog.funcs[11]? = some Tryd.f11 ∧ (Tryd.f11.name == "runtime.NumGoroutine") = false := ⟨by kernel_rfl, by kernel_rfl⟩
theorem at12 : Tryd.prog.funcs[12]? = some Tryd.f12 ∧ (Tryd.f12.name == "runtime.NumGoroutine") = false := ⟨by kernel_rfl, by kernel_rfl⟩
theorem at13 : Tryd.prog.funcs[13]? = some Tryd.f13 ∧ (Tryd.f13.name == "runtime.NumGoroutine") = false := ⟨by kernel_rfl, by kernel_rfl⟩
theorem at14 : Tryd.prog.funcs[14]? = some Tryd.f14 ∧ (Tryd.f14.name == "runtime.NumGoroutine") = false := ⟨by kernel_rfl, by kernel_rfl⟩
theorem at15 : Tryd.prog.funcs[15]? = some Tryd.f15 ∧ (Tryd.f15.name == "runtime.NumGoroutine") = false := ⟨by kernel_rfl, by kernel_rfl⟩
theorem at16 : Tryd.prog.funcs[16]? = some Tryd.f16 ∧ (Tryd.f16.name == "runtime.NumGoroutine") = false := ⟨by kernel_rfl, by kernel_rfl⟩
theorem at17 : Tryd.prog.funcs[17]? = some Tryd.f17 ∧ (Tryd.f17.name == "runtime.NumGoroutine") = false := ⟨by kernel_rfl, by kernel_rfl⟩
theorem at18 : Tryd.prog.funcs[18]? = some Tryd.f18 ∧ (Tryd.f18.name == "runtime.NumGoroutine") = false := ⟨by kernel_rfl, by kernel_rfl⟩
theorem at19 : Tryd.prog.funcs[19]? = some Tryd.f19 ∧ (Tryd.f19.name == "runtime.NumGoroutine") = false := ⟨by kernel_rfl, by kernel_rfl⟩
theorem at20 : Tryd.prog.funcs[20]? = some Tryd.f20 ∧ (Tryd.f20.name == "runtime.NumGoroutine") = false := ⟨by kernel_rfl, by kernel_rfl⟩
theorem at21 : Tryd.prog.funcs[21]? = some Tryd.f21 ∧ (Tryd.f21.name == "runtime.NumGoroutine") = false := ⟨by kernel_rfl, by kernel_rfl⟩
theorem at22 : Tryd.prog.funcs[22]? = some Tryd.f22 ∧ (Tryd.f22.name == "runtime.NumGoroutine") = false := ⟨by kernel_rfl, by kernel_rfl⟩
theorem at23 : Tryd.prog.funcs[23]? = some Tryd.f23 ∧ (Tryd.f23.name == "runtime.NumGoroutine") = false := ⟨by kernel_rfl, by kernel_rfl⟩
theorem at24 : Tryd.prog.funcs[24]? = some Tryd.f24 ∧ (Tryd.f24.name == "runtime.NumGoroutine") = false := ⟨by kernel_rfl, by kernel_rfl⟩
theorem at25 : Tryd.prog.funcs[25]? = some Tryd.f25 ∧ (Tryd.f25.name == "runtime.NumGoroutine") = false := ⟨by kernel_rfl, by kernel_rfl⟩
theorem at26 : Tryd.prog.funcs[26]? = some Tryd.f26 ∧ (Tryd.f26.name == "runtime.NumGoroutine") = false := ⟨by kernel_rfl, by kernel_rfl⟩
theorem at27 : Tryd.prog.funcs[27]? = some Tryd.f27 ∧ (Tryd.f27.name == "runtime.NumGoroutine") = false := ⟨by kernel_rfl, by kernel_rfl⟩
theorem at28 : Tryd.prog.funcs[28]? = some Tryd.f28 ∧ (Tryd.f28.name == "runtime.NumGoroutine") = false := ⟨by kernel_rfl, by kernel_rfl⟩
theorem at29 : Tryd.prog.funcs[29]? = some Tryd.f29 ∧ (Tryd.f29.name == "runtime.NumGoroutine") = false := ⟨by kernel_rfl, by kernel_rfl⟩
theorem at30 : Tryd.prog.funcs[30]? = some Tryd.f30 ∧ (Tryd.f30.name == "runtime.NumGoroutine") = false := ⟨by kernel_rfl, by kernel_rfl⟩
theorem at31 : Tryd.prog.funcs[31]? = some Tryd.f31 ∧ (Tryd.f31.name == "runtime.NumGoroutine") = false := ⟨by kernel_rfl, by kernel_rfl⟩
theorem at32 : Tryd.prog.funcs[32]? = some Tryd.f32 ∧ (Tryd.f32.name == "runtime.NumGoroutine") = false := ⟨by kernel_rfl, by kernel_rfl⟩
theorem at33 : Tryd.prog.funcs[33]? = some Tryd.f33 ∧ (Tryd.f33.name == "runtime.NumGoroutine") = false := ⟨by kernel_rfl, by kernel_rfl⟩
theorem at34 : Tryd.prog.funcs[34]? = some Tryd.f34 ∧ (Tryd.f34.name == "runtime.NumGoroutine") = false := ⟨by kernel_rfl, by kernel_rfl⟩
theorem at35 : Tryd.prog.funcs[35]? = some Tryd.f35 ∧ (Tryd.f35.name == "runtime.NumGoroutine") = false := ⟨by kernel_rfl, by kernel_rfl⟩
theorem at36 : Tryd.prog.funcs[36]? = some Tryd.f36 ∧ (Tryd.f36.name == "runtime.NumGoroutine") = false := ⟨by kernel_rfl, by kernel_rfl⟩
theorem at37 : Tryd.prog.funcs[37]? = some Tryd.f37 ∧ (Tryd.f37.name == "runtime.NumGoroutine") = false := ⟨by kernel_rfl, by kernel_rfl⟩
theorem at38 : Tryd.prog.funcs[38]? = some Tryd.f38 ∧ (Tryd.f38.name == "runtime.NumGoroutine") = false := ⟨by kernel_rfl, by kernel_rfl⟩
def tab : List (Nat × PFn) := [(3, pf3), (4, pf4), (5, pf5), (6, pf6), (7, pf7), (8, pf8), (9, pf9), (10, pf10), (11, pf11), (12, pf12), (14, pf14), (15, pf15), (16, pf16), (17, pf17), (18, pf18), (19, pf19), (20, pf20), (21, pf21), (22, pf22), (23, pf23), (24, pf24), (25, pf25), (26, pf26), (27, pf27), (28, pf28), (29, pf29), (30, pf30), (31, pf31), (32, pf32), (33, pf33), (34, pf34), (35, pf35), (36, pf36), (37, pf37), (38, pf38)]
theorem tab_ok : TabOK Tryd.prog tab :=
  .cons mixed at3 pf3_eq (.cons mixed at4 pf4_eq (.cons mixed at5 pf5_eq (.cons mixed at6 pf6_eq (.cons mixed at7 pf7_eq (.cons mixed at8 pf8_eq (.cons mixed at9 pf9_eq (.cons mixed at10 pf10_eq (.cons mixed at11 pf11_eq (.cons mixed at12 pf12_eq (.cons mixed at14 pf14_eq (.cons mixed at15 pf15_eq (.cons mixed at16 pf16_eq (.cons mixed at17 pf17_eq (.cons mixed at18 pf18_eq (.cons mixed at19 pf19_eq (.cons mixed at20 pf20_eq (.cons mixed at21 pf21_eq (.cons mixed at22 pf22_eq (.cons mixed at23 pf23_eq (.cons mixed at24 pf24_eq (.cons mixed at25 pf25_eq (.cons mixed at26 pf26_eq (.cons mixed at27 pf27_eq (.cons mixed at28 pf28_eq (.cons mixed at29 pf29_eq (.cons mixed at30 pf30_eq (.cons mixed at31 pf31_eq (.cons mixed at32 pf32_eq (.cons mixed at33 pf33_eq (.cons mixed at34 pf34_eq (.cons mixed at35 pf35_eq (.cons mixed at36 pf36_eq (.cons mixed at37 pf37_eq (.cons mixed at38 pf38_eq (.nil)))))))))))))))))))))))))))))))))))
noncomputable def G0 : Nat → Option Trans := tabG (tget []) (tget tab) 5
theorem G0_ok : GOK Tryd.prog G0 := tabG_ok .nil tab_ok 5
end Go.Proofs.YthmofpilphfkcaaDoor
