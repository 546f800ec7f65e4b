/-
  The programs of the functions that the laws reach, read off the given program by the kernel.
-/
import Derived.Test.YtlbjheknhoigpaaDoorProg
import Derived.Test.YtlbjheknhoigpaaDoorVcs
namespace Go.Proofs.YtlbjheknhoigpaaDoor
open Go Go.Vc
set_option maxRecDepth 100000
theorem mixed : Tryd.prog.follows .mixedOrders = true := by kernel_rfl
/-- corral/corrallaw23.RenameFrees  sizes [] -/
def pl3 : Nat → DT := dtGet []
def pf3 : PFn := ⟨116, [.t 4], (.seq (.ops false [⟨(some 4), .mov (.c (.v (.bool false))), none⟩] .done)
  (.seq (.ops false [⟨(some 15), .call 6 [], none⟩,
    ⟨(some 5), .mov (.t 15), none⟩] .done)
  (.seq (.seq (.ops false [⟨(some 16), .mov (.t 5), none⟩,
     ⟨(some 17), .un .not (.t 16), none⟩] .done)
   (.cond (.t 17)
    (.seq (.ops false [⟨(some 4), .mov (.c (.v (.bool false))), none⟩] .done)
     .ret)
    .skip))
  (.seq (.ops false [⟨(some 18), .mov (.t 0), none⟩,
    ⟨(some 19), .call 7 [(.t 18), (.c (.v (.int .i64 30)))], none⟩,
    ⟨(some 20), .bin .add (.c (.v (.int .i64 33))) (.t 19), none⟩,
    ⟨(some 0), .mov (.t 20), none⟩] .done)
  (.seq (.seq (.ops false [⟨(some 21), .mov (.t 1), none⟩,
     ⟨(some 22), .len (.t 21), none⟩,
     ⟨(some 23), .bin .gtr (.t 22) (.c (.v (.int .i64 60))), none⟩,
     ⟨(some 24), .mov (.t 23), none⟩,
     ⟨(some 25), .mov (.t 5), some (24, false)⟩,
     ⟨(some 26), .un .not (.t 25), some (24, false)⟩,
     ⟨(some 27), .pick (.t 24) (.c (.v (.bool true))) (.t 26), none⟩] .done)
   (.cond (.t 27)
    (.seq (.ops false [⟨(some 28), .mov (.t 5), none⟩,
       ⟨(some 4), .mov (.t 28), none⟩] .done)
     .ret)
    .skip))
  (.seq (.ops false [⟨(some 30), .mov (.t 0), none⟩,
    ⟨(some 31), .call 8 [(.t 30)], none⟩,
    ⟨(some 29), .mov (.t 31), none⟩,
    ⟨(some 32), .ext (.t 29) 0, none⟩,
    ⟨(some 33), .ext (.t 29) 1, none⟩,
    ⟨(some 6), .mov (.t 32), none⟩,
    ⟨(some 7), .mov (.t 33), none⟩] .done)
  (.seq (.seq (.ops false [⟨(some 34), .mov (.t 6), none⟩,
     ⟨(some 35), .eqp 0 true false (.t 34) (.c (.v (.pointer none))), none⟩,
     ⟨(some 36), .mov (.t 35), none⟩,
     ⟨(some 37), .mov (.t 7), some (36, false)⟩,
     ⟨(some 38), .eqp 1 true true (.t 37) (.c (.v .nilIface)), some (36, false)⟩,
     ⟨(some 39), .pick (.t 36) (.c (.v (.bool true))) (.t 38), none⟩] .done)
   (.cond (.t 39)
    (.seq (.ops false [⟨(some 4), .mov (.c (.v (.bool false))), none⟩] .done)
     .ret)
    .skip))
  (.seq (.ops false [⟨(some 8), .mov (.c (.v (.slice none 0 0))), none⟩] .done)
  (.seq (.seq (.ops false [⟨(some 9), .mov (.c (.v (.int .i64 32))), none⟩] .done)
   (.block 0 (.loop (.seq (.seq (.ops false [⟨(some 40), .mov (.t 9), none⟩,
        ⟨(some 41), .mov (.t 0), none⟩,
        ⟨(some 42), .bin .lss (.t 40) (.t 41), none⟩] .done)
      (.cond (.t 42)
       .skip
       (.exit 0)))
     (.seq (.block 1 (.ops false [⟨(some 45), .mov (.t 8), none⟩,
        ⟨(some 46), .mov (.t 9), none⟩,
        ⟨(some 47), .bslice 3 [.int .i64] 1 [(.v (.int .i64 0))] [(0, 1, (.t 46))], none⟩,
        ⟨(some 48), .append 3 [.int .i64] [(.int .i64 0)] 8 (.t 45) (.t 47), none⟩,
        ⟨(some 8), .mov (.t 48), none⟩] .done))
     (.ops false [⟨(some 43), .mov (.t 9), none⟩,
      ⟨(some 44), .bin .add (.t 43) (.c (.v (.int .i64 1))), none⟩,
      ⟨(some 9), .mov (.t 44), none⟩] .done))))))
  (.seq (.seq (.ops false [⟨(some 10), .mov (.c (.v (.int .i64 0))), none⟩] .done)
   (.block 2 (.loop (.seq (.seq (.ops false [⟨(some 49), .mov (.t 10), none⟩,
        ⟨(some 50), .mov (.t 1), none⟩,
        ⟨(some 51), .len (.t 50), none⟩,
        ⟨(some 52), .bin .lss (.t 49) (.t 51), none⟩] .done)
      (.cond (.t 52)
       .skip
       (.exit 2)))
     (.seq (.block 3 (.seq (.ops false [⟨(some 55), .mov (.t 1), none⟩,
         ⟨(some 56), .mov (.t 10), none⟩,
         ⟨(some 57), .idx 1 (.t 55) (.t 56), none⟩,
         ⟨(some 58), .load none (.t 57), none⟩,
         ⟨(some 59), .call 7 [(.t 58), (.c (.v (.int .i64 31)))], none⟩,
         ⟨(some 60), .bin .add (.t 59) (.c (.v (.int .i64 1))), none⟩,
         ⟨(some 11), .mov (.t 60), none⟩] .done)
       (.seq (.ops false [⟨(some 62), .mov (.t 6), none⟩,
         ⟨(some 63), .mov (.t 11), none⟩,
         ⟨(some 64), .call 9 [(.t 62), (.t 63)], none⟩,
         ⟨(some 61), .mov (.t 64), none⟩,
         ⟨(some 65), .ext (.t 61) 0, none⟩,
         ⟨(some 66), .ext (.t 61) 1, none⟩,
         ⟨(some 67), .ext (.t 61) 2, none⟩,
         ⟨(some 12), .mov (.t 65), none⟩,
         ⟨(some 13), .mov (.t 66), none⟩,
         ⟨(some 14), .mov (.t 67), none⟩] .done)
       (.seq (.seq (.ops false [⟨(some 68), .mov (.t 14), none⟩,
          ⟨(some 69), .un .not (.t 68), none⟩,
          ⟨(some 70), .mov (.t 69), none⟩,
          ⟨(some 71), .mov (.t 12), some (70, false)⟩,
          ⟨(some 72), .mov (.t 8), some (70, false)⟩,
          ⟨(some 73), .idx 1 (.t 72) (.c (.v (.int .i64 0))), some (70, false)⟩,
          ⟨(some 74), .load none (.t 73), some (70, false)⟩,
          ⟨(some 75), .bin .neq (.t 71) (.t 74), some (70, false)⟩,
          ⟨(some 76), .pick (.t 70) (.c (.v (.bool true))) (.t 75), none⟩,
          ⟨(some 77), .mov (.t 76), none⟩,
          ⟨(some 78), .mov (.t 6), some (77, false)⟩,
          ⟨(some 79), .mov (.t 11), some (77, false)⟩,
          ⟨(some 80), .call 10 [(.t 78), (.t 79)], some (77, false)⟩,
          ⟨(some 81), .mov (.t 12), some (77, false)⟩,
          ⟨(some 82), .bin .neq (.t 80) (.t 81), some (77, false)⟩,
          ⟨(some 83), .pick (.t 77) (.c (.v (.bool true))) (.t 82), none⟩] .done)
        (.cond (.t 83)
         (.seq (.ops false [⟨(some 4), .mov (.c (.v (.bool false))), none⟩] .done)
          .ret)
         .skip))
       (.seq (.ops false [⟨(some 84), .mov (.t 8), none⟩,
         ⟨(some 85), .slice 1 (.t 84) (some (.c (.v (.int .i64 1)))) none none, none⟩,
         ⟨(some 86), .mov (.t 13), none⟩,
         ⟨(some 87), .bslice 3 [.int .i64] 1 [(.v (.int .i64 0))] [(0, 1, (.t 86))], none⟩,
         ⟨(some 88), .append 3 [.int .i64] [(.int .i64 0)] 8 (.t 85) (.t 87), none⟩,
         ⟨(some 8), .mov (.t 88), none⟩] .done)
       (.seq (.seq (.ops false [⟨(some 89), .mov (.t 6), none⟩,
          ⟨(some 90), .mov (.t 13), none⟩,
          ⟨(some 91), .mov (.t 13), none⟩,
          ⟨(some 92), .mov (.t 12), none⟩,
          ⟨(some 93), .mov (.t 0), none⟩,
          ⟨(some 94), .bslice 3 [.int .i64] 5 [(.v (.int .i64 0)), (.v (.int .i64 0)), (.v (.int .i64 0)), (.v (.int .i64 0)), (.v (.int .i64 0))] [(0, 1, (.t 90)), (1, 1, (.t 91)), (2, 1, (.t 92)), (3, 1, (.c (.v (.int .i64 (-1))))), (4, 1, (.t 93))], none⟩,
          ⟨(some 95), .call 11 [(.t 89), (.t 94)], none⟩,
          ⟨(some 96), .bin .neq (.t 95) (.c (.v (.int .i64 1))), none⟩,
          ⟨(some 97), .mov (.t 96), none⟩,
          ⟨(some 98), .mov (.t 6), some (97, false)⟩,
          ⟨(some 99), .call 12 [(.t 98)], some (97, false)⟩,
          ⟨(some 100), .mov (.t 8), some (97, false)⟩,
          ⟨(some 101), .len (.t 100), some (97, false)⟩,
          ⟨(some 102), .bin .neq (.t 99) (.t 101), some (97, false)⟩,
          ⟨(some 103), .pick (.t 97) (.c (.v (.bool true))) (.t 102), none⟩] .done)
        (.cond (.t 103)
         (.seq (.ops false [⟨(some 4), .mov (.c (.v (.bool false))), none⟩] .done)
          .ret)
         .skip))
       (.seq (.ops false [⟨(some 104), .mov (.t 6), none⟩,
         ⟨(some 105), .call 15 [(.t 104)], none⟩,
         ⟨(some 106), .call 14 [(.t 105)], none⟩,
         ⟨(some 107), .mov (.t 8), none⟩,
         ⟨(some 108), .append 3 [.int .i64] [(.int .i64 0)] 8 (.t 106) (.t 107), none⟩,
         ⟨(some 109), .call 13 [(.t 108)], none⟩,
         ⟨(some 110), .len (.t 109), none⟩,
         ⟨(some 111), .mov (.t 0), none⟩,
         ⟨(some 112), .bin .neq (.t 110) (.t 111), none⟩] .done)
       (.cond (.t 112)
        (.seq (.ops false [⟨(some 4), .mov (.c (.v (.bool false))), none⟩] .done)
         .ret)
        .skip))))))))
     (.ops false [⟨(some 53), .mov (.t 10), none⟩,
      ⟨(some 54), .bin .add (.t 53) (.c (.v (.int .i64 1))), none⟩,
      ⟨(some 10), .mov (.t 54), none⟩] .done))))))
  (.seq (.ops false [⟨(some 113), .mov (.t 6), none⟩,
    ⟨(some 114), .call 10 [(.t 113), (.c (.v (.int .i64 0)))], none⟩,
    ⟨(some 115), .bin .eql (.t 114) (.c (.v (.int .i64 0))), none⟩,
    ⟨(some 4), .mov (.t 115), none⟩] .done)
  .ret)))))))))))⟩
theorem pf3_eq : (Tryd.f3.body.map fun c => (cfn Tryd.prog pl3 Tryd.f3 c, guardsAll pl3 c)) = some (pf3, true) := by kernel_rfl

/-- corral/corrallaw23.RenameBack  sizes [(27, 22), (30, 26)] -/
def pl4 : Nat → DT := dtGet [(27, (.take 0 [0, 19, 20] (.take 1 [1, 3, 4, 5, 6, 19, 20] (.take 2 [2, 3, 4, 5, 6, 19, 20] (.take 3 [3, 4, 5, 6, 19, 20] (.take 4 [4, 5, 6, 19, 20] (.take 5 [5, 6, 19, 20] (.take 6 [6, 19, 20] (.take 7 [7, 9, 10, 11, 12, 19, 20] (.take 8 [8, 9, 10, 11, 12, 19, 20] (.take 9 [9, 10, 11, 12, 19, 20] (.take 10 [10, 11, 12, 19, 20] (.take 11 [11, 12, 19, 20] (.take 12 [12, 19, 20] (.take 13 [13, 15, 16, 17, 18, 19, 20] (.take 14 [14, 15, 16, 17, 18, 19, 20] (.take 15 [15, 16, 17, 18, 19, 20] (.take 16 [16, 17, 18, 19, 20] (.take 17 [17, 18, 19, 20] (.take 18 [18, 19, 20] (.eff false 19 (.take 20 [20] .done)))))))))))))))))))))), (30, (.take 0 [0, 1, 24, 5, 6, 7, 8, 9, 10, 11, 12, 13, 14, 15, 16, 17, 18, 19, 20, 21, 22, 23] (.take 1 [1, 5, 24, 6, 7, 8, 9, 10, 11, 12, 13, 14, 15, 16, 17, 18, 19, 20, 21, 22, 23] (.take 2 [2, 3, 24, 4, 5, 6, 7, 8, 9, 10, 11, 12, 13, 14, 15, 16, 17, 18, 19, 20, 21, 22, 23] (.eff false 3 (.take 4 [4, 5, 24, 6, 7, 8, 9, 10, 11, 12, 13, 14, 15, 16, 17, 18, 19, 20, 21, 22, 23] (.eff true 5 (.take 6 [6, 7, 8, 9, 10, 11, 12, 24, 13, 14, 15, 16, 17, 18, 19, 20, 21, 22, 23] (.take 7 [7, 8, 24, 11, 13, 12, 14, 15, 16, 17, 18, 19, 20, 21, 22, 23] (.take 9 [9, 10, 24, 11, 12, 13, 14, 15, 16, 17, 18, 19, 20, 21, 22, 23] (.take 10 [10, 11, 24, 12, 13, 14, 15, 16, 17, 18, 19, 20, 21, 22, 23] (.eff true 8 (.take 11 [11, 12, 24, 13, 14, 15, 16, 17, 18, 19, 20, 21, 22, 23] (.take 12 [12, 13, 24, 14, 15, 16, 17, 18, 19, 20, 21, 22, 23] (.take 13 [13, 14, 15, 16, 24, 17, 18, 19, 20, 21, 22, 23] (.take 14 [14, 15, 24, 16, 17, 18, 19, 20, 21, 22, 23] (.take 15 [15, 16, 24, 17, 18, 19, 20, 21, 22, 23] (.take 16 [16, 17, 18, 19, 20, 24, 21, 22, 23] (.take 17 [17, 18, 24, 19, 20, 21, 22, 23] (.take 18 [18, 19, 24, 20, 21, 22, 23] (.take 19 [19, 20, 24, 21, 22, 23] (.take 20 [20, 21, 22, 23, 24] (.take 21 [21, 22, 24, 23] (.take 22 [22, 23, 24] (.take 23 [23, 24] (.take 24 [24] .done))))))))))))))))))))))))))]
def pf4 : PFn := ⟨154, [.t 4], (.seq (.ops false [⟨(some 4), .mov (.c (.v (.bool false))), none⟩] .done)
  (.seq (.ops false [⟨(some 20), .call 6 [], none⟩,
    ⟨(some 5), .mov (.t 20), none⟩] .done)
  (.seq (.seq (.ops false [⟨(some 21), .mov (.t 5), none⟩,
     ⟨(some 22), .un .not (.t 21), none⟩] .done)
   (.cond (.t 22)
    (.seq (.ops false [⟨(some 4), .mov (.c (.v (.bool false))), none⟩] .done)
     .ret)
    .skip))
  (.seq (.ops false [⟨(some 23), .mov (.t 0), none⟩,
    ⟨(some 24), .call 7 [(.t 23), (.c (.v (.int .i64 60)))], none⟩,
    ⟨(some 25), .bin .add (.c (.v (.int .i64 33))) (.t 24), none⟩,
    ⟨(some 0), .mov (.t 25), none⟩] .done)
  (.seq (.seq (.ops false [⟨(some 26), .mov (.t 1), none⟩,
     ⟨(some 27), .len (.t 26), none⟩,
     ⟨(some 28), .bin .gtr (.t 27) (.c (.v (.int .i64 40))), none⟩,
     ⟨(some 29), .mov (.t 28), none⟩,
     ⟨(some 30), .mov (.t 5), some (29, false)⟩,
     ⟨(some 31), .un .not (.t 30), some (29, false)⟩,
     ⟨(some 32), .pick (.t 29) (.c (.v (.bool true))) (.t 31), none⟩] .done)
   (.cond (.t 32)
    (.seq (.ops false [⟨(some 33), .mov (.t 5), none⟩,
       ⟨(some 4), .mov (.t 33), none⟩] .done)
     .ret)
    .skip))
  (.seq (.ops false [⟨(some 35), .mov (.t 0), none⟩,
    ⟨(some 36), .call 8 [(.t 35)], none⟩,
    ⟨(some 34), .mov (.t 36), none⟩,
    ⟨(some 37), .ext (.t 34) 0, none⟩,
    ⟨(some 38), .ext (.t 34) 1, none⟩,
    ⟨(some 6), .mov (.t 37), none⟩,
    ⟨(some 7), .mov (.t 38), none⟩] .done)
  (.seq (.seq (.ops false [⟨(some 39), .mov (.t 6), none⟩,
     ⟨(some 40), .eqp 0 true false (.t 39) (.c (.v (.pointer none))), none⟩,
     ⟨(some 41), .mov (.t 40), none⟩,
     ⟨(some 42), .mov (.t 7), some (41, false)⟩,
     ⟨(some 43), .eqp 1 true true (.t 42) (.c (.v .nilIface)), some (41, false)⟩,
     ⟨(some 44), .pick (.t 41) (.c (.v (.bool true))) (.t 43), none⟩] .done)
   (.cond (.t 44)
    (.seq (.ops false [⟨(some 4), .mov (.c (.v (.bool false))), none⟩] .done)
     .ret)
    .skip))
  (.seq (.ops false [⟨(some 45), .mov (.t 6), none⟩,
    ⟨(some 46), .call 15 [(.t 45)], none⟩,
    ⟨(some 8), .mov (.t 46), none⟩] .done)
  (.seq (.ops false [⟨(some 47), .mov (.t 6), none⟩,
    ⟨(some 48), .call 12 [(.t 47)], none⟩,
    ⟨(some 9), .mov (.t 48), none⟩] .done)
  (.seq (.ops false [⟨(some 10), .mov (.c (.v (.slice none 0 0))), none⟩] .done)
  (.seq (.seq (.ops false [⟨(some 11), .mov (.c (.v (.int .i64 0))), none⟩] .done)
   (.block 0 (.loop (.seq (.seq (.ops false [⟨(some 49), .mov (.t 11), none⟩,
        ⟨(some 50), .mov (.t 1), none⟩,
        ⟨(some 51), .len (.t 50), none⟩,
        ⟨(some 52), .bin .lss (.t 49) (.t 51), none⟩] .done)
      (.cond (.t 52)
       .skip
       (.exit 0)))
     (.seq (.block 1 (.seq (.ops false [⟨(some 55), .mov (.t 1), none⟩,
         ⟨(some 56), .mov (.t 11), none⟩,
         ⟨(some 57), .idx 1 (.t 55) (.t 56), none⟩,
         ⟨(some 58), .load none (.t 57), none⟩,
         ⟨(some 59), .call 7 [(.t 58), (.c (.v (.int .i64 31)))], none⟩,
         ⟨(some 60), .bin .add (.t 59) (.c (.v (.int .i64 1))), none⟩,
         ⟨(some 12), .mov (.t 60), none⟩] .done)
       (.seq (.ops false [⟨(some 62), .mov (.t 6), none⟩,
         ⟨(some 63), .mov (.t 12), none⟩,
         ⟨(some 64), .call 9 [(.t 62), (.t 63)], none⟩,
         ⟨(some 61), .mov (.t 64), none⟩,
         ⟨(some 65), .ext (.t 61) 0, none⟩,
         ⟨(some 66), .ext (.t 61) 1, none⟩,
         ⟨(some 67), .ext (.t 61) 2, none⟩,
         ⟨(some 13), .mov (.t 65), none⟩,
         ⟨(some 14), .mov (.t 66), none⟩,
         ⟨(some 15), .mov (.t 67), none⟩] .done)
       (.seq (.seq (.ops false [⟨(some 68), .mov (.t 15), none⟩,
          ⟨(some 69), .mov (.t 9), none⟩,
          ⟨(some 70), .mov (.t 10), none⟩,
          ⟨(some 71), .len (.t 70), none⟩,
          ⟨(some 72), .bin .gtr (.t 69) (.t 71), none⟩,
          ⟨(some 73), .eqb true (.t 68) (.t 72), none⟩] .done)
        (.cond (.t 73)
         (.seq (.ops false [⟨(some 4), .mov (.c (.v (.bool false))), none⟩] .done)
          .ret)
         .skip))
       (.seq (.ops false [⟨(some 74), .mov (.t 15), none⟩] .done)
       (.cond (.t 74)
        (.ops false [⟨(some 75), .mov (.t 10), none⟩,
          ⟨(some 76), .mov (.t 12), none⟩,
          ⟨(some 77), .mov (.t 13), none⟩,
          ⟨(some 78), .mov (.t 14), none⟩,
          ⟨(some 79), .bslice 3 [.int .i64] 3 [(.v (.int .i64 0)), (.v (.int .i64 0)), (.v (.int .i64 0))] [(0, 1, (.t 76)), (1, 1, (.t 77)), (2, 1, (.t 78))], none⟩,
          ⟨(some 80), .bslice 22 [.sl] 1 [(.v (.slice none 0 0))] [(0, 1, (.t 79))], none⟩,
          ⟨(some 81), .append 22 [.sl] [(.slice none 0 0)] 24 (.t 75) (.t 80), none⟩,
          ⟨(some 10), .mov (.t 81), none⟩] .done)
        .skip))))))
     (.ops false [⟨(some 53), .mov (.t 11), none⟩,
      ⟨(some 54), .bin .add (.t 53) (.c (.v (.int .i64 1))), none⟩,
      ⟨(some 11), .mov (.t 54), none⟩] .done))))))
  (.seq (.seq (.ops false [⟨(some 82), .mov (.t 6), none⟩,
     ⟨(some 83), .call 15 [(.t 82)], none⟩,
     ⟨(some 84), .call 13 [(.t 83)], none⟩,
     ⟨(some 85), .len (.t 84), none⟩,
     ⟨(some 86), .bin .neq (.t 85) (.c (.v (.int .i64 32))), none⟩,
     ⟨(some 87), .mov (.t 86), none⟩,
     ⟨(some 88), .mov (.t 6), some (87, false)⟩,
     ⟨(some 89), .call 12 [(.t 88)], some (87, false)⟩,
     ⟨(some 90), .mov (.t 9), some (87, false)⟩,
     ⟨(some 91), .mov (.t 10), some (87, false)⟩,
     ⟨(some 92), .len (.t 91), some (87, false)⟩,
     ⟨(some 93), .bin .sub (.t 90) (.t 92), some (87, false)⟩,
     ⟨(some 94), .bin .neq (.t 89) (.t 93), some (87, false)⟩,
     ⟨(some 95), .pick (.t 87) (.c (.v (.bool true))) (.t 94), none⟩] .done)
   (.cond (.t 95)
    (.seq (.ops false [⟨(some 4), .mov (.c (.v (.bool false))), none⟩] .done)
     .ret)
    .skip))
  (.seq (.seq (.ops false [⟨(some 96), .mov (.t 10), none⟩,
     ⟨(some 97), .len (.t 96), none⟩,
     ⟨(some 98), .bin .sub (.t 97) (.c (.v (.int .i64 1))), none⟩,
     ⟨(some 16), .mov (.t 98), none⟩] .done)
   (.block 2 (.loop (.seq (.seq (.ops false [⟨(some 99), .mov (.t 16), none⟩,
        ⟨(some 100), .bin .geq (.t 99) (.c (.v (.int .i64 0))), none⟩] .done)
      (.cond (.t 100)
       .skip
       (.exit 2)))
     (.seq (.block 3 (.seq (.ops true [⟨(some 103), .mov (.t 6), none⟩,
         ⟨(some 104), .mov (.t 10), none⟩,
         ⟨(some 105), .mov (.t 16), none⟩,
         ⟨(some 106), .idx 1 (.t 104) (.t 105), none⟩,
         ⟨(some 107), .load none (.t 106), none⟩,
         ⟨(some 108), .idx 1 (.t 107) (.c (.v (.int .i64 0))), none⟩,
         ⟨(some 109), .load none (.t 108), none⟩,
         ⟨(some 110), .mov (.t 10), none⟩,
         ⟨(some 111), .mov (.t 16), none⟩,
         ⟨(some 112), .idx 1 (.t 110) (.t 111), none⟩,
         ⟨(some 113), .load none (.t 112), none⟩,
         ⟨(some 114), .idx 1 (.t 113) (.c (.v (.int .i64 1))), none⟩,
         ⟨(some 115), .load none (.t 114), none⟩,
         ⟨(some 116), .mov (.t 10), none⟩,
         ⟨(some 117), .mov (.t 16), none⟩,
         ⟨(some 118), .idx 1 (.t 116) (.t 117), none⟩,
         ⟨(some 119), .load none (.t 118), none⟩,
         ⟨(some 120), .idx 1 (.t 119) (.c (.v (.int .i64 2))), none⟩,
         ⟨(some 121), .load none (.t 120), none⟩,
         ⟨(some 122), .call 16 [(.t 103), (.t 109), (.t 115), (.t 121)], none⟩,
         ⟨(some 123), .un .not (.t 122), none⟩] (.take 0 [0, 19, 20] (.take 1 [1, 3, 4, 5, 6, 19, 20] (.take 2 [2, 3, 4, 5, 6, 19, 20] (.take 3 [3, 4, 5, 6, 19, 20] (.take 4 [4, 5, 6, 19, 20] (.take 5 [5, 6, 19, 20] (.take 6 [6, 19, 20] (.take 7 [7, 9, 10, 11, 12, 19, 20] (.take 8 [8, 9, 10, 11, 12, 19, 20] (.take 9 [9, 10, 11, 12, 19, 20] (.take 10 [10, 11, 12, 19, 20] (.take 11 [11, 12, 19, 20] (.take 12 [12, 19, 20] (.take 13 [13, 15, 16, 17, 18, 19, 20] (.take 14 [14, 15, 16, 17, 18, 19, 20] (.take 15 [15, 16, 17, 18, 19, 20] (.take 16 [16, 17, 18, 19, 20] (.take 17 [17, 18, 19, 20] (.take 18 [18, 19, 20] (.eff false 19 (.take 20 [20] .done))))))))))))))))))))))
       (.cond (.t 123)
        (.seq (.ops false [⟨(some 4), .mov (.c (.v (.bool false))), none⟩] .done)
         .ret)
        .skip)))
     (.ops false [⟨(some 101), .mov (.t 16), none⟩,
      ⟨(some 102), .bin .sub (.t 101) (.c (.v (.int .i64 1))), none⟩,
      ⟨(some 16), .mov (.t 102), none⟩] .done))))))
  (.seq (.ops false [⟨(some 125), .mov (.t 6), none⟩,
    ⟨(some 126), .call 9 [(.t 125), (.c (.v (.int .i64 7)))], none⟩,
    ⟨(some 124), .mov (.t 126), none⟩,
    ⟨(some 127), .ext (.t 124) 0, none⟩,
    ⟨(some 128), .ext (.t 124) 1, none⟩,
    ⟨(some 129), .ext (.t 124) 2, none⟩,
    ⟨(some 17), .mov (.t 127), none⟩,
    ⟨(some 18), .mov (.t 128), none⟩,
    ⟨(some 19), .mov (.t 129), none⟩] .done)
  (.seq (.ops true [⟨(some 130), .mov (.t 8), none⟩,
    ⟨(some 131), .slice 1 (.t 130) (some (.c (.v (.int .i64 8)))) none none, none⟩,
    ⟨(some 132), .mov (.t 6), none⟩,
    ⟨(some 133), .call 15 [(.t 132)], none⟩,
    ⟨(some 134), .slice 1 (.t 133) (some (.c (.v (.int .i64 8)))) none none, none⟩,
    ⟨(some 135), .call 17 [(.t 131), (.t 134)], none⟩,
    ⟨(some 136), .mov (.t 135), none⟩,
    ⟨(some 137), .mov (.t 6), some (136, true)⟩,
    ⟨(some 138), .call 12 [(.t 137)], some (136, true)⟩,
    ⟨(some 139), .mov (.t 9), some (136, true)⟩,
    ⟨(some 140), .bin .sub (.t 139) (.c (.v (.int .i64 1))), some (136, true)⟩,
    ⟨(some 141), .bin .eql (.t 138) (.t 140), some (136, true)⟩,
    ⟨(some 142), .pick (.t 136) (.t 141) (.c (.v (.bool false))), none⟩,
    ⟨(some 143), .mov (.t 142), none⟩,
    ⟨(some 144), .mov (.t 19), some (143, true)⟩,
    ⟨(some 145), .pick (.t 143) (.t 144) (.c (.v (.bool false))), none⟩,
    ⟨(some 146), .mov (.t 145), none⟩,
    ⟨(some 147), .mov (.t 17), some (146, true)⟩,
    ⟨(some 148), .bin .eql (.t 147) (.c (.v (.int .i64 32))), some (146, true)⟩,
    ⟨(some 149), .pick (.t 146) (.t 148) (.c (.v (.bool false))), none⟩,
    ⟨(some 150), .mov (.t 149), none⟩,
    ⟨(some 151), .mov (.t 18), some (150, true)⟩,
    ⟨(some 152), .bin .eql (.t 151) (.c (.v (.int .i64 7))), some (150, true)⟩,
    ⟨(some 153), .pick (.t 150) (.t 152) (.c (.v (.bool false))), none⟩,
    ⟨(some 4), .mov (.t 153), none⟩] (.take 0 [0, 1, 24, 5, 6, 7, 8, 9, 10, 11, 12, 13, 14, 15, 16, 17, 18, 19, 20, 21, 22, 23] (.take 1 [1, 5, 24, 6, 7, 8, 9, 10, 11, 12, 13, 14, 15, 16, 17, 18, 19, 20, 21, 22, 23] (.take 2 [2, 3, 24, 4, 5, 6, 7, 8, 9, 10, 11, 12, 13, 14, 15, 16, 17, 18, 19, 20, 21, 22, 23] (.eff false 3 (.take 4 [4, 5, 24, 6, 7, 8, 9, 10, 11, 12, 13, 14, 15, 16, 17, 18, 19, 20, 21, 22, 23] (.eff true 5 (.take 6 [6, 7, 8, 9, 10, 11, 12, 24, 13, 14, 15, 16, 17, 18, 19, 20, 21, 22, 23] (.take 7 [7, 8, 24, 11, 13, 12, 14, 15, 16, 17, 18, 19, 20, 21, 22, 23] (.take 9 [9, 10, 24, 11, 12, 13, 14, 15, 16, 17, 18, 19, 20, 21, 22, 23] (.take 10 [10, 11, 24, 12, 13, 14, 15, 16, 17, 18, 19, 20, 21, 22, 23] (.eff true 8 (.take 11 [11, 12, 24, 13, 14, 15, 16, 17, 18, 19, 20, 21, 22, 23] (.take 12 [12, 13, 24, 14, 15, 16, 17, 18, 19, 20, 21, 22, 23] (.take 13 [13, 14, 15, 16, 24, 17, 18, 19, 20, 21, 22, 23] (.take 14 [14, 15, 24, 16, 17, 18, 19, 20, 21, 22, 23] (.take 15 [15, 16, 24, 17, 18, 19, 20, 21, 22, 23] (.take 16 [16, 17, 18, 19, 20, 24, 21, 22, 23] (.take 17 [17, 18, 24, 19, 20, 21, 22, 23] (.take 18 [18, 19, 24, 20, 21, 22, 23] (.take 19 [19, 20, 24, 21, 22, 23] (.take 20 [20, 21, 22, 23, 24] (.take 21 [21, 22, 24, 23] (.take 22 [22, 23, 24] (.take 23 [23, 24] (.take 24 [24] .done))))))))))))))))))))))))))
  .ret)))))))))))))))⟩
theorem pf4_eq : (Tryd.f4.body.map fun c => (cfn Tryd.prog pl4 Tryd.f4 c, guardsAll pl4 c)) = some (pf4, true) := by kernel_rfl

/-- corral/corrallaw23.RenamePlays  sizes [(27, 10), (19, 18), (32, 26)] -/
def pl5 : Nat → DT := dtGet [(27, (.take 0 [0, 3, 7, 8] (.take 1 [1, 2, 3, 7, 8] (.take 2 [2, 3, 7, 8] (.take 4 [4, 7, 8] (.take 5 [5, 6, 7, 8] (.take 6 [6, 7, 8] (.eff false 3 (.eff false 7 (.take 8 [8] .done)))))))))), (19, (.take 0 [0, 7, 15, 16] (.take 1 [1, 2, 7, 15, 16] (.take 2 [2, 7, 15, 16] (.take 3 [3, 4, 7, 15, 16] (.take 4 [4, 7, 15, 16] (.take 5 [5, 6, 7, 15, 16] (.take 6 [6, 7, 15, 16] (.take 8 [8, 15, 16] (.take 9 [9, 10, 15, 16] (.take 10 [10, 15, 16] (.take 11 [11, 12, 15, 16] (.take 12 [12, 15, 16] (.take 13 [13, 14, 15, 16] (.take 14 [14, 15, 16] (.eff false 7 (.eff false 15 (.take 16 [16] .done)))))))))))))))))), (32, (.take 0 [0, 1, 7, 8, 9, 10, 11, 12, 13, 14, 15, 16, 17, 18, 19, 20, 21, 22, 23, 24] (.take 2 [2, 3, 4, 5, 6, 7, 8, 9, 10, 11, 12, 13, 14, 15, 16, 17, 18, 19, 20, 21, 22, 23, 24] (.take 3 [3, 4, 5, 6, 7, 8, 9, 10, 11, 12, 13, 14, 15, 16, 17, 18, 19, 20, 21, 22, 23, 24] (.take 4 [4, 5, 6, 7, 8, 9, 10, 11, 12, 13, 14, 15, 16, 17, 18, 19, 20, 21, 22, 23, 24] (.take 5 [5, 6, 7, 8, 9, 10, 11, 12, 13, 14, 15, 16, 17, 18, 19, 20, 21, 22, 23, 24] (.take 6 [6, 7, 8, 9, 10, 11, 12, 13, 14, 15, 16, 17, 18, 19, 20, 21, 22, 23, 24] (.eff true 1 (.take 7 [7, 8, 9, 10, 11, 12, 13, 14, 15, 16, 17, 18, 19, 20, 21, 22, 23, 24] (.take 8 [8, 9, 10, 11, 12, 13, 14, 15, 16, 17, 18, 19, 20, 21, 22, 23, 24] (.take 9 [9, 10, 15, 16, 18, 17, 19, 20, 21, 22, 23, 24] (.take 11 [11, 12, 13, 14, 15, 16, 18, 17, 19, 20, 21, 22, 23, 24] (.take 12 [12, 13, 14, 15, 16, 18, 17, 19, 20, 21, 22, 23, 24] (.take 13 [13, 14, 15, 16, 18, 17, 19, 20, 21, 22, 23, 24] (.take 14 [14, 15, 16, 18, 17, 19, 20, 21, 22, 23, 24] (.eff false 10 (.eff true 15 (.take 16 [16, 17, 18, 19, 20, 21, 22, 23, 24] (.take 17 [17, 18, 19, 20, 21, 22, 23, 24] (.take 18 [18, 19, 20, 21, 22, 23, 24] (.take 19 [19, 21, 23, 24] (.take 20 [20, 21, 23, 24] (.take 22 [22, 23, 24] (.eff true 21 (.take 23 [23, 24] (.take 24 [24] .done))))))))))))))))))))))))))]
def pf5 : PFn := ⟨169, [.t 6], (.seq (.ops false [⟨(some 6), .mov (.c (.v (.bool false))), none⟩] .done)
  (.seq (.ops false [⟨(some 20), .call 6 [], none⟩,
    ⟨(some 7), .mov (.t 20), none⟩] .done)
  (.seq (.seq (.ops false [⟨(some 21), .mov (.t 7), none⟩,
     ⟨(some 22), .un .not (.t 21), none⟩] .done)
   (.cond (.t 22)
    (.seq (.ops false [⟨(some 6), .mov (.c (.v (.bool false))), none⟩] .done)
     .ret)
    .skip))
  (.seq (.seq (.ops false [⟨(some 23), .mov (.t 1), none⟩,
     ⟨(some 24), .len (.t 23), none⟩,
     ⟨(some 25), .bin .gtr (.t 24) (.c (.v (.int .i64 80))), none⟩,
     ⟨(some 26), .mov (.t 25), none⟩,
     ⟨(some 27), .mov (.t 7), some (26, false)⟩,
     ⟨(some 28), .un .not (.t 27), some (26, false)⟩,
     ⟨(some 29), .pick (.t 26) (.c (.v (.bool true))) (.t 28), none⟩] .done)
   (.cond (.t 29)
    (.seq (.ops false [⟨(some 30), .mov (.t 7), none⟩,
       ⟨(some 6), .mov (.t 30), none⟩] .done)
     .ret)
    .skip))
  (.seq (.ops false [⟨(some 32), .mov (.t 0), none⟩,
    ⟨(some 33), .call 8 [(.t 32)], none⟩,
    ⟨(some 31), .mov (.t 33), none⟩,
    ⟨(some 34), .ext (.t 31) 0, none⟩,
    ⟨(some 35), .ext (.t 31) 1, none⟩,
    ⟨(some 8), .mov (.t 34), none⟩,
    ⟨(some 9), .mov (.t 35), none⟩] .done)
  (.seq (.seq (.ops false [⟨(some 36), .mov (.t 0), none⟩,
     ⟨(some 37), .bin .lss (.t 36) (.c (.v (.int .i64 33))), none⟩,
     ⟨(some 38), .mov (.t 37), none⟩,
     ⟨(some 39), .mov (.t 0), some (38, false)⟩,
     ⟨(some 40), .bin .gtr (.t 39) (.c (.v (.int .i64 256))), some (38, false)⟩,
     ⟨(some 41), .pick (.t 38) (.c (.v (.bool true))) (.t 40), none⟩] .done)
   (.cond (.t 41)
    (.seq (.ops false [⟨(some 42), .mov (.t 8), none⟩,
       ⟨(some 43), .eqp 0 true false (.t 42) (.c (.v (.pointer none))), none⟩,
       ⟨(some 44), .mov (.t 43), none⟩,
       ⟨(some 45), .mov (.t 9), some (44, true)⟩,
       ⟨(some 46), .call 18 [(.t 45), (.c (.v (.int .i64 106)))], some (44, true)⟩,
       ⟨(some 47), .pick (.t 44) (.t 46) (.c (.v (.bool false))), none⟩,
       ⟨(some 6), .mov (.t 47), none⟩] .done)
     .ret)
    .skip))
  (.seq (.seq (.ops false [⟨(some 48), .mov (.t 8), none⟩,
     ⟨(some 49), .eqp 0 true false (.t 48) (.c (.v (.pointer none))), none⟩,
     ⟨(some 50), .mov (.t 49), none⟩,
     ⟨(some 51), .mov (.t 9), some (50, false)⟩,
     ⟨(some 52), .eqp 1 true true (.t 51) (.c (.v .nilIface)), some (50, false)⟩,
     ⟨(some 53), .pick (.t 50) (.c (.v (.bool true))) (.t 52), none⟩] .done)
   (.cond (.t 53)
    (.seq (.ops false [⟨(some 6), .mov (.c (.v (.bool false))), none⟩] .done)
     .ret)
    .skip))
  (.seq (.ops false [⟨(some 54), .mov (.t 0), none⟩,
    ⟨(some 55), .call 19 [(.t 54)], none⟩,
    ⟨(some 10), .mov (.t 55), none⟩] .done)
  (.seq (.seq (.ops false [⟨(some 11), .mov (.c (.v (.int .i64 0))), none⟩] .done)
   (.block 0 (.loop (.seq (.seq (.ops false [⟨(some 56), .mov (.t 11), none⟩,
        ⟨(some 57), .mov (.t 1), none⟩,
        ⟨(some 58), .len (.t 57), none⟩,
        ⟨(some 59), .bin .lss (.t 56) (.t 58), none⟩] .done)
      (.cond (.t 59)
       .skip
       (.exit 0)))
     (.seq (.block 1 (.seq (.ops false [⟨(some 62), .mov (.t 1), none⟩,
         ⟨(some 63), .mov (.t 11), none⟩,
         ⟨(some 64), .idx 5 (.t 62) (.t 63), none⟩,
         ⟨(some 65), .load (some 5) (.t 64), none⟩,
         ⟨(some 12), .box 46 (.c (.agg [(.v (.int .i64 0)), (.v (.int .i64 0)), (.v (.int .i64 0)), (.v (.int .i64 0)), (.v (.slice none 0 0))])), none⟩,
         ⟨none, .store 5 (.t 12) (.t 65), none⟩] .done)
       (.seq (.seq (.ops false [⟨(some 66), .fld 4 (.t 12), none⟩,
          ⟨(some 67), .load none (.t 66), none⟩,
          ⟨(some 68), .len (.t 67), none⟩,
          ⟨(some 69), .bin .gtr (.t 68) (.c (.v (.int .i64 20))), none⟩] .done)
        (.cond (.t 69)
         (.seq (.ops false [⟨(some 6), .mov (.c (.v (.bool true))), none⟩] .done)
          .ret)
         .skip))
       (.seq (.seq (.ops false [⟨(some 70), .fld 0 (.t 12), none⟩,
          ⟨(some 71), .load none (.t 70), none⟩] .done)
        (.block 2 (.seq (.ops false [⟨(some 90), .bin .eql (.t 71) (.c (.v (.int .i64 1))), none⟩,
           ⟨(some 89), .mov (.t 90), none⟩] .done)
         (.cond (.t 89)
          (.seq (.ops false [⟨(some 92), .mov (.t 8), none⟩,
             ⟨(some 93), .fld 1 (.t 12), none⟩,
             ⟨(some 94), .load none (.t 93), none⟩,
             ⟨(some 95), .call 9 [(.t 92), (.t 94)], none⟩,
             ⟨(some 91), .mov (.t 95), none⟩,
             ⟨(some 96), .ext (.t 91) 0, none⟩,
             ⟨(some 97), .ext (.t 91) 1, none⟩,
             ⟨(some 98), .ext (.t 91) 2, none⟩,
             ⟨(some 13), .mov (.t 96), none⟩,
             ⟨(some 14), .mov (.t 97), none⟩,
             ⟨(some 15), .mov (.t 98), none⟩] .done)
           (.seq (.ops false [⟨(some 100), .mov (.t 10), none⟩,
             ⟨(some 101), .fld 1 (.t 12), none⟩,
             ⟨(some 102), .load none (.t 101), none⟩,
             ⟨(some 103), .call 20 [(.t 100), (.t 102)], none⟩,
             ⟨(some 99), .mov (.t 103), none⟩,
             ⟨(some 104), .ext (.t 99) 0, none⟩,
             ⟨(some 105), .ext (.t 99) 1, none⟩,
             ⟨(some 106), .ext (.t 99) 2, none⟩,
             ⟨(some 16), .mov (.t 104), none⟩,
             ⟨(some 17), .mov (.t 105), none⟩,
             ⟨(some 18), .mov (.t 106), none⟩] .done)
           (.seq (.ops false [⟨(some 107), .mov (.t 13), none⟩,
             ⟨(some 108), .mov (.t 16), none⟩,
             ⟨(some 109), .bin .neq (.t 107) (.t 108), none⟩,
             ⟨(some 110), .mov (.t 109), none⟩,
             ⟨(some 111), .mov (.t 14), some (110, false)⟩,
             ⟨(some 112), .mov (.t 17), some (110, false)⟩,
             ⟨(some 113), .bin .neq (.t 111) (.t 112), some (110, false)⟩,
             ⟨(some 114), .pick (.t 110) (.c (.v (.bool true))) (.t 113), none⟩,
             ⟨(some 115), .mov (.t 114), none⟩,
             ⟨(some 116), .mov (.t 15), some (115, false)⟩,
             ⟨(some 117), .mov (.t 18), some (115, false)⟩,
             ⟨(some 118), .eqb true (.t 116) (.t 117), some (115, false)⟩,
             ⟨(some 119), .pick (.t 115) (.c (.v (.bool true))) (.t 118), none⟩] .done)
           (.cond (.t 119)
            (.seq (.ops false [⟨(some 6), .mov (.c (.v (.bool false))), none⟩] .done)
             .ret)
            .skip))))
          (.seq (.ops false [⟨(some 121), .bin .eql (.t 71) (.c (.v (.int .i64 2))), none⟩,
             ⟨(some 120), .mov (.t 121), none⟩] .done)
           (.cond (.t 120)
            (.seq (.ops true [⟨(some 122), .mov (.t 8), none⟩,
               ⟨(some 123), .fld 4 (.t 12), none⟩,
               ⟨(some 124), .load none (.t 123), none⟩,
               ⟨(some 125), .call 11 [(.t 122), (.t 124)], none⟩,
               ⟨(some 126), .mov (.t 10), none⟩,
               ⟨(some 127), .fld 4 (.t 12), none⟩,
               ⟨(some 128), .load none (.t 127), none⟩,
               ⟨(some 129), .call 21 [(.t 126), (.t 128)], none⟩,
               ⟨(some 130), .bin .neq (.t 125) (.t 129), none⟩] (.take 0 [0, 3, 7, 8] (.take 1 [1, 2, 3, 7, 8] (.take 2 [2, 3, 7, 8] (.take 4 [4, 7, 8] (.take 5 [5, 6, 7, 8] (.take 6 [6, 7, 8] (.eff false 3 (.eff false 7 (.take 8 [8] .done))))))))))
             (.cond (.t 130)
              (.seq (.ops false [⟨(some 6), .mov (.c (.v (.bool false))), none⟩] .done)
               .ret)
              .skip))
            (.seq (.ops true [⟨(some 72), .mov (.t 8), none⟩,
               ⟨(some 73), .fld 1 (.t 12), none⟩,
               ⟨(some 74), .load none (.t 73), none⟩,
               ⟨(some 75), .fld 2 (.t 12), none⟩,
               ⟨(some 76), .load none (.t 75), none⟩,
               ⟨(some 77), .fld 3 (.t 12), none⟩,
               ⟨(some 78), .load none (.t 77), none⟩,
               ⟨(some 79), .call 16 [(.t 72), (.t 74), (.t 76), (.t 78)], none⟩,
               ⟨(some 80), .mov (.t 10), none⟩,
               ⟨(some 81), .fld 1 (.t 12), none⟩,
               ⟨(some 82), .load none (.t 81), none⟩,
               ⟨(some 83), .fld 2 (.t 12), none⟩,
               ⟨(some 84), .load none (.t 83), none⟩,
               ⟨(some 85), .fld 3 (.t 12), none⟩,
               ⟨(some 86), .load none (.t 85), none⟩,
               ⟨(some 87), .call 22 [(.t 80), (.t 82), (.t 84), (.t 86)], none⟩,
               ⟨(some 88), .eqb true (.t 79) (.t 87), none⟩] (.take 0 [0, 7, 15, 16] (.take 1 [1, 2, 7, 15, 16] (.take 2 [2, 7, 15, 16] (.take 3 [3, 4, 7, 15, 16] (.take 4 [4, 7, 15, 16] (.take 5 [5, 6, 7, 15, 16] (.take 6 [6, 7, 15, 16] (.take 8 [8, 15, 16] (.take 9 [9, 10, 15, 16] (.take 10 [10, 15, 16] (.take 11 [11, 12, 15, 16] (.take 12 [12, 15, 16] (.take 13 [13, 14, 15, 16] (.take 14 [14, 15, 16] (.eff false 7 (.eff false 15 (.take 16 [16] .done))))))))))))))))))
             (.cond (.t 88)
              (.seq (.ops false [⟨(some 6), .mov (.c (.v (.bool false))), none⟩] .done)
               .ret)
              .skip))))))))
       (.seq (.ops false [⟨(some 19), .mov (.c (.v (.int .i64 (-1)))), none⟩] .done)
       (.seq (.seq (.ops false [⟨(some 131), .mov (.t 2), none⟩,
          ⟨(some 132), .bin .geq (.t 131) (.c (.v (.int .i64 0))), none⟩,
          ⟨(some 133), .mov (.t 132), none⟩,
          ⟨(some 134), .mov (.t 2), some (133, true)⟩,
          ⟨(some 135), .bin .lss (.t 134) (.c (.v (.int .i64 32))), some (133, true)⟩,
          ⟨(some 136), .pick (.t 133) (.t 135) (.c (.v (.bool false))), none⟩] .done)
        (.cond (.t 136)
         (.ops false [⟨(some 137), .mov (.t 10), none⟩,
           ⟨(some 138), .nilck (.t 137), none⟩,
           ⟨(some 139), .fld 1 (.t 138), none⟩,
           ⟨(some 140), .load none (.t 139), none⟩,
           ⟨(some 141), .mov (.t 2), none⟩,
           ⟨(some 142), .idx 1 (.t 140) (.t 141), none⟩,
           ⟨(some 143), .load none (.t 142), none⟩,
           ⟨(some 19), .mov (.t 143), none⟩] .done)
         .skip))
       (.seq (.ops true [⟨(some 144), .mov (.t 8), none⟩,
         ⟨(some 145), .call 12 [(.t 144)], none⟩,
         ⟨(some 146), .mov (.t 10), none⟩,
         ⟨(some 147), .nilck (.t 146), none⟩,
         ⟨(some 148), .fld 2 (.t 147), none⟩,
         ⟨(some 149), .load none (.t 148), none⟩,
         ⟨(some 150), .len (.t 149), none⟩,
         ⟨(some 151), .bin .neq (.t 145) (.t 150), none⟩,
         ⟨(some 152), .mov (.t 151), none⟩,
         ⟨(some 153), .mov (.t 8), some (152, false)⟩,
         ⟨(some 154), .call 15 [(.t 153)], some (152, false)⟩,
         ⟨(some 155), .mov (.t 10), some (152, false)⟩,
         ⟨(some 156), .nilck (.t 155), some (152, false)⟩,
         ⟨(some 157), .fld 1 (.t 156), some (152, false)⟩,
         ⟨(some 158), .load none (.t 157), some (152, false)⟩,
         ⟨(some 159), .call 17 [(.t 154), (.t 158)], some (152, false)⟩,
         ⟨(some 160), .un .not (.t 159), some (152, false)⟩,
         ⟨(some 161), .pick (.t 152) (.c (.v (.bool true))) (.t 160), none⟩,
         ⟨(some 162), .mov (.t 161), none⟩,
         ⟨(some 163), .mov (.t 8), some (162, false)⟩,
         ⟨(some 164), .mov (.t 2), some (162, false)⟩,
         ⟨(some 165), .call 10 [(.t 163), (.t 164)], some (162, false)⟩,
         ⟨(some 166), .mov (.t 19), some (162, false)⟩,
         ⟨(some 167), .bin .neq (.t 165) (.t 166), some (162, false)⟩,
         ⟨(some 168), .pick (.t 162) (.c (.v (.bool true))) (.t 167), none⟩] (.take 0 [0, 1, 7, 8, 9, 10, 11, 12, 13, 14, 15, 16, 17, 18, 19, 20, 21, 22, 23, 24] (.take 2 [2, 3, 4, 5, 6, 7, 8, 9, 10, 11, 12, 13, 14, 15, 16, 17, 18, 19, 20, 21, 22, 23, 24] (.take 3 [3, 4, 5, 6, 7, 8, 9, 10, 11, 12, 13, 14, 15, 16, 17, 18, 19, 20, 21, 22, 23, 24] (.take 4 [4, 5, 6, 7, 8, 9, 10, 11, 12, 13, 14, 15, 16, 17, 18, 19, 20, 21, 22, 23, 24] (.take 5 [5, 6, 7, 8, 9, 10, 11, 12, 13, 14, 15, 16, 17, 18, 19, 20, 21, 22, 23, 24] (.take 6 [6, 7, 8, 9, 10, 11, 12, 13, 14, 15, 16, 17, 18, 19, 20, 21, 22, 23, 24] (.eff true 1 (.take 7 [7, 8, 9, 10, 11, 12, 13, 14, 15, 16, 17, 18, 19, 20, 21, 22, 23, 24] (.take 8 [8, 9, 10, 11, 12, 13, 14, 15, 16, 17, 18, 19, 20, 21, 22, 23, 24] (.take 9 [9, 10, 15, 16, 18, 17, 19, 20, 21, 22, 23, 24] (.take 11 [11, 12, 13, 14, 15, 16, 18, 17, 19, 20, 21, 22, 23, 24] (.take 12 [12, 13, 14, 15, 16, 18, 17, 19, 20, 21, 22, 23, 24] (.take 13 [13, 14, 15, 16, 18, 17, 19, 20, 21, 22, 23, 24] (.take 14 [14, 15, 16, 18, 17, 19, 20, 21, 22, 23, 24] (.eff false 10 (.eff true 15 (.take 16 [16, 17, 18, 19, 20, 21, 22, 23, 24] (.take 17 [17, 18, 19, 20, 21, 22, 23, 24] (.take 18 [18, 19, 20, 21, 22, 23, 24] (.take 19 [19, 21, 23, 24] (.take 20 [20, 21, 23, 24] (.take 22 [22, 23, 24] (.eff true 21 (.take 23 [23, 24] (.take 24 [24] .done))))))))))))))))))))))))))
       (.cond (.t 168)
        (.seq (.ops false [⟨(some 6), .mov (.c (.v (.bool false))), none⟩] .done)
         .ret)
        .skip))))))))
     (.ops false [⟨(some 60), .mov (.t 11), none⟩,
      ⟨(some 61), .bin .add (.t 60) (.c (.v (.int .i64 1))), none⟩,
      ⟨(some 11), .mov (.t 61), none⟩] .done))))))
  (.seq (.ops false [⟨(some 6), .mov (.c (.v (.bool true))), none⟩] .done)
  .ret))))))))))⟩
theorem pf5_eq : (Tryd.f5.body.map fun c => (cfn Tryd.prog pl5 Tryd.f5 c, guardsAll pl5 c)) = some (pf5, true) := by kernel_rfl

/-- corral/corrallaw23.first  sizes [] -/
def pl6 : Nat → DT := dtGet []
def pf6 : PFn := ⟨72, [.t 0], (.seq (.ops false [⟨(some 0), .mov (.c (.v (.bool false))), none⟩] .done)
  (.seq (.ops false [⟨(some 14), .call 8 [(.c (.v (.int .i64 33)))], none⟩,
    ⟨(some 13), .mov (.t 14), none⟩,
    ⟨(some 15), .ext (.t 13) 0, none⟩,
    ⟨(some 16), .ext (.t 13) 1, none⟩,
    ⟨(some 1), .mov (.t 15), none⟩,
    ⟨(some 2), .mov (.t 16), none⟩] .done)
  (.seq (.seq (.ops false [⟨(some 17), .mov (.t 1), none⟩,
     ⟨(some 18), .eqp 0 true false (.t 17) (.c (.v (.pointer none))), none⟩,
     ⟨(some 19), .mov (.t 18), none⟩,
     ⟨(some 20), .mov (.t 2), some (19, false)⟩,
     ⟨(some 21), .eqp 1 true true (.t 20) (.c (.v .nilIface)), some (19, false)⟩,
     ⟨(some 22), .pick (.t 19) (.c (.v (.bool true))) (.t 21), none⟩] .done)
   (.cond (.t 22)
    (.seq (.ops false [⟨(some 0), .mov (.c (.v (.bool false))), none⟩] .done)
     .ret)
    .skip))
  (.seq (.ops false [⟨(some 24), .mov (.t 1), none⟩,
    ⟨(some 25), .call 9 [(.t 24), (.c (.v (.int .i64 5)))], none⟩,
    ⟨(some 23), .mov (.t 25), none⟩,
    ⟨(some 26), .ext (.t 23) 0, none⟩,
    ⟨(some 27), .ext (.t 23) 1, none⟩,
    ⟨(some 28), .ext (.t 23) 2, none⟩,
    ⟨(some 3), .mov (.t 26), none⟩,
    ⟨(some 4), .mov (.t 27), none⟩,
    ⟨(some 5), .mov (.t 28), none⟩] .done)
  (.seq (.ops false [⟨(some 30), .mov (.t 1), none⟩,
    ⟨(some 31), .call 9 [(.t 30), (.c (.v (.int .i64 6)))], none⟩,
    ⟨(some 29), .mov (.t 31), none⟩,
    ⟨(some 32), .ext (.t 29) 0, none⟩,
    ⟨(some 33), .ext (.t 29) 1, none⟩,
    ⟨(some 34), .ext (.t 29) 2, none⟩,
    ⟨(some 6), .mov (.t 32), none⟩,
    ⟨(some 7), .mov (.t 33), none⟩,
    ⟨(some 8), .mov (.t 34), none⟩] .done)
  (.seq (.ops false [⟨(some 35), .mov (.t 1), none⟩,
    ⟨(some 36), .bslice 3 [.int .i64] 1 [(.v (.int .i64 0))] [(0, 1, (.c (.v (.int .i64 5))))], none⟩,
    ⟨(some 37), .call 11 [(.t 35), (.t 36)], none⟩,
    ⟨(some 9), .mov (.t 37), none⟩] .done)
  (.seq (.ops false [⟨(some 39), .mov (.t 1), none⟩,
    ⟨(some 40), .call 9 [(.t 39), (.c (.v (.int .i64 6)))], none⟩,
    ⟨(some 38), .mov (.t 40), none⟩,
    ⟨(some 41), .ext (.t 38) 0, none⟩,
    ⟨(some 42), .ext (.t 38) 1, none⟩,
    ⟨(some 43), .ext (.t 38) 2, none⟩,
    ⟨(some 10), .mov (.t 41), none⟩,
    ⟨(some 11), .mov (.t 42), none⟩,
    ⟨(some 12), .mov (.t 43), none⟩] .done)
  (.seq (.ops false [⟨(some 44), .mov (.t 3), none⟩,
    ⟨(some 45), .bin .eql (.t 44) (.c (.v (.int .i64 32))), none⟩,
    ⟨(some 46), .mov (.t 45), none⟩,
    ⟨(some 47), .mov (.t 4), some (46, true)⟩,
    ⟨(some 48), .bin .eql (.t 47) (.c (.v (.int .i64 5))), some (46, true)⟩,
    ⟨(some 49), .pick (.t 46) (.t 48) (.c (.v (.bool false))), none⟩,
    ⟨(some 50), .mov (.t 49), none⟩,
    ⟨(some 51), .mov (.t 5), some (50, true)⟩,
    ⟨(some 52), .pick (.t 50) (.t 51) (.c (.v (.bool false))), none⟩,
    ⟨(some 53), .mov (.t 52), none⟩,
    ⟨(some 54), .mov (.t 8), some (53, true)⟩,
    ⟨(some 55), .un .not (.t 54), some (53, true)⟩,
    ⟨(some 56), .pick (.t 53) (.t 55) (.c (.v (.bool false))), none⟩,
    ⟨(some 57), .mov (.t 56), none⟩,
    ⟨(some 58), .mov (.t 9), some (57, true)⟩,
    ⟨(some 59), .bin .eql (.t 58) (.c (.v (.int .i64 1))), some (57, true)⟩,
    ⟨(some 60), .pick (.t 57) (.t 59) (.c (.v (.bool false))), none⟩,
    ⟨(some 61), .mov (.t 60), none⟩,
    ⟨(some 62), .mov (.t 10), some (61, true)⟩,
    ⟨(some 63), .bin .eql (.t 62) (.c (.v (.int .i64 5))), some (61, true)⟩,
    ⟨(some 64), .pick (.t 61) (.t 63) (.c (.v (.bool false))), none⟩,
    ⟨(some 65), .mov (.t 64), none⟩,
    ⟨(some 66), .mov (.t 11), some (65, true)⟩,
    ⟨(some 67), .bin .eql (.t 66) (.c (.v (.int .i64 6))), some (65, true)⟩,
    ⟨(some 68), .pick (.t 65) (.t 67) (.c (.v (.bool false))), none⟩,
    ⟨(some 69), .mov (.t 68), none⟩,
    ⟨(some 70), .mov (.t 12), some (69, true)⟩,
    ⟨(some 71), .pick (.t 69) (.t 70) (.c (.v (.bool false))), none⟩,
    ⟨(some 0), .mov (.t 71), none⟩] .done)
  .ret))))))))⟩
theorem pf6_eq : (Tryd.f6.body.map fun c => (cfn Tryd.prog pl6 Tryd.f6 c, guardsAll pl6 c)) = some (pf6, true) := by kernel_rfl

/-- corral/corralworld.Number  sizes [] -/
def pl7 : Nat → DT := dtGet []
def pf7 : PFn := ⟨12, [.t 4], (.seq (.ops false [⟨(some 4), .mov (.c (.v (.int .i64 0))), none⟩] .done)
  (.seq (.ops false [⟨(some 5), .mov (.t 0), none⟩,
    ⟨(some 6), .mov (.t 1), none⟩,
    ⟨(some 7), .bin .rem (.t 5) (.t 6), none⟩,
    ⟨(some 8), .mov (.t 1), none⟩,
    ⟨(some 9), .bin .add (.t 7) (.t 8), none⟩,
    ⟨(some 10), .mov (.t 1), none⟩,
    ⟨(some 11), .bin .rem (.t 9) (.t 10), none⟩,
    ⟨(some 4), .mov (.t 11), none⟩] .done)
  .ret))⟩
theorem pf7_eq : (Tryd.f7.body.map fun c => (cfn Tryd.prog pl7 Tryd.f7 c, guardsAll pl7 c)) = some (pf7, true) := by kernel_rfl

/-- corral/rename.New  sizes [(2, 4)] -/
def pl8 : Nat → DT := dtGet [(2, (.take 0 [0, 2] (.take 1 [1, 2] (.take 2 [2] .done))))]
def pf8 : PFn := ⟨44, [.t 2, .t 3], (.seq (.ops false [⟨(some 2), .mov (.c (.v (.pointer none))), none⟩,
    ⟨(some 3), .mov (.c (.v .nilIface)), none⟩] .done)
  (.seq (.seq (.ops false [⟨(some 6), .mov (.t 0), none⟩,
     ⟨(some 7), .bin .lss (.t 6) (.c (.v (.int .i64 33))), none⟩,
     ⟨(some 8), .mov (.t 7), none⟩,
     ⟨(some 9), .mov (.t 0), some (8, false)⟩,
     ⟨(some 10), .bin .gtr (.t 9) (.c (.v (.int .i64 256))), some (8, false)⟩,
     ⟨(some 11), .pick (.t 8) (.c (.v (.bool true))) (.t 10), none⟩] .done)
   (.cond (.t 11)
    (.seq (.ops true [⟨(some 12), .load none (.c (.v (.pointer (some ⟨0, 0, none⟩)))), none⟩,
       ⟨(some 2), .mov (.c (.v (.pointer none))), none⟩,
       ⟨(some 3), .mov (.t 12), none⟩] (.take 0 [0, 2] (.take 1 [1, 2] (.take 2 [2] .done))))
     .ret)
    .skip))
  (.seq (.ops false [⟨(some 13), .mov (.t 0), none⟩,
    ⟨(some 14), .build [(.v (.int .i64 0)), (.v (.slice none 0 0)), (.v (.slice none 0 0))] [(0, 1, (.t 13))], none⟩,
    ⟨(some 15), .box 52 (.t 14), none⟩,
    ⟨(some 4), .mov (.t 15), none⟩] .done)
  (.seq (.seq (.ops false [⟨(some 16), .mov (.t 0), none⟩,
     ⟨(some 17), .mov (.c (.v (.int .i64 0))), none⟩] .done)
   (.block 0 (.loop (.seq (.ops false [⟨(some 18), .bin .lss (.t 17) (.t 16), none⟩] .done)
     (.seq (.cond (.t 18)
       .skip
       (.exit 0))
     (.seq (.block 1 (.seq (.ops false [⟨(some 19), .mov (.t 17), none⟩,
         ⟨(some 5), .mov (.t 19), none⟩] .done)
       (.seq (.ops false [⟨(some 20), .mov (.t 5), none⟩,
         ⟨(some 21), .bin .lss (.t 20) (.c (.v (.int .i64 32))), none⟩] .done)
       (.cond (.t 21)
        (.ops false [⟨(some 22), .mov (.t 4), none⟩,
          ⟨(some 23), .mov (.t 4), none⟩,
          ⟨(some 24), .nilck (.t 23), none⟩,
          ⟨(some 25), .fld 1 (.t 24), none⟩,
          ⟨(some 26), .load none (.t 25), none⟩,
          ⟨(some 27), .mov (.t 5), none⟩,
          ⟨(some 28), .bslice 3 [.int .i64] 1 [(.v (.int .i64 0))] [(0, 1, (.t 27))], none⟩,
          ⟨(some 29), .append 3 [.int .i64] [(.int .i64 0)] 8 (.t 26) (.t 28), none⟩,
          ⟨(some 30), .nilck (.t 22), none⟩,
          ⟨(some 31), .fld 1 (.t 30), none⟩,
          ⟨none, .store 1 (.t 31) (.t 29), none⟩] .done)
        (.ops false [⟨(some 32), .mov (.t 4), none⟩,
          ⟨(some 33), .mov (.t 4), none⟩,
          ⟨(some 34), .nilck (.t 33), none⟩,
          ⟨(some 35), .fld 2 (.t 34), none⟩,
          ⟨(some 36), .load none (.t 35), none⟩,
          ⟨(some 37), .mov (.t 5), none⟩,
          ⟨(some 38), .bslice 3 [.int .i64] 1 [(.v (.int .i64 0))] [(0, 1, (.t 37))], none⟩,
          ⟨(some 39), .append 3 [.int .i64] [(.int .i64 0)] 8 (.t 36) (.t 38), none⟩,
          ⟨(some 40), .nilck (.t 32), none⟩,
          ⟨(some 41), .fld 2 (.t 40), none⟩,
          ⟨none, .store 1 (.t 41) (.t 39), none⟩] .done)))))
     (.ops false [⟨(some 42), .bin .add (.t 17) (.c (.v (.int .i64 1))), none⟩,
      ⟨(some 17), .mov (.t 42), none⟩] .done)))))))
  (.seq (.ops false [⟨(some 43), .mov (.t 4), none⟩,
    ⟨(some 2), .mov (.t 43), none⟩,
    ⟨(some 3), .mov (.c (.v .nilIface)), none⟩] .done)
  .ret)))))⟩
theorem pf8_eq : (Tryd.f8.body.map fun c => (cfn Tryd.prog pl8 Tryd.f8 c, guardsAll pl8 c)) = some (pf8, true) := by kernel_rfl

/-- (*corral/rename.Map).Take  sizes [(3, 16)] -/
def pl9 : Nat → DT := dtGet [(3, (.take 0 [0, 1, 13, 14, 2, 3, 4, 5] (.take 1 [1, 2, 13, 14, 3, 4, 5] (.take 2 [2, 3, 13, 14, 4, 5] (.take 3 [3, 4, 13, 14, 5] (.take 4 [4, 5, 13, 14] (.take 5 [5, 13, 14] (.take 6 [6, 7, 14, 8, 9, 11, 12] (.take 7 [7, 8, 14, 9, 11, 12] (.take 8 [8, 9, 14, 11, 12] (.take 9 [9, 11, 14, 12] (.take 10 [10, 11, 14, 12] (.take 11 [11, 12, 14] (.take 12 [12, 14] (.take 13 [13, 14] (.take 14 [14] .done))))))))))))))))]
def pf9 : PFn := ⟨54, [.t 4, .t 5, .t 6], (.seq (.ops false [⟨(some 4), .mov (.c (.v (.int .i64 0))), none⟩,
    ⟨(some 5), .mov (.c (.v (.int .i64 0))), none⟩,
    ⟨(some 6), .mov (.c (.v (.bool false))), none⟩] .done)
  (.seq (.seq (.ops false [⟨(some 9), .mov (.t 1), none⟩,
     ⟨(some 10), .bin .lss (.t 9) (.c (.v (.int .i64 1))), none⟩,
     ⟨(some 11), .mov (.t 10), none⟩,
     ⟨(some 12), .mov (.t 1), some (11, false)⟩,
     ⟨(some 13), .bin .geq (.t 12) (.c (.v (.int .i64 32))), some (11, false)⟩,
     ⟨(some 14), .pick (.t 11) (.c (.v (.bool true))) (.t 13), none⟩,
     ⟨(some 15), .mov (.t 14), none⟩,
     ⟨(some 16), .mov (.t 0), some (15, false)⟩,
     ⟨(some 17), .nilck (.t 16), some (15, false)⟩,
     ⟨(some 18), .fld 2 (.t 17), some (15, false)⟩,
     ⟨(some 19), .load none (.t 18), some (15, false)⟩,
     ⟨(some 20), .len (.t 19), some (15, false)⟩,
     ⟨(some 21), .bin .eql (.t 20) (.c (.v (.int .i64 0))), some (15, false)⟩,
     ⟨(some 22), .pick (.t 15) (.c (.v (.bool true))) (.t 21), none⟩] .done)
   (.cond (.t 22)
    (.seq (.ops false [⟨(some 4), .mov (.c (.v (.int .i64 0))), none⟩,
       ⟨(some 5), .mov (.c (.v (.int .i64 0))), none⟩,
       ⟨(some 6), .mov (.c (.v (.bool false))), none⟩] .done)
     .ret)
    .skip))
  (.seq (.ops true [⟨(some 23), .mov (.t 0), none⟩,
    ⟨(some 24), .nilck (.t 23), none⟩,
    ⟨(some 25), .fld 2 (.t 24), none⟩,
    ⟨(some 26), .load none (.t 25), none⟩,
    ⟨(some 27), .idx 1 (.t 26) (.c (.v (.int .i64 0))), none⟩,
    ⟨(some 28), .load none (.t 27), none⟩,
    ⟨(some 29), .mov (.t 0), none⟩,
    ⟨(some 30), .nilck (.t 29), none⟩,
    ⟨(some 31), .fld 1 (.t 30), none⟩,
    ⟨(some 32), .load none (.t 31), none⟩,
    ⟨(some 33), .mov (.t 1), none⟩,
    ⟨(some 34), .idx 1 (.t 32) (.t 33), none⟩,
    ⟨(some 35), .load none (.t 34), none⟩,
    ⟨(some 7), .mov (.t 28), none⟩,
    ⟨(some 8), .mov (.t 35), none⟩] (.take 0 [0, 1, 13, 14, 2, 3, 4, 5] (.take 1 [1, 2, 13, 14, 3, 4, 5] (.take 2 [2, 3, 13, 14, 4, 5] (.take 3 [3, 4, 13, 14, 5] (.take 4 [4, 5, 13, 14] (.take 5 [5, 13, 14] (.take 6 [6, 7, 14, 8, 9, 11, 12] (.take 7 [7, 8, 14, 9, 11, 12] (.take 8 [8, 9, 14, 11, 12] (.take 9 [9, 11, 14, 12] (.take 10 [10, 11, 14, 12] (.take 11 [11, 12, 14] (.take 12 [12, 14] (.take 13 [13, 14] (.take 14 [14] .done))))))))))))))))
  (.seq (.ops false [⟨(some 36), .mov (.t 0), none⟩,
    ⟨(some 37), .mov (.t 0), none⟩,
    ⟨(some 38), .nilck (.t 37), none⟩,
    ⟨(some 39), .fld 2 (.t 38), none⟩,
    ⟨(some 40), .load none (.t 39), none⟩,
    ⟨(some 41), .slice 1 (.t 40) (some (.c (.v (.int .i64 1)))) none none, none⟩,
    ⟨(some 42), .call 23 [(.t 41)], none⟩,
    ⟨(some 43), .nilck (.t 36), none⟩,
    ⟨(some 44), .fld 2 (.t 43), none⟩,
    ⟨none, .store 1 (.t 44) (.t 42), none⟩] .done)
  (.seq (.ops false [⟨(some 45), .mov (.t 0), none⟩,
    ⟨(some 46), .nilck (.t 45), none⟩,
    ⟨(some 47), .fld 1 (.t 46), none⟩,
    ⟨(some 48), .load none (.t 47), none⟩,
    ⟨(some 49), .mov (.t 1), none⟩,
    ⟨(some 50), .mov (.t 7), none⟩,
    ⟨(some 51), .idx 1 (.t 48) (.t 49), none⟩,
    ⟨none, .store 1 (.t 51) (.t 50), none⟩] .done)
  (.seq (.ops false [⟨(some 52), .mov (.t 7), none⟩,
    ⟨(some 53), .mov (.t 8), none⟩,
    ⟨(some 4), .mov (.t 52), none⟩,
    ⟨(some 5), .mov (.t 53), none⟩,
    ⟨(some 6), .mov (.c (.v (.bool true))), none⟩] .done)
  .ret))))))⟩
theorem pf9_eq : (Tryd.f9.body.map fun c => (cfn Tryd.prog pl9 Tryd.f9 c, guardsAll pl9 c)) = some (pf9, true) := by kernel_rfl

/-- (*corral/rename.Map).Of  sizes [] -/
def pl10 : Nat → DT := dtGet []
def pf10 : PFn := ⟨18, [.t 4], (.seq (.ops false [⟨(some 4), .mov (.c (.v (.int .i64 0))), none⟩] .done)
  (.seq (.seq (.ops false [⟨(some 5), .mov (.t 1), none⟩,
     ⟨(some 6), .bin .lss (.t 5) (.c (.v (.int .i64 0))), none⟩,
     ⟨(some 7), .mov (.t 6), none⟩,
     ⟨(some 8), .mov (.t 1), some (7, false)⟩,
     ⟨(some 9), .bin .geq (.t 8) (.c (.v (.int .i64 32))), some (7, false)⟩,
     ⟨(some 10), .pick (.t 7) (.c (.v (.bool true))) (.t 9), none⟩] .done)
   (.cond (.t 10)
    (.seq (.ops false [⟨(some 4), .mov (.c (.v (.int .i64 (-1)))), none⟩] .done)
     .ret)
    .skip))
  (.seq (.ops false [⟨(some 11), .mov (.t 0), none⟩,
    ⟨(some 12), .nilck (.t 11), none⟩,
    ⟨(some 13), .fld 1 (.t 12), none⟩,
    ⟨(some 14), .load none (.t 13), none⟩,
    ⟨(some 15), .mov (.t 1), none⟩,
    ⟨(some 16), .idx 1 (.t 14) (.t 15), none⟩,
    ⟨(some 17), .load none (.t 16), none⟩,
    ⟨(some 4), .mov (.t 17), none⟩] .done)
  .ret)))⟩
theorem pf10_eq : (Tryd.f10.body.map fun c => (cfn Tryd.prog pl10 Tryd.f10 c, guardsAll pl10 c)) = some (pf10, true) := by kernel_rfl

/-- (*corral/rename.Map).Free  sizes [] -/
def pl11 : Nat → DT := dtGet []
def pf11 : PFn := ⟨31, [.t 4], (.seq (.ops false [⟨(some 4), .mov (.c (.v (.int .i64 0))), none⟩] .done)
  (.seq (.ops false [⟨(some 5), .mov (.c (.v (.int .i64 0))), none⟩] .done)
  (.seq (.seq (.ops false [⟨(some 8), .mov (.t 1), none⟩,
     ⟨(some 9), .len (.t 8), none⟩,
     ⟨(some 10), .mov (.c (.v (.int .i64 0))), none⟩] .done)
   (.block 0 (.loop (.seq (.ops false [⟨(some 11), .bin .lss (.t 10) (.t 9), none⟩] .done)
     (.seq (.cond (.t 11)
       .skip
       (.exit 0))
     (.seq (.block 1 (.seq (.ops false [⟨(some 12), .idx 1 (.t 8) (.t 10), none⟩,
         ⟨(some 13), .load none (.t 12), none⟩,
         ⟨(some 7), .mov (.t 13), none⟩] .done)
       (.seq (.ops false [⟨(some 14), .mov (.t 0), none⟩,
         ⟨(some 15), .mov (.t 7), none⟩,
         ⟨(some 16), .call 24 [(.t 14), (.t 15)], none⟩] .done)
       (.cond (.t 16)
        (.seq (.ops false [⟨(some 17), .mov (.t 0), none⟩,
           ⟨(some 18), .mov (.t 0), none⟩,
           ⟨(some 19), .nilck (.t 18), none⟩,
           ⟨(some 20), .fld 2 (.t 19), none⟩,
           ⟨(some 21), .load none (.t 20), none⟩,
           ⟨(some 22), .mov (.t 7), none⟩,
           ⟨(some 23), .bslice 3 [.int .i64] 1 [(.v (.int .i64 0))] [(0, 1, (.t 22))], none⟩,
           ⟨(some 24), .append 3 [.int .i64] [(.int .i64 0)] 8 (.t 21) (.t 23), none⟩,
           ⟨(some 25), .nilck (.t 17), none⟩,
           ⟨(some 26), .fld 2 (.t 25), none⟩,
           ⟨none, .store 1 (.t 26) (.t 24), none⟩] .done)
         (.ops false [⟨(some 27), .mov (.t 5), none⟩,
          ⟨(some 28), .bin .add (.t 27) (.c (.v (.int .i64 1))), none⟩,
          ⟨(some 5), .mov (.t 28), none⟩] .done))
        .skip))))
     (.ops false [⟨(some 29), .bin .add (.t 10) (.c (.v (.int .i64 1))), none⟩,
      ⟨(some 10), .mov (.t 29), none⟩] .done)))))))
  (.seq (.ops false [⟨(some 30), .mov (.t 5), none⟩,
    ⟨(some 4), .mov (.t 30), none⟩] .done)
  .ret))))⟩
theorem pf11_eq : (Tryd.f11.body.map fun c => (cfn Tryd.prog pl11 Tryd.f11 c, guardsAll pl11 c)) = some (pf11, true) := by kernel_rfl

/-- (*corral/rename.Map).Left  sizes [] -/
def pl12 : Nat → DT := dtGet []
def pf12 : PFn := ⟨8, [.t 2], (.seq (.ops false [⟨(some 2), .mov (.c (.v (.int .i64 0))), none⟩] .done)
  (.seq (.ops false [⟨(some 3), .mov (.t 0), none⟩,
    ⟨(some 4), .nilck (.t 3), none⟩,
    ⟨(some 5), .fld 2 (.t 4), none⟩,
    ⟨(some 6), .load none (.t 5), none⟩,
    ⟨(some 7), .len (.t 6), none⟩,
    ⟨(some 2), .mov (.t 7), none⟩] .done)
  .ret))⟩
theorem pf12_eq : (Tryd.f12.body.map fun c => (cfn Tryd.prog pl12 Tryd.f12 c, guardsAll pl12 c)) = some (pf12, true) := by kernel_rfl

/-- corral/corralref.Sorted  sizes [(6, 16), (8, 16), (9, 10)] -/
def pl13 : Nat → DT := dtGet [(6, (.take 0 [0, 3, 4, 5, 6, 7, 8, 9, 10, 11, 12, 13, 14] (.take 1 [1, 2, 3, 4, 5, 6, 7, 8, 9, 10, 11, 12, 13, 14] (.take 2 [2, 3, 4, 5, 6, 7, 8, 9, 10, 11, 12, 13, 14] (.take 3 [3, 4, 5, 6, 7, 8, 9, 10, 11, 12, 13, 14] (.take 4 [4, 5, 6, 7, 8, 9, 10, 11, 12, 13, 14] (.take 5 [5, 7, 8, 13, 14] (.take 6 [6, 7, 8, 13, 14] (.take 7 [7, 8, 13, 14] (.take 8 [8, 13, 14] (.take 9 [9, 11, 12, 13, 14] (.take 10 [10, 11, 12, 13, 14] (.take 11 [11, 12, 13, 14] (.take 12 [12, 13, 14] (.take 13 [13, 14] (.take 14 [14] .done)))))))))))))))), (8, (.take 0 [0, 3, 4, 5, 6, 7, 8, 9, 10, 11, 12, 13, 14] (.take 1 [1, 2, 3, 4, 5, 6, 7, 8, 9, 10, 11, 12, 13, 14] (.take 2 [2, 3, 4, 5, 6, 7, 8, 9, 10, 11, 12, 13, 14] (.take 3 [3, 4, 5, 6, 7, 8, 9, 10, 11, 12, 13, 14] (.take 4 [4, 5, 6, 7, 8, 9, 10, 11, 12, 13, 14] (.take 5 [5, 7, 8, 13, 14] (.take 6 [6, 7, 8, 13, 14] (.take 7 [7, 8, 13, 14] (.take 8 [8, 13, 14] (.take 9 [9, 11, 12, 13, 14] (.take 10 [10, 11, 12, 13, 14] (.take 11 [11, 12, 13, 14] (.take 12 [12, 13, 14] (.take 13 [13, 14] (.take 14 [14] .done)))))))))))))))), (9, (.take 0 [0, 1, 8, 2, 3, 7] (.take 1 [1, 2, 8, 3, 7] (.take 2 [2, 3, 8, 7] (.take 4 [4, 6, 8, 7] (.take 5 [5, 6, 8, 7] (.take 6 [6, 7, 8] (.eff true 3 (.eff false 7 (.take 8 [8] .done))))))))))]
def pf13 : PFn := ⟨66, [.t 2], (.seq (.ops false [⟨(some 2), .mov (.c (.v (.slice none 0 0))), none⟩] .done)
  (.seq (.ops false [⟨(some 3), .mov (.c (.v (.slice none 0 0))), none⟩] .done)
  (.seq (.seq (.ops false [⟨(some 4), .mov (.c (.v (.int .i64 0))), none⟩] .done)
   (.block 0 (.loop (.seq (.seq (.ops false [⟨(some 7), .mov (.t 4), none⟩,
        ⟨(some 8), .mov (.t 0), none⟩,
        ⟨(some 9), .len (.t 8), none⟩,
        ⟨(some 10), .bin .lss (.t 7) (.t 9), none⟩] .done)
      (.cond (.t 10)
       .skip
       (.exit 0)))
     (.seq (.block 1 (.seq (.ops false [⟨(some 5), .mov (.c (.v (.int .i64 0))), none⟩] .done)
       (.seq (.block 2 (.loop (.seq (.seq (.ops true [⟨(some 13), .mov (.t 5), none⟩,
             ⟨(some 14), .mov (.t 3), none⟩,
             ⟨(some 15), .len (.t 14), none⟩,
             ⟨(some 16), .bin .lss (.t 13) (.t 15), none⟩,
             ⟨(some 17), .mov (.t 16), none⟩,
             ⟨(some 18), .mov (.t 3), some (17, true)⟩,
             ⟨(some 19), .mov (.t 5), some (17, true)⟩,
             ⟨(some 20), .idx 1 (.t 18) (.t 19), some (17, true)⟩,
             ⟨(some 21), .load none (.t 20), some (17, true)⟩,
             ⟨(some 22), .mov (.t 0), some (17, true)⟩,
             ⟨(some 23), .mov (.t 4), some (17, true)⟩,
             ⟨(some 24), .idx 1 (.t 22) (.t 23), some (17, true)⟩,
             ⟨(some 25), .load none (.t 24), some (17, true)⟩,
             ⟨(some 26), .bin .lss (.t 21) (.t 25), some (17, true)⟩,
             ⟨(some 27), .pick (.t 17) (.t 26) (.c (.v (.bool false))), none⟩] (.take 0 [0, 3, 4, 5, 6, 7, 8, 9, 10, 11, 12, 13, 14] (.take 1 [1, 2, 3, 4, 5, 6, 7, 8, 9, 10, 11, 12, 13, 14] (.take 2 [2, 3, 4, 5, 6, 7, 8, 9, 10, 11, 12, 13, 14] (.take 3 [3, 4, 5, 6, 7, 8, 9, 10, 11, 12, 13, 14] (.take 4 [4, 5, 6, 7, 8, 9, 10, 11, 12, 13, 14] (.take 5 [5, 7, 8, 13, 14] (.take 6 [6, 7, 8, 13, 14] (.take 7 [7, 8, 13, 14] (.take 8 [8, 13, 14] (.take 9 [9, 11, 12, 13, 14] (.take 10 [10, 11, 12, 13, 14] (.take 11 [11, 12, 13, 14] (.take 12 [12, 13, 14] (.take 13 [13, 14] (.take 14 [14] .done))))))))))))))))
           (.cond (.t 27)
            .skip
            (.exit 2)))
          (.block 3 (.ops false [⟨(some 28), .mov (.t 5), none⟩,
            ⟨(some 29), .bin .add (.t 28) (.c (.v (.int .i64 1))), none⟩,
            ⟨(some 5), .mov (.t 29), none⟩] .done)))))
       (.seq (.seq (.ops true [⟨(some 30), .mov (.t 5), none⟩,
          ⟨(some 31), .mov (.t 3), none⟩,
          ⟨(some 32), .len (.t 31), none⟩,
          ⟨(some 33), .bin .lss (.t 30) (.t 32), none⟩,
          ⟨(some 34), .mov (.t 33), none⟩,
          ⟨(some 35), .mov (.t 3), some (34, true)⟩,
          ⟨(some 36), .mov (.t 5), some (34, true)⟩,
          ⟨(some 37), .idx 1 (.t 35) (.t 36), some (34, true)⟩,
          ⟨(some 38), .load none (.t 37), some (34, true)⟩,
          ⟨(some 39), .mov (.t 0), some (34, true)⟩,
          ⟨(some 40), .mov (.t 4), some (34, true)⟩,
          ⟨(some 41), .idx 1 (.t 39) (.t 40), some (34, true)⟩,
          ⟨(some 42), .load none (.t 41), some (34, true)⟩,
          ⟨(some 43), .bin .eql (.t 38) (.t 42), some (34, true)⟩,
          ⟨(some 44), .pick (.t 34) (.t 43) (.c (.v (.bool false))), none⟩] (.take 0 [0, 3, 4, 5, 6, 7, 8, 9, 10, 11, 12, 13, 14] (.take 1 [1, 2, 3, 4, 5, 6, 7, 8, 9, 10, 11, 12, 13, 14] (.take 2 [2, 3, 4, 5, 6, 7, 8, 9, 10, 11, 12, 13, 14] (.take 3 [3, 4, 5, 6, 7, 8, 9, 10, 11, 12, 13, 14] (.take 4 [4, 5, 6, 7, 8, 9, 10, 11, 12, 13, 14] (.take 5 [5, 7, 8, 13, 14] (.take 6 [6, 7, 8, 13, 14] (.take 7 [7, 8, 13, 14] (.take 8 [8, 13, 14] (.take 9 [9, 11, 12, 13, 14] (.take 10 [10, 11, 12, 13, 14] (.take 11 [11, 12, 13, 14] (.take 12 [12, 13, 14] (.take 13 [13, 14] (.take 14 [14] .done))))))))))))))))
        (.cond (.t 44)
         (.exit 1)
         .skip))
       (.seq (.ops true [⟨(some 45), .mov (.t 3), none⟩,
         ⟨(some 46), .len (.t 45), none⟩,
         ⟨(some 47), .bin .add (.t 46) (.c (.v (.int .i64 1))), none⟩,
         ⟨(some 48), .mslice 3 [.int .i64] [(.int .i64 0)] 8 (.c (.v (.int .i64 0))) (.t 47), none⟩,
         ⟨(some 49), .mov (.t 3), none⟩,
         ⟨(some 50), .mov (.t 5), none⟩,
         ⟨(some 51), .slice 1 (.t 49) none (some (.t 50)) none, none⟩,
         ⟨(some 52), .append 3 [.int .i64] [(.int .i64 0)] 8 (.t 48) (.t 51), none⟩,
         ⟨(some 6), .mov (.t 52), none⟩] (.take 0 [0, 1, 8, 2, 3, 7] (.take 1 [1, 2, 8, 3, 7] (.take 2 [2, 3, 8, 7] (.take 4 [4, 6, 8, 7] (.take 5 [5, 6, 8, 7] (.take 6 [6, 7, 8] (.eff true 3 (.eff false 7 (.take 8 [8] .done))))))))))
       (.seq (.ops false [⟨(some 53), .mov (.t 6), none⟩,
         ⟨(some 54), .mov (.t 0), none⟩,
         ⟨(some 55), .mov (.t 4), none⟩,
         ⟨(some 56), .idx 1 (.t 54) (.t 55), none⟩,
         ⟨(some 57), .load none (.t 56), none⟩,
         ⟨(some 58), .bslice 3 [.int .i64] 1 [(.v (.int .i64 0))] [(0, 1, (.t 57))], none⟩,
         ⟨(some 59), .append 3 [.int .i64] [(.int .i64 0)] 8 (.t 53) (.t 58), none⟩,
         ⟨(some 6), .mov (.t 59), none⟩] .done)
       (.ops false [⟨(some 60), .mov (.t 6), none⟩,
        ⟨(some 61), .mov (.t 3), none⟩,
        ⟨(some 62), .mov (.t 5), none⟩,
        ⟨(some 63), .slice 1 (.t 61) (some (.t 62)) none none, none⟩,
        ⟨(some 64), .append 3 [.int .i64] [(.int .i64 0)] 8 (.t 60) (.t 63), none⟩,
        ⟨(some 3), .mov (.t 64), none⟩] .done)))))))
     (.ops false [⟨(some 11), .mov (.t 4), none⟩,
      ⟨(some 12), .bin .add (.t 11) (.c (.v (.int .i64 1))), none⟩,
      ⟨(some 4), .mov (.t 12), none⟩] .done))))))
  (.seq (.ops false [⟨(some 65), .mov (.t 3), none⟩,
    ⟨(some 2), .mov (.t 65), none⟩] .done)
  .ret))))⟩
theorem pf13_eq : (Tryd.f13.body.map fun c => (cfn Tryd.prog pl13 Tryd.f13 c, guardsAll pl13 c)) = some (pf13, true) := by kernel_rfl

/-- corral/corralref.Ints  sizes [] -/
def pl14 : Nat → DT := dtGet []
def pf14 : PFn := ⟨22, [.t 2], (.seq (.ops false [⟨(some 2), .mov (.c (.v (.slice none 0 0))), none⟩] .done)
  (.seq (.ops false [⟨(some 5), .mov (.t 0), none⟩,
    ⟨(some 6), .len (.t 5), none⟩,
    ⟨(some 7), .mslice 3 [.int .i64] [(.int .i64 0)] 8 (.c (.v (.int .i64 0))) (.t 6), none⟩,
    ⟨(some 3), .mov (.t 7), none⟩] .done)
  (.seq (.seq (.ops false [⟨(some 4), .mov (.c (.v (.int .i64 0))), none⟩] .done)
   (.block 0 (.loop (.seq (.seq (.ops false [⟨(some 8), .mov (.t 4), none⟩,
        ⟨(some 9), .mov (.t 0), none⟩,
        ⟨(some 10), .len (.t 9), none⟩,
        ⟨(some 11), .bin .lss (.t 8) (.t 10), none⟩] .done)
      (.cond (.t 11)
       .skip
       (.exit 0)))
     (.seq (.block 1 (.ops false [⟨(some 14), .mov (.t 3), none⟩,
        ⟨(some 15), .mov (.t 0), none⟩,
        ⟨(some 16), .mov (.t 4), none⟩,
        ⟨(some 17), .idx 1 (.t 15) (.t 16), none⟩,
        ⟨(some 18), .load none (.t 17), none⟩,
        ⟨(some 19), .bslice 3 [.int .i64] 1 [(.v (.int .i64 0))] [(0, 1, (.t 18))], none⟩,
        ⟨(some 20), .append 3 [.int .i64] [(.int .i64 0)] 8 (.t 14) (.t 19), none⟩,
        ⟨(some 3), .mov (.t 20), none⟩] .done))
     (.ops false [⟨(some 12), .mov (.t 4), none⟩,
      ⟨(some 13), .bin .add (.t 12) (.c (.v (.int .i64 1))), none⟩,
      ⟨(some 4), .mov (.t 13), none⟩] .done))))))
  (.seq (.ops false [⟨(some 21), .mov (.t 3), none⟩,
    ⟨(some 2), .mov (.t 21), none⟩] .done)
  .ret))))⟩
theorem pf14_eq : (Tryd.f14.body.map fun c => (cfn Tryd.prog pl14 Tryd.f14 c, guardsAll pl14 c)) = some (pf14, true) := by kernel_rfl

/-- (*corral/rename.Map).All  sizes [] -/
def pl15 : Nat → DT := dtGet []
def pf15 : PFn := ⟨8, [.t 2], (.seq (.ops false [⟨(some 2), .mov (.c (.v (.slice none 0 0))), none⟩] .done)
  (.seq (.ops false [⟨(some 3), .mov (.t 0), none⟩,
    ⟨(some 4), .nilck (.t 3), none⟩,
    ⟨(some 5), .fld 1 (.t 4), none⟩,
    ⟨(some 6), .load none (.t 5), none⟩,
    ⟨(some 7), .call 23 [(.t 6)], none⟩,
    ⟨(some 2), .mov (.t 7), none⟩] .done)
  .ret))⟩
theorem pf15_eq : (Tryd.f15.body.map fun c => (cfn Tryd.prog pl15 Tryd.f15 c, guardsAll pl15 c)) = some (pf15, true) := by kernel_rfl

/-- (*corral/rename.Map).Undo  sizes [] -/
def pl16 : Nat → DT := dtGet []
def pf16 : PFn := ⟨49, [.t 8], (.seq (.ops false [⟨(some 8), .mov (.c (.v (.bool false))), none⟩] .done)
  (.seq (.seq (.ops false [⟨(some 9), .mov (.t 1), none⟩,
     ⟨(some 10), .bin .lss (.t 9) (.c (.v (.int .i64 1))), none⟩,
     ⟨(some 11), .mov (.t 10), none⟩,
     ⟨(some 12), .mov (.t 1), some (11, false)⟩,
     ⟨(some 13), .bin .geq (.t 12) (.c (.v (.int .i64 32))), some (11, false)⟩,
     ⟨(some 14), .pick (.t 11) (.c (.v (.bool true))) (.t 13), none⟩,
     ⟨(some 15), .mov (.t 14), none⟩,
     ⟨(some 16), .mov (.t 0), some (15, false)⟩,
     ⟨(some 17), .nilck (.t 16), some (15, false)⟩,
     ⟨(some 18), .fld 1 (.t 17), some (15, false)⟩,
     ⟨(some 19), .load none (.t 18), some (15, false)⟩,
     ⟨(some 20), .mov (.t 1), some (15, false)⟩,
     ⟨(some 21), .idx 1 (.t 19) (.t 20), some (15, false)⟩,
     ⟨(some 22), .load none (.t 21), some (15, false)⟩,
     ⟨(some 23), .mov (.t 2), some (15, false)⟩,
     ⟨(some 24), .bin .neq (.t 22) (.t 23), some (15, false)⟩,
     ⟨(some 25), .pick (.t 15) (.c (.v (.bool true))) (.t 24), none⟩,
     ⟨(some 26), .mov (.t 25), none⟩,
     ⟨(some 27), .mov (.t 0), some (26, false)⟩,
     ⟨(some 28), .mov (.t 3), some (26, false)⟩,
     ⟨(some 29), .call 24 [(.t 27), (.t 28)], some (26, false)⟩,
     ⟨(some 30), .un .not (.t 29), some (26, false)⟩,
     ⟨(some 31), .pick (.t 26) (.c (.v (.bool true))) (.t 30), none⟩] .done)
   (.cond (.t 31)
    (.seq (.ops false [⟨(some 8), .mov (.c (.v (.bool false))), none⟩] .done)
     .ret)
    .skip))
  (.seq (.ops false [⟨(some 32), .mov (.t 0), none⟩,
    ⟨(some 33), .nilck (.t 32), none⟩,
    ⟨(some 34), .fld 1 (.t 33), none⟩,
    ⟨(some 35), .load none (.t 34), none⟩,
    ⟨(some 36), .mov (.t 1), none⟩,
    ⟨(some 37), .mov (.t 3), none⟩,
    ⟨(some 38), .idx 1 (.t 35) (.t 36), none⟩,
    ⟨none, .store 1 (.t 38) (.t 37), none⟩] .done)
  (.seq (.ops false [⟨(some 39), .mov (.t 0), none⟩,
    ⟨(some 40), .mov (.t 2), none⟩,
    ⟨(some 41), .bslice 3 [.int .i64] 1 [(.v (.int .i64 0))] [(0, 1, (.t 40))], none⟩,
    ⟨(some 42), .mov (.t 0), none⟩,
    ⟨(some 43), .nilck (.t 42), none⟩,
    ⟨(some 44), .fld 2 (.t 43), none⟩,
    ⟨(some 45), .load none (.t 44), none⟩,
    ⟨(some 46), .append 3 [.int .i64] [(.int .i64 0)] 8 (.t 41) (.t 45), none⟩,
    ⟨(some 47), .nilck (.t 39), none⟩,
    ⟨(some 48), .fld 2 (.t 47), none⟩,
    ⟨none, .store 1 (.t 48) (.t 46), none⟩] .done)
  (.seq (.ops false [⟨(some 8), .mov (.c (.v (.bool true))), none⟩] .done)
  .ret)))))⟩
theorem pf16_eq : (Tryd.f16.body.map fun c => (cfn Tryd.prog pl16 Tryd.f16 c, guardsAll pl16 c)) = some (pf16, true) := by kernel_rfl

/-- corral/corralref.SameInts  sizes [(6, 11)] -/
def pl17 : Nat → DT := dtGet [(6, (.take 0 [0, 2, 9, 3, 8] (.take 1 [1, 2, 9, 3, 8] (.take 2 [2, 3, 9, 8] (.take 3 [3, 8, 9] (.take 4 [4, 6, 9, 7, 8] (.take 5 [5, 6, 9, 7, 8] (.take 6 [6, 7, 9, 8] (.take 7 [7, 8, 9] (.take 8 [8, 9] (.take 9 [9] .done)))))))))))]
def pf17 : PFn := ⟨29, [.t 4], (.seq (.ops false [⟨(some 4), .mov (.c (.v (.bool false))), none⟩] .done)
  (.seq (.seq (.ops false [⟨(some 7), .mov (.t 0), none⟩,
     ⟨(some 8), .len (.t 7), none⟩,
     ⟨(some 9), .mov (.t 1), none⟩,
     ⟨(some 10), .len (.t 9), none⟩,
     ⟨(some 11), .bin .neq (.t 8) (.t 10), none⟩] .done)
   (.cond (.t 11)
    (.seq (.ops false [⟨(some 4), .mov (.c (.v (.bool false))), none⟩] .done)
     .ret)
    .skip))
  (.seq (.seq (.ops false [⟨(some 5), .mov (.c (.v (.int .i64 0))), none⟩] .done)
   (.block 0 (.loop (.seq (.seq (.ops false [⟨(some 12), .mov (.t 5), none⟩,
        ⟨(some 13), .mov (.t 0), none⟩,
        ⟨(some 14), .len (.t 13), none⟩,
        ⟨(some 15), .bin .lss (.t 12) (.t 14), none⟩] .done)
      (.cond (.t 15)
       .skip
       (.exit 0)))
     (.seq (.block 1 (.seq (.ops true [⟨(some 18), .mov (.t 0), none⟩,
         ⟨(some 19), .mov (.t 5), none⟩,
         ⟨(some 20), .idx 1 (.t 18) (.t 19), none⟩,
         ⟨(some 21), .load none (.t 20), none⟩,
         ⟨(some 22), .mov (.t 1), none⟩,
         ⟨(some 23), .mov (.t 5), none⟩,
         ⟨(some 24), .idx 1 (.t 22) (.t 23), none⟩,
         ⟨(some 25), .load none (.t 24), none⟩,
         ⟨(some 26), .bin .eql (.t 21) (.t 25), none⟩,
         ⟨(some 6), .mov (.t 26), none⟩] (.take 0 [0, 2, 9, 3, 8] (.take 1 [1, 2, 9, 3, 8] (.take 2 [2, 3, 9, 8] (.take 3 [3, 8, 9] (.take 4 [4, 6, 9, 7, 8] (.take 5 [5, 6, 9, 7, 8] (.take 6 [6, 7, 9, 8] (.take 7 [7, 8, 9] (.take 8 [8, 9] (.take 9 [9] .done)))))))))))
       (.seq (.ops false [⟨(some 27), .mov (.t 6), none⟩,
         ⟨(some 28), .un .not (.t 27), none⟩] .done)
       (.cond (.t 28)
        (.seq (.ops false [⟨(some 4), .mov (.c (.v (.bool false))), none⟩] .done)
         .ret)
        .skip))))
     (.ops false [⟨(some 16), .mov (.t 5), none⟩,
      ⟨(some 17), .bin .add (.t 16) (.c (.v (.int .i64 1))), none⟩,
      ⟨(some 5), .mov (.t 17), none⟩] .done))))))
  (.seq (.ops false [⟨(some 4), .mov (.c (.v (.bool true))), none⟩] .done)
  .ret))))⟩
theorem pf17_eq : (Tryd.f17.body.map fun c => (cfn Tryd.prog pl17 Tryd.f17 c, guardsAll pl17 c)) = some (pf17, true) := by kernel_rfl

/-- corral/corralsee.Is  sizes [] -/
def pl18 : Nat → DT := dtGet []
def pf18 : PFn := ⟨9, [.t 4], (.seq (.ops false [⟨(some 4), .mov (.c (.v (.bool false))), none⟩] .done)
  (.seq (.ops false [⟨(some 5), .mov (.t 0), none⟩,
    ⟨(some 6), .mov (.t 1), none⟩,
    ⟨(some 7), .call 26 [(.t 6)], none⟩,
    ⟨(some 8), .call 25 [(.t 5), (.t 7)], none⟩,
    ⟨(some 4), .mov (.t 8), none⟩] .done)
  .ret))⟩
theorem pf18_eq : (Tryd.f18.body.map fun c => (cfn Tryd.prog pl18 Tryd.f18 c, guardsAll pl18 c)) = some (pf18, true) := by kernel_rfl

/-- corral/corralref21.NewMap  sizes [] -/
def pl19 : Nat → DT := dtGet []
def pf19 : PFn := ⟨36, [.t 2], (.seq (.ops false [⟨(some 2), .mov (.c (.v (.pointer none))), none⟩] .done)
  (.seq (.ops false [⟨(some 5), .mov (.t 0), none⟩,
    ⟨(some 6), .build [(.v (.int .i64 0)), (.v (.slice none 0 0)), (.v (.slice none 0 0))] [(0, 1, (.t 5))], none⟩,
    ⟨(some 7), .box 49 (.t 6), none⟩,
    ⟨(some 3), .mov (.t 7), none⟩] .done)
  (.seq (.seq (.ops false [⟨(some 4), .mov (.c (.v (.int .i64 0))), none⟩] .done)
   (.block 0 (.loop (.seq (.seq (.ops false [⟨(some 8), .mov (.t 4), none⟩,
        ⟨(some 9), .mov (.t 0), none⟩,
        ⟨(some 10), .bin .lss (.t 8) (.t 9), none⟩] .done)
      (.cond (.t 10)
       .skip
       (.exit 0)))
     (.seq (.block 1 (.seq (.ops false [⟨(some 13), .mov (.t 4), none⟩,
         ⟨(some 14), .bin .lss (.t 13) (.c (.v (.int .i64 32))), none⟩] .done)
       (.cond (.t 14)
        (.ops false [⟨(some 15), .mov (.t 3), none⟩,
          ⟨(some 16), .mov (.t 3), none⟩,
          ⟨(some 17), .nilck (.t 16), none⟩,
          ⟨(some 18), .fld 1 (.t 17), none⟩,
          ⟨(some 19), .load none (.t 18), none⟩,
          ⟨(some 20), .mov (.t 4), none⟩,
          ⟨(some 21), .bslice 3 [.int .i64] 1 [(.v (.int .i64 0))] [(0, 1, (.t 20))], none⟩,
          ⟨(some 22), .append 3 [.int .i64] [(.int .i64 0)] 8 (.t 19) (.t 21), none⟩,
          ⟨(some 23), .nilck (.t 15), none⟩,
          ⟨(some 24), .fld 1 (.t 23), none⟩,
          ⟨none, .store 1 (.t 24) (.t 22), none⟩] .done)
        (.ops false [⟨(some 25), .mov (.t 3), none⟩,
          ⟨(some 26), .mov (.t 3), none⟩,
          ⟨(some 27), .nilck (.t 26), none⟩,
          ⟨(some 28), .fld 2 (.t 27), none⟩,
          ⟨(some 29), .load none (.t 28), none⟩,
          ⟨(some 30), .mov (.t 4), none⟩,
          ⟨(some 31), .bslice 3 [.int .i64] 1 [(.v (.int .i64 0))] [(0, 1, (.t 30))], none⟩,
          ⟨(some 32), .append 3 [.int .i64] [(.int .i64 0)] 8 (.t 29) (.t 31), none⟩,
          ⟨(some 33), .nilck (.t 25), none⟩,
          ⟨(some 34), .fld 2 (.t 33), none⟩,
          ⟨none, .store 1 (.t 34) (.t 32), none⟩] .done))))
     (.ops false [⟨(some 11), .mov (.t 4), none⟩,
      ⟨(some 12), .bin .add (.t 11) (.c (.v (.int .i64 1))), none⟩,
      ⟨(some 4), .mov (.t 12), none⟩] .done))))))
  (.seq (.ops false [⟨(some 35), .mov (.t 3), none⟩,
    ⟨(some 2), .mov (.t 35), none⟩] .done)
  .ret))))⟩
theorem pf19_eq : (Tryd.f19.body.map fun c => (cfn Tryd.prog pl19 Tryd.f19 c, guardsAll pl19 c)) = some (pf19, true) := by kernel_rfl

/-- (*corral/corralref21.Map).Take  sizes [] -/
def pl20 : Nat → DT := dtGet []
def pf20 : PFn := ⟨54, [.t 4, .t 5, .t 6], (.seq (.ops false [⟨(some 4), .mov (.c (.v (.int .i64 0))), none⟩,
    ⟨(some 5), .mov (.c (.v (.int .i64 0))), none⟩,
    ⟨(some 6), .mov (.c (.v (.bool false))), none⟩] .done)
  (.seq (.seq (.ops false [⟨(some 9), .mov (.t 1), none⟩,
     ⟨(some 10), .bin .lss (.t 9) (.c (.v (.int .i64 1))), none⟩,
     ⟨(some 11), .mov (.t 10), none⟩,
     ⟨(some 12), .mov (.t 1), some (11, false)⟩,
     ⟨(some 13), .bin .gtr (.t 12) (.c (.v (.int .i64 31))), some (11, false)⟩,
     ⟨(some 14), .pick (.t 11) (.c (.v (.bool true))) (.t 13), none⟩,
     ⟨(some 15), .mov (.t 14), none⟩,
     ⟨(some 16), .mov (.t 0), some (15, false)⟩,
     ⟨(some 17), .nilck (.t 16), some (15, false)⟩,
     ⟨(some 18), .fld 2 (.t 17), some (15, false)⟩,
     ⟨(some 19), .load none (.t 18), some (15, false)⟩,
     ⟨(some 20), .len (.t 19), some (15, false)⟩,
     ⟨(some 21), .bin .eql (.t 20) (.c (.v (.int .i64 0))), some (15, false)⟩,
     ⟨(some 22), .pick (.t 15) (.c (.v (.bool true))) (.t 21), none⟩] .done)
   (.cond (.t 22)
    (.seq (.ops false [⟨(some 4), .mov (.c (.v (.int .i64 0))), none⟩,
       ⟨(some 5), .mov (.c (.v (.int .i64 0))), none⟩,
       ⟨(some 6), .mov (.c (.v (.bool false))), none⟩] .done)
     .ret)
    .skip))
  (.seq (.ops false [⟨(some 23), .mov (.t 0), none⟩,
    ⟨(some 24), .nilck (.t 23), none⟩,
    ⟨(some 25), .fld 2 (.t 24), none⟩,
    ⟨(some 26), .load none (.t 25), none⟩,
    ⟨(some 27), .idx 1 (.t 26) (.c (.v (.int .i64 0))), none⟩,
    ⟨(some 28), .load none (.t 27), none⟩,
    ⟨(some 7), .mov (.t 28), none⟩] .done)
  (.seq (.ops false [⟨(some 29), .mov (.t 0), none⟩,
    ⟨(some 30), .nilck (.t 29), none⟩,
    ⟨(some 31), .fld 1 (.t 30), none⟩,
    ⟨(some 32), .load none (.t 31), none⟩,
    ⟨(some 33), .mov (.t 1), none⟩,
    ⟨(some 34), .idx 1 (.t 32) (.t 33), none⟩,
    ⟨(some 35), .load none (.t 34), none⟩,
    ⟨(some 8), .mov (.t 35), none⟩] .done)
  (.seq (.ops false [⟨(some 36), .mov (.t 0), none⟩,
    ⟨(some 37), .mov (.t 0), none⟩,
    ⟨(some 38), .nilck (.t 37), none⟩,
    ⟨(some 39), .fld 2 (.t 38), none⟩,
    ⟨(some 40), .load none (.t 39), none⟩,
    ⟨(some 41), .slice 1 (.t 40) (some (.c (.v (.int .i64 1)))) none none, none⟩,
    ⟨(some 42), .call 14 [(.t 41)], none⟩,
    ⟨(some 43), .nilck (.t 36), none⟩,
    ⟨(some 44), .fld 2 (.t 43), none⟩,
    ⟨none, .store 1 (.t 44) (.t 42), none⟩] .done)
  (.seq (.ops false [⟨(some 45), .mov (.t 0), none⟩,
    ⟨(some 46), .nilck (.t 45), none⟩,
    ⟨(some 47), .fld 1 (.t 46), none⟩,
    ⟨(some 48), .load none (.t 47), none⟩,
    ⟨(some 49), .mov (.t 1), none⟩,
    ⟨(some 50), .mov (.t 7), none⟩,
    ⟨(some 51), .idx 1 (.t 48) (.t 49), none⟩,
    ⟨none, .store 1 (.t 51) (.t 50), none⟩] .done)
  (.seq (.ops false [⟨(some 52), .mov (.t 7), none⟩,
    ⟨(some 53), .mov (.t 8), none⟩,
    ⟨(some 4), .mov (.t 52), none⟩,
    ⟨(some 5), .mov (.t 53), none⟩,
    ⟨(some 6), .mov (.c (.v (.bool true))), none⟩] .done)
  .ret)))))))⟩
theorem pf20_eq : (Tryd.f20.body.map fun c => (cfn Tryd.prog pl20 Tryd.f20 c, guardsAll pl20 c)) = some (pf20, true) := by kernel_rfl

/-- (*corral/corralref21.Map).Give  sizes [(6, 24)] -/
def pl21 : Nat → DT := dtGet [(6, (.take 0 [0, 12, 13, 14] (.take 1 [1, 2, 12, 13, 14, 3, 4, 5, 11] (.take 2 [2, 3, 12, 13, 14, 4, 5, 11] (.take 3 [3, 4, 12, 13, 14, 5, 11] (.take 4 [4, 5, 12, 13, 14, 11] (.take 6 [6, 8, 12, 13, 14, 9, 10, 11] (.take 7 [7, 8, 12, 13, 14, 9, 10, 11] (.take 8 [8, 9, 12, 13, 14, 10, 11] (.take 9 [9, 10, 12, 13, 14, 11] (.both (.eff true 5 (.eff true 10 (.eff false 11 (.take 12 [12, 13, 14] (.take 13 [13, 14] (.eff false 14 .done)))))) (.eff true 10 (.eff true 5 (.eff false 11 (.take 12 [12, 13, 14] (.take 13 [13, 14] (.eff false 14 .done)))))))))))))))))]
def pf21 : PFn := ⟨36, [.t 4], (.seq (.ops false [⟨(some 4), .mov (.c (.v (.int .i64 0))), none⟩] .done)
  (.seq (.ops false [⟨(some 5), .mov (.c (.v (.int .i64 0))), none⟩] .done)
  (.seq (.seq (.ops false [⟨(some 6), .mov (.c (.v (.int .i64 0))), none⟩] .done)
   (.block 0 (.loop (.seq (.seq (.ops false [⟨(some 7), .mov (.t 6), none⟩,
        ⟨(some 8), .mov (.t 1), none⟩,
        ⟨(some 9), .len (.t 8), none⟩,
        ⟨(some 10), .bin .lss (.t 7) (.t 9), none⟩] .done)
      (.cond (.t 10)
       .skip
       (.exit 0)))
     (.seq (.block 1 (.seq (.ops false [⟨(some 13), .mov (.t 0), none⟩,
         ⟨(some 14), .mov (.t 1), none⟩,
         ⟨(some 15), .mov (.t 6), none⟩,
         ⟨(some 16), .idx 1 (.t 14) (.t 15), none⟩,
         ⟨(some 17), .load none (.t 16), none⟩,
         ⟨(some 18), .call 27 [(.t 13), (.t 17)], none⟩] .done)
       (.cond (.t 18)
        (.seq (.ops true [⟨(some 19), .mov (.t 0), none⟩,
           ⟨(some 20), .mov (.t 0), none⟩,
           ⟨(some 21), .nilck (.t 20), none⟩,
           ⟨(some 22), .fld 2 (.t 21), none⟩,
           ⟨(some 23), .load none (.t 22), none⟩,
           ⟨(some 24), .call 14 [(.t 23)], none⟩,
           ⟨(some 25), .mov (.t 1), none⟩,
           ⟨(some 26), .mov (.t 6), none⟩,
           ⟨(some 27), .idx 1 (.t 25) (.t 26), none⟩,
           ⟨(some 28), .load none (.t 27), none⟩,
           ⟨(some 29), .bslice 3 [.int .i64] 1 [(.v (.int .i64 0))] [(0, 1, (.t 28))], none⟩,
           ⟨(some 30), .append 3 [.int .i64] [(.int .i64 0)] 8 (.t 24) (.t 29), none⟩,
           ⟨(some 31), .nilck (.t 19), none⟩,
           ⟨(some 32), .fld 2 (.t 31), none⟩,
           ⟨none, .store 1 (.t 32) (.t 30), none⟩] (.take 0 [0, 12, 13, 14] (.take 1 [1, 2, 12, 13, 14, 3, 4, 5, 11] (.take 2 [2, 3, 12, 13, 14, 4, 5, 11] (.take 3 [3, 4, 12, 13, 14, 5, 11] (.take 4 [4, 5, 12, 13, 14, 11] (.take 6 [6, 8, 12, 13, 14, 9, 10, 11] (.take 7 [7, 8, 12, 13, 14, 9, 10, 11] (.take 8 [8, 9, 12, 13, 14, 10, 11] (.take 9 [9, 10, 12, 13, 14, 11] (.both (.eff true 5 (.eff true 10 (.eff false 11 (.take 12 [12, 13, 14] (.take 13 [13, 14] (.eff false 14 .done)))))) (.eff true 10 (.eff true 5 (.eff false 11 (.take 12 [12, 13, 14] (.take 13 [13, 14] (.eff false 14 .done)))))))))))))))))
         (.ops false [⟨(some 33), .mov (.t 5), none⟩,
          ⟨(some 34), .bin .add (.t 33) (.c (.v (.int .i64 1))), none⟩,
          ⟨(some 5), .mov (.t 34), none⟩] .done))
        .skip)))
     (.ops false [⟨(some 11), .mov (.t 6), none⟩,
      ⟨(some 12), .bin .add (.t 11) (.c (.v (.int .i64 1))), none⟩,
      ⟨(some 6), .mov (.t 12), none⟩] .done))))))
  (.seq (.ops false [⟨(some 35), .mov (.t 5), none⟩,
    ⟨(some 4), .mov (.t 35), none⟩] .done)
  .ret))))⟩
theorem pf21_eq : (Tryd.f21.body.map fun c => (cfn Tryd.prog pl21 Tryd.f21 c, guardsAll pl21 c)) = some (pf21, true) := by kernel_rfl

/-- (*corral/corralref21.Map).Undo  sizes [] -/
def pl22 : Nat → DT := dtGet []
def pf22 : PFn := ⟨49, [.t 8], (.seq (.ops false [⟨(some 8), .mov (.c (.v (.bool false))), none⟩] .done)
  (.seq (.seq (.ops false [⟨(some 9), .mov (.t 1), none⟩,
     ⟨(some 10), .bin .lss (.t 9) (.c (.v (.int .i64 1))), none⟩,
     ⟨(some 11), .mov (.t 10), none⟩,
     ⟨(some 12), .mov (.t 1), some (11, false)⟩,
     ⟨(some 13), .bin .gtr (.t 12) (.c (.v (.int .i64 31))), some (11, false)⟩,
     ⟨(some 14), .pick (.t 11) (.c (.v (.bool true))) (.t 13), none⟩,
     ⟨(some 15), .mov (.t 14), none⟩,
     ⟨(some 16), .mov (.t 0), some (15, false)⟩,
     ⟨(some 17), .nilck (.t 16), some (15, false)⟩,
     ⟨(some 18), .fld 1 (.t 17), some (15, false)⟩,
     ⟨(some 19), .load none (.t 18), some (15, false)⟩,
     ⟨(some 20), .mov (.t 1), some (15, false)⟩,
     ⟨(some 21), .idx 1 (.t 19) (.t 20), some (15, false)⟩,
     ⟨(some 22), .load none (.t 21), some (15, false)⟩,
     ⟨(some 23), .mov (.t 2), some (15, false)⟩,
     ⟨(some 24), .bin .neq (.t 22) (.t 23), some (15, false)⟩,
     ⟨(some 25), .pick (.t 15) (.c (.v (.bool true))) (.t 24), none⟩,
     ⟨(some 26), .mov (.t 25), none⟩,
     ⟨(some 27), .mov (.t 0), some (26, false)⟩,
     ⟨(some 28), .mov (.t 3), some (26, false)⟩,
     ⟨(some 29), .call 27 [(.t 27), (.t 28)], some (26, false)⟩,
     ⟨(some 30), .un .not (.t 29), some (26, false)⟩,
     ⟨(some 31), .pick (.t 26) (.c (.v (.bool true))) (.t 30), none⟩] .done)
   (.cond (.t 31)
    (.seq (.ops false [⟨(some 8), .mov (.c (.v (.bool false))), none⟩] .done)
     .ret)
    .skip))
  (.seq (.ops false [⟨(some 32), .mov (.t 0), none⟩,
    ⟨(some 33), .nilck (.t 32), none⟩,
    ⟨(some 34), .fld 1 (.t 33), none⟩,
    ⟨(some 35), .load none (.t 34), none⟩,
    ⟨(some 36), .mov (.t 1), none⟩,
    ⟨(some 37), .mov (.t 3), none⟩,
    ⟨(some 38), .idx 1 (.t 35) (.t 36), none⟩,
    ⟨none, .store 1 (.t 38) (.t 37), none⟩] .done)
  (.seq (.ops false [⟨(some 39), .mov (.t 0), none⟩,
    ⟨(some 40), .mov (.t 2), none⟩,
    ⟨(some 41), .bslice 3 [.int .i64] 1 [(.v (.int .i64 0))] [(0, 1, (.t 40))], none⟩,
    ⟨(some 42), .mov (.t 0), none⟩,
    ⟨(some 43), .nilck (.t 42), none⟩,
    ⟨(some 44), .fld 2 (.t 43), none⟩,
    ⟨(some 45), .load none (.t 44), none⟩,
    ⟨(some 46), .append 3 [.int .i64] [(.int .i64 0)] 8 (.t 41) (.t 45), none⟩,
    ⟨(some 47), .nilck (.t 39), none⟩,
    ⟨(some 48), .fld 2 (.t 47), none⟩,
    ⟨none, .store 1 (.t 48) (.t 46), none⟩] .done)
  (.seq (.ops false [⟨(some 8), .mov (.c (.v (.bool true))), none⟩] .done)
  .ret)))))⟩
theorem pf22_eq : (Tryd.f22.body.map fun c => (cfn Tryd.prog pl22 Tryd.f22 c, guardsAll pl22 c)) = some (pf22, true) := by kernel_rfl

/-- slices.Clone[[]int,int]  sizes [] -/
def pl23 : Nat → DT := dtGet []
def pf23 : PFn := ⟨8, [.t 2], (.seq (.ops false [⟨(some 2), .mov (.c (.v (.slice none 0 0))), none⟩] .done)
  (.seq (.seq (.ops false [⟨(some 3), .mov (.t 0), none⟩,
     ⟨(some 4), .eqp 3 true false (.t 3) (.c (.v (.slice none 0 0))), none⟩] .done)
   (.cond (.t 4)
    (.seq (.ops false [⟨(some 2), .mov (.c (.v (.slice none 0 0))), none⟩] .done)
     .ret)
    .skip))
  (.seq (.ops false [⟨(some 5), .bslice 3 [.int .i64] 0 [] [], none⟩,
    ⟨(some 6), .mov (.t 0), none⟩,
    ⟨(some 7), .append 3 [.int .i64] [(.int .i64 0)] 8 (.t 5) (.t 6), none⟩,
    ⟨(some 2), .mov (.t 7), none⟩] .done)
  .ret)))⟩
theorem pf23_eq : (Tryd.f23.body.map fun c => (cfn Tryd.prog pl23 Tryd.f23 c, guardsAll pl23 c)) = some (pf23, true) := by kernel_rfl

/-- (*corral/rename.Map).loose  sizes [] -/
def pl24 : Nat → DT := dtGet []
def pf24 : PFn := ⟨33, [.t 4], (.seq (.ops false [⟨(some 4), .mov (.c (.v (.bool false))), none⟩] .done)
  (.seq (.ops false [⟨(some 5), .mov (.t 1), none⟩,
    ⟨(some 6), .bin .geq (.t 5) (.c (.v (.int .i64 0))), none⟩,
    ⟨(some 7), .mov (.t 6), none⟩,
    ⟨(some 8), .mov (.t 1), some (7, true)⟩,
    ⟨(some 9), .mov (.t 0), some (7, true)⟩,
    ⟨(some 10), .nilck (.t 9), some (7, true)⟩,
    ⟨(some 11), .fld 0 (.t 10), some (7, true)⟩,
    ⟨(some 12), .load none (.t 11), some (7, true)⟩,
    ⟨(some 13), .bin .lss (.t 8) (.t 12), some (7, true)⟩,
    ⟨(some 14), .pick (.t 7) (.t 13) (.c (.v (.bool false))), none⟩,
    ⟨(some 15), .mov (.t 14), none⟩,
    ⟨(some 16), .mov (.t 0), some (15, true)⟩,
    ⟨(some 17), .nilck (.t 16), some (15, true)⟩,
    ⟨(some 18), .fld 2 (.t 17), some (15, true)⟩,
    ⟨(some 19), .load none (.t 18), some (15, true)⟩,
    ⟨(some 20), .mov (.t 1), some (15, true)⟩,
    ⟨(some 21), .call 28 [(.t 19), (.t 20)], some (15, true)⟩,
    ⟨(some 22), .un .not (.t 21), some (15, true)⟩,
    ⟨(some 23), .pick (.t 15) (.t 22) (.c (.v (.bool false))), none⟩,
    ⟨(some 24), .mov (.t 23), none⟩,
    ⟨(some 25), .mov (.t 0), some (24, true)⟩,
    ⟨(some 26), .nilck (.t 25), some (24, true)⟩,
    ⟨(some 27), .fld 1 (.t 26), some (24, true)⟩,
    ⟨(some 28), .load none (.t 27), some (24, true)⟩,
    ⟨(some 29), .mov (.t 1), some (24, true)⟩,
    ⟨(some 30), .call 28 [(.t 28), (.t 29)], some (24, true)⟩,
    ⟨(some 31), .un .not (.t 30), some (24, true)⟩,
    ⟨(some 32), .pick (.t 24) (.t 31) (.c (.v (.bool false))), none⟩,
    ⟨(some 4), .mov (.t 32), none⟩] .done)
  .ret))⟩
theorem pf24_eq : (Tryd.f24.body.map fun c => (cfn Tryd.prog pl24 Tryd.f24 c, guardsAll pl24 c)) = some (pf24, true) := by kernel_rfl

/-- corral/corralsee.Same  sizes [] -/
def pl25 : Nat → DT := dtGet []
def pf25 : PFn := ⟨11, [.t 4], (.seq (.ops false [⟨(some 3), .box 56 (.t 1), none⟩,
    ⟨(some 4), .mov (.c (.v (.bool false))), none⟩] .done)
  (.seq (.ops false [⟨(some 6), .mov (.t 0), none⟩,
    ⟨(some 7), .call 29 [(.t 6)], none⟩,
    ⟨(some 5), .box 56 (.c (.agg [(.v (.int .i64 0)), (.v (.slice none 0 0))])), none⟩,
    ⟨none, .store 2 (.t 5) (.t 7), none⟩] .done)
  (.seq (.ops false [⟨(some 8), .load (some 2) (.t 5), none⟩,
    ⟨(some 9), .load (some 2) (.t 3), none⟩,
    ⟨(some 10), .call 30 [(.t 8), (.t 9)], none⟩,
    ⟨(some 4), .mov (.t 10), none⟩] .done)
  .ret)))⟩
theorem pf25_eq : (Tryd.f25.body.map fun c => (cfn Tryd.prog pl25 Tryd.f25 c, guardsAll pl25 c)) = some (pf25, true) := by kernel_rfl

/-- corral/corralref.Bare  sizes [] -/
def pl26 : Nat → DT := dtGet []
def pf26 : PFn := ⟨5, [.cell 2 (some 2)], (.seq (.ops false [⟨(some 2), .box 56 (.c (.agg [(.v (.int .i64 0)), (.v (.slice none 0 0))])), none⟩] .done)
  (.seq (.ops false [⟨(some 3), .mov (.t 0), none⟩,
    ⟨(some 4), .build [(.v (.int .i64 0)), (.v (.slice none 0 0))] [(0, 1, (.t 3))], none⟩,
    ⟨none, .store 2 (.t 2) (.t 4), none⟩] .done)
  .ret))⟩
theorem pf26_eq : (Tryd.f26.body.map fun c => (cfn Tryd.prog pl26 Tryd.f26 c, guardsAll pl26 c)) = some (pf26, true) := by kernel_rfl

/-- (*corral/corralref21.Map).idle  sizes [] -/
def pl27 : Nat → DT := dtGet []
def pf27 : PFn := ⟨33, [.t 4], (.seq (.ops false [⟨(some 4), .mov (.c (.v (.bool false))), none⟩] .done)
  (.seq (.ops false [⟨(some 5), .mov (.t 1), none⟩,
    ⟨(some 6), .bin .geq (.t 5) (.c (.v (.int .i64 0))), none⟩,
    ⟨(some 7), .mov (.t 6), none⟩,
    ⟨(some 8), .mov (.t 1), some (7, true)⟩,
    ⟨(some 9), .mov (.t 0), some (7, true)⟩,
    ⟨(some 10), .nilck (.t 9), some (7, true)⟩,
    ⟨(some 11), .fld 0 (.t 10), some (7, true)⟩,
    ⟨(some 12), .load none (.t 11), some (7, true)⟩,
    ⟨(some 13), .bin .lss (.t 8) (.t 12), some (7, true)⟩,
    ⟨(some 14), .pick (.t 7) (.t 13) (.c (.v (.bool false))), none⟩,
    ⟨(some 15), .mov (.t 14), none⟩,
    ⟨(some 16), .mov (.t 0), some (15, true)⟩,
    ⟨(some 17), .nilck (.t 16), some (15, true)⟩,
    ⟨(some 18), .fld 2 (.t 17), some (15, true)⟩,
    ⟨(some 19), .load none (.t 18), some (15, true)⟩,
    ⟨(some 20), .mov (.t 1), some (15, true)⟩,
    ⟨(some 21), .call 31 [(.t 19), (.t 20)], some (15, true)⟩,
    ⟨(some 22), .un .not (.t 21), some (15, true)⟩,
    ⟨(some 23), .pick (.t 15) (.t 22) (.c (.v (.bool false))), none⟩,
    ⟨(some 24), .mov (.t 23), none⟩,
    ⟨(some 25), .mov (.t 0), some (24, true)⟩,
    ⟨(some 26), .nilck (.t 25), some (24, true)⟩,
    ⟨(some 27), .fld 1 (.t 26), some (24, true)⟩,
    ⟨(some 28), .load none (.t 27), some (24, true)⟩,
    ⟨(some 29), .mov (.t 1), some (24, true)⟩,
    ⟨(some 30), .call 31 [(.t 28), (.t 29)], some (24, true)⟩,
    ⟨(some 31), .un .not (.t 30), some (24, true)⟩,
    ⟨(some 32), .pick (.t 24) (.t 31) (.c (.v (.bool false))), none⟩,
    ⟨(some 4), .mov (.t 32), none⟩] .done)
  .ret))⟩
theorem pf27_eq : (Tryd.f27.body.map fun c => (cfn Tryd.prog pl27 Tryd.f27 c, guardsAll pl27 c)) = some (pf27, true) := by kernel_rfl

/-- slices.Contains[[]int,int]  sizes [] -/
def pl28 : Nat → DT := dtGet []
def pf28 : PFn := ⟨9, [.t 4], (.seq (.ops false [⟨(some 4), .mov (.c (.v (.bool false))), none⟩] .done)
  (.seq (.ops false [⟨(some 5), .mov (.t 0), none⟩,
    ⟨(some 6), .mov (.t 1), none⟩,
    ⟨(some 7), .call 32 [(.t 5), (.t 6)], none⟩,
    ⟨(some 8), .bin .geq (.t 7) (.c (.v (.int .i64 0))), none⟩,
    ⟨(some 4), .mov (.t 8), none⟩] .done)
  .ret))⟩
theorem pf28_eq : (Tryd.f28.body.map fun c => (cfn Tryd.prog pl28 Tryd.f28 c, guardsAll pl28 c)) = some (pf28, true) := by kernel_rfl

/-- corral/corralsee.Fault  sizes [] -/
def pl29 : Nat → DT := dtGet []
def pf29 : PFn := ⟨8, [.cell 2 (some 2)], (.seq (.ops false [⟨(some 2), .box 56 (.c (.agg [(.v (.int .i64 0)), (.v (.slice none 0 0))])), none⟩] .done)
  (.seq (.seq (.ops false [⟨(some 3), .mov (.t 0), none⟩,
     ⟨(some 4), .eqp 1 true false (.t 3) (.c (.v .nilIface)), none⟩] .done)
   (.cond (.t 4)
    (.seq (.ops false [⟨(some 5), .call 33 [], none⟩,
       ⟨none, .store 2 (.t 2) (.t 5), none⟩] .done)
     .ret)
    .skip))
  (.seq (.ops false [⟨(some 6), .mov (.t 0), none⟩,
    ⟨(some 7), .call 34 [(.t 6), (.c (.v (.int .i64 9)))], none⟩,
    ⟨none, .store 2 (.t 2) (.t 7), none⟩] .done)
  .ret)))⟩
theorem pf29_eq : (Tryd.f29.body.map fun c => (cfn Tryd.prog pl29 Tryd.f29 c, guardsAll pl29 c)) = some (pf29, true) := by kernel_rfl

/-- corral/corralref.SameFault  sizes [] -/
def pl30 : Nat → DT := dtGet []
def pf30 : PFn := ⟨19, [.t 4], (.seq (.ops false [⟨(some 2), .box 56 (.t 0), none⟩,
    ⟨(some 3), .box 56 (.t 1), none⟩,
    ⟨(some 4), .mov (.c (.v (.bool false))), none⟩] .done)
  (.seq (.ops false [⟨(some 6), .fld 1 (.t 2), none⟩,
    ⟨(some 7), .load none (.t 6), none⟩,
    ⟨(some 8), .fld 1 (.t 3), none⟩,
    ⟨(some 9), .load none (.t 8), none⟩,
    ⟨(some 10), .call 17 [(.t 7), (.t 9)], none⟩,
    ⟨(some 5), .mov (.t 10), none⟩] .done)
  (.seq (.ops false [⟨(some 11), .fld 0 (.t 2), none⟩,
    ⟨(some 12), .load none (.t 11), none⟩,
    ⟨(some 13), .fld 0 (.t 3), none⟩,
    ⟨(some 14), .load none (.t 13), none⟩,
    ⟨(some 15), .bin .eql (.t 12) (.t 14), none⟩,
    ⟨(some 16), .mov (.t 15), none⟩,
    ⟨(some 17), .mov (.t 5), some (16, true)⟩,
    ⟨(some 18), .pick (.t 16) (.t 17) (.c (.v (.bool false))), none⟩,
    ⟨(some 4), .mov (.t 18), none⟩] .done)
  .ret)))⟩
theorem pf30_eq : (Tryd.f30.body.map fun c => (cfn Tryd.prog pl30 Tryd.f30 c, guardsAll pl30 c)) = some (pf30, true) := by kernel_rfl

/-- corral/corralref.Among  sizes [] -/
def pl31 : Nat → DT := dtGet []
def pf31 : PFn := ⟨18, [.t 4], (.seq (.ops false [⟨(some 4), .mov (.c (.v (.bool false))), none⟩] .done)
  (.seq (.seq (.ops false [⟨(some 5), .mov (.c (.v (.int .i64 0))), none⟩] .done)
   (.block 0 (.loop (.seq (.seq (.ops false [⟨(some 6), .mov (.t 5), none⟩,
        ⟨(some 7), .mov (.t 0), none⟩,
        ⟨(some 8), .len (.t 7), none⟩,
        ⟨(some 9), .bin .lss (.t 6) (.t 8), none⟩] .done)
      (.cond (.t 9)
       .skip
       (.exit 0)))
     (.seq (.block 1 (.seq (.ops false [⟨(some 12), .mov (.t 0), none⟩,
         ⟨(some 13), .mov (.t 5), none⟩,
         ⟨(some 14), .idx 1 (.t 12) (.t 13), none⟩,
         ⟨(some 15), .load none (.t 14), none⟩,
         ⟨(some 16), .mov (.t 1), none⟩,
         ⟨(some 17), .bin .eql (.t 15) (.t 16), none⟩] .done)
       (.cond (.t 17)
        (.seq (.ops false [⟨(some 4), .mov (.c (.v (.bool true))), none⟩] .done)
         .ret)
        .skip)))
     (.ops false [⟨(some 10), .mov (.t 5), none⟩,
      ⟨(some 11), .bin .add (.t 10) (.c (.v (.int .i64 1))), none⟩,
      ⟨(some 5), .mov (.t 11), none⟩] .done))))))
  (.seq (.ops false [⟨(some 4), .mov (.c (.v (.bool false))), none⟩] .done)
  .ret)))⟩
theorem pf31_eq : (Tryd.f31.body.map fun c => (cfn Tryd.prog pl31 Tryd.f31 c, guardsAll pl31 c)) = some (pf31, true) := by kernel_rfl

/-- slices.Index[[]int,int]  sizes [] -/
def pl32 : Nat → DT := dtGet []
def pf32 : PFn := ⟨19, [.t 4], (.seq (.ops false [⟨(some 4), .mov (.c (.v (.int .i64 0))), none⟩] .done)
  (.seq (.seq (.ops false [⟨(some 6), .mov (.t 0), none⟩,
     ⟨(some 7), .len (.t 6), none⟩,
     ⟨(some 8), .mov (.c (.v (.int .i64 0))), none⟩] .done)
   (.block 0 (.loop (.seq (.ops false [⟨(some 9), .bin .lss (.t 8) (.t 7), none⟩] .done)
     (.seq (.cond (.t 9)
       .skip
       (.exit 0))
     (.seq (.block 1 (.seq (.ops false [⟨(some 10), .mov (.t 8), none⟩,
         ⟨(some 5), .mov (.t 10), none⟩] .done)
       (.seq (.ops false [⟨(some 11), .mov (.t 1), none⟩,
         ⟨(some 12), .mov (.t 0), none⟩,
         ⟨(some 13), .mov (.t 5), none⟩,
         ⟨(some 14), .idx 1 (.t 12) (.t 13), none⟩,
         ⟨(some 15), .load none (.t 14), none⟩,
         ⟨(some 16), .bin .eql (.t 11) (.t 15), none⟩] .done)
       (.cond (.t 16)
        (.seq (.ops false [⟨(some 17), .mov (.t 5), none⟩,
           ⟨(some 4), .mov (.t 17), none⟩] .done)
         .ret)
        .skip))))
     (.ops false [⟨(some 18), .bin .add (.t 8) (.c (.v (.int .i64 1))), none⟩,
      ⟨(some 8), .mov (.t 18), none⟩] .done)))))))
  (.seq (.ops false [⟨(some 4), .mov (.c (.v (.int .i64 (-1)))), none⟩] .done)
  .ret)))⟩
theorem pf32_eq : (Tryd.f32.body.map fun c => (cfn Tryd.prog pl32 Tryd.f32 c, guardsAll pl32 c)) = some (pf32, true) := by kernel_rfl

/-- corral/corralref.None  sizes [] -/
def pl33 : Nat → DT := dtGet []
def pf33 : PFn := ⟨2, [.cell 0 (some 2)], (.seq (.ops false [⟨(some 0), .box 56 (.c (.agg [(.v (.int .i64 0)), (.v (.slice none 0 0))])), none⟩] .done)
  (.seq (.ops false [⟨(some 1), .build [(.v (.int .i64 0)), (.v (.slice none 0 0))] [], none⟩,
    ⟨none, .store 2 (.t 0) (.t 1), none⟩] .done)
  .ret))⟩
theorem pf33_eq : (Tryd.f33.body.map fun c => (cfn Tryd.prog pl33 Tryd.f33 c, guardsAll pl33 c)) = some (pf33, true) := by kernel_rfl

/-- corral/corralsee.fault  sizes [(9, 13)] -/
def pl34 : Nat → DT := dtGet [(9, (.take 0 [0, 1, 11, 10] (.take 1 [1, 10, 11] (.take 2 [2, 3, 11, 4, 5, 6, 9, 10] (.take 3 [3, 4, 11, 5, 6, 9, 10] (.take 4 [4, 5, 11, 6, 9, 10] (.take 5 [5, 6, 11, 9, 10] (.take 7 [7, 8, 11, 9, 10] (.take 8 [8, 9, 11, 10] (.eff true 6 (.eff false 9 (.take 10 [10, 11] (.eff false 11 .done)))))))))))))]
def pf34 : PFn := ⟨42, [.cell 4 (some 2)], (.seq (.ops false [⟨(some 4), .box 56 (.c (.agg [(.v (.int .i64 0)), (.v (.slice none 0 0))])), none⟩] .done)
  (.seq (.seq (.ops false [⟨(some 7), .mov (.t 0), none⟩,
     ⟨(some 8), .eqp 1 true false (.t 7) (.c (.v .nilIface)), none⟩,
     ⟨(some 9), .mov (.t 8), none⟩,
     ⟨(some 10), .mov (.t 1), some (9, false)⟩,
     ⟨(some 11), .bin .eql (.t 10) (.c (.v (.int .i64 0))), some (9, false)⟩,
     ⟨(some 12), .pick (.t 9) (.c (.v (.bool true))) (.t 11), none⟩] .done)
   (.cond (.t 12)
    (.seq (.ops false [⟨(some 13), .call 26 [(.c (.v (.int .i64 (-1))))], none⟩,
       ⟨none, .store 2 (.t 4) (.t 13), none⟩] .done)
     .ret)
    .skip))
  (.seq (.seq (.ops false [⟨(some 14), .mov (.t 0), none⟩] .done)
   (.block 0 (.seq (.ops false [⟨(some 15), .tassert 64 true (.v (.pointer none)) (.t 14), none⟩,
      ⟨(some 16), .ext (.t 15) 1, none⟩,
      ⟨(some 17), .ext (.t 15) 0, none⟩] .done)
    (.cond (.t 16)
     (.seq (.ops false [⟨(some 5), .mov (.t 17), none⟩] .done)
      (.seq (.seq (.ops false [⟨(some 18), .mov (.t 5), none⟩,
         ⟨(some 19), .eqp 0 true false (.t 18) (.c (.v (.pointer none))), none⟩] .done)
       (.cond (.t 19)
        (.seq (.ops false [⟨(some 20), .call 26 [(.c (.v (.int .i64 (-1))))], none⟩,
           ⟨none, .store 2 (.t 4) (.t 20), none⟩] .done)
         .ret)
        .skip))
      (.seq (.ops false [⟨(some 21), .mov (.t 5), none⟩,
        ⟨(some 22), .nilck (.t 21), none⟩,
        ⟨(some 23), .fld 1 (.t 22), none⟩,
        ⟨(some 24), .load none (.t 23), none⟩,
        ⟨(some 25), .mov (.t 1), none⟩,
        ⟨(some 26), .bin .sub (.t 25) (.c (.v (.int .i64 1))), none⟩,
        ⟨(some 27), .call 34 [(.t 24), (.t 26)], none⟩,
        ⟨(some 6), .box 56 (.c (.agg [(.v (.int .i64 0)), (.v (.slice none 0 0))])), none⟩,
        ⟨none, .store 2 (.t 6) (.t 27), none⟩] .done)
      (.seq (.ops true [⟨(some 28), .fld 0 (.t 6), none⟩,
        ⟨(some 29), .load none (.t 28), none⟩,
        ⟨(some 30), .mov (.t 5), none⟩,
        ⟨(some 31), .nilck (.t 30), none⟩,
        ⟨(some 32), .fld 0 (.t 31), none⟩,
        ⟨(some 33), .load none (.t 32), none⟩,
        ⟨(some 34), .bslice 3 [.int .i64] 1 [(.v (.int .i64 0))] [(0, 1, (.t 33))], none⟩,
        ⟨(some 35), .fld 1 (.t 6), none⟩,
        ⟨(some 36), .load none (.t 35), none⟩,
        ⟨(some 37), .append 3 [.int .i64] [(.int .i64 0)] 8 (.t 34) (.t 36), none⟩,
        ⟨(some 38), .build [(.v (.int .i64 0)), (.v (.slice none 0 0))] [(0, 1, (.t 29)), (1, 1, (.t 37))], none⟩,
        ⟨none, .store 2 (.t 4) (.t 38), none⟩] (.take 0 [0, 1, 11, 10] (.take 1 [1, 10, 11] (.take 2 [2, 3, 11, 4, 5, 6, 9, 10] (.take 3 [3, 4, 11, 5, 6, 9, 10] (.take 4 [4, 5, 11, 6, 9, 10] (.take 5 [5, 6, 11, 9, 10] (.take 7 [7, 8, 11, 9, 10] (.take 8 [8, 9, 11, 10] (.eff true 6 (.eff false 9 (.take 10 [10, 11] (.eff false 11 .done)))))))))))))
      .ret))))
     .skip))))
  (.seq (.ops false [⟨(some 39), .mov (.t 0), none⟩,
    ⟨(some 40), .call 35 [(.t 39)], none⟩,
    ⟨(some 41), .call 26 [(.t 40)], none⟩,
    ⟨none, .store 2 (.t 4) (.t 41), none⟩] .done)
  .ret))))⟩
theorem pf34_eq : (Tryd.f34.body.map fun c => (cfn Tryd.prog pl34 Tryd.f34 c, guardsAll pl34 c)) = some (pf34, true) := by kernel_rfl

/-- corral/corralsee.sentinel  sizes [] -/
def pl35 : Nat → DT := dtGet []
def pf35 : PFn := ⟨20, [.t 2], (.seq (.ops false [⟨(some 2), .mov (.c (.v (.int .i64 0))), none⟩] .done)
  (.seq (.ops false [⟨(some 5), .call 36 [], none⟩,
    ⟨(some 3), .mov (.t 5), none⟩] .done)
  (.seq (.seq (.ops false [⟨(some 4), .mov (.c (.v (.int .i64 0))), none⟩] .done)
   (.block 0 (.loop (.seq (.seq (.ops false [⟨(some 6), .mov (.t 4), none⟩,
        ⟨(some 7), .mov (.t 3), none⟩,
        ⟨(some 8), .len (.t 7), none⟩,
        ⟨(some 9), .bin .lss (.t 6) (.t 8), none⟩] .done)
      (.cond (.t 9)
       .skip
       (.exit 0)))
     (.seq (.block 1 (.seq (.ops false [⟨(some 12), .mov (.t 0), none⟩,
         ⟨(some 13), .mov (.t 3), none⟩,
         ⟨(some 14), .mov (.t 4), none⟩,
         ⟨(some 15), .idx 1 (.t 13) (.t 14), none⟩,
         ⟨(some 16), .load none (.t 15), none⟩,
         ⟨(some 17), .call 37 [(.t 12), (.t 16)], none⟩] .done)
       (.cond (.t 17)
        (.seq (.ops false [⟨(some 18), .mov (.t 4), none⟩,
           ⟨(some 19), .bin .add (.c (.v (.int .i64 101))) (.t 18), none⟩,
           ⟨(some 2), .mov (.t 19), none⟩] .done)
         .ret)
        .skip)))
     (.ops false [⟨(some 10), .mov (.t 4), none⟩,
      ⟨(some 11), .bin .add (.t 10) (.c (.v (.int .i64 1))), none⟩,
      ⟨(some 4), .mov (.t 11), none⟩] .done))))))
  (.seq (.ops false [⟨(some 2), .mov (.c (.v (.int .i64 (-1)))), none⟩] .done)
  .ret))))⟩
theorem pf35_eq : (Tryd.f35.body.map fun c => (cfn Tryd.prog pl35 Tryd.f35 c, guardsAll pl35 c)) = some (pf35, true) := by kernel_rfl

/-- corral/corralsee.sentinels  sizes [] -/
def pl36 : Nat → DT := dtGet []
def pf36 : PFn := ⟨13, [.t 0], (.seq (.ops false [⟨(some 0), .mov (.c (.v (.slice none 0 0))), none⟩] .done)
  (.seq (.ops false [⟨(some 1), .load none (.c (.v (.pointer (some ⟨1, 0, none⟩)))), none⟩,
    ⟨(some 2), .load none (.c (.v (.pointer (some ⟨2, 0, none⟩)))), none⟩,
    ⟨(some 3), .load none (.c (.v (.pointer (some ⟨3, 0, none⟩)))), none⟩,
    ⟨(some 4), .load none (.c (.v (.pointer (some ⟨4, 0, none⟩)))), none⟩,
    ⟨(some 5), .load none (.c (.v (.pointer (some ⟨5, 0, none⟩)))), none⟩,
    ⟨(some 6), .load none (.c (.v (.pointer (some ⟨0, 0, none⟩)))), none⟩,
    ⟨(some 7), .load none (.c (.v (.pointer (some ⟨6, 0, none⟩)))), none⟩,
    ⟨(some 8), .load none (.c (.v (.pointer (some ⟨7, 0, none⟩)))), none⟩,
    ⟨(some 9), .load none (.c (.v (.pointer (some ⟨8, 0, none⟩)))), none⟩,
    ⟨(some 10), .load none (.c (.v (.pointer (some ⟨9, 0, none⟩)))), none⟩,
    ⟨(some 11), .load none (.c (.v (.pointer (some ⟨10, 0, none⟩)))), none⟩,
    ⟨(some 12), .bslice 27 [.raw] 11 [(.v .nilIface), (.v .nilIface), (.v .nilIface), (.v .nilIface), (.v .nilIface), (.v .nilIface), (.v .nilIface), (.v .nilIface), (.v .nilIface), (.v .nilIface), (.v .nilIface)] [(0, 1, (.t 1)), (1, 1, (.t 2)), (2, 1, (.t 3)), (3, 1, (.t 4)), (4, 1, (.t 5)), (5, 1, (.t 6)), (6, 1, (.t 7)), (7, 1, (.t 8)), (8, 1, (.t 9)), (9, 1, (.t 10)), (10, 1, (.t 11))], none⟩,
    ⟨(some 0), .mov (.t 12), none⟩] .done)
  .ret))⟩
theorem pf36_eq : (Tryd.f36.body.map fun c => (cfn Tryd.prog pl36 Tryd.f36 c, guardsAll pl36 c)) = some (pf36, true) := by kernel_rfl

/-- corral/corralsee.Alike  sizes [] -/
def pl37 : Nat → DT := dtGet []
def pf37 : PFn := ⟨20, [.t 4], (.seq (.ops false [⟨(some 4), .mov (.c (.v (.bool false))), none⟩] .done)
  (.seq (.seq (.ops false [⟨(some 5), .mov (.t 0), none⟩,
     ⟨(some 6), .eqp 1 true false (.t 5) (.c (.v .nilIface)), none⟩,
     ⟨(some 7), .mov (.t 6), none⟩,
     ⟨(some 8), .mov (.t 1), some (7, false)⟩,
     ⟨(some 9), .eqp 1 true false (.t 8) (.c (.v .nilIface)), some (7, false)⟩,
     ⟨(some 10), .pick (.t 7) (.c (.v (.bool true))) (.t 9), none⟩] .done)
   (.cond (.t 10)
    (.seq (.ops false [⟨(some 11), .mov (.t 0), none⟩,
       ⟨(some 12), .eqp 1 true false (.t 11) (.c (.v .nilIface)), none⟩,
       ⟨(some 13), .mov (.t 12), none⟩,
       ⟨(some 14), .mov (.t 1), some (13, true)⟩,
       ⟨(some 15), .eqp 1 true false (.t 14) (.c (.v .nilIface)), some (13, true)⟩,
       ⟨(some 16), .pick (.t 13) (.t 15) (.c (.v (.bool false))), none⟩,
       ⟨(some 4), .mov (.t 16), none⟩] .done)
     .ret)
    .skip))
  (.seq (.ops false [⟨(some 17), .mov (.t 0), none⟩,
    ⟨(some 18), .mov (.t 1), none⟩,
    ⟨(some 19), .eqp 1 false false (.t 17) (.t 18), none⟩,
    ⟨(some 4), .mov (.t 19), none⟩] .done)
  .ret)))⟩
theorem pf37_eq : (Tryd.f37.body.map fun c => (cfn Tryd.prog pl37 Tryd.f37 c, guardsAll pl37 c)) = some (pf37, true) := by kernel_rfl

theorem at3 : Tryd.prog.funcs[3]? = some Tryd.f3 ∧ (Tryd.f3.name == "runtime.NumGoroutine") = false := ⟨by kernel_rfl, by kernel_rfl⟩
theorem at4 : Tryd.prog.funcs[4]? = some Tryd.f4 ∧ (Tryd.f4.name == "runtime.NumGoroutine") = false := ⟨by kernel_rfl, by kernel_rfl⟩
theorem at5 : Tryd.prog.funcs[5]? = some Tryd.f5 ∧ (Tryd.f5.name == "runtime.NumGoroutine") = false := ⟨by kernel_rfl, by kernel_rfl⟩
theorem at6 : Tryd.prog.funcs[6]? = some Tryd.f6 ∧ (Tryd.f6.name == "runtime.NumGoroutine") = false := ⟨by kernel_rfl, by kernel_rfl⟩
theorem at7 : Tryd.prog.funcs[7]? = some Tryd.f7 ∧ (Tryd.f7.name == "runtime.NumGoroutine") = false := ⟨by kernel_rfl, by kernel_rfl⟩
theorem at8 : Tryd.prog.funcs[8]? = some Tryd.f8 ∧ (Tryd.f8.name == "runtime.NumGoroutine") = false := ⟨by kernel_rfl, by kernel_rfl⟩
theorem at9 : Tryd.prog.funcs[9]? = some Tryd.f9 ∧ (Tryd.f9.name == "runtime.NumGoroutine") = false := ⟨by kernel_rfl, by kernel_rfl⟩
theorem at10 : Tryd.prog.funcs[10]? = some Tryd.f10 ∧ (Tryd.f10.name == "runtime.NumGoroutine") = false := ⟨by kernel_rfl, by kernel_rfl⟩
theorem at11 : Tryd.prog.funcs[11]? = some Tryd.f11 ∧ (Tryd.f11.name == "runtime.NumGoroutine") = false := ⟨by kernel_rfl, by kernel_rfl⟩
theorem at12 : Tryd.prog.funcs[12]? = some Tryd.f12 ∧ (Tryd.f12.name == "runtime.NumGoroutine") = false := ⟨by kernel_rfl, by kernel_rfl⟩
theorem at13 : Tryd.prog.funcs[13]? = some Tryd.f13 ∧ (Tryd.f13.name == "runtime.NumGoroutine") = false := ⟨by kernel_rfl, by kernel_rfl⟩
theorem at14 : Tryd.prog.funcs[14]? = some Tryd.f14 ∧ (Tryd.f14.name == "runtime.NumGoroutine") = false := ⟨by kernel_rfl, by kernel_rfl⟩
theorem at15 : Tryd.prog.funcs[15]? = some Tryd.f15 ∧ (Tryd.f15.name == "runtime.NumGoroutine") = false := ⟨by kernel_rfl, by kernel_rfl⟩
theorem at16 : Tryd.prog.funcs[16]? = some Tryd.f16 ∧ (Tryd.f16.name == "runtime.NumGoroutine") = false := ⟨by kernel_rfl, by kernel_rfl⟩
theorem at17 : Tryd.prog.funcs[17]? = some Tryd.f17 ∧ (Tryd.f17.name == "runtime.NumGoroutine") = false := ⟨by kernel_rfl, by kernel_rfl⟩
theorem at18 : Tryd.prog.funcs[18]? = some Tryd.f18 ∧ (Tryd.f18.name == "runtime.NumGoroutine") = false := ⟨by kernel_rfl, by kernel_rfl⟩
theorem at19 : Tryd.prog.funcs[19]? = some Tryd.f19 ∧ (Tryd.f19.name == "runtime.NumGoroutine") = false := ⟨by kernel_rfl, by kernel_rfl⟩
theorem at20 : Tryd.prog.funcs[20]? = some Tryd.f20 ∧ (Tryd.f20.name == "runtime.NumGoroutine") = false := ⟨by kernel_rfl, by kernel_rfl⟩
theorem at21 : Tryd.prog.funcs[21]? = some Tryd.f21 ∧ (Tryd.f21.name == "runtime.NumGoroutine") = false := ⟨by kernel_rfl, by kernel_rfl⟩
theorem at22 : Tryd.prog.funcs[22]? = some Tryd.f22 ∧ (Tryd.f22.name == "runtime.NumGoroutine") = false := ⟨by kernel_rfl, by kernel_rfl⟩
theorem at23 : Tryd.prog.funcs[23]? = some Tryd.f23 ∧ (Tryd.f23.name == "runtime.NumGoroutine") = false := ⟨by kernel_rfl, by kernel_rfl⟩
theorem at24 : Tryd.prog.funcs[24]? = some Tryd.f24 ∧ (Tryd.f24.name == "runtime.NumGoroutine") = false := ⟨by kernel_rfl, by kernel_rfl⟩
theorem at25 : Tryd.prog.funcs[25]? = some Tryd.f25 ∧ (Tryd.f25.name == "runtime.NumGoroutine") = false := ⟨by kernel_rfl, by kernel_rfl⟩
theorem at26 : Tryd.prog.funcs[26]? = some Tryd.f26 ∧ (Tryd.f26.name == "runtime.NumGoroutine") = false := ⟨by kernel_rfl, by kernel_rfl⟩
theorem at27 : Tryd.prog.funcs[27]? = some Tryd.f27 ∧ (Tryd.f27.name == "runtime.NumGoroutine") = false := ⟨by kernel_rfl, by kernel_rfl⟩
theorem at28 : Tryd.prog.funcs[28]? = some Tryd.f28 ∧ (Tryd.f28.name == "runtime.NumGoroutine") = false := ⟨by kernel_rfl, by kernel_rfl⟩
theorem at29 : Tryd.prog.funcs[29]? = some Tryd.f29 ∧ (Tryd.f29.name == "runtime.NumGoroutine") = false := ⟨by kernel_rfl, by kernel_rfl⟩
theorem at30 : Tryd.prog.funcs[30]? = some Tryd.f30 ∧ (Tryd.f30.name == "runtime.NumGoroutine") = false := ⟨by kernel_rfl, by kernel_rfl⟩
theorem at31 : Tryd.prog.funcs[31]? = some Tryd.f31 ∧ (Tryd.f31.name == "runtime.NumGoroutine") = false := ⟨by kernel_rfl, by kernel_rfl⟩
theorem at32 : Tryd.prog.funcs[32]? = some Tryd.f32 ∧ (Tryd.f32.name == "runtime.NumGoroutine") = false := ⟨by kernel_rfl, by kernel_rfl⟩
theorem at33 : Tryd.prog.funcs[33]? = some Tryd.f33 ∧ (Tryd.f33.name == "runtime.NumGoroutine") = false := ⟨by kernel_rfl, by kernel_rfl⟩
theorem at34 : Tryd.prog.funcs[34]? = some Tryd.f34 ∧ (Tryd.f34.name == "runtime.NumGoroutine") = false := ⟨by kernel_rfl, by kernel_rfl⟩
theorem at35 : Tryd.prog.funcs[35]? = some Tryd.f35 ∧ (Tryd.f35.name == "runtime.NumGoroutine") = false := ⟨by kernel_rfl, by kernel_rfl⟩
theorem at36 : Tryd.prog.funcs[36]? = some Tryd.f36 ∧ (Tryd.f36.name == "runtime.NumGoroutine") = false := ⟨by kernel_rfl, by kernel_rfl⟩
theorem at37 : Tryd.prog.funcs[37]? = some Tryd.f37 ∧ (Tryd.f37.name == "runtime.NumGoroutine") = false := ⟨by kernel_rfl, by kernel_rfl⟩
def tab : List (Nat × PFn) := [(3, pf3), (4, pf4), (5, pf5), (6, pf6), (7, pf7), (8, pf8), (9, pf9), (10, pf10), (11, pf11), (12, pf12), (13, pf13), (14, pf14), (15, pf15), (16, pf16), (17, pf17), (18, pf18), (19, pf19), (20, pf20), (21, pf21), (22, pf22), (23, pf23), (24, pf24), (25, pf25), (26, pf26), (27, pf27), (28, pf28), (29, pf29), (30, pf30), (31, pf31), (32, pf32), (33, pf33), (34, pf34), (35, pf35), (36, pf36), (37, pf37)]
theorem tab_ok : TabOK Tryd.prog tab :=
  .cons mixed at3 pf3_eq (.cons mixed at4 pf4_eq (.cons mixed at5 pf5_eq (.cons mixed at6 pf6_eq (.cons mixed at7 pf7_eq (.cons mixed at8 pf8_eq (.cons mixed at9 pf9_eq (.cons mixed at10 pf10_eq (.cons mixed at11 pf11_eq (.cons mixed at12 pf12_eq (.cons mixed at13 pf13_eq (.cons mixed at14 pf14_eq (.cons mixed at15 pf15_eq (.cons mixed at16 pf16_eq (.cons mixed at17 pf17_eq (.cons mixed at18 pf18_eq (.cons mixed at19 pf19_eq (.cons mixed at20 pf20_eq (.cons mixed at21 pf21_eq (.cons mixed at22 pf22_eq (.cons mixed at23 pf23_eq (.cons mixed at24 pf24_eq (.cons mixed at25 pf25_eq (.cons mixed at26 pf26_eq (.cons mixed at27 pf27_eq (.cons mixed at28 pf28_eq (.cons mixed at29 pf29_eq (.cons mixed at30 pf30_eq (.cons mixed at31 pf31_eq (.cons mixed at32 pf32_eq (.cons mixed at33 pf33_eq (.cons mixed at34 pf34_eq (.cons mixed at35 pf35_eq (.cons mixed at36 pf36_eq (.cons mixed at37 pf37_eq (.nil)))))))))))))))))))))))))))))))))))
noncomputable def G0 : Nat → Option Trans := tabG (tget []) (tget tab) 5
theorem G0_ok : GOK Tryd.prog G0 := tabG_ok .nil tab_ok 5
end Go.Proofs.YtlbjheknhoigpaaDoor
