/-
  The program of one function, with other quiet calls.
-/
import Derived.Test.YtlbjheknhoigpaaDoorCj
namespace Go.Proofs.YtlbjheknhoigpaaDoor
open Go Go.Vc
set_option maxRecDepth 100000
/-- corral/corrallaw23.RenamePlays  sizes [(27, 10), (19, 18), (32, 26)] -/
def pl5q : Nat → DT := dtGet [(27, (.take 0 [0, 3, 7, 8] (.take 1 [1, 2, 3, 7, 8] (.take 2 [2, 3, 7, 8] (.take 4 [4, 7, 8] (.take 5 [5, 6, 7, 8] (.take 6 [6, 7, 8] (.eff false 3 (.eff false 7 (.take 8 [8] .done)))))))))), (19, (.take 0 [0, 7, 15, 16] (.take 1 [1, 2, 7, 15, 16] (.take 2 [2, 7, 15, 16] (.take 3 [3, 4, 7, 15, 16] (.take 4 [4, 7, 15, 16] (.take 5 [5, 6, 7, 15, 16] (.take 6 [6, 7, 15, 16] (.take 8 [8, 15, 16] (.take 9 [9, 10, 15, 16] (.take 10 [10, 15, 16] (.take 11 [11, 12, 15, 16] (.take 12 [12, 15, 16] (.take 13 [13, 14, 15, 16] (.take 14 [14, 15, 16] (.eff false 7 (.eff false 15 (.take 16 [16] .done)))))))))))))))))), (32, (.take 0 [0, 1, 7, 8, 9, 10, 11, 12, 13, 14, 15, 16, 17, 18, 19, 20, 21, 22, 23, 24] (.take 2 [2, 3, 4, 5, 6, 7, 8, 9, 10, 11, 12, 13, 14, 15, 16, 17, 18, 19, 20, 21, 22, 23, 24] (.take 3 [3, 4, 5, 6, 7, 8, 9, 10, 11, 12, 13, 14, 15, 16, 17, 18, 19, 20, 21, 22, 23, 24] (.take 4 [4, 5, 6, 7, 8, 9, 10, 11, 12, 13, 14, 15, 16, 17, 18, 19, 20, 21, 22, 23, 24] (.take 5 [5, 6, 7, 8, 9, 10, 11, 12, 13, 14, 15, 16, 17, 18, 19, 20, 21, 22, 23, 24] (.take 6 [6, 7, 8, 9, 10, 11, 12, 13, 14, 15, 16, 17, 18, 19, 20, 21, 22, 23, 24] (.eff true 1 (.take 7 [7, 8, 9, 10, 11, 12, 13, 14, 15, 16, 17, 18, 19, 20, 21, 22, 23, 24] (.take 8 [8, 9, 10, 11, 12, 13, 14, 15, 16, 17, 18, 19, 20, 21, 22, 23, 24] (.take 9 [9, 10, 15, 16, 18, 17, 19, 20, 21, 22, 23, 24] (.take 11 [11, 12, 13, 14, 15, 16, 18, 17, 19, 20, 21, 22, 23, 24] (.take 12 [12, 13, 14, 15, 16, 18, 17, 19, 20, 21, 22, 23, 24] (.take 13 [13, 14, 15, 16, 18, 17, 19, 20, 21, 22, 23, 24] (.take 14 [14, 15, 16, 18, 17, 19, 20, 21, 22, 23, 24] (.eff true 10 (.eff true 15 (.take 16 [16, 17, 18, 19, 20, 21, 22, 23, 24] (.take 17 [17, 18, 19, 20, 21, 22, 23, 24] (.take 18 [18, 19, 20, 21, 22, 23, 24] (.take 19 [19, 21, 23, 24] (.take 20 [20, 21, 23, 24] (.take 22 [22, 23, 24] (.eff true 21 (.take 23 [23, 24] (.take 24 [24] .done))))))))))))))))))))))))))]
def pf5q : PFn := ⟨169, [.t 6], (.seq (.ops false [⟨(some 6), .mov (.c (.v (.bool false))), none⟩] .done)
  (.seq (.ops false [⟨(some 20), .call 6 [], none⟩,
    ⟨(some 7), .mov (.t 20), none⟩] .done)
  (.seq (.seq (.ops false [⟨(some 21), .mov (.t 7), none⟩,
     ⟨(some 22), .un .not (.t 21), none⟩] .done)
   (.cond (.t 22)
    (.seq (.ops false [⟨(some 6), .mov (.c (.v (.bool false))), none⟩] .done)
     .ret)
    .skip))
  (.seq (.seq (.ops false [⟨(some 23), .mov (.t 1), none⟩,
     ⟨(some 24), .len (.t 23), none⟩,
     ⟨(some 25), .bin .gtr (.t 24) (.c (.v (.int .i64 80))), none⟩,
     ⟨(some 26), .mov (.t 25), none⟩,
     ⟨(some 27), .mov (.t 7), some (26, false)⟩,
     ⟨(some 28), .un .not (.t 27), some (26, false)⟩,
     ⟨(some 29), .pick (.t 26) (.c (.v (.bool true))) (.t 28), none⟩] .done)
   (.cond (.t 29)
    (.seq (.ops false [⟨(some 30), .mov (.t 7), none⟩,
       ⟨(some 6), .mov (.t 30), none⟩] .done)
     .ret)
    .skip))
  (.seq (.ops false [⟨(some 32), .mov (.t 0), none⟩,
    ⟨(some 33), .call 8 [(.t 32)], none⟩,
    ⟨(some 31), .mov (.t 33), none⟩,
    ⟨(some 34), .ext (.t 31) 0, none⟩,
    ⟨(some 35), .ext (.t 31) 1, none⟩,
    ⟨(some 8), .mov (.t 34), none⟩,
    ⟨(some 9), .mov (.t 35), none⟩] .done)
  (.seq (.seq (.ops false [⟨(some 36), .mov (.t 0), none⟩,
     ⟨(some 37), .bin .lss (.t 36) (.c (.v (.int .i64 33))), none⟩,
     ⟨(some 38), .mov (.t 37), none⟩,
     ⟨(some 39), .mov (.t 0), some (38, false)⟩,
     ⟨(some 40), .bin .gtr (.t 39) (.c (.v (.int .i64 256))), some (38, false)⟩,
     ⟨(some 41), .pick (.t 38) (.c (.v (.bool true))) (.t 40), none⟩] .done)
   (.cond (.t 41)
    (.seq (.ops false [⟨(some 42), .mov (.t 8), none⟩,
       ⟨(some 43), .eqp 0 true false (.t 42) (.c (.v (.pointer none))), none⟩,
       ⟨(some 44), .mov (.t 43), none⟩,
       ⟨(some 45), .mov (.t 9), some (44, true)⟩,
       ⟨(some 46), .call 18 [(.t 45), (.c (.v (.int .i64 106)))], some (44, true)⟩,
       ⟨(some 47), .pick (.t 44) (.t 46) (.c (.v (.bool false))), none⟩,
       ⟨(some 6), .mov (.t 47), none⟩] .done)
     .ret)
    .skip))
  (.seq (.seq (.ops false [⟨(some 48), .mov (.t 8), none⟩,
     ⟨(some 49), .eqp 0 true false (.t 48) (.c (.v (.pointer none))), none⟩,
     ⟨(some 50), .mov (.t 49), none⟩,
     ⟨(some 51), .mov (.t 9), some (50, false)⟩,
     ⟨(some 52), .eqp 1 true true (.t 51) (.c (.v .nilIface)), some (50, false)⟩,
     ⟨(some 53), .pick (.t 50) (.c (.v (.bool true))) (.t 52), none⟩] .done)
   (.cond (.t 53)
    (.seq (.ops false [⟨(some 6), .mov (.c (.v (.bool false))), none⟩] .done)
     .ret)
    .skip))
  (.seq (.ops false [⟨(some 54), .mov (.t 0), none⟩,
    ⟨(some 55), .call 19 [(.t 54)], none⟩,
    ⟨(some 10), .mov (.t 55), none⟩] .done)
  (.seq (.seq (.ops false [⟨(some 11), .mov (.c (.v (.int .i64 0))), none⟩] .done)
   (.block 0 (.loop (.seq (.seq (.ops false [⟨(some 56), .mov (.t 11), none⟩,
        ⟨(some 57), .mov (.t 1), none⟩,
        ⟨(some 58), .len (.t 57), none⟩,
        ⟨(some 59), .bin .lss (.t 56) (.t 58), none⟩] .done)
      (.cond (.t 59)
       .skip
       (.exit 0)))
     (.seq (.block 1 (.seq (.ops false [⟨(some 62), .mov (.t 1), none⟩,
         ⟨(some 63), .mov (.t 11), none⟩,
         ⟨(some 64), .idx 5 (.t 62) (.t 63), none⟩,
         ⟨(some 65), .load (some 5) (.t 64), none⟩,
         ⟨(some 12), .box 46 (.c (.agg [(.v (.int .i64 0)), (.v (.int .i64 0)), (.v (.int .i64 0)), (.v (.int .i64 0)), (.v (.slice none 0 0))])), none⟩,
         ⟨none, .store 5 (.t 12) (.t 65), none⟩] .done)
       (.seq (.seq (.ops false [⟨(some 66), .fld 4 (.t 12), none⟩,
          ⟨(some 67), .load none (.t 66), none⟩,
          ⟨(some 68), .len (.t 67), none⟩,
          ⟨(some 69), .bin .gtr (.t 68) (.c (.v (.int .i64 20))), none⟩] .done)
        (.cond (.t 69)
         (.seq (.ops false [⟨(some 6), .mov (.c (.v (.bool true))), none⟩] .done)
          .ret)
         .skip))
       (.seq (.seq (.ops false [⟨(some 70), .fld 0 (.t 12), none⟩,
          ⟨(some 71), .load none (.t 70), none⟩] .done)
        (.block 2 (.seq (.ops false [⟨(some 90), .bin .eql (.t 71) (.c (.v (.int .i64 1))), none⟩,
           ⟨(some 89), .mov (.t 90), none⟩] .done)
         (.cond (.t 89)
          (.seq (.ops false [⟨(some 92), .mov (.t 8), none⟩,
             ⟨(some 93), .fld 1 (.t 12), none⟩,
             ⟨(some 94), .load none (.t 93), none⟩,
             ⟨(some 95), .call 9 [(.t 92), (.t 94)], none⟩,
             ⟨(some 91), .mov (.t 95), none⟩,
             ⟨(some 96), .ext (.t 91) 0, none⟩,
             ⟨(some 97), .ext (.t 91) 1, none⟩,
             ⟨(some 98), .ext (.t 91) 2, none⟩,
             ⟨(some 13), .mov (.t 96), none⟩,
             ⟨(some 14), .mov (.t 97), none⟩,
             ⟨(some 15), .mov (.t 98), none⟩] .done)
           (.seq (.ops false [⟨(some 100), .mov (.t 10), none⟩,
             ⟨(some 101), .fld 1 (.t 12), none⟩,
             ⟨(some 102), .load none (.t 101), none⟩,
             ⟨(some 103), .call 20 [(.t 100), (.t 102)], none⟩,
             ⟨(some 99), .mov (.t 103), none⟩,
             ⟨(some 104), .ext (.t 99) 0, none⟩,
             ⟨(some 105), .ext (.t 99) 1, none⟩,
             ⟨(some 106), .ext (.t 99) 2, none⟩,
             ⟨(some 16), .mov (.t 104), none⟩,
             ⟨(some 17), .mov (.t 105), none⟩,
             ⟨(some 18), .mov (.t 106), none⟩] .done)
           (.seq (.ops false [⟨(some 107), .mov (.t 13), none⟩,
             ⟨(some 108), .mov (.t 16), none⟩,
             ⟨(some 109), .bin .neq (.t 107) (.t 108), none⟩,
             ⟨(some 110), .mov (.t 109), none⟩,
             ⟨(some 111), .mov (.t 14), some (110, false)⟩,
             ⟨(some 112), .mov (.t 17), some (110, false)⟩,
             ⟨(some 113), .bin .neq (.t 111) (.t 112), some (110, false)⟩,
             ⟨(some 114), .pick (.t 110) (.c (.v (.bool true))) (.t 113), none⟩,
             ⟨(some 115), .mov (.t 114), none⟩,
             ⟨(some 116), .mov (.t 15), some (115, false)⟩,
             ⟨(some 117), .mov (.t 18), some (115, false)⟩,
             ⟨(some 118), .eqb true (.t 116) (.t 117), some (115, false)⟩,
             ⟨(some 119), .pick (.t 115) (.c (.v (.bool true))) (.t 118), none⟩] .done)
           (.cond (.t 119)
            (.seq (.ops false [⟨(some 6), .mov (.c (.v (.bool false))), none⟩] .done)
             .ret)
            .skip))))
          (.seq (.ops false [⟨(some 121), .bin .eql (.t 71) (.c (.v (.int .i64 2))), none⟩,
             ⟨(some 120), .mov (.t 121), none⟩] .done)
           (.cond (.t 120)
            (.seq (.ops true [⟨(some 122), .mov (.t 8), none⟩,
               ⟨(some 123), .fld 4 (.t 12), none⟩,
               ⟨(some 124), .load none (.t 123), none⟩,
               ⟨(some 125), .call 11 [(.t 122), (.t 124)], none⟩,
               ⟨(some 126), .mov (.t 10), none⟩,
               ⟨(some 127), .fld 4 (.t 12), none⟩,
               ⟨(some 128), .load none (.t 127), none⟩,
               ⟨(some 129), .call 21 [(.t 126), (.t 128)], none⟩,
               ⟨(some 130), .bin .neq (.t 125) (.t 129), none⟩] (.take 0 [0, 3, 7, 8] (.take 1 [1, 2, 3, 7, 8] (.take 2 [2, 3, 7, 8] (.take 4 [4, 7, 8] (.take 5 [5, 6, 7, 8] (.take 6 [6, 7, 8] (.eff false 3 (.eff false 7 (.take 8 [8] .done))))))))))
             (.cond (.t 130)
              (.seq (.ops false [⟨(some 6), .mov (.c (.v (.bool false))), none⟩] .done)
               .ret)
              .skip))
            (.seq (.ops true [⟨(some 72), .mov (.t 8), none⟩,
               ⟨(some 73), .fld 1 (.t 12), none⟩,
               ⟨(some 74), .load none (.t 73), none⟩,
               ⟨(some 75), .fld 2 (.t 12), none⟩,
               ⟨(some 76), .load none (.t 75), none⟩,
               ⟨(some 77), .fld 3 (.t 12), none⟩,
               ⟨(some 78), .load none (.t 77), none⟩,
               ⟨(some 79), .call 16 [(.t 72), (.t 74), (.t 76), (.t 78)], none⟩,
               ⟨(some 80), .mov (.t 10), none⟩,
               ⟨(some 81), .fld 1 (.t 12), none⟩,
               ⟨(some 82), .load none (.t 81), none⟩,
               ⟨(some 83), .fld 2 (.t 12), none⟩,
               ⟨(some 84), .load none (.t 83), none⟩,
               ⟨(some 85), .fld 3 (.t 12), none⟩,
               ⟨(some 86), .load none (.t 85), none⟩,
               ⟨(some 87), .call 22 [(.t 80), (.t 82), (.t 84), (.t 86)], none⟩,
               ⟨(some 88), .eqb true (.t 79) (.t 87), none⟩] (.take 0 [0, 7, 15, 16] (.take 1 [1, 2, 7, 15, 16] (.take 2 [2, 7, 15, 16] (.take 3 [3, 4, 7, 15, 16] (.take 4 [4, 7, 15, 16] (.take 5 [5, 6, 7, 15, 16] (.take 6 [6, 7, 15, 16] (.take 8 [8, 15, 16] (.take 9 [9, 10, 15, 16] (.take 10 [10, 15, 16] (.take 11 [11, 12, 15, 16] (.take 12 [12, 15, 16] (.take 13 [13, 14, 15, 16] (.take 14 [14, 15, 16] (.eff false 7 (.eff false 15 (.take 16 [16] .done))))))))))))))))))
             (.cond (.t 88)
              (.seq (.ops false [⟨(some 6), .mov (.c (.v (.bool false))), none⟩] .done)
               .ret)
              .skip))))))))
       (.seq (.ops false [⟨(some 19), .mov (.c (.v (.int .i64 (-1)))), none⟩] .done)
       (.seq (.seq (.ops false [⟨(some 131), .mov (.t 2), none⟩,
          ⟨(some 132), .bin .geq (.t 131) (.c (.v (.int .i64 0))), none⟩,
          ⟨(some 133), .mov (.t 132), none⟩,
          ⟨(some 134), .mov (.t 2), some (133, true)⟩,
          ⟨(some 135), .bin .lss (.t 134) (.c (.v (.int .i64 32))), some (133, true)⟩,
          ⟨(some 136), .pick (.t 133) (.t 135) (.c (.v (.bool false))), none⟩] .done)
        (.cond (.t 136)
         (.ops false [⟨(some 137), .mov (.t 10), none⟩,
           ⟨(some 138), .nilck (.t 137), none⟩,
           ⟨(some 139), .fld 1 (.t 138), none⟩,
           ⟨(some 140), .load none (.t 139), none⟩,
           ⟨(some 141), .mov (.t 2), none⟩,
           ⟨(some 142), .idx 1 (.t 140) (.t 141), none⟩,
           ⟨(some 143), .load none (.t 142), none⟩,
           ⟨(some 19), .mov (.t 143), none⟩] .done)
         .skip))
       (.seq (.ops true [⟨(some 144), .mov (.t 8), none⟩,
         ⟨(some 145), .call 12 [(.t 144)], none⟩,
         ⟨(some 146), .mov (.t 10), none⟩,
         ⟨(some 147), .nilck (.t 146), none⟩,
         ⟨(some 148), .fld 2 (.t 147), none⟩,
         ⟨(some 149), .load none (.t 148), none⟩,
         ⟨(some 150), .len (.t 149), none⟩,
         ⟨(some 151), .bin .neq (.t 145) (.t 150), none⟩,
         ⟨(some 152), .mov (.t 151), none⟩,
         ⟨(some 153), .mov (.t 8), some (152, false)⟩,
         ⟨(some 154), .call 15 [(.t 153)], some (152, false)⟩,
         ⟨(some 155), .mov (.t 10), some (152, false)⟩,
         ⟨(some 156), .nilck (.t 155), some (152, false)⟩,
         ⟨(some 157), .fld 1 (.t 156), some (152, false)⟩,
         ⟨(some 158), .load none (.t 157), some (152, false)⟩,
         ⟨(some 159), .call 17 [(.t 154), (.t 158)], some (152, false)⟩,
         ⟨(some 160), .un .not (.t 159), some (152, false)⟩,
         ⟨(some 161), .pick (.t 152) (.c (.v (.bool true))) (.t 160), none⟩,
         ⟨(some 162), .mov (.t 161), none⟩,
         ⟨(some 163), .mov (.t 8), some (162, false)⟩,
         ⟨(some 164), .mov (.t 2), some (162, false)⟩,
         ⟨(some 165), .call 10 [(.t 163), (.t 164)], some (162, false)⟩,
         ⟨(some 166), .mov (.t 19), some (162, false)⟩,
         ⟨(some 167), .bin .neq (.t 165) (.t 166), some (162, false)⟩,
         ⟨(some 168), .pick (.t 162) (.c (.v (.bool true))) (.t 167), none⟩] (.take 0 [0, 1, 7, 8, 9, 10, 11, 12, 13, 14, 15, 16, 17, 18, 19, 20, 21, 22, 23, 24] (.take 2 [2, 3, 4, 5, 6, 7, 8, 9, 10, 11, 12, 13, 14, 15, 16, 17, 18, 19, 20, 21, 22, 23, 24] (.take 3 [3, 4, 5, 6, 7, 8, 9, 10, 11, 12, 13, 14, 15, 16, 17, 18, 19, 20, 21, 22, 23, 24] (.take 4 [4, 5, 6, 7, 8, 9, 10, 11, 12, 13, 14, 15, 16, 17, 18, 19, 20, 21, 22, 23, 24] (.take 5 [5, 6, 7, 8, 9, 10, 11, 12, 13, 14, 15, 16, 17, 18, 19, 20, 21, 22, 23, 24] (.take 6 [6, 7, 8, 9, 10, 11, 12, 13, 14, 15, 16, 17, 18, 19, 20, 21, 22, 23, 24] (.eff true 1 (.take 7 [7, 8, 9, 10, 11, 12, 13, 14, 15, 16, 17, 18, 19, 20, 21, 22, 23, 24] (.take 8 [8, 9, 10, 11, 12, 13, 14, 15, 16, 17, 18, 19, 20, 21, 22, 23, 24] (.take 9 [9, 10, 15, 16, 18, 17, 19, 20, 21, 22, 23, 24] (.take 11 [11, 12, 13, 14, 15, 16, 18, 17, 19, 20, 21, 22, 23, 24] (.take 12 [12, 13, 14, 15, 16, 18, 17, 19, 20, 21, 22, 23, 24] (.take 13 [13, 14, 15, 16, 18, 17, 19, 20, 21, 22, 23, 24] (.take 14 [14, 15, 16, 18, 17, 19, 20, 21, 22, 23, 24] (.eff true 10 (.eff true 15 (.take 16 [16, 17, 18, 19, 20, 21, 22, 23, 24] (.take 17 [17, 18, 19, 20, 21, 22, 23, 24] (.take 18 [18, 19, 20, 21, 22, 23, 24] (.take 19 [19, 21, 23, 24] (.take 20 [20, 21, 23, 24] (.take 22 [22, 23, 24] (.eff true 21 (.take 23 [23, 24] (.take 24 [24] .done))))))))))))))))))))))))))
       (.cond (.t 168)
        (.seq (.ops false [⟨(some 6), .mov (.c (.v (.bool false))), none⟩] .done)
         .ret)
        .skip))))))))
     (.ops false [⟨(some 60), .mov (.t 11), none⟩,
      ⟨(some 61), .bin .add (.t 60) (.c (.v (.int .i64 1))), none⟩,
      ⟨(some 11), .mov (.t 61), none⟩] .done))))))
  (.seq (.ops false [⟨(some 6), .mov (.c (.v (.bool true))), none⟩] .done)
  .ret))))))))))⟩
theorem pf5q_eq : (Tryd.f5.body.map fun c => (cfn Tryd.prog pl5q Tryd.f5 c, guardsAll pl5q c)) = some (pf5q, true) := by kernel_rfl


end Go.Proofs.YtlbjheknhoigpaaDoor
