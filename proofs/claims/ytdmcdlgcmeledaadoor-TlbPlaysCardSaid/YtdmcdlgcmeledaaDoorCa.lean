/-
  The programs of the functions that the laws reach, read off the given program by the kernel.
-/
import Derived.Test.YtdmcdlgcmeledaaDoorProg
import Derived.Test.YtdmcdlgcmeledaaDoorVcs
namespace Go.Proofs.YtdmcdlgcmeledaaDoor
open Go Go.Vc
set_option maxRecDepth 100000
theorem mixed : Tryd.prog.follows .mixedOrders = true := by kernel_rfl
/-- corral/corrallaw21.TlbPlays  sizes [(19, 6), (20, 13), (30, 20)] -/
def pl3 : Nat → DT := dtGet [(19, (.take 1 [1, 2, 4, 3] (.take 2 [2, 3, 4] (.eff true 0 (.eff false 3 (.take 4 [4] .done)))))), (20, (.take 0 [0, 4, 10, 11] (.take 1 [1, 2, 4, 10, 11] (.take 2 [2, 4, 10, 11] (.take 3 [3, 4, 10, 11] (.take 5 [5, 10, 11] (.take 6 [6, 7, 10, 11] (.take 7 [7, 10, 11] (.take 8 [8, 9, 10, 11] (.take 9 [9, 10, 11] (.eff false 4 (.eff false 10 (.take 11 [11] .done))))))))))))), (30, (.take 0 [0, 2, 3, 4, 5, 6, 7, 8, 9, 10, 11, 12, 13, 14, 15, 16, 17, 18] (.take 1 [1, 2, 3, 4, 5, 6, 7, 8, 9, 10, 11, 12, 13, 14, 15, 16, 17, 18] (.take 2 [2, 3, 4, 5, 6, 7, 8, 9, 10, 11, 12, 13, 14, 15, 16, 17, 18] (.take 3 [3, 4, 5, 6, 7, 8, 9, 10, 11, 12, 13, 14, 15, 16, 17, 18] (.take 4 [4, 6, 7, 9, 8, 10, 11, 12, 13, 14, 15, 16, 17, 18] (.take 5 [5, 6, 7, 9, 8, 10, 11, 12, 13, 14, 15, 16, 17, 18] (.eff true 6 (.take 7 [7, 8, 9, 10, 11, 12, 13, 14, 15, 16, 17, 18] (.take 8 [8, 9, 10, 11, 12, 13, 14, 15, 16, 17, 18] (.take 9 [9, 10, 11, 12, 13, 14, 15, 16, 17, 18] (.take 10 [10, 11, 17, 18] (.take 12 [12, 13, 14, 15, 16, 17, 18] (.take 13 [13, 14, 15, 16, 17, 18] (.take 14 [14, 15, 16, 17, 18] (.take 15 [15, 16, 17, 18] (.take 16 [16, 17, 18] (.eff true 11 (.take 17 [17, 18] (.take 18 [18] .done))))))))))))))))))))]
def pf3 : PFn := ⟨182, [.t 6], (.seq (.ops false [⟨(some 6), .mov (.c (.v (.bool false))), none⟩] .done)
  (.seq (.ops false [⟨(some 22), .call 5 [], none⟩,
    ⟨(some 7), .mov (.t 22), none⟩] .done)
  (.seq (.seq (.ops false [⟨(some 23), .mov (.t 7), none⟩,
     ⟨(some 24), .un .not (.t 23), none⟩] .done)
   (.cond (.t 24)
    (.seq (.ops false [⟨(some 6), .mov (.c (.v (.bool false))), none⟩] .done)
     .ret)
    .skip))
  (.seq (.seq (.ops false [⟨(some 25), .mov (.t 1), none⟩,
     ⟨(some 26), .len (.t 25), none⟩,
     ⟨(some 27), .bin .gtr (.t 26) (.c (.v (.int .i64 60))), none⟩,
     ⟨(some 28), .mov (.t 27), none⟩,
     ⟨(some 29), .mov (.t 7), some (28, false)⟩,
     ⟨(some 30), .un .not (.t 29), some (28, false)⟩,
     ⟨(some 31), .pick (.t 28) (.c (.v (.bool true))) (.t 30), none⟩] .done)
   (.cond (.t 31)
    (.seq (.ops false [⟨(some 32), .mov (.t 7), none⟩,
       ⟨(some 6), .mov (.t 32), none⟩] .done)
     .ret)
    .skip))
  (.seq (.ops false [⟨(some 34), .mov (.t 0), none⟩,
    ⟨(some 35), .call 6 [(.t 34)], none⟩,
    ⟨(some 33), .mov (.t 35), none⟩,
    ⟨(some 36), .ext (.t 33) 0, none⟩,
    ⟨(some 37), .ext (.t 33) 1, none⟩,
    ⟨(some 8), .mov (.t 36), none⟩,
    ⟨(some 9), .mov (.t 37), none⟩] .done)
  (.seq (.seq (.ops false [⟨(some 38), .mov (.t 0), none⟩,
     ⟨(some 39), .bin .lss (.t 38) (.c (.v (.int .i64 1))), none⟩,
     ⟨(some 40), .mov (.t 39), none⟩,
     ⟨(some 41), .mov (.t 0), some (40, false)⟩,
     ⟨(some 42), .bin .gtr (.t 41) (.c (.v (.int .i64 64))), some (40, false)⟩,
     ⟨(some 43), .pick (.t 40) (.c (.v (.bool true))) (.t 42), none⟩] .done)
   (.cond (.t 43)
    (.seq (.ops false [⟨(some 44), .mov (.t 8), none⟩,
       ⟨(some 45), .eqp 0 true false (.t 44) (.c (.v (.pointer none))), none⟩,
       ⟨(some 46), .mov (.t 45), none⟩,
       ⟨(some 47), .mov (.t 9), some (46, true)⟩,
       ⟨(some 48), .call 7 [(.t 47), (.c (.v (.int .i64 106)))], some (46, true)⟩,
       ⟨(some 49), .pick (.t 46) (.t 48) (.c (.v (.bool false))), none⟩,
       ⟨(some 6), .mov (.t 49), none⟩] .done)
     .ret)
    .skip))
  (.seq (.seq (.ops false [⟨(some 50), .mov (.t 8), none⟩,
     ⟨(some 51), .eqp 0 true false (.t 50) (.c (.v (.pointer none))), none⟩,
     ⟨(some 52), .mov (.t 51), none⟩,
     ⟨(some 53), .mov (.t 9), some (52, false)⟩,
     ⟨(some 54), .eqp 1 true true (.t 53) (.c (.v .nilIface)), some (52, false)⟩,
     ⟨(some 55), .pick (.t 52) (.c (.v (.bool true))) (.t 54), none⟩] .done)
   (.cond (.t 55)
    (.seq (.ops false [⟨(some 6), .mov (.c (.v (.bool false))), none⟩] .done)
     .ret)
    .skip))
  (.seq (.ops false [⟨(some 56), .mov (.t 0), none⟩,
    ⟨(some 57), .build [(.v (.int .i64 0)), (.v (.slice none 0 0))] [(0, 1, (.t 56))], none⟩,
    ⟨(some 58), .box 34 (.t 57), none⟩,
    ⟨(some 10), .mov (.t 58), none⟩] .done)
  (.seq (.seq (.ops false [⟨(some 11), .mov (.c (.v (.int .i64 0))), none⟩] .done)
   (.block 0 (.loop (.seq (.seq (.ops false [⟨(some 59), .mov (.t 11), none⟩,
        ⟨(some 60), .mov (.t 1), none⟩,
        ⟨(some 61), .len (.t 60), none⟩,
        ⟨(some 62), .bin .lss (.t 59) (.t 61), none⟩] .done)
      (.cond (.t 62)
       .skip
       (.exit 0)))
     (.seq (.block 1 (.seq (.ops false [⟨(some 65), .mov (.t 1), none⟩,
         ⟨(some 66), .mov (.t 11), none⟩,
         ⟨(some 67), .idx 4 (.t 65) (.t 66), none⟩,
         ⟨(some 68), .load (some 4) (.t 67), none⟩,
         ⟨(some 12), .box 38 (.c (.agg [(.v (.int .i64 0)), (.v (.int .u32 0)), (.v (.slice none 0 0)), (.v (.slice none 0 0))])), none⟩,
         ⟨none, .store 4 (.t 12) (.t 68), none⟩] .done)
       (.seq (.seq (.ops false [⟨(some 69), .fld 2 (.t 12), none⟩,
          ⟨(some 70), .load none (.t 69), none⟩,
          ⟨(some 71), .len (.t 70), none⟩,
          ⟨(some 72), .bin .gtr (.t 71) (.c (.v (.int .i64 9))), none⟩,
          ⟨(some 73), .mov (.t 72), none⟩,
          ⟨(some 74), .fld 3 (.t 12), some (73, false)⟩,
          ⟨(some 75), .load none (.t 74), some (73, false)⟩,
          ⟨(some 76), .len (.t 75), some (73, false)⟩,
          ⟨(some 77), .bin .gtr (.t 76) (.c (.v (.int .i64 9))), some (73, false)⟩,
          ⟨(some 78), .pick (.t 73) (.c (.v (.bool true))) (.t 77), none⟩] .done)
        (.cond (.t 78)
         (.seq (.ops false [⟨(some 6), .mov (.c (.v (.bool true))), none⟩] .done)
          .ret)
         .skip))
       (.seq (.seq (.ops false [⟨(some 79), .fld 0 (.t 12), none⟩,
          ⟨(some 80), .load none (.t 79), none⟩,
          ⟨(some 81), .bin .eql (.t 80) (.c (.v (.int .i64 1))), none⟩] .done)
        (.cond (.t 81)
         (.seq (.ops true [⟨(some 82), .mslice 42 [.int .u32, .int .u32, .int .u32, .int .i64, .bool] [(.int .u32 0), (.int .u32 0), (.int .u32 0), (.int .i64 0), (.bool false)] 32 (.c (.v (.int .i64 0))) (.c (.v (.int .i64 20))), none⟩,
            ⟨(some 83), .fld 2 (.t 12), none⟩,
            ⟨(some 84), .load none (.t 83), none⟩,
            ⟨(some 85), .append 42 [.int .u32, .int .u32, .int .u32, .int .i64, .bool] [(.int .u32 0), (.int .u32 0), (.int .u32 0), (.int .i64 0), (.bool false)] 32 (.t 82) (.t 84), none⟩,
            ⟨(some 13), .mov (.t 85), none⟩] (.take 1 [1, 2, 4, 3] (.take 2 [2, 3, 4] (.eff true 0 (.eff false 3 (.take 4 [4] .done))))))
          (.seq (.seq (.ops true [⟨(some 86), .mov (.t 8), none⟩,
             ⟨(some 87), .fld 1 (.t 12), none⟩,
             ⟨(some 88), .load none (.t 87), none⟩,
             ⟨(some 89), .mov (.t 13), none⟩,
             ⟨(some 90), .call 8 [(.t 86), (.t 88), (.t 89)], none⟩,
             ⟨(some 91), .mov (.t 10), none⟩,
             ⟨(some 92), .fld 1 (.t 12), none⟩,
             ⟨(some 93), .load none (.t 92), none⟩,
             ⟨(some 94), .fld 2 (.t 12), none⟩,
             ⟨(some 95), .load none (.t 94), none⟩,
             ⟨(some 96), .call 9 [(.t 91), (.t 93), (.t 95)], none⟩,
             ⟨(some 97), .eqb true (.t 90) (.t 96), none⟩] (.take 0 [0, 4, 10, 11] (.take 1 [1, 2, 4, 10, 11] (.take 2 [2, 4, 10, 11] (.take 3 [3, 4, 10, 11] (.take 5 [5, 10, 11] (.take 6 [6, 7, 10, 11] (.take 7 [7, 10, 11] (.take 8 [8, 9, 10, 11] (.take 9 [9, 10, 11] (.eff false 4 (.eff false 10 (.take 11 [11] .done)))))))))))))
           (.cond (.t 97)
            (.seq (.ops false [⟨(some 6), .mov (.c (.v (.bool false))), none⟩] .done)
             .ret)
            .skip))
          (.seq (.ops false [⟨(some 14), .mov (.c (.v (.int .i64 0))), none⟩] .done)
          (.block 2 (.loop (.seq (.seq (.ops false [⟨(some 98), .mov (.t 14), none⟩,
               ⟨(some 99), .mov (.t 13), none⟩,
               ⟨(some 100), .len (.t 99), none⟩,
               ⟨(some 101), .bin .lss (.t 98) (.t 100), none⟩] .done)
             (.cond (.t 101)
              .skip
              (.exit 2)))
            (.seq (.block 3 (.ops false [⟨(some 104), .mov (.t 13), none⟩,
               ⟨(some 105), .mov (.t 14), none⟩,
               ⟨(some 106), .idx 5 (.t 104) (.t 105), none⟩,
               ⟨(some 107), .fld 1 (.t 106), none⟩,
               ⟨none, .store 1 (.t 107) (.c (.v (.int .u32 99))), none⟩] .done))
            (.ops false [⟨(some 102), .mov (.t 14), none⟩,
             ⟨(some 103), .bin .add (.t 102) (.c (.v (.int .i64 1))), none⟩,
             ⟨(some 14), .mov (.t 103), none⟩] .done))))))))
         (.seq (.ops false [⟨(some 108), .mov (.t 8), none⟩,
            ⟨(some 109), .fld 3 (.t 12), none⟩,
            ⟨(some 110), .load none (.t 109), none⟩,
            ⟨(some 111), .call 10 [(.t 108), (.t 110)], none⟩] .done)
          (.ops false [⟨(some 112), .mov (.t 10), none⟩,
           ⟨(some 113), .fld 3 (.t 12), none⟩,
           ⟨(some 114), .load none (.t 113), none⟩,
           ⟨(some 115), .call 11 [(.t 112), (.t 114)], none⟩] .done))))
       (.seq (.ops false [⟨(some 117), .mov (.t 8), none⟩,
         ⟨(some 118), .mov (.t 2), none⟩,
         ⟨(some 119), .call 12 [(.t 117), (.t 118)], none⟩,
         ⟨(some 116), .mov (.t 119), none⟩,
         ⟨(some 120), .ext (.t 116) 0, none⟩,
         ⟨(some 121), .ext (.t 116) 1, none⟩,
         ⟨(some 15), .mov (.t 120), none⟩,
         ⟨(some 16), .mov (.t 121), none⟩] .done)
       (.seq (.ops false [⟨(some 123), .mov (.t 10), none⟩,
         ⟨(some 124), .mov (.t 2), none⟩,
         ⟨(some 125), .call 13 [(.t 123), (.t 124)], none⟩,
         ⟨(some 122), .mov (.t 125), none⟩,
         ⟨(some 126), .ext (.t 122) 0, none⟩,
         ⟨(some 127), .ext (.t 122) 1, none⟩,
         ⟨(some 17), .mov (.t 126), none⟩,
         ⟨(some 18), .mov (.t 127), none⟩] .done)
       (.seq (.seq (.ops true [⟨(some 128), .mov (.t 16), none⟩,
          ⟨(some 129), .mov (.t 18), none⟩,
          ⟨(some 130), .eqb true (.t 128) (.t 129), none⟩,
          ⟨(some 131), .mov (.t 130), none⟩,
          ⟨(some 132), .mov (.t 15), some (131, false)⟩,
          ⟨(some 133), .mov (.t 17), some (131, false)⟩,
          ⟨(some 134), .call 14 [(.t 132), (.t 133)], some (131, false)⟩,
          ⟨(some 135), .un .not (.t 134), some (131, false)⟩,
          ⟨(some 136), .pick (.t 131) (.c (.v (.bool true))) (.t 135), none⟩,
          ⟨(some 137), .mov (.t 136), none⟩,
          ⟨(some 138), .mov (.t 8), some (137, false)⟩,
          ⟨(some 139), .call 15 [(.t 138)], some (137, false)⟩,
          ⟨(some 140), .mov (.t 10), some (137, false)⟩,
          ⟨(some 141), .nilck (.t 140), some (137, false)⟩,
          ⟨(some 142), .fld 1 (.t 141), some (137, false)⟩,
          ⟨(some 143), .load none (.t 142), some (137, false)⟩,
          ⟨(some 144), .len (.t 143), some (137, false)⟩,
          ⟨(some 145), .bin .neq (.t 139) (.t 144), some (137, false)⟩,
          ⟨(some 146), .pick (.t 137) (.c (.v (.bool true))) (.t 145), none⟩] (.take 0 [0, 2, 3, 4, 5, 6, 7, 8, 9, 10, 11, 12, 13, 14, 15, 16, 17, 18] (.take 1 [1, 2, 3, 4, 5, 6, 7, 8, 9, 10, 11, 12, 13, 14, 15, 16, 17, 18] (.take 2 [2, 3, 4, 5, 6, 7, 8, 9, 10, 11, 12, 13, 14, 15, 16, 17, 18] (.take 3 [3, 4, 5, 6, 7, 8, 9, 10, 11, 12, 13, 14, 15, 16, 17, 18] (.take 4 [4, 6, 7, 9, 8, 10, 11, 12, 13, 14, 15, 16, 17, 18] (.take 5 [5, 6, 7, 9, 8, 10, 11, 12, 13, 14, 15, 16, 17, 18] (.eff true 6 (.take 7 [7, 8, 9, 10, 11, 12, 13, 14, 15, 16, 17, 18] (.take 8 [8, 9, 10, 11, 12, 13, 14, 15, 16, 17, 18] (.take 9 [9, 10, 11, 12, 13, 14, 15, 16, 17, 18] (.take 10 [10, 11, 17, 18] (.take 12 [12, 13, 14, 15, 16, 17, 18] (.take 13 [13, 14, 15, 16, 17, 18] (.take 14 [14, 15, 16, 17, 18] (.take 15 [15, 16, 17, 18] (.take 16 [16, 17, 18] (.eff true 11 (.take 17 [17, 18] (.take 18 [18] .done))))))))))))))))))))
        (.cond (.t 146)
         (.seq (.ops false [⟨(some 6), .mov (.c (.v (.bool false))), none⟩] .done)
          .ret)
         .skip))
       (.seq (.seq (.ops false [⟨(some 19), .mov (.c (.v (.int .i64 0))), none⟩] .done)
        (.block 4 (.loop (.seq (.seq (.ops false [⟨(some 147), .mov (.t 19), none⟩,
             ⟨(some 148), .mov (.t 15), none⟩,
             ⟨(some 149), .len (.t 148), none⟩,
             ⟨(some 150), .bin .lss (.t 147) (.t 149), none⟩] .done)
           (.cond (.t 150)
            .skip
            (.exit 4)))
          (.seq (.block 5 (.ops false [⟨(some 153), .mov (.t 15), none⟩,
             ⟨(some 154), .mov (.t 19), none⟩,
             ⟨(some 155), .idx 5 (.t 153) (.t 154), none⟩,
             ⟨(some 156), .fld 1 (.t 155), none⟩,
             ⟨none, .store 1 (.t 156) (.c (.v (.int .u32 99))), none⟩] .done))
          (.ops false [⟨(some 151), .mov (.t 19), none⟩,
           ⟨(some 152), .bin .add (.t 151) (.c (.v (.int .i64 1))), none⟩,
           ⟨(some 19), .mov (.t 152), none⟩] .done))))))
       (.seq (.ops false [⟨(some 20), .mov (.c (.v (.slice none 0 0))), none⟩] .done)
       (.seq (.seq (.ops false [⟨(some 21), .mov (.c (.v (.int .i64 0))), none⟩] .done)
        (.block 6 (.loop (.seq (.seq (.ops false [⟨(some 157), .mov (.t 21), none⟩,
             ⟨(some 158), .mov (.t 10), none⟩,
             ⟨(some 159), .nilck (.t 158), none⟩,
             ⟨(some 160), .fld 1 (.t 159), none⟩,
             ⟨(some 161), .load none (.t 160), none⟩,
             ⟨(some 162), .len (.t 161), none⟩,
             ⟨(some 163), .bin .lss (.t 157) (.t 162), none⟩] .done)
           (.cond (.t 163)
            .skip
            (.exit 6)))
          (.seq (.block 7 (.ops false [⟨(some 166), .mov (.t 20), none⟩,
             ⟨(some 167), .mov (.t 10), none⟩,
             ⟨(some 168), .nilck (.t 167), none⟩,
             ⟨(some 169), .fld 1 (.t 168), none⟩,
             ⟨(some 170), .load none (.t 169), none⟩,
             ⟨(some 171), .mov (.t 21), none⟩,
             ⟨(some 172), .idx 2 (.t 170) (.t 171), none⟩,
             ⟨(some 173), .fld 0 (.t 172), none⟩,
             ⟨(some 174), .load none (.t 173), none⟩,
             ⟨(some 175), .bslice 23 [.int .u32] 1 [(.v (.int .u32 0))] [(0, 1, (.t 174))], none⟩,
             ⟨(some 176), .append 23 [.int .u32] [(.int .u32 0)] 4 (.t 166) (.t 175), none⟩,
             ⟨(some 20), .mov (.t 176), none⟩] .done))
          (.ops false [⟨(some 164), .mov (.t 21), none⟩,
           ⟨(some 165), .bin .add (.t 164) (.c (.v (.int .i64 1))), none⟩,
           ⟨(some 21), .mov (.t 165), none⟩] .done))))))
       (.seq (.ops false [⟨(some 177), .mov (.t 8), none⟩,
         ⟨(some 178), .call 17 [(.t 177)], none⟩,
         ⟨(some 179), .mov (.t 20), none⟩,
         ⟨(some 180), .call 16 [(.t 178), (.t 179)], none⟩,
         ⟨(some 181), .un .not (.t 180), none⟩] .done)
       (.cond (.t 181)
        (.seq (.ops false [⟨(some 6), .mov (.c (.v (.bool false))), none⟩] .done)
         .ret)
        .skip))))))))))))
     (.ops false [⟨(some 63), .mov (.t 11), none⟩,
      ⟨(some 64), .bin .add (.t 63) (.c (.v (.int .i64 1))), none⟩,
      ⟨(some 11), .mov (.t 64), none⟩] .done))))))
  (.seq (.ops false [⟨(some 6), .mov (.c (.v (.bool true))), none⟩] .done)
  .ret))))))))))⟩
theorem pf3_eq : (Tryd.f3.body.map fun c => (cfn Tryd.prog pl3 Tryd.f3 c, guardsAll pl3 c)) = some (pf3, true) := by kernel_rfl

/-- corral/corrallaw21.TlbTurns  sizes [(31, 23)] -/
def pl4 : Nat → DT := dtGet [(31, (.take 0 [0, 2, 3, 4, 5, 20, 21, 6, 7, 8, 9, 19, 10, 11, 12, 13, 14, 15, 16, 17, 18] (.take 1 [1, 2, 3, 4, 5, 20, 21, 6, 7, 8, 9, 19, 10, 11, 12, 13, 14, 15, 16, 17, 18] (.take 2 [2, 3, 4, 5, 20, 21, 6, 7, 8, 9, 19, 10, 11, 12, 13, 14, 15, 16, 17, 18] (.take 3 [3, 4, 5, 20, 21, 6, 7, 8, 9, 19, 10, 11, 12, 13, 14, 15, 16, 17, 18] (.take 4 [4, 5, 6, 7, 8, 9, 19, 20, 10, 11, 12, 13, 14, 15, 16, 17, 18, 21] (.take 5 [5, 6, 7, 8, 9, 19, 20, 10, 11, 12, 13, 14, 15, 16, 17, 18, 21] (.take 6 [6, 7, 8, 9, 10, 11, 12, 13, 14, 15, 16, 17, 18, 19, 20, 21] (.take 7 [7, 8, 9, 10, 11, 12, 13, 14, 15, 16, 17, 18, 19, 20, 21] (.take 8 [8, 9, 10, 11, 12, 13, 14, 15, 16, 17, 18, 19, 20, 21] (.take 9 [9, 10, 11, 12, 13, 14, 15, 16, 17, 18, 19, 20, 21] (.take 10 [10, 11, 12, 13, 18, 19, 20, 21] (.take 11 [11, 12, 13, 18, 19, 20, 21] (.take 12 [12, 13, 18, 19, 20, 21] (.take 13 [13, 18, 19, 20, 21] (.take 14 [14, 16, 17, 18, 19, 20, 21] (.take 15 [15, 16, 17, 18, 19, 20, 21] (.take 16 [16, 17, 18, 19, 20, 21] (.take 17 [17, 18, 19, 20, 21] (.take 18 [18, 19, 20, 21] (.take 19 [19, 20, 21] (.take 20 [20, 21] (.take 21 [21] .done)))))))))))))))))))))))]
def pf4 : PFn := ⟨144, [.t 6], (.seq (.ops false [⟨(some 6), .mov (.c (.v (.bool false))), none⟩] .done)
  (.seq (.ops false [⟨(some 19), .call 5 [], none⟩,
    ⟨(some 7), .mov (.t 19), none⟩] .done)
  (.seq (.seq (.ops false [⟨(some 20), .mov (.t 7), none⟩,
     ⟨(some 21), .un .not (.t 20), none⟩] .done)
   (.cond (.t 21)
    (.seq (.ops false [⟨(some 6), .mov (.c (.v (.bool false))), none⟩] .done)
     .ret)
    .skip))
  (.seq (.ops false [⟨(some 22), .mov (.t 0), none⟩,
    ⟨(some 23), .call 18 [(.t 22), (.c (.v (.int .i64 8)))], none⟩,
    ⟨(some 24), .bin .add (.t 23) (.c (.v (.int .i64 1))), none⟩,
    ⟨(some 0), .mov (.t 24), none⟩] .done)
  (.seq (.seq (.ops false [⟨(some 25), .mov (.t 1), none⟩,
     ⟨(some 26), .len (.t 25), none⟩,
     ⟨(some 27), .bin .gtr (.t 26) (.c (.v (.int .i64 30))), none⟩,
     ⟨(some 28), .mov (.t 27), none⟩,
     ⟨(some 29), .mov (.t 7), some (28, false)⟩,
     ⟨(some 30), .un .not (.t 29), some (28, false)⟩,
     ⟨(some 31), .pick (.t 28) (.c (.v (.bool true))) (.t 30), none⟩] .done)
   (.cond (.t 31)
    (.seq (.ops false [⟨(some 32), .mov (.t 7), none⟩,
       ⟨(some 6), .mov (.t 32), none⟩] .done)
     .ret)
    .skip))
  (.seq (.ops false [⟨(some 34), .mov (.t 0), none⟩,
    ⟨(some 35), .call 6 [(.t 34)], none⟩,
    ⟨(some 33), .mov (.t 35), none⟩,
    ⟨(some 36), .ext (.t 33) 0, none⟩,
    ⟨(some 37), .ext (.t 33) 1, none⟩,
    ⟨(some 8), .mov (.t 36), none⟩,
    ⟨(some 9), .mov (.t 37), none⟩] .done)
  (.seq (.seq (.ops false [⟨(some 38), .mov (.t 8), none⟩,
     ⟨(some 39), .eqp 0 true false (.t 38) (.c (.v (.pointer none))), none⟩,
     ⟨(some 40), .mov (.t 39), none⟩,
     ⟨(some 41), .mov (.t 9), some (40, false)⟩,
     ⟨(some 42), .eqp 1 true true (.t 41) (.c (.v .nilIface)), some (40, false)⟩,
     ⟨(some 43), .pick (.t 40) (.c (.v (.bool true))) (.t 42), none⟩] .done)
   (.cond (.t 43)
    (.seq (.ops false [⟨(some 6), .mov (.c (.v (.bool false))), none⟩] .done)
     .ret)
    .skip))
  (.seq (.ops false [⟨(some 10), .mov (.c (.v (.slice none 0 0))), none⟩] .done)
  (.seq (.ops false [⟨(some 44), .mslice 23 [.int .u32] [(.int .u32 0)] 4 (.c (.v (.int .i64 16))) (.c (.v (.int .i64 16))), none⟩,
    ⟨(some 11), .mov (.t 44), none⟩] .done)
  (.seq (.seq (.ops false [⟨(some 12), .mov (.c (.v (.int .i64 0))), none⟩] .done)
   (.block 0 (.loop (.seq (.seq (.ops false [⟨(some 45), .mov (.t 12), none⟩,
        ⟨(some 46), .mov (.t 1), none⟩,
        ⟨(some 47), .len (.t 46), none⟩,
        ⟨(some 48), .bin .lss (.t 45) (.t 47), none⟩] .done)
      (.cond (.t 48)
       .skip
       (.exit 0)))
     (.seq (.block 1 (.seq (.ops false [⟨(some 51), .mov (.t 1), none⟩,
         ⟨(some 52), .mov (.t 12), none⟩,
         ⟨(some 53), .idx 1 (.t 51) (.t 52), none⟩,
         ⟨(some 54), .load none (.t 53), none⟩,
         ⟨(some 55), .bin .and (.t 54) (.c (.v (.int .i64 15))), none⟩,
         ⟨(some 13), .mov (.t 55), none⟩] .done)
       (.seq (.seq (.ops false [⟨(some 56), .mov (.t 8), none⟩,
          ⟨(some 57), .mov (.t 13), none⟩,
          ⟨(some 58), .conv .u32 (.t 57), none⟩,
          ⟨(some 59), .mov (.t 12), none⟩,
          ⟨(some 60), .conv .u32 (.t 59), none⟩,
          ⟨(some 61), .build [(.v (.int .u32 0)), (.v (.int .u32 0)), (.v (.int .u32 0)), (.v (.int .i64 0)), (.v (.bool false))] [(1, 1, (.t 60))], none⟩,
          ⟨(some 62), .bslice 42 [.int .u32, .int .u32, .int .u32, .int .i64, .bool] 1 [(.v (.int .u32 0)), (.v (.int .u32 0)), (.v (.int .u32 0)), (.v (.int .i64 0)), (.v (.bool false))] [(0, 5, (.t 61))], none⟩,
          ⟨(some 63), .call 8 [(.t 56), (.t 58), (.t 62)], none⟩,
          ⟨(some 64), .un .not (.t 63), none⟩] .done)
        (.cond (.t 64)
         (.seq (.ops false [⟨(some 6), .mov (.c (.v (.bool false))), none⟩] .done)
          .ret)
         .skip))
       (.seq (.ops false [⟨(some 65), .mov (.t 11), none⟩,
         ⟨(some 66), .mov (.t 13), none⟩,
         ⟨(some 67), .mov (.t 12), none⟩,
         ⟨(some 68), .conv .u32 (.t 67), none⟩,
         ⟨(some 69), .idx 1 (.t 65) (.t 66), none⟩,
         ⟨none, .store 1 (.t 69) (.t 68), none⟩] .done)
       (.seq (.ops false [⟨(some 70), .mov (.t 10), none⟩,
         ⟨(some 71), .mov (.t 13), none⟩,
         ⟨(some 72), .call 19 [(.t 70), (.t 71)], none⟩,
         ⟨(some 73), .un .not (.t 72), none⟩] .done)
       (.cond (.t 73)
        (.seq (.ops false [⟨(some 74), .mov (.t 10), none⟩,
           ⟨(some 75), .mov (.t 13), none⟩,
           ⟨(some 76), .bslice 3 [.int .i64] 1 [(.v (.int .i64 0))] [(0, 1, (.t 75))], none⟩,
           ⟨(some 77), .append 3 [.int .i64] [(.int .i64 0)] 8 (.t 74) (.t 76), none⟩,
           ⟨(some 10), .mov (.t 77), none⟩] .done)
         (.seq (.ops false [⟨(some 78), .mov (.t 10), none⟩,
           ⟨(some 79), .len (.t 78), none⟩,
           ⟨(some 80), .mov (.t 0), none⟩,
           ⟨(some 81), .bin .gtr (.t 79) (.t 80), none⟩] .done)
         (.cond (.t 81)
          (.ops false [⟨(some 82), .mov (.t 10), none⟩,
            ⟨(some 83), .slice 1 (.t 82) (some (.c (.v (.int .i64 1)))) none none, none⟩,
            ⟨(some 10), .mov (.t 83), none⟩] .done)
          .skip)))
        .skip))))))
     (.ops false [⟨(some 49), .mov (.t 12), none⟩,
      ⟨(some 50), .bin .add (.t 49) (.c (.v (.int .i64 1))), none⟩,
      ⟨(some 12), .mov (.t 50), none⟩] .done))))))
  (.seq (.ops false [⟨(some 84), .mov (.t 2), none⟩,
    ⟨(some 85), .bin .and (.t 84) (.c (.v (.int .i64 15))), none⟩,
    ⟨(some 2), .mov (.t 85), none⟩] .done)
  (.seq (.ops false [⟨(some 86), .mov (.t 8), none⟩,
    ⟨(some 87), .mov (.t 2), none⟩,
    ⟨(some 88), .conv .u32 (.t 87), none⟩,
    ⟨(some 89), .bslice 23 [.int .u32] 1 [(.v (.int .u32 0))] [(0, 1, (.t 88))], none⟩,
    ⟨(some 90), .call 10 [(.t 86), (.t 89)], none⟩] .done)
  (.seq (.ops false [⟨(some 14), .mov (.c (.v (.int .i64 0))), none⟩] .done)
  (.seq (.seq (.ops false [⟨(some 15), .mov (.c (.v (.int .i64 0))), none⟩] .done)
   (.block 2 (.loop (.seq (.seq (.ops false [⟨(some 91), .mov (.t 15), none⟩,
        ⟨(some 92), .bin .lss (.t 91) (.c (.v (.int .i64 16))), none⟩] .done)
      (.cond (.t 92)
       .skip
       (.exit 2)))
     (.seq (.block 3 (.seq (.ops false [⟨(some 96), .mov (.t 8), none⟩,
         ⟨(some 97), .mov (.t 15), none⟩,
         ⟨(some 98), .conv .u32 (.t 97), none⟩,
         ⟨(some 99), .call 12 [(.t 96), (.t 98)], none⟩,
         ⟨(some 95), .mov (.t 99), none⟩,
         ⟨(some 100), .ext (.t 95) 0, none⟩,
         ⟨(some 101), .ext (.t 95) 1, none⟩,
         ⟨(some 16), .mov (.t 100), none⟩,
         ⟨(some 17), .mov (.t 101), none⟩] .done)
       (.seq (.ops false [⟨(some 102), .mov (.t 10), none⟩,
         ⟨(some 103), .mov (.t 15), none⟩,
         ⟨(some 104), .call 19 [(.t 102), (.t 103)], none⟩,
         ⟨(some 105), .mov (.t 104), none⟩,
         ⟨(some 106), .mov (.t 15), some (105, true)⟩,
         ⟨(some 107), .mov (.t 2), some (105, true)⟩,
         ⟨(some 108), .bin .neq (.t 106) (.t 107), some (105, true)⟩,
         ⟨(some 109), .pick (.t 105) (.t 108) (.c (.v (.bool false))), none⟩,
         ⟨(some 18), .mov (.t 109), none⟩] .done)
       (.seq (.seq (.ops true [⟨(some 110), .mov (.t 17), none⟩,
          ⟨(some 111), .mov (.t 18), none⟩,
          ⟨(some 112), .eqb true (.t 110) (.t 111), none⟩,
          ⟨(some 113), .mov (.t 112), none⟩,
          ⟨(some 114), .mov (.t 17), some (113, false)⟩,
          ⟨(some 115), .mov (.t 114), some (113, false)⟩,
          ⟨(some 116), .mov (.t 16), some (115, true)⟩,
          ⟨(some 117), .len (.t 116), some (115, true)⟩,
          ⟨(some 118), .bin .neq (.t 117) (.c (.v (.int .i64 1))), some (115, true)⟩,
          ⟨(some 119), .mov (.t 118), some (115, true)⟩,
          ⟨(some 120), .mov (.t 16), some (119, false)⟩,
          ⟨(some 121), .idx 5 (.t 120) (.c (.v (.int .i64 0))), some (119, false)⟩,
          ⟨(some 122), .fld 1 (.t 121), some (119, false)⟩,
          ⟨(some 123), .load none (.t 122), some (119, false)⟩,
          ⟨(some 124), .mov (.t 11), some (119, false)⟩,
          ⟨(some 125), .mov (.t 15), some (119, false)⟩,
          ⟨(some 126), .idx 1 (.t 124) (.t 125), some (119, false)⟩,
          ⟨(some 127), .load none (.t 126), some (119, false)⟩,
          ⟨(some 128), .bin .neq (.t 123) (.t 127), some (119, false)⟩,
          ⟨(some 129), .pick (.t 119) (.c (.v (.bool true))) (.t 128), some (115, true)⟩,
          ⟨(some 130), .pick (.t 115) (.t 129) (.c (.v (.bool false))), some (113, false)⟩,
          ⟨(some 131), .pick (.t 113) (.c (.v (.bool true))) (.t 130), none⟩] (.take 0 [0, 2, 3, 4, 5, 20, 21, 6, 7, 8, 9, 19, 10, 11, 12, 13, 14, 15, 16, 17, 18] (.take 1 [1, 2, 3, 4, 5, 20, 21, 6, 7, 8, 9, 19, 10, 11, 12, 13, 14, 15, 16, 17, 18] (.take 2 [2, 3, 4, 5, 20, 21, 6, 7, 8, 9, 19, 10, 11, 12, 13, 14, 15, 16, 17, 18] (.take 3 [3, 4, 5, 20, 21, 6, 7, 8, 9, 19, 10, 11, 12, 13, 14, 15, 16, 17, 18] (.take 4 [4, 5, 6, 7, 8, 9, 19, 20, 10, 11, 12, 13, 14, 15, 16, 17, 18, 21] (.take 5 [5, 6, 7, 8, 9, 19, 20, 10, 11, 12, 13, 14, 15, 16, 17, 18, 21] (.take 6 [6, 7, 8, 9, 10, 11, 12, 13, 14, 15, 16, 17, 18, 19, 20, 21] (.take 7 [7, 8, 9, 10, 11, 12, 13, 14, 15, 16, 17, 18, 19, 20, 21] (.take 8 [8, 9, 10, 11, 12, 13, 14, 15, 16, 17, 18, 19, 20, 21] (.take 9 [9, 10, 11, 12, 13, 14, 15, 16, 17, 18, 19, 20, 21] (.take 10 [10, 11, 12, 13, 18, 19, 20, 21] (.take 11 [11, 12, 13, 18, 19, 20, 21] (.take 12 [12, 13, 18, 19, 20, 21] (.take 13 [13, 18, 19, 20, 21] (.take 14 [14, 16, 17, 18, 19, 20, 21] (.take 15 [15, 16, 17, 18, 19, 20, 21] (.take 16 [16, 17, 18, 19, 20, 21] (.take 17 [17, 18, 19, 20, 21] (.take 18 [18, 19, 20, 21] (.take 19 [19, 20, 21] (.take 20 [20, 21] (.take 21 [21] .done)))))))))))))))))))))))
        (.cond (.t 131)
         (.seq (.ops false [⟨(some 6), .mov (.c (.v (.bool false))), none⟩] .done)
          .ret)
         .skip))
       (.seq (.ops false [⟨(some 132), .mov (.t 17), none⟩] .done)
       (.cond (.t 132)
        (.ops false [⟨(some 133), .mov (.t 14), none⟩,
          ⟨(some 134), .bin .add (.t 133) (.c (.v (.int .i64 1))), none⟩,
          ⟨(some 14), .mov (.t 134), none⟩] .done)
        .skip))))))
     (.ops false [⟨(some 93), .mov (.t 15), none⟩,
      ⟨(some 94), .bin .add (.t 93) (.c (.v (.int .i64 1))), none⟩,
      ⟨(some 15), .mov (.t 94), none⟩] .done))))))
  (.seq (.seq (.ops false [⟨(some 135), .mov (.t 8), none⟩,
     ⟨(some 136), .call 15 [(.t 135)], none⟩,
     ⟨(some 137), .mov (.t 14), none⟩,
     ⟨(some 138), .bin .neq (.t 136) (.t 137), none⟩] .done)
   (.cond (.t 138)
    (.seq (.ops false [⟨(some 6), .mov (.c (.v (.bool false))), none⟩] .done)
     .ret)
    .skip))
  (.seq (.ops false [⟨(some 139), .mov (.t 8), none⟩,
    ⟨(some 140), .call 10 [(.t 139), (.c (.v (.slice none 0 0)))], none⟩] .done)
  (.seq (.ops false [⟨(some 141), .mov (.t 8), none⟩,
    ⟨(some 142), .call 15 [(.t 141)], none⟩,
    ⟨(some 143), .bin .eql (.t 142) (.c (.v (.int .i64 0))), none⟩,
    ⟨(some 6), .mov (.t 143), none⟩] .done)
  .ret)))))))))))))))))⟩
theorem pf4_eq : (Tryd.f4.body.map fun c => (cfn Tryd.prog pl4 Tryd.f4 c, guardsAll pl4 c)) = some (pf4, true) := by kernel_rfl

/-- corral/corrallaw21.first  sizes [] -/
def pl5 : Nat → DT := dtGet []
def pf5 : PFn := ⟨33, [.t 0], (.seq (.ops false [⟨(some 0), .mov (.c (.v (.bool false))), none⟩] .done)
  (.seq (.ops false [⟨(some 6), .call 6 [(.c (.v (.int .i64 1)))], none⟩,
    ⟨(some 5), .mov (.t 6), none⟩,
    ⟨(some 7), .ext (.t 5) 0, none⟩,
    ⟨(some 8), .ext (.t 5) 1, none⟩,
    ⟨(some 1), .mov (.t 7), none⟩,
    ⟨(some 2), .mov (.t 8), none⟩] .done)
  (.seq (.seq (.ops false [⟨(some 9), .mov (.t 1), none⟩,
     ⟨(some 10), .eqp 0 true false (.t 9) (.c (.v (.pointer none))), none⟩,
     ⟨(some 11), .mov (.t 10), none⟩,
     ⟨(some 12), .mov (.t 2), some (11, false)⟩,
     ⟨(some 13), .eqp 1 true true (.t 12) (.c (.v .nilIface)), some (11, false)⟩,
     ⟨(some 14), .pick (.t 11) (.c (.v (.bool true))) (.t 13), none⟩] .done)
   (.cond (.t 14)
    (.seq (.ops false [⟨(some 0), .mov (.c (.v (.bool false))), none⟩] .done)
     .ret)
    .skip))
  (.seq (.ops false [⟨(some 15), .mov (.t 1), none⟩,
    ⟨(some 16), .build [(.v (.int .u32 0)), (.v (.int .u32 0)), (.v (.int .u32 0)), (.v (.int .i64 0)), (.v (.bool false))] [], none⟩,
    ⟨(some 17), .bslice 42 [.int .u32, .int .u32, .int .u32, .int .i64, .bool] 1 [(.v (.int .u32 0)), (.v (.int .u32 0)), (.v (.int .u32 0)), (.v (.int .i64 0)), (.v (.bool false))] [(0, 5, (.t 16))], none⟩,
    ⟨(some 18), .call 8 [(.t 15), (.c (.v (.int .u32 3))), (.t 17)], none⟩,
    ⟨(some 3), .mov (.t 18), none⟩] .done)
  (.seq (.ops false [⟨(some 19), .mov (.t 1), none⟩,
    ⟨(some 20), .build [(.v (.int .u32 0)), (.v (.int .u32 0)), (.v (.int .u32 0)), (.v (.int .i64 0)), (.v (.bool false))] [], none⟩,
    ⟨(some 21), .bslice 42 [.int .u32, .int .u32, .int .u32, .int .i64, .bool] 1 [(.v (.int .u32 0)), (.v (.int .u32 0)), (.v (.int .u32 0)), (.v (.int .i64 0)), (.v (.bool false))] [(0, 5, (.t 20))], none⟩,
    ⟨(some 22), .call 8 [(.t 19), (.c (.v (.int .u32 4))), (.t 21)], none⟩,
    ⟨(some 4), .mov (.t 22), none⟩] .done)
  (.seq (.ops false [⟨(some 23), .mov (.t 3), none⟩,
    ⟨(some 24), .mov (.t 23), none⟩,
    ⟨(some 25), .mov (.t 4), some (24, true)⟩,
    ⟨(some 26), .pick (.t 24) (.t 25) (.c (.v (.bool false))), none⟩,
    ⟨(some 27), .mov (.t 26), none⟩,
    ⟨(some 28), .mov (.t 1), some (27, true)⟩,
    ⟨(some 29), .call 17 [(.t 28)], some (27, true)⟩,
    ⟨(some 30), .bslice 23 [.int .u32] 1 [(.v (.int .u32 0))] [(0, 1, (.c (.v (.int .u32 4))))], some (27, true)⟩,
    ⟨(some 31), .call 16 [(.t 29), (.t 30)], some (27, true)⟩,
    ⟨(some 32), .pick (.t 27) (.t 31) (.c (.v (.bool false))), none⟩,
    ⟨(some 0), .mov (.t 32), none⟩] .done)
  .ret))))))⟩
theorem pf5_eq : (Tryd.f5.body.map fun c => (cfn Tryd.prog pl5 Tryd.f5 c, guardsAll pl5 c)) = some (pf5, true) := by kernel_rfl

/-- corral/tlb.New  sizes [(2, 4)] -/
def pl6 : Nat → DT := dtGet [(2, (.take 0 [0, 2] (.take 1 [1, 2] (.take 2 [2] .done))))]
def pf6 : PFn := ⟨14, [.t 2, .t 3], (.seq (.ops false [⟨(some 2), .mov (.c (.v (.pointer none))), none⟩,
    ⟨(some 3), .mov (.c (.v .nilIface)), none⟩] .done)
  (.seq (.seq (.ops false [⟨(some 4), .mov (.t 0), none⟩,
     ⟨(some 5), .bin .lss (.t 4) (.c (.v (.int .i64 1))), none⟩,
     ⟨(some 6), .mov (.t 5), none⟩,
     ⟨(some 7), .mov (.t 0), some (6, false)⟩,
     ⟨(some 8), .bin .gtr (.t 7) (.c (.v (.int .i64 64))), some (6, false)⟩,
     ⟨(some 9), .pick (.t 6) (.c (.v (.bool true))) (.t 8), none⟩] .done)
   (.cond (.t 9)
    (.seq (.ops true [⟨(some 10), .load none (.c (.v (.pointer (some ⟨0, 0, none⟩)))), none⟩,
       ⟨(some 2), .mov (.c (.v (.pointer none))), none⟩,
       ⟨(some 3), .mov (.t 10), none⟩] (.take 0 [0, 2] (.take 1 [1, 2] (.take 2 [2] .done))))
     .ret)
    .skip))
  (.seq (.ops false [⟨(some 11), .mov (.t 0), none⟩,
    ⟨(some 12), .build [(.v (.int .i64 0)), (.v (.slice none 0 0))] [(0, 1, (.t 11))], none⟩,
    ⟨(some 13), .box 60 (.t 12), none⟩,
    ⟨(some 2), .mov (.t 13), none⟩,
    ⟨(some 3), .mov (.c (.v .nilIface)), none⟩] .done)
  .ret)))⟩
theorem pf6_eq : (Tryd.f6.body.map fun c => (cfn Tryd.prog pl6 Tryd.f6 c, guardsAll pl6 c)) = some (pf6, true) := by kernel_rfl

/-- corral/corralsee.Is  sizes [] -/
def pl7 : Nat → DT := dtGet []
def pf7 : PFn := ⟨9, [.t 4], (.seq (.ops false [⟨(some 4), .mov (.c (.v (.bool false))), none⟩] .done)
  (.seq (.ops false [⟨(some 5), .mov (.t 0), none⟩,
    ⟨(some 6), .mov (.t 1), none⟩,
    ⟨(some 7), .call 21 [(.t 6)], none⟩,
    ⟨(some 8), .call 20 [(.t 5), (.t 7)], none⟩,
    ⟨(some 4), .mov (.t 8), none⟩] .done)
  .ret))⟩
theorem pf7_eq : (Tryd.f7.body.map fun c => (cfn Tryd.prog pl7 Tryd.f7 c, guardsAll pl7 c)) = some (pf7, true) := by kernel_rfl

/-- (*corral/tlb.TLB).Put  sizes [(5, 11), (7, 11), (9, 15)] -/
def pl8 : Nat → DT := dtGet [(5, (.take 0 [0, 1, 7, 8, 9, 2, 3] (.take 1 [1, 2, 7, 8, 9, 3] (.take 2 [2, 3, 7, 8, 9] (.take 3 [3, 7, 8, 9] (.take 4 [4, 7, 8, 9] (.take 5 [5, 6, 7, 8, 9] (.eff true 6 (.take 7 [7, 8, 9] (.take 8 [8, 9] (.eff false 9 .done))))))))))), (7, (.take 0 [0, 1, 2, 3, 4, 9] (.take 1 [1, 2, 3, 4, 9] (.take 2 [2, 3, 4, 9] (.take 3 [3, 4, 9] (.take 4 [4, 9] (.take 5 [5, 6, 7, 8, 9] (.take 6 [6, 7, 8, 9] (.take 7 [7, 8, 9] (.take 8 [8, 9] (.take 9 [9] .done))))))))))), (9, (.take 0 [0, 11, 12, 13] (.take 1 [1, 2, 11, 12, 13, 3, 4, 10] (.take 2 [2, 3, 11, 12, 13, 4, 10] (.take 3 [3, 4, 11, 12, 13, 10] (.take 4 [4, 10, 11, 12, 13] (.take 5 [5, 8, 11, 12, 13, 9, 10] (.take 6 [6, 7, 11, 12, 13, 8, 10, 9] (.eff true 7 (.take 8 [8, 9, 11, 12, 13, 10] (.eff true 9 (.eff false 10 (.take 11 [11, 12, 13] (.take 12 [12, 13] (.eff false 13 .done)))))))))))))))]
def pf8 : PFn := ⟨66, [.t 6], (.seq (.ops false [⟨(some 6), .mov (.c (.v (.bool false))), none⟩] .done)
  (.seq (.seq (.ops false [⟨(some 8), .mov (.t 1), none⟩,
     ⟨(some 9), .bin .gtr (.t 8) (.c (.v (.int .u32 1048575))), none⟩,
     ⟨(some 10), .mov (.t 9), none⟩,
     ⟨(some 11), .mov (.t 2), some (10, false)⟩,
     ⟨(some 12), .len (.t 11), some (10, false)⟩,
     ⟨(some 13), .bin .lss (.t 12) (.c (.v (.int .i64 1))), some (10, false)⟩,
     ⟨(some 14), .pick (.t 10) (.c (.v (.bool true))) (.t 13), none⟩,
     ⟨(some 15), .mov (.t 14), none⟩,
     ⟨(some 16), .mov (.t 2), some (15, false)⟩,
     ⟨(some 17), .len (.t 16), some (15, false)⟩,
     ⟨(some 18), .bin .gtr (.t 17) (.c (.v (.int .i64 2))), some (15, false)⟩,
     ⟨(some 19), .pick (.t 15) (.c (.v (.bool true))) (.t 18), none⟩] .done)
   (.cond (.t 19)
    (.seq (.ops false [⟨(some 6), .mov (.c (.v (.bool false))), none⟩] .done)
     .ret)
    .skip))
  (.seq (.seq (.ops false [⟨(some 20), .mov (.t 0), none⟩,
     ⟨(some 21), .mov (.t 1), none⟩,
     ⟨(some 22), .call 22 [(.t 20), (.t 21)], none⟩,
     ⟨(some 7), .mov (.t 22), none⟩] .done)
   (.seq (.ops false [⟨(some 23), .mov (.t 7), none⟩,
     ⟨(some 24), .bin .geq (.t 23) (.c (.v (.int .i64 0))), none⟩] .done)
   (.cond (.t 24)
    (.seq (.ops true [⟨(some 25), .mov (.t 0), none⟩,
       ⟨(some 26), .nilck (.t 25), none⟩,
       ⟨(some 27), .fld 1 (.t 26), none⟩,
       ⟨(some 28), .load none (.t 27), none⟩,
       ⟨(some 29), .mov (.t 7), none⟩,
       ⟨(some 30), .mov (.t 2), none⟩,
       ⟨(some 31), .call 23 [(.t 30)], none⟩,
       ⟨(some 32), .idx 2 (.t 28) (.t 29), none⟩,
       ⟨(some 33), .fld 1 (.t 32), none⟩,
       ⟨none, .store 1 (.t 33) (.t 31), none⟩] (.take 0 [0, 1, 7, 8, 9, 2, 3] (.take 1 [1, 2, 7, 8, 9, 3] (.take 2 [2, 3, 7, 8, 9] (.take 3 [3, 7, 8, 9] (.take 4 [4, 7, 8, 9] (.take 5 [5, 6, 7, 8, 9] (.eff true 6 (.take 7 [7, 8, 9] (.take 8 [8, 9] (.eff false 9 .done)))))))))))
     (.seq (.ops false [⟨(some 6), .mov (.c (.v (.bool true))), none⟩] .done)
     .ret))
    .skip)))
  (.seq (.seq (.ops true [⟨(some 34), .mov (.t 0), none⟩,
     ⟨(some 35), .nilck (.t 34), none⟩,
     ⟨(some 36), .fld 1 (.t 35), none⟩,
     ⟨(some 37), .load none (.t 36), none⟩,
     ⟨(some 38), .len (.t 37), none⟩,
     ⟨(some 39), .mov (.t 0), none⟩,
     ⟨(some 40), .nilck (.t 39), none⟩,
     ⟨(some 41), .fld 0 (.t 40), none⟩,
     ⟨(some 42), .load none (.t 41), none⟩,
     ⟨(some 43), .bin .eql (.t 38) (.t 42), none⟩] (.take 0 [0, 1, 2, 3, 4, 9] (.take 1 [1, 2, 3, 4, 9] (.take 2 [2, 3, 4, 9] (.take 3 [3, 4, 9] (.take 4 [4, 9] (.take 5 [5, 6, 7, 8, 9] (.take 6 [6, 7, 8, 9] (.take 7 [7, 8, 9] (.take 8 [8, 9] (.take 9 [9] .done)))))))))))
   (.cond (.t 43)
    (.ops false [⟨(some 44), .mov (.t 0), none⟩,
      ⟨(some 45), .mov (.t 0), none⟩,
      ⟨(some 46), .nilck (.t 45), none⟩,
      ⟨(some 47), .fld 1 (.t 46), none⟩,
      ⟨(some 48), .load none (.t 47), none⟩,
      ⟨(some 49), .slice 2 (.t 48) (some (.c (.v (.int .i64 1)))) none none, none⟩,
      ⟨(some 50), .call 24 [(.t 49)], none⟩,
      ⟨(some 51), .nilck (.t 44), none⟩,
      ⟨(some 52), .fld 1 (.t 51), none⟩,
      ⟨none, .store 1 (.t 52) (.t 50), none⟩] .done)
    .skip))
  (.seq (.ops true [⟨(some 53), .mov (.t 0), none⟩,
    ⟨(some 54), .mov (.t 0), none⟩,
    ⟨(some 55), .nilck (.t 54), none⟩,
    ⟨(some 56), .fld 1 (.t 55), none⟩,
    ⟨(some 57), .load none (.t 56), none⟩,
    ⟨(some 58), .mov (.t 1), none⟩,
    ⟨(some 59), .mov (.t 2), none⟩,
    ⟨(some 60), .call 23 [(.t 59)], none⟩,
    ⟨(some 61), .build [(.v (.int .u32 0)), (.v (.slice none 0 0))] [(0, 1, (.t 58)), (1, 1, (.t 60))], none⟩,
    ⟨(some 62), .bslice 68 [.int .u32, .sl] 1 [(.v (.int .u32 0)), (.v (.slice none 0 0))] [(0, 2, (.t 61))], none⟩,
    ⟨(some 63), .append 68 [.int .u32, .sl] [(.int .u32 0), (.slice none 0 0)] 32 (.t 57) (.t 62), none⟩,
    ⟨(some 64), .nilck (.t 53), none⟩,
    ⟨(some 65), .fld 1 (.t 64), none⟩,
    ⟨none, .store 1 (.t 65) (.t 63), none⟩] (.take 0 [0, 11, 12, 13] (.take 1 [1, 2, 11, 12, 13, 3, 4, 10] (.take 2 [2, 3, 11, 12, 13, 4, 10] (.take 3 [3, 4, 11, 12, 13, 10] (.take 4 [4, 10, 11, 12, 13] (.take 5 [5, 8, 11, 12, 13, 9, 10] (.take 6 [6, 7, 11, 12, 13, 8, 10, 9] (.eff true 7 (.take 8 [8, 9, 11, 12, 13, 10] (.eff true 9 (.eff false 10 (.take 11 [11, 12, 13] (.take 12 [12, 13] (.eff false 13 .done)))))))))))))))
  (.seq (.ops false [⟨(some 6), .mov (.c (.v (.bool true))), none⟩] .done)
  .ret))))))⟩
theorem pf8_eq : (Tryd.f8.body.map fun c => (cfn Tryd.prog pl8 Tryd.f8 c, guardsAll pl8 c)) = some (pf8, true) := by kernel_rfl

/-- (*corral/corralref21.TLB).Put  sizes [(6, 9), (8, 11), (10, 37)] -/
def pl9 : Nat → DT := dtGet [(6, (.take 0 [0, 1, 6, 7, 2, 3] (.take 1 [1, 2, 6, 7, 3] (.take 2 [2, 3, 6, 7] (.take 3 [3, 6, 7] (.take 4 [4, 6, 7] (.take 5 [5, 6, 7] (.take 6 [6, 7] (.eff false 7 .done))))))))), (8, (.take 0 [0, 1, 2, 3, 4, 9] (.take 1 [1, 2, 3, 4, 9] (.take 2 [2, 3, 4, 9] (.take 3 [3, 4, 9] (.take 4 [4, 9] (.take 5 [5, 6, 7, 8, 9] (.take 6 [6, 7, 8, 9] (.take 7 [7, 8, 9] (.take 8 [8, 9] (.take 9 [9] .done))))))))))), (10, (.take 0 [0, 16, 17, 18] (.take 1 [1, 2, 16, 17, 18, 3, 4, 5, 6, 7, 12, 15] (.take 2 [2, 3, 16, 17, 18, 4, 5, 6, 7, 12, 15] (.take 3 [3, 4, 16, 17, 18, 5, 6, 7, 12, 15] (.take 4 [4, 5, 16, 17, 18, 6, 7, 12, 15] (.take 5 [5, 6, 16, 17, 18, 7, 12, 15] (.take 6 [6, 7, 16, 17, 18, 12, 15] (.take 8 [8, 9, 16, 17, 18, 10, 11, 12, 15] (.take 9 [9, 10, 16, 17, 18, 11, 12, 15] (.take 10 [10, 11, 16, 17, 18, 12, 15] (.take 11 [11, 12, 16, 17, 18, 15] (.take 13 [13, 14, 16, 17, 18, 15] (.both (.eff true 7 (.both (.eff false 12 (.eff true 14 (.eff false 15 (.take 16 [16, 17, 18] (.take 17 [17, 18] (.eff false 18 .done)))))) (.eff true 14 (.eff false 12 (.eff false 15 (.take 16 [16, 17, 18] (.take 17 [17, 18] (.eff false 18 .done)))))))) (.eff true 14 (.eff true 7 (.eff false 12 (.eff false 15 (.take 16 [16, 17, 18] (.take 17 [17, 18] (.eff false 18 .done)))))))))))))))))))))]
def pf9 : PFn := ⟨73, [.t 6], (.seq (.ops false [⟨(some 6), .mov (.c (.v (.bool false))), none⟩] .done)
  (.seq (.seq (.ops false [⟨(some 9), .mov (.t 1), none⟩,
     ⟨(some 10), .bin .geq (.t 9) (.c (.v (.int .u32 1048576))), none⟩,
     ⟨(some 11), .mov (.t 10), none⟩,
     ⟨(some 12), .mov (.t 2), some (11, false)⟩,
     ⟨(some 13), .len (.t 12), some (11, false)⟩,
     ⟨(some 14), .bin .lss (.t 13) (.c (.v (.int .i64 1))), some (11, false)⟩,
     ⟨(some 15), .pick (.t 11) (.c (.v (.bool true))) (.t 14), none⟩,
     ⟨(some 16), .mov (.t 15), none⟩,
     ⟨(some 17), .mov (.t 2), some (16, false)⟩,
     ⟨(some 18), .len (.t 17), some (16, false)⟩,
     ⟨(some 19), .bin .gtr (.t 18) (.c (.v (.int .i64 2))), some (16, false)⟩,
     ⟨(some 20), .pick (.t 16) (.c (.v (.bool true))) (.t 19), none⟩] .done)
   (.cond (.t 20)
    (.seq (.ops false [⟨(some 6), .mov (.c (.v (.bool false))), none⟩] .done)
     .ret)
    .skip))
  (.seq (.ops false [⟨(some 21), .mov (.t 0), none⟩,
    ⟨(some 22), .mov (.t 1), none⟩,
    ⟨(some 23), .call 25 [(.t 21), (.t 22)], none⟩,
    ⟨(some 7), .mov (.t 23), none⟩] .done)
  (.seq (.ops false [⟨(some 24), .mov (.t 1), none⟩,
    ⟨(some 25), .mov (.t 2), none⟩,
    ⟨(some 26), .call 26 [(.t 25)], none⟩,
    ⟨(some 27), .build [(.v (.int .u32 0)), (.v (.slice none 0 0))] [(0, 1, (.t 24)), (1, 1, (.t 26))], none⟩,
    ⟨(some 8), .box 50 (.c (.agg [(.v (.int .u32 0)), (.v (.slice none 0 0))])), none⟩,
    ⟨none, .store 2 (.t 8) (.t 27), none⟩] .done)
  (.seq (.seq (.ops false [⟨(some 28), .mov (.t 7), none⟩,
     ⟨(some 29), .bin .geq (.t 28) (.c (.v (.int .i64 0))), none⟩] .done)
   (.cond (.t 29)
    (.seq (.ops true [⟨(some 30), .mov (.t 0), none⟩,
       ⟨(some 31), .nilck (.t 30), none⟩,
       ⟨(some 32), .fld 1 (.t 31), none⟩,
       ⟨(some 33), .load none (.t 32), none⟩,
       ⟨(some 34), .mov (.t 7), none⟩,
       ⟨(some 35), .load (some 2) (.t 8), none⟩,
       ⟨(some 36), .idx 2 (.t 33) (.t 34), none⟩,
       ⟨none, .store 2 (.t 36) (.t 35), none⟩] (.take 0 [0, 1, 6, 7, 2, 3] (.take 1 [1, 2, 6, 7, 3] (.take 2 [2, 3, 6, 7] (.take 3 [3, 6, 7] (.take 4 [4, 6, 7] (.take 5 [5, 6, 7] (.take 6 [6, 7] (.eff false 7 .done)))))))))
     (.seq (.ops false [⟨(some 6), .mov (.c (.v (.bool true))), none⟩] .done)
     .ret))
    .skip))
  (.seq (.seq (.ops true [⟨(some 37), .mov (.t 0), none⟩,
     ⟨(some 38), .nilck (.t 37), none⟩,
     ⟨(some 39), .fld 1 (.t 38), none⟩,
     ⟨(some 40), .load none (.t 39), none⟩,
     ⟨(some 41), .len (.t 40), none⟩,
     ⟨(some 42), .mov (.t 0), none⟩,
     ⟨(some 43), .nilck (.t 42), none⟩,
     ⟨(some 44), .fld 0 (.t 43), none⟩,
     ⟨(some 45), .load none (.t 44), none⟩,
     ⟨(some 46), .bin .eql (.t 41) (.t 45), none⟩] (.take 0 [0, 1, 2, 3, 4, 9] (.take 1 [1, 2, 3, 4, 9] (.take 2 [2, 3, 4, 9] (.take 3 [3, 4, 9] (.take 4 [4, 9] (.take 5 [5, 6, 7, 8, 9] (.take 6 [6, 7, 8, 9] (.take 7 [7, 8, 9] (.take 8 [8, 9] (.take 9 [9] .done)))))))))))
   (.cond (.t 46)
    (.ops false [⟨(some 47), .mov (.t 0), none⟩,
      ⟨(some 48), .mov (.t 0), none⟩,
      ⟨(some 49), .nilck (.t 48), none⟩,
      ⟨(some 50), .fld 1 (.t 49), none⟩,
      ⟨(some 51), .load none (.t 50), none⟩,
      ⟨(some 52), .slice 2 (.t 51) (some (.c (.v (.int .i64 1)))) none none, none⟩,
      ⟨(some 53), .nilck (.t 47), none⟩,
      ⟨(some 54), .fld 1 (.t 53), none⟩,
      ⟨none, .store 1 (.t 54) (.t 52), none⟩] .done)
    .skip))
  (.seq (.ops true [⟨(some 55), .mov (.t 0), none⟩,
    ⟨(some 56), .mov (.t 0), none⟩,
    ⟨(some 57), .nilck (.t 56), none⟩,
    ⟨(some 58), .fld 1 (.t 57), none⟩,
    ⟨(some 59), .load none (.t 58), none⟩,
    ⟨(some 60), .len (.t 59), none⟩,
    ⟨(some 61), .bin .add (.t 60) (.c (.v (.int .i64 1))), none⟩,
    ⟨(some 62), .mslice 50 [.int .u32, .sl] [(.int .u32 0), (.slice none 0 0)] 32 (.c (.v (.int .i64 0))) (.t 61), none⟩,
    ⟨(some 63), .mov (.t 0), none⟩,
    ⟨(some 64), .nilck (.t 63), none⟩,
    ⟨(some 65), .fld 1 (.t 64), none⟩,
    ⟨(some 66), .load none (.t 65), none⟩,
    ⟨(some 67), .append 50 [.int .u32, .sl] [(.int .u32 0), (.slice none 0 0)] 32 (.t 62) (.t 66), none⟩,
    ⟨(some 68), .load (some 2) (.t 8), none⟩,
    ⟨(some 69), .bslice 50 [.int .u32, .sl] 1 [(.v (.int .u32 0)), (.v (.slice none 0 0))] [(0, 2, (.t 68))], none⟩,
    ⟨(some 70), .append 50 [.int .u32, .sl] [(.int .u32 0), (.slice none 0 0)] 32 (.t 67) (.t 69), none⟩,
    ⟨(some 71), .nilck (.t 55), none⟩,
    ⟨(some 72), .fld 1 (.t 71), none⟩,
    ⟨none, .store 1 (.t 72) (.t 70), none⟩] (.take 0 [0, 16, 17, 18] (.take 1 [1, 2, 16, 17, 18, 3, 4, 5, 6, 7, 12, 15] (.take 2 [2, 3, 16, 17, 18, 4, 5, 6, 7, 12, 15] (.take 3 [3, 4, 16, 17, 18, 5, 6, 7, 12, 15] (.take 4 [4, 5, 16, 17, 18, 6, 7, 12, 15] (.take 5 [5, 6, 16, 17, 18, 7, 12, 15] (.take 6 [6, 7, 16, 17, 18, 12, 15] (.take 8 [8, 9, 16, 17, 18, 10, 11, 12, 15] (.take 9 [9, 10, 16, 17, 18, 11, 12, 15] (.take 10 [10, 11, 16, 17, 18, 12, 15] (.take 11 [11, 12, 16, 17, 18, 15] (.take 13 [13, 14, 16, 17, 18, 15] (.both (.eff true 7 (.both (.eff false 12 (.eff true 14 (.eff false 15 (.take 16 [16, 17, 18] (.take 17 [17, 18] (.eff false 18 .done)))))) (.eff true 14 (.eff false 12 (.eff false 15 (.take 16 [16, 17, 18] (.take 17 [17, 18] (.eff false 18 .done)))))))) (.eff true 14 (.eff true 7 (.eff false 12 (.eff false 15 (.take 16 [16, 17, 18] (.take 17 [17, 18] (.eff false 18 .done)))))))))))))))))))))
  (.seq (.ops false [⟨(some 6), .mov (.c (.v (.bool true))), none⟩] .done)
  .ret))))))))⟩
theorem pf9_eq : (Tryd.f9.body.map fun c => (cfn Tryd.prog pl9 Tryd.f9 c, guardsAll pl9 c)) = some (pf9, true) := by kernel_rfl

/-- (*corral/tlb.TLB).Flush  sizes [] -/
def pl10 : Nat → DT := dtGet []
def pf10 : PFn := ⟨13, [], (.seq (.ops false [⟨(some 3), .box 36 (.t 1), none⟩] .done)
  (.ops false [⟨(some 4), .mov (.t 0), none⟩,
   ⟨(some 5), .mov (.t 0), none⟩,
   ⟨(some 6), .nilck (.t 5), none⟩,
   ⟨(some 7), .fld 1 (.t 6), none⟩,
   ⟨(some 8), .load none (.t 7), none⟩,
   ⟨(some 9), .clo (.func 28) [] [(.t 3)], none⟩,
   ⟨(some 10), .call 27 [(.t 8), (.t 9)], none⟩,
   ⟨(some 11), .nilck (.t 4), none⟩,
   ⟨(some 12), .fld 1 (.t 11), none⟩,
   ⟨none, .store 1 (.t 12) (.t 10), none⟩] .done))⟩
theorem pf10_eq : (Tryd.f10.body.map fun c => (cfn Tryd.prog pl10 Tryd.f10 c, guardsAll pl10 c)) = some (pf10, true) := by kernel_rfl

/-- (*corral/corralref21.TLB).Flush  sizes [(8, 18)] -/
def pl11 : Nat → DT := dtGet [(8, (.take 0 [0, 1, 16, 2, 3, 4, 5, 6, 7, 8, 9, 10, 11, 12, 13, 14, 15] (.take 1 [1, 2, 3, 4, 5, 6, 7, 8, 9, 10, 11, 12, 13, 14, 15, 16] (.take 2 [2, 4, 16, 5, 14, 15] (.take 3 [3, 4, 16, 5, 14, 15] (.take 4 [4, 5, 16, 14, 15] (.take 5 [5, 14, 16, 15] (.take 6 [6, 7, 16, 8, 9, 11, 12, 13, 14, 15] (.take 7 [7, 8, 16, 9, 11, 12, 13, 14, 15] (.take 8 [8, 9, 16, 11, 12, 13, 14, 15] (.take 9 [9, 11, 16, 12, 13, 14, 15] (.take 10 [10, 11, 16, 12, 13, 14, 15] (.take 11 [11, 12, 16, 13, 14, 15] (.take 12 [12, 13, 16, 14, 15] (.take 13 [13, 14, 16, 15] (.take 14 [14, 15, 16] (.take 15 [15, 16] (.take 16 [16] .done))))))))))))))))))]
def pf11 : PFn := ⟨60, [], (.seq (.ops false [⟨(some 4), .mov (.c (.v (.slice none 0 0))), none⟩] .done)
  (.seq (.seq (.ops false [⟨(some 5), .mov (.c (.v (.int .i64 0))), none⟩] .done)
   (.block 0 (.loop (.seq (.seq (.ops false [⟨(some 8), .mov (.t 5), none⟩,
        ⟨(some 9), .mov (.t 0), none⟩,
        ⟨(some 10), .nilck (.t 9), none⟩,
        ⟨(some 11), .fld 1 (.t 10), none⟩,
        ⟨(some 12), .load none (.t 11), none⟩,
        ⟨(some 13), .len (.t 12), none⟩,
        ⟨(some 14), .bin .lss (.t 8) (.t 13), none⟩,
        ⟨(some 15), .mov (.t 14), none⟩,
        ⟨(some 16), .mov (.t 1), some (15, true)⟩,
        ⟨(some 17), .len (.t 16), some (15, true)⟩,
        ⟨(some 18), .bin .gtr (.t 17) (.c (.v (.int .i64 0))), some (15, true)⟩,
        ⟨(some 19), .pick (.t 15) (.t 18) (.c (.v (.bool false))), none⟩] .done)
      (.cond (.t 19)
       .skip
       (.exit 0)))
     (.seq (.block 1 (.seq (.ops false [⟨(some 6), .mov (.c (.v (.bool false))), none⟩] .done)
       (.seq (.seq (.ops false [⟨(some 7), .mov (.c (.v (.int .i64 0))), none⟩] .done)
        (.block 2 (.loop (.seq (.seq (.ops false [⟨(some 22), .mov (.t 7), none⟩,
             ⟨(some 23), .mov (.t 1), none⟩,
             ⟨(some 24), .len (.t 23), none⟩,
             ⟨(some 25), .bin .lss (.t 22) (.t 24), none⟩] .done)
           (.cond (.t 25)
            .skip
            (.exit 2)))
          (.seq (.block 3 (.ops true [⟨(some 28), .mov (.t 6), none⟩,
             ⟨(some 29), .mov (.t 28), none⟩,
             ⟨(some 30), .mov (.t 1), some (29, false)⟩,
             ⟨(some 31), .mov (.t 7), some (29, false)⟩,
             ⟨(some 32), .idx 1 (.t 30) (.t 31), some (29, false)⟩,
             ⟨(some 33), .load none (.t 32), some (29, false)⟩,
             ⟨(some 34), .mov (.t 0), some (29, false)⟩,
             ⟨(some 35), .nilck (.t 34), some (29, false)⟩,
             ⟨(some 36), .fld 1 (.t 35), some (29, false)⟩,
             ⟨(some 37), .load none (.t 36), some (29, false)⟩,
             ⟨(some 38), .mov (.t 5), some (29, false)⟩,
             ⟨(some 39), .idx 2 (.t 37) (.t 38), some (29, false)⟩,
             ⟨(some 40), .fld 0 (.t 39), some (29, false)⟩,
             ⟨(some 41), .load none (.t 40), some (29, false)⟩,
             ⟨(some 42), .bin .eql (.t 33) (.t 41), some (29, false)⟩,
             ⟨(some 43), .pick (.t 29) (.c (.v (.bool true))) (.t 42), none⟩,
             ⟨(some 6), .mov (.t 43), none⟩] (.take 0 [0, 1, 16, 2, 3, 4, 5, 6, 7, 8, 9, 10, 11, 12, 13, 14, 15] (.take 1 [1, 2, 3, 4, 5, 6, 7, 8, 9, 10, 11, 12, 13, 14, 15, 16] (.take 2 [2, 4, 16, 5, 14, 15] (.take 3 [3, 4, 16, 5, 14, 15] (.take 4 [4, 5, 16, 14, 15] (.take 5 [5, 14, 16, 15] (.take 6 [6, 7, 16, 8, 9, 11, 12, 13, 14, 15] (.take 7 [7, 8, 16, 9, 11, 12, 13, 14, 15] (.take 8 [8, 9, 16, 11, 12, 13, 14, 15] (.take 9 [9, 11, 16, 12, 13, 14, 15] (.take 10 [10, 11, 16, 12, 13, 14, 15] (.take 11 [11, 12, 16, 13, 14, 15] (.take 12 [12, 13, 16, 14, 15] (.take 13 [13, 14, 16, 15] (.take 14 [14, 15, 16] (.take 15 [15, 16] (.take 16 [16] .done)))))))))))))))))))
          (.ops false [⟨(some 26), .mov (.t 7), none⟩,
           ⟨(some 27), .bin .add (.t 26) (.c (.v (.int .i64 1))), none⟩,
           ⟨(some 7), .mov (.t 27), none⟩] .done))))))
       (.seq (.ops false [⟨(some 44), .mov (.t 6), none⟩,
         ⟨(some 45), .un .not (.t 44), none⟩] .done)
       (.cond (.t 45)
        (.ops false [⟨(some 46), .mov (.t 4), none⟩,
          ⟨(some 47), .mov (.t 0), none⟩,
          ⟨(some 48), .nilck (.t 47), none⟩,
          ⟨(some 49), .fld 1 (.t 48), none⟩,
          ⟨(some 50), .load none (.t 49), none⟩,
          ⟨(some 51), .mov (.t 5), none⟩,
          ⟨(some 52), .idx 2 (.t 50) (.t 51), none⟩,
          ⟨(some 53), .load (some 2) (.t 52), none⟩,
          ⟨(some 54), .bslice 50 [.int .u32, .sl] 1 [(.v (.int .u32 0)), (.v (.slice none 0 0))] [(0, 2, (.t 53))], none⟩,
          ⟨(some 55), .append 50 [.int .u32, .sl] [(.int .u32 0), (.slice none 0 0)] 32 (.t 46) (.t 54), none⟩,
          ⟨(some 4), .mov (.t 55), none⟩] .done)
        .skip)))))
     (.ops false [⟨(some 20), .mov (.t 5), none⟩,
      ⟨(some 21), .bin .add (.t 20) (.c (.v (.int .i64 1))), none⟩,
      ⟨(some 5), .mov (.t 21), none⟩] .done))))))
  (.ops false [⟨(some 56), .mov (.t 0), none⟩,
   ⟨(some 57), .mov (.t 4), none⟩,
   ⟨(some 58), .nilck (.t 56), none⟩,
   ⟨(some 59), .fld 1 (.t 58), none⟩,
   ⟨none, .store 1 (.t 59) (.t 57), none⟩] .done)))⟩
theorem pf11_eq : (Tryd.f11.body.map fun c => (cfn Tryd.prog pl11 Tryd.f11 c, guardsAll pl11 c)) = some (pf11, true) := by kernel_rfl

/-- (*corral/tlb.TLB).Find  sizes [] -/
def pl12 : Nat → DT := dtGet []
def pf12 : PFn := ⟨21, [.t 4, .t 5], (.seq (.ops false [⟨(some 4), .mov (.c (.v (.slice none 0 0))), none⟩,
    ⟨(some 5), .mov (.c (.v (.bool false))), none⟩] .done)
  (.seq (.ops false [⟨(some 7), .mov (.t 0), none⟩,
    ⟨(some 8), .mov (.t 1), none⟩,
    ⟨(some 9), .call 22 [(.t 7), (.t 8)], none⟩,
    ⟨(some 6), .mov (.t 9), none⟩] .done)
  (.seq (.seq (.ops false [⟨(some 10), .mov (.t 6), none⟩,
     ⟨(some 11), .bin .lss (.t 10) (.c (.v (.int .i64 0))), none⟩] .done)
   (.cond (.t 11)
    (.seq (.ops false [⟨(some 4), .mov (.c (.v (.slice none 0 0))), none⟩,
       ⟨(some 5), .mov (.c (.v (.bool false))), none⟩] .done)
     .ret)
    .skip))
  (.seq (.ops false [⟨(some 12), .mov (.t 0), none⟩,
    ⟨(some 13), .nilck (.t 12), none⟩,
    ⟨(some 14), .fld 1 (.t 13), none⟩,
    ⟨(some 15), .load none (.t 14), none⟩,
    ⟨(some 16), .mov (.t 6), none⟩,
    ⟨(some 17), .idx 2 (.t 15) (.t 16), none⟩,
    ⟨(some 18), .fld 1 (.t 17), none⟩,
    ⟨(some 19), .load none (.t 18), none⟩,
    ⟨(some 20), .call 23 [(.t 19)], none⟩,
    ⟨(some 4), .mov (.t 20), none⟩,
    ⟨(some 5), .mov (.c (.v (.bool true))), none⟩] .done)
  .ret))))⟩
theorem pf12_eq : (Tryd.f12.body.map fun c => (cfn Tryd.prog pl12 Tryd.f12 c, guardsAll pl12 c)) = some (pf12, true) := by kernel_rfl

/-- (*corral/corralref21.TLB).Find  sizes [] -/
def pl13 : Nat → DT := dtGet []
def pf13 : PFn := ⟨20, [.t 4, .t 5], (.seq (.ops false [⟨(some 4), .mov (.c (.v (.slice none 0 0))), none⟩,
    ⟨(some 5), .mov (.c (.v (.bool false))), none⟩] .done)
  (.seq (.ops false [⟨(some 7), .mov (.t 0), none⟩,
    ⟨(some 8), .mov (.t 1), none⟩,
    ⟨(some 9), .call 25 [(.t 7), (.t 8)], none⟩,
    ⟨(some 6), .mov (.t 9), none⟩] .done)
  (.seq (.seq (.ops false [⟨(some 10), .mov (.t 6), none⟩,
     ⟨(some 11), .bin .lss (.t 10) (.c (.v (.int .i64 0))), none⟩] .done)
   (.cond (.t 11)
    (.seq (.ops false [⟨(some 4), .mov (.c (.v (.slice none 0 0))), none⟩,
       ⟨(some 5), .mov (.c (.v (.bool false))), none⟩] .done)
     .ret)
    .skip))
  (.seq (.ops false [⟨(some 12), .mov (.t 0), none⟩,
    ⟨(some 13), .nilck (.t 12), none⟩,
    ⟨(some 14), .fld 1 (.t 13), none⟩,
    ⟨(some 15), .load none (.t 14), none⟩,
    ⟨(some 16), .mov (.t 6), none⟩,
    ⟨(some 17), .idx 2 (.t 15) (.t 16), none⟩,
    ⟨(some 18), .fld 1 (.t 17), none⟩,
    ⟨(some 19), .load none (.t 18), none⟩,
    ⟨(some 4), .mov (.t 19), none⟩,
    ⟨(some 5), .mov (.c (.v (.bool true))), none⟩] .done)
  .ret))))⟩
theorem pf13_eq : (Tryd.f13.body.map fun c => (cfn Tryd.prog pl13 Tryd.f13 c, guardsAll pl13 c)) = some (pf13, true) := by kernel_rfl

/-- corral/corralref.SamePtes  sizes [(6, 11)] -/
def pl14 : Nat → DT := dtGet [(6, (.take 0 [0, 2, 9, 3, 8] (.take 1 [1, 2, 9, 3, 8] (.take 2 [2, 3, 9, 8] (.take 3 [3, 8, 9] (.take 4 [4, 6, 9, 7, 8] (.take 5 [5, 6, 9, 7, 8] (.take 6 [6, 7, 9, 8] (.take 7 [7, 8, 9] (.eff true 8 (.take 9 [9] .done)))))))))))]
def pf14 : PFn := ⟨29, [.t 4], (.seq (.ops false [⟨(some 4), .mov (.c (.v (.bool false))), none⟩] .done)
  (.seq (.seq (.ops false [⟨(some 7), .mov (.t 0), none⟩,
     ⟨(some 8), .len (.t 7), none⟩,
     ⟨(some 9), .mov (.t 1), none⟩,
     ⟨(some 10), .len (.t 9), none⟩,
     ⟨(some 11), .bin .neq (.t 8) (.t 10), none⟩] .done)
   (.cond (.t 11)
    (.seq (.ops false [⟨(some 4), .mov (.c (.v (.bool false))), none⟩] .done)
     .ret)
    .skip))
  (.seq (.seq (.ops false [⟨(some 5), .mov (.c (.v (.int .i64 0))), none⟩] .done)
   (.block 0 (.loop (.seq (.seq (.ops false [⟨(some 12), .mov (.t 5), none⟩,
        ⟨(some 13), .mov (.t 0), none⟩,
        ⟨(some 14), .len (.t 13), none⟩,
        ⟨(some 15), .bin .lss (.t 12) (.t 14), none⟩] .done)
      (.cond (.t 15)
       .skip
       (.exit 0)))
     (.seq (.block 1 (.seq (.ops true [⟨(some 18), .mov (.t 0), none⟩,
         ⟨(some 19), .mov (.t 5), none⟩,
         ⟨(some 20), .idx 5 (.t 18) (.t 19), none⟩,
         ⟨(some 21), .load (some 5) (.t 20), none⟩,
         ⟨(some 22), .mov (.t 1), none⟩,
         ⟨(some 23), .mov (.t 5), none⟩,
         ⟨(some 24), .idx 5 (.t 22) (.t 23), none⟩,
         ⟨(some 25), .load (some 5) (.t 24), none⟩,
         ⟨(some 26), .call 30 [(.t 21), (.t 25)], none⟩,
         ⟨(some 6), .mov (.t 26), none⟩] (.take 0 [0, 2, 9, 3, 8] (.take 1 [1, 2, 9, 3, 8] (.take 2 [2, 3, 9, 8] (.take 3 [3, 8, 9] (.take 4 [4, 6, 9, 7, 8] (.take 5 [5, 6, 9, 7, 8] (.take 6 [6, 7, 9, 8] (.take 7 [7, 8, 9] (.eff true 8 (.take 9 [9] .done)))))))))))
       (.seq (.ops false [⟨(some 27), .mov (.t 6), none⟩,
         ⟨(some 28), .un .not (.t 27), none⟩] .done)
       (.cond (.t 28)
        (.seq (.ops false [⟨(some 4), .mov (.c (.v (.bool false))), none⟩] .done)
         .ret)
        .skip))))
     (.ops false [⟨(some 16), .mov (.t 5), none⟩,
      ⟨(some 17), .bin .add (.t 16) (.c (.v (.int .i64 1))), none⟩,
      ⟨(some 5), .mov (.t 17), none⟩] .done))))))
  (.seq (.ops false [⟨(some 4), .mov (.c (.v (.bool true))), none⟩] .done)
  .ret))))⟩
theorem pf14_eq : (Tryd.f14.body.map fun c => (cfn Tryd.prog pl14 Tryd.f14 c, guardsAll pl14 c)) = some (pf14, true) := by kernel_rfl

/-- (*corral/tlb.TLB).Len  sizes [] -/
def pl15 : Nat → DT := dtGet []
def pf15 : PFn := ⟨8, [.t 2], (.seq (.ops false [⟨(some 2), .mov (.c (.v (.int .i64 0))), none⟩] .done)
  (.seq (.ops false [⟨(some 3), .mov (.t 0), none⟩,
    ⟨(some 4), .nilck (.t 3), none⟩,
    ⟨(some 5), .fld 1 (.t 4), none⟩,
    ⟨(some 6), .load none (.t 5), none⟩,
    ⟨(some 7), .len (.t 6), none⟩,
    ⟨(some 2), .mov (.t 7), none⟩] .done)
  .ret))⟩
theorem pf15_eq : (Tryd.f15.body.map fun c => (cfn Tryd.prog pl15 Tryd.f15 c, guardsAll pl15 c)) = some (pf15, true) := by kernel_rfl

/-- corral/corralref.SameWords  sizes [(6, 11)] -/
def pl16 : Nat → DT := dtGet [(6, (.take 0 [0, 2, 9, 3, 8] (.take 1 [1, 2, 9, 3, 8] (.take 2 [2, 3, 9, 8] (.take 3 [3, 8, 9] (.take 4 [4, 6, 9, 7, 8] (.take 5 [5, 6, 9, 7, 8] (.take 6 [6, 7, 9, 8] (.take 7 [7, 8, 9] (.take 8 [8, 9] (.take 9 [9] .done)))))))))))]
def pf16 : PFn := ⟨29, [.t 4], (.seq (.ops false [⟨(some 4), .mov (.c (.v (.bool false))), none⟩] .done)
  (.seq (.seq (.ops false [⟨(some 7), .mov (.t 0), none⟩,
     ⟨(some 8), .len (.t 7), none⟩,
     ⟨(some 9), .mov (.t 1), none⟩,
     ⟨(some 10), .len (.t 9), none⟩,
     ⟨(some 11), .bin .neq (.t 8) (.t 10), none⟩] .done)
   (.cond (.t 11)
    (.seq (.ops false [⟨(some 4), .mov (.c (.v (.bool false))), none⟩] .done)
     .ret)
    .skip))
  (.seq (.seq (.ops false [⟨(some 5), .mov (.c (.v (.int .i64 0))), none⟩] .done)
   (.block 0 (.loop (.seq (.seq (.ops false [⟨(some 12), .mov (.t 5), none⟩,
        ⟨(some 13), .mov (.t 0), none⟩,
        ⟨(some 14), .len (.t 13), none⟩,
        ⟨(some 15), .bin .lss (.t 12) (.t 14), none⟩] .done)
      (.cond (.t 15)
       .skip
       (.exit 0)))
     (.seq (.block 1 (.seq (.ops true [⟨(some 18), .mov (.t 0), none⟩,
         ⟨(some 19), .mov (.t 5), none⟩,
         ⟨(some 20), .idx 1 (.t 18) (.t 19), none⟩,
         ⟨(some 21), .load none (.t 20), none⟩,
         ⟨(some 22), .mov (.t 1), none⟩,
         ⟨(some 23), .mov (.t 5), none⟩,
         ⟨(some 24), .idx 1 (.t 22) (.t 23), none⟩,
         ⟨(some 25), .load none (.t 24), none⟩,
         ⟨(some 26), .bin .eql (.t 21) (.t 25), none⟩,
         ⟨(some 6), .mov (.t 26), none⟩] (.take 0 [0, 2, 9, 3, 8] (.take 1 [1, 2, 9, 3, 8] (.take 2 [2, 3, 9, 8] (.take 3 [3, 8, 9] (.take 4 [4, 6, 9, 7, 8] (.take 5 [5, 6, 9, 7, 8] (.take 6 [6, 7, 9, 8] (.take 7 [7, 8, 9] (.take 8 [8, 9] (.take 9 [9] .done)))))))))))
       (.seq (.ops false [⟨(some 27), .mov (.t 6), none⟩,
         ⟨(some 28), .un .not (.t 27), none⟩] .done)
       (.cond (.t 28)
        (.seq (.ops false [⟨(some 4), .mov (.c (.v (.bool false))), none⟩] .done)
         .ret)
        .skip))))
     (.ops false [⟨(some 16), .mov (.t 5), none⟩,
      ⟨(some 17), .bin .add (.t 16) (.c (.v (.int .i64 1))), none⟩,
      ⟨(some 5), .mov (.t 17), none⟩] .done))))))
  (.seq (.ops false [⟨(some 4), .mov (.c (.v (.bool true))), none⟩] .done)
  .ret))))⟩
theorem pf16_eq : (Tryd.f16.body.map fun c => (cfn Tryd.prog pl16 Tryd.f16 c, guardsAll pl16 c)) = some (pf16, true) := by kernel_rfl

/-- (*corral/tlb.TLB).Pages  sizes [] -/
def pl17 : Nat → DT := dtGet []
def pf17 : PFn := ⟨22, [.t 2], (.seq (.ops false [⟨(some 2), .mov (.c (.v (.slice none 0 0))), none⟩] .done)
  (.seq (.ops false [⟨(some 3), .mov (.c (.v (.slice none 0 0))), none⟩] .done)
  (.seq (.seq (.ops false [⟨(some 6), .mov (.t 0), none⟩,
     ⟨(some 7), .nilck (.t 6), none⟩,
     ⟨(some 8), .fld 1 (.t 7), none⟩,
     ⟨(some 9), .load none (.t 8), none⟩,
     ⟨(some 10), .len (.t 9), none⟩,
     ⟨(some 11), .mov (.c (.v (.int .i64 0))), none⟩] .done)
   (.block 0 (.loop (.seq (.ops false [⟨(some 12), .bin .lss (.t 11) (.t 10), none⟩] .done)
     (.seq (.cond (.t 12)
       .skip
       (.exit 0))
     (.seq (.block 1 (.seq (.ops false [⟨(some 13), .idx 2 (.t 9) (.t 11), none⟩,
         ⟨(some 14), .load (some 2) (.t 13), none⟩,
         ⟨(some 5), .box 68 (.c (.agg [(.v (.int .u32 0)), (.v (.slice none 0 0))])), none⟩,
         ⟨none, .store 2 (.t 5) (.t 14), none⟩] .done)
       (.ops false [⟨(some 15), .mov (.t 3), none⟩,
        ⟨(some 16), .fld 0 (.t 5), none⟩,
        ⟨(some 17), .load none (.t 16), none⟩,
        ⟨(some 18), .bslice 23 [.int .u32] 1 [(.v (.int .u32 0))] [(0, 1, (.t 17))], none⟩,
        ⟨(some 19), .append 23 [.int .u32] [(.int .u32 0)] 4 (.t 15) (.t 18), none⟩,
        ⟨(some 3), .mov (.t 19), none⟩] .done)))
     (.ops false [⟨(some 20), .bin .add (.t 11) (.c (.v (.int .i64 1))), none⟩,
      ⟨(some 11), .mov (.t 20), none⟩] .done)))))))
  (.seq (.ops false [⟨(some 21), .mov (.t 3), none⟩,
    ⟨(some 2), .mov (.t 21), none⟩] .done)
  .ret))))⟩
theorem pf17_eq : (Tryd.f17.body.map fun c => (cfn Tryd.prog pl17 Tryd.f17 c, guardsAll pl17 c)) = some (pf17, true) := by kernel_rfl

/-- corral/corralworld.Number  sizes [] -/
def pl18 : Nat → DT := dtGet []
def pf18 : PFn := ⟨12, [.t 4], (.seq (.ops false [⟨(some 4), .mov (.c (.v (.int .i64 0))), none⟩] .done)
  (.seq (.ops false [⟨(some 5), .mov (.t 0), none⟩,
    ⟨(some 6), .mov (.t 1), none⟩,
    ⟨(some 7), .bin .rem (.t 5) (.t 6), none⟩,
    ⟨(some 8), .mov (.t 1), none⟩,
    ⟨(some 9), .bin .add (.t 7) (.t 8), none⟩,
    ⟨(some 10), .mov (.t 1), none⟩,
    ⟨(some 11), .bin .rem (.t 9) (.t 10), none⟩,
    ⟨(some 4), .mov (.t 11), none⟩] .done)
  .ret))⟩
theorem pf18_eq : (Tryd.f18.body.map fun c => (cfn Tryd.prog pl18 Tryd.f18 c, guardsAll pl18 c)) = some (pf18, true) := by kernel_rfl

/-- corral/corralref.Among  sizes [] -/
def pl19 : Nat → DT := dtGet []
def pf19 : PFn := ⟨18, [.t 4], (.seq (.ops false [⟨(some 4), .mov (.c (.v (.bool false))), none⟩] .done)
  (.seq (.seq (.ops false [⟨(some 5), .mov (.c (.v (.int .i64 0))), none⟩] .done)
   (.block 0 (.loop (.seq (.seq (.ops false [⟨(some 6), .mov (.t 5), none⟩,
        ⟨(some 7), .mov (.t 0), none⟩,
        ⟨(some 8), .len (.t 7), none⟩,
        ⟨(some 9), .bin .lss (.t 6) (.t 8), none⟩] .done)
      (.cond (.t 9)
       .skip
       (.exit 0)))
     (.seq (.block 1 (.seq (.ops false [⟨(some 12), .mov (.t 0), none⟩,
         ⟨(some 13), .mov (.t 5), none⟩,
         ⟨(some 14), .idx 1 (.t 12) (.t 13), none⟩,
         ⟨(some 15), .load none (.t 14), none⟩,
         ⟨(some 16), .mov (.t 1), none⟩,
         ⟨(some 17), .bin .eql (.t 15) (.t 16), none⟩] .done)
       (.cond (.t 17)
        (.seq (.ops false [⟨(some 4), .mov (.c (.v (.bool true))), none⟩] .done)
         .ret)
        .skip)))
     (.ops false [⟨(some 10), .mov (.t 5), none⟩,
      ⟨(some 11), .bin .add (.t 10) (.c (.v (.int .i64 1))), none⟩,
      ⟨(some 5), .mov (.t 11), none⟩] .done))))))
  (.seq (.ops false [⟨(some 4), .mov (.c (.v (.bool false))), none⟩] .done)
  .ret)))⟩
theorem pf19_eq : (Tryd.f19.body.map fun c => (cfn Tryd.prog pl19 Tryd.f19 c, guardsAll pl19 c)) = some (pf19, true) := by kernel_rfl

/-- corral/corralsee.Same  sizes [] -/
def pl20 : Nat → DT := dtGet []
def pf20 : PFn := ⟨11, [.t 4], (.seq (.ops false [⟨(some 3), .box 63 (.t 1), none⟩,
    ⟨(some 4), .mov (.c (.v (.bool false))), none⟩] .done)
  (.seq (.ops false [⟨(some 6), .mov (.t 0), none⟩,
    ⟨(some 7), .call 31 [(.t 6)], none⟩,
    ⟨(some 5), .box 63 (.c (.agg [(.v (.int .i64 0)), (.v (.slice none 0 0))])), none⟩,
    ⟨none, .store 2 (.t 5) (.t 7), none⟩] .done)
  (.seq (.ops false [⟨(some 8), .load (some 2) (.t 5), none⟩,
    ⟨(some 9), .load (some 2) (.t 3), none⟩,
    ⟨(some 10), .call 32 [(.t 8), (.t 9)], none⟩,
    ⟨(some 4), .mov (.t 10), none⟩] .done)
  .ret)))⟩
theorem pf20_eq : (Tryd.f20.body.map fun c => (cfn Tryd.prog pl20 Tryd.f20 c, guardsAll pl20 c)) = some (pf20, true) := by kernel_rfl

/-- corral/corralref.Bare  sizes [] -/
def pl21 : Nat → DT := dtGet []
def pf21 : PFn := ⟨5, [.cell 2 (some 2)], (.seq (.ops false [⟨(some 2), .box 63 (.c (.agg [(.v (.int .i64 0)), (.v (.slice none 0 0))])), none⟩] .done)
  (.seq (.ops false [⟨(some 3), .mov (.t 0), none⟩,
    ⟨(some 4), .build [(.v (.int .i64 0)), (.v (.slice none 0 0))] [(0, 1, (.t 3))], none⟩,
    ⟨none, .store 2 (.t 2) (.t 4), none⟩] .done)
  .ret))⟩
theorem pf21_eq : (Tryd.f21.body.map fun c => (cfn Tryd.prog pl21 Tryd.f21 c, guardsAll pl21 c)) = some (pf21, true) := by kernel_rfl

/-- (*corral/tlb.TLB).at  sizes [] -/
def pl22 : Nat → DT := dtGet []
def pf22 : PFn := ⟨11, [.t 4], (.seq (.ops false [⟨(some 3), .box 23 (.t 1), none⟩,
    ⟨(some 4), .mov (.c (.v (.int .i64 0))), none⟩] .done)
  (.seq (.ops false [⟨(some 5), .mov (.t 0), none⟩,
    ⟨(some 6), .nilck (.t 5), none⟩,
    ⟨(some 7), .fld 1 (.t 6), none⟩,
    ⟨(some 8), .load none (.t 7), none⟩,
    ⟨(some 9), .clo (.func 34) [] [(.t 3)], none⟩,
    ⟨(some 10), .call 33 [(.t 8), (.t 9)], none⟩,
    ⟨(some 4), .mov (.t 10), none⟩] .done)
  .ret))⟩
theorem pf22_eq : (Tryd.f22.body.map fun c => (cfn Tryd.prog pl22 Tryd.f22 c, guardsAll pl22 c)) = some (pf22, true) := by kernel_rfl

/-- slices.Clone[[]corral/api.Pte,corral/api.Pte]  sizes [] -/
def pl23 : Nat → DT := dtGet []
def pf23 : PFn := ⟨8, [.t 2], (.seq (.ops false [⟨(some 2), .mov (.c (.v (.slice none 0 0))), none⟩] .done)
  (.seq (.seq (.ops false [⟨(some 3), .mov (.t 0), none⟩,
     ⟨(some 4), .eqp 3 true false (.t 3) (.c (.v (.slice none 0 0))), none⟩] .done)
   (.cond (.t 4)
    (.seq (.ops false [⟨(some 2), .mov (.c (.v (.slice none 0 0))), none⟩] .done)
     .ret)
    .skip))
  (.seq (.ops false [⟨(some 5), .bslice 42 [.int .u32, .int .u32, .int .u32, .int .i64, .bool] 0 [] [], none⟩,
    ⟨(some 6), .mov (.t 0), none⟩,
    ⟨(some 7), .append 42 [.int .u32, .int .u32, .int .u32, .int .i64, .bool] [(.int .u32 0), (.int .u32 0), (.int .u32 0), (.int .i64 0), (.bool false)] 32 (.t 5) (.t 6), none⟩,
    ⟨(some 2), .mov (.t 7), none⟩] .done)
  .ret)))⟩
theorem pf23_eq : (Tryd.f23.body.map fun c => (cfn Tryd.prog pl23 Tryd.f23 c, guardsAll pl23 c)) = some (pf23, true) := by kernel_rfl

/-- slices.Clone[[]corral/tlb.one,corral/tlb.one]  sizes [] -/
def pl24 : Nat → DT := dtGet []
def pf24 : PFn := ⟨8, [.t 2], (.seq (.ops false [⟨(some 2), .mov (.c (.v (.slice none 0 0))), none⟩] .done)
  (.seq (.seq (.ops false [⟨(some 3), .mov (.t 0), none⟩,
     ⟨(some 4), .eqp 3 true false (.t 3) (.c (.v (.slice none 0 0))), none⟩] .done)
   (.cond (.t 4)
    (.seq (.ops false [⟨(some 2), .mov (.c (.v (.slice none 0 0))), none⟩] .done)
     .ret)
    .skip))
  (.seq (.ops false [⟨(some 5), .bslice 68 [.int .u32, .sl] 0 [] [], none⟩,
    ⟨(some 6), .mov (.t 0), none⟩,
    ⟨(some 7), .append 68 [.int .u32, .sl] [(.int .u32 0), (.slice none 0 0)] 32 (.t 5) (.t 6), none⟩,
    ⟨(some 2), .mov (.t 7), none⟩] .done)
  .ret)))⟩
theorem pf24_eq : (Tryd.f24.body.map fun c => (cfn Tryd.prog pl24 Tryd.f24 c, guardsAll pl24 c)) = some (pf24, true) := by kernel_rfl

/-- (*corral/corralref21.TLB).find  sizes [] -/
def pl25 : Nat → DT := dtGet []
def pf25 : PFn := ⟨26, [.t 4], (.seq (.ops false [⟨(some 4), .mov (.c (.v (.int .i64 0))), none⟩] .done)
  (.seq (.seq (.ops false [⟨(some 5), .mov (.c (.v (.int .i64 0))), none⟩] .done)
   (.block 0 (.loop (.seq (.seq (.ops false [⟨(some 6), .mov (.t 5), none⟩,
        ⟨(some 7), .mov (.t 0), none⟩,
        ⟨(some 8), .nilck (.t 7), none⟩,
        ⟨(some 9), .fld 1 (.t 8), none⟩,
        ⟨(some 10), .load none (.t 9), none⟩,
        ⟨(some 11), .len (.t 10), none⟩,
        ⟨(some 12), .bin .lss (.t 6) (.t 11), none⟩] .done)
      (.cond (.t 12)
       .skip
       (.exit 0)))
     (.seq (.block 1 (.seq (.ops false [⟨(some 15), .mov (.t 0), none⟩,
         ⟨(some 16), .nilck (.t 15), none⟩,
         ⟨(some 17), .fld 1 (.t 16), none⟩,
         ⟨(some 18), .load none (.t 17), none⟩,
         ⟨(some 19), .mov (.t 5), none⟩,
         ⟨(some 20), .idx 2 (.t 18) (.t 19), none⟩,
         ⟨(some 21), .fld 0 (.t 20), none⟩,
         ⟨(some 22), .load none (.t 21), none⟩,
         ⟨(some 23), .mov (.t 1), none⟩,
         ⟨(some 24), .bin .eql (.t 22) (.t 23), none⟩] .done)
       (.cond (.t 24)
        (.seq (.ops false [⟨(some 25), .mov (.t 5), none⟩,
           ⟨(some 4), .mov (.t 25), none⟩] .done)
         .ret)
        .skip)))
     (.ops false [⟨(some 13), .mov (.t 5), none⟩,
      ⟨(some 14), .bin .add (.t 13) (.c (.v (.int .i64 1))), none⟩,
      ⟨(some 5), .mov (.t 14), none⟩] .done))))))
  (.seq (.ops false [⟨(some 4), .mov (.c (.v (.int .i64 (-1)))), none⟩] .done)
  .ret)))⟩
theorem pf25_eq : (Tryd.f25.body.map fun c => (cfn Tryd.prog pl25 Tryd.f25 c, guardsAll pl25 c)) = some (pf25, true) := by kernel_rfl

/-- corral/corralref.Ptes  sizes [] -/
def pl26 : Nat → DT := dtGet []
def pf26 : PFn := ⟨22, [.t 2], (.seq (.ops false [⟨(some 2), .mov (.c (.v (.slice none 0 0))), none⟩] .done)
  (.seq (.ops false [⟨(some 5), .mov (.t 0), none⟩,
    ⟨(some 6), .len (.t 5), none⟩,
    ⟨(some 7), .mslice 42 [.int .u32, .int .u32, .int .u32, .int .i64, .bool] [(.int .u32 0), (.int .u32 0), (.int .u32 0), (.int .i64 0), (.bool false)] 32 (.c (.v (.int .i64 0))) (.t 6), none⟩,
    ⟨(some 3), .mov (.t 7), none⟩] .done)
  (.seq (.seq (.ops false [⟨(some 4), .mov (.c (.v (.int .i64 0))), none⟩] .done)
   (.block 0 (.loop (.seq (.seq (.ops false [⟨(some 8), .mov (.t 4), none⟩,
        ⟨(some 9), .mov (.t 0), none⟩,
        ⟨(some 10), .len (.t 9), none⟩,
        ⟨(some 11), .bin .lss (.t 8) (.t 10), none⟩] .done)
      (.cond (.t 11)
       .skip
       (.exit 0)))
     (.seq (.block 1 (.ops false [⟨(some 14), .mov (.t 3), none⟩,
        ⟨(some 15), .mov (.t 0), none⟩,
        ⟨(some 16), .mov (.t 4), none⟩,
        ⟨(some 17), .idx 5 (.t 15) (.t 16), none⟩,
        ⟨(some 18), .load (some 5) (.t 17), none⟩,
        ⟨(some 19), .bslice 42 [.int .u32, .int .u32, .int .u32, .int .i64, .bool] 1 [(.v (.int .u32 0)), (.v (.int .u32 0)), (.v (.int .u32 0)), (.v (.int .i64 0)), (.v (.bool false))] [(0, 5, (.t 18))], none⟩,
        ⟨(some 20), .append 42 [.int .u32, .int .u32, .int .u32, .int .i64, .bool] [(.int .u32 0), (.int .u32 0), (.int .u32 0), (.int .i64 0), (.bool false)] 32 (.t 14) (.t 19), none⟩,
        ⟨(some 3), .mov (.t 20), none⟩] .done))
     (.ops false [⟨(some 12), .mov (.t 4), none⟩,
      ⟨(some 13), .bin .add (.t 12) (.c (.v (.int .i64 1))), none⟩,
      ⟨(some 4), .mov (.t 13), none⟩] .done))))))
  (.seq (.ops false [⟨(some 21), .mov (.t 3), none⟩,
    ⟨(some 2), .mov (.t 21), none⟩] .done)
  .ret))))⟩
theorem pf26_eq : (Tryd.f26.body.map fun c => (cfn Tryd.prog pl26 Tryd.f26 c, guardsAll pl26 c)) = some (pf26, true) := by kernel_rfl

/-- slices.DeleteFunc[[]corral/tlb.one,corral/tlb.one]  sizes [] -/
def pl27 : Nat → DT := dtGet []
def pf27 : PFn := ⟨42, [.t 4], (.seq (.ops false [⟨(some 4), .mov (.c (.v (.slice none 0 0))), none⟩] .done)
  (.seq (.ops false [⟨(some 8), .mov (.t 0), none⟩,
    ⟨(some 9), .mov (.t 1), none⟩,
    ⟨(some 10), .call 33 [(.t 8), (.t 9)], none⟩,
    ⟨(some 5), .mov (.t 10), none⟩] .done)
  (.seq (.seq (.ops false [⟨(some 11), .mov (.t 5), none⟩,
     ⟨(some 12), .bin .eql (.t 11) (.c (.v (.int .i64 (-1)))), none⟩] .done)
   (.cond (.t 12)
    (.seq (.ops false [⟨(some 13), .mov (.t 0), none⟩,
       ⟨(some 4), .mov (.t 13), none⟩] .done)
     .ret)
    .skip))
  (.seq (.seq (.ops false [⟨(some 14), .mov (.t 5), none⟩,
     ⟨(some 15), .bin .add (.t 14) (.c (.v (.int .i64 1))), none⟩,
     ⟨(some 6), .mov (.t 15), none⟩] .done)
   (.block 0 (.loop (.seq (.seq (.ops false [⟨(some 16), .mov (.t 6), none⟩,
        ⟨(some 17), .mov (.t 0), none⟩,
        ⟨(some 18), .len (.t 17), none⟩,
        ⟨(some 19), .bin .lss (.t 16) (.t 18), none⟩] .done)
      (.cond (.t 19)
       .skip
       (.exit 0)))
     (.seq (.block 1 (.seq (.ops false [⟨(some 22), .mov (.t 0), none⟩,
         ⟨(some 23), .mov (.t 6), none⟩,
         ⟨(some 24), .idx 2 (.t 22) (.t 23), none⟩,
         ⟨(some 25), .load (some 2) (.t 24), none⟩,
         ⟨(some 7), .box 68 (.c (.agg [(.v (.int .u32 0)), (.v (.slice none 0 0))])), none⟩,
         ⟨none, .store 2 (.t 7) (.t 25), none⟩] .done)
       (.seq (.ops false [⟨(some 26), .mov (.t 1), none⟩,
         ⟨(some 27), .load (some 2) (.t 7), none⟩,
         ⟨(some 28), .callv (.t 26) [(.t 27)], none⟩,
         ⟨(some 29), .un .not (.t 28), none⟩] .done)
       (.cond (.t 29)
        (.seq (.ops false [⟨(some 30), .mov (.t 0), none⟩,
           ⟨(some 31), .mov (.t 5), none⟩,
           ⟨(some 32), .load (some 2) (.t 7), none⟩,
           ⟨(some 33), .idx 2 (.t 30) (.t 31), none⟩,
           ⟨none, .store 2 (.t 33) (.t 32), none⟩] .done)
         (.ops false [⟨(some 34), .mov (.t 5), none⟩,
          ⟨(some 35), .bin .add (.t 34) (.c (.v (.int .i64 1))), none⟩,
          ⟨(some 5), .mov (.t 35), none⟩] .done))
        .skip))))
     (.ops false [⟨(some 20), .mov (.t 6), none⟩,
      ⟨(some 21), .bin .add (.t 20) (.c (.v (.int .i64 1))), none⟩,
      ⟨(some 6), .mov (.t 21), none⟩] .done))))))
  (.seq (.ops false [⟨(some 36), .mov (.t 0), none⟩,
    ⟨(some 37), .mov (.t 5), none⟩,
    ⟨(some 38), .slice 2 (.t 36) (some (.t 37)) none none, none⟩,
    ⟨none, .clr 68 [.int .u32, .sl] [(.int .u32 0), (.slice none 0 0)] (.t 38), none⟩] .done)
  (.seq (.ops false [⟨(some 39), .mov (.t 0), none⟩,
    ⟨(some 40), .mov (.t 5), none⟩,
    ⟨(some 41), .slice 2 (.t 39) none (some (.t 40)) none, none⟩,
    ⟨(some 4), .mov (.t 41), none⟩] .done)
  .ret))))))⟩
theorem pf27_eq : (Tryd.f27.body.map fun c => (cfn Tryd.prog pl27 Tryd.f27 c, guardsAll pl27 c)) = some (pf27, true) := by kernel_rfl

/-- (*corral/tlb.TLB).Flush$1  sizes [] -/
def pl28 : Nat → DT := dtGet []
def pf28 : PFn := ⟨13, [.t 3], (.seq (.ops false [⟨(some 2), .box 68 (.t 0), none⟩,
    ⟨(some 3), .mov (.c (.v (.bool false))), none⟩] .done)
  (.seq (.ops false [⟨(some 4), .load none (.t 1), none⟩,
    ⟨(some 5), .len (.t 4), none⟩,
    ⟨(some 6), .bin .eql (.t 5) (.c (.v (.int .i64 0))), none⟩,
    ⟨(some 7), .mov (.t 6), none⟩,
    ⟨(some 8), .load none (.t 1), some (7, false)⟩,
    ⟨(some 9), .fld 0 (.t 2), some (7, false)⟩,
    ⟨(some 10), .load none (.t 9), some (7, false)⟩,
    ⟨(some 11), .call 29 [(.t 8), (.t 10)], some (7, false)⟩,
    ⟨(some 12), .pick (.t 7) (.c (.v (.bool true))) (.t 11), none⟩,
    ⟨(some 3), .mov (.t 12), none⟩] .done)
  .ret))⟩
theorem pf28_eq : (Tryd.f28.body.map fun c => (cfn Tryd.prog pl28 Tryd.f28 c, guardsAll pl28 c)) = some (pf28, true) := by kernel_rfl

/-- slices.Contains[[]uint32,uint32]  sizes [] -/
def pl29 : Nat → DT := dtGet []
def pf29 : PFn := ⟨9, [.t 4], (.seq (.ops false [⟨(some 4), .mov (.c (.v (.bool false))), none⟩] .done)
  (.seq (.ops false [⟨(some 5), .mov (.t 0), none⟩,
    ⟨(some 6), .mov (.t 1), none⟩,
    ⟨(some 7), .call 35 [(.t 5), (.t 6)], none⟩,
    ⟨(some 8), .bin .geq (.t 7) (.c (.v (.int .i64 0))), none⟩,
    ⟨(some 4), .mov (.t 8), none⟩] .done)
  .ret))⟩
theorem pf29_eq : (Tryd.f29.body.map fun c => (cfn Tryd.prog pl29 Tryd.f29 c, guardsAll pl29 c)) = some (pf29, true) := by kernel_rfl

/-- corral/corralref.SamePte  sizes [] -/
def pl30 : Nat → DT := dtGet []
def pf30 : PFn := ⟨38, [.t 4], (.seq (.ops false [⟨(some 2), .box 42 (.t 0), none⟩,
    ⟨(some 3), .box 42 (.t 1), none⟩,
    ⟨(some 4), .mov (.c (.v (.bool false))), none⟩] .done)
  (.seq (.ops false [⟨(some 5), .fld 0 (.t 2), none⟩,
    ⟨(some 6), .load none (.t 5), none⟩,
    ⟨(some 7), .fld 0 (.t 3), none⟩,
    ⟨(some 8), .load none (.t 7), none⟩,
    ⟨(some 9), .bin .eql (.t 6) (.t 8), none⟩,
    ⟨(some 10), .mov (.t 9), none⟩,
    ⟨(some 11), .fld 1 (.t 2), some (10, true)⟩,
    ⟨(some 12), .load none (.t 11), some (10, true)⟩,
    ⟨(some 13), .fld 1 (.t 3), some (10, true)⟩,
    ⟨(some 14), .load none (.t 13), some (10, true)⟩,
    ⟨(some 15), .bin .eql (.t 12) (.t 14), some (10, true)⟩,
    ⟨(some 16), .pick (.t 10) (.t 15) (.c (.v (.bool false))), none⟩,
    ⟨(some 17), .mov (.t 16), none⟩,
    ⟨(some 18), .fld 2 (.t 2), some (17, true)⟩,
    ⟨(some 19), .load none (.t 18), some (17, true)⟩,
    ⟨(some 20), .fld 2 (.t 3), some (17, true)⟩,
    ⟨(some 21), .load none (.t 20), some (17, true)⟩,
    ⟨(some 22), .bin .eql (.t 19) (.t 21), some (17, true)⟩,
    ⟨(some 23), .pick (.t 17) (.t 22) (.c (.v (.bool false))), none⟩,
    ⟨(some 24), .mov (.t 23), none⟩,
    ⟨(some 25), .fld 3 (.t 2), some (24, true)⟩,
    ⟨(some 26), .load none (.t 25), some (24, true)⟩,
    ⟨(some 27), .fld 3 (.t 3), some (24, true)⟩,
    ⟨(some 28), .load none (.t 27), some (24, true)⟩,
    ⟨(some 29), .bin .eql (.t 26) (.t 28), some (24, true)⟩,
    ⟨(some 30), .pick (.t 24) (.t 29) (.c (.v (.bool false))), none⟩,
    ⟨(some 31), .mov (.t 30), none⟩,
    ⟨(some 32), .fld 4 (.t 2), some (31, true)⟩,
    ⟨(some 33), .load none (.t 32), some (31, true)⟩,
    ⟨(some 34), .fld 4 (.t 3), some (31, true)⟩,
    ⟨(some 35), .load none (.t 34), some (31, true)⟩,
    ⟨(some 36), .eqb false (.t 33) (.t 35), some (31, true)⟩,
    ⟨(some 37), .pick (.t 31) (.t 36) (.c (.v (.bool false))), none⟩,
    ⟨(some 4), .mov (.t 37), none⟩] .done)
  .ret))⟩
theorem pf30_eq : (Tryd.f30.body.map fun c => (cfn Tryd.prog pl30 Tryd.f30 c, guardsAll pl30 c)) = some (pf30, true) := by kernel_rfl

/-- corral/corralsee.Fault  sizes [] -/
def pl31 : Nat → DT := dtGet []
def pf31 : PFn := ⟨8, [.cell 2 (some 2)], (.seq (.ops false [⟨(some 2), .box 63 (.c (.agg [(.v (.int .i64 0)), (.v (.slice none 0 0))])), none⟩] .done)
  (.seq (.seq (.ops false [⟨(some 3), .mov (.t 0), none⟩,
     ⟨(some 4), .eqp 1 true false (.t 3) (.c (.v .nilIface)), none⟩] .done)
   (.cond (.t 4)
    (.seq (.ops false [⟨(some 5), .call 36 [], none⟩,
       ⟨none, .store 2 (.t 2) (.t 5), none⟩] .done)
     .ret)
    .skip))
  (.seq (.ops false [⟨(some 6), .mov (.t 0), none⟩,
    ⟨(some 7), .call 37 [(.t 6), (.c (.v (.int .i64 9)))], none⟩,
    ⟨none, .store 2 (.t 2) (.t 7), none⟩] .done)
  .ret)))⟩
theorem pf31_eq : (Tryd.f31.body.map fun c => (cfn Tryd.prog pl31 Tryd.f31 c, guardsAll pl31 c)) = some (pf31, true) := by kernel_rfl

/-- corral/corralref.SameFault  sizes [] -/
def pl32 : Nat → DT := dtGet []
def pf32 : PFn := ⟨19, [.t 4], (.seq (.ops false [⟨(some 2), .box 63 (.t 0), none⟩,
    ⟨(some 3), .box 63 (.t 1), none⟩,
    ⟨(some 4), .mov (.c (.v (.bool false))), none⟩] .done)
  (.seq (.ops false [⟨(some 6), .fld 1 (.t 2), none⟩,
    ⟨(some 7), .load none (.t 6), none⟩,
    ⟨(some 8), .fld 1 (.t 3), none⟩,
    ⟨(some 9), .load none (.t 8), none⟩,
    ⟨(some 10), .call 38 [(.t 7), (.t 9)], none⟩,
    ⟨(some 5), .mov (.t 10), none⟩] .done)
  (.seq (.ops false [⟨(some 11), .fld 0 (.t 2), none⟩,
    ⟨(some 12), .load none (.t 11), none⟩,
    ⟨(some 13), .fld 0 (.t 3), none⟩,
    ⟨(some 14), .load none (.t 13), none⟩,
    ⟨(some 15), .bin .eql (.t 12) (.t 14), none⟩,
    ⟨(some 16), .mov (.t 15), none⟩,
    ⟨(some 17), .mov (.t 5), some (16, true)⟩,
    ⟨(some 18), .pick (.t 16) (.t 17) (.c (.v (.bool false))), none⟩,
    ⟨(some 4), .mov (.t 18), none⟩] .done)
  .ret)))⟩
theorem pf32_eq : (Tryd.f32.body.map fun c => (cfn Tryd.prog pl32 Tryd.f32 c, guardsAll pl32 c)) = some (pf32, true) := by kernel_rfl

/-- slices.IndexFunc[[]corral/tlb.one,corral/tlb.one]  sizes [] -/
def pl33 : Nat → DT := dtGet []
def pf33 : PFn := ⟨19, [.t 4], (.seq (.ops false [⟨(some 4), .mov (.c (.v (.int .i64 0))), none⟩] .done)
  (.seq (.seq (.ops false [⟨(some 6), .mov (.t 0), none⟩,
     ⟨(some 7), .len (.t 6), none⟩,
     ⟨(some 8), .mov (.c (.v (.int .i64 0))), none⟩] .done)
   (.block 0 (.loop (.seq (.ops false [⟨(some 9), .bin .lss (.t 8) (.t 7), none⟩] .done)
     (.seq (.cond (.t 9)
       .skip
       (.exit 0))
     (.seq (.block 1 (.seq (.ops false [⟨(some 10), .mov (.t 8), none⟩,
         ⟨(some 5), .mov (.t 10), none⟩] .done)
       (.seq (.ops false [⟨(some 11), .mov (.t 1), none⟩,
         ⟨(some 12), .mov (.t 0), none⟩,
         ⟨(some 13), .mov (.t 5), none⟩,
         ⟨(some 14), .idx 2 (.t 12) (.t 13), none⟩,
         ⟨(some 15), .load (some 2) (.t 14), none⟩,
         ⟨(some 16), .callv (.t 11) [(.t 15)], none⟩] .done)
       (.cond (.t 16)
        (.seq (.ops false [⟨(some 17), .mov (.t 5), none⟩,
           ⟨(some 4), .mov (.t 17), none⟩] .done)
         .ret)
        .skip))))
     (.ops false [⟨(some 18), .bin .add (.t 8) (.c (.v (.int .i64 1))), none⟩,
      ⟨(some 8), .mov (.t 18), none⟩] .done)))))))
  (.seq (.ops false [⟨(some 4), .mov (.c (.v (.int .i64 (-1)))), none⟩] .done)
  .ret)))⟩
theorem pf33_eq : (Tryd.f33.body.map fun c => (cfn Tryd.prog pl33 Tryd.f33 c, guardsAll pl33 c)) = some (pf33, true) := by kernel_rfl

/-- (*corral/tlb.TLB).at$1  sizes [] -/
def pl34 : Nat → DT := dtGet []
def pf34 : PFn := ⟨8, [.t 3], (.seq (.ops false [⟨(some 2), .box 68 (.t 0), none⟩,
    ⟨(some 3), .mov (.c (.v (.bool false))), none⟩] .done)
  (.seq (.ops false [⟨(some 4), .fld 0 (.t 2), none⟩,
    ⟨(some 5), .load none (.t 4), none⟩,
    ⟨(some 6), .load none (.t 1), none⟩,
    ⟨(some 7), .bin .eql (.t 5) (.t 6), none⟩,
    ⟨(some 3), .mov (.t 7), none⟩] .done)
  .ret))⟩
theorem pf34_eq : (Tryd.f34.body.map fun c => (cfn Tryd.prog pl34 Tryd.f34 c, guardsAll pl34 c)) = some (pf34, true) := by kernel_rfl

/-- slices.Index[[]uint32,uint32]  sizes [] -/
def pl35 : Nat → DT := dtGet []
def pf35 : PFn := ⟨19, [.t 4], (.seq (.ops false [⟨(some 4), .mov (.c (.v (.int .i64 0))), none⟩] .done)
  (.seq (.seq (.ops false [⟨(some 6), .mov (.t 0), none⟩,
     ⟨(some 7), .len (.t 6), none⟩,
     ⟨(some 8), .mov (.c (.v (.int .i64 0))), none⟩] .done)
   (.block 0 (.loop (.seq (.ops false [⟨(some 9), .bin .lss (.t 8) (.t 7), none⟩] .done)
     (.seq (.cond (.t 9)
       .skip
       (.exit 0))
     (.seq (.block 1 (.seq (.ops false [⟨(some 10), .mov (.t 8), none⟩,
         ⟨(some 5), .mov (.t 10), none⟩] .done)
       (.seq (.ops false [⟨(some 11), .mov (.t 1), none⟩,
         ⟨(some 12), .mov (.t 0), none⟩,
         ⟨(some 13), .mov (.t 5), none⟩,
         ⟨(some 14), .idx 1 (.t 12) (.t 13), none⟩,
         ⟨(some 15), .load none (.t 14), none⟩,
         ⟨(some 16), .bin .eql (.t 11) (.t 15), none⟩] .done)
       (.cond (.t 16)
        (.seq (.ops false [⟨(some 17), .mov (.t 5), none⟩,
           ⟨(some 4), .mov (.t 17), none⟩] .done)
         .ret)
        .skip))))
     (.ops false [⟨(some 18), .bin .add (.t 8) (.c (.v (.int .i64 1))), none⟩,
      ⟨(some 8), .mov (.t 18), none⟩] .done)))))))
  (.seq (.ops false [⟨(some 4), .mov (.c (.v (.int .i64 (-1)))), none⟩] .done)
  .ret)))⟩
theorem pf35_eq : (Tryd.f35.body.map fun c => (cfn Tryd.prog pl35 Tryd.f35 c, guardsAll pl35 c)) = some (pf35, true) := by kernel_rfl

/-- corral/corralref.None  sizes [] -/
def pl36 : Nat → DT := dtGet []
def pf36 : PFn := ⟨2, [.cell 0 (some 2)], (.seq (.ops false [⟨(some 0), .box 63 (.c (.agg [(.v (.int .i64 0)), (.v (.slice none 0 0))])), none⟩] .done)
  (.seq (.ops false [⟨(some 1), .build [(.v (.int .i64 0)), (.v (.slice none 0 0))] [], none⟩,
    ⟨none, .store 2 (.t 0) (.t 1), none⟩] .done)
  .ret))⟩
theorem pf36_eq : (Tryd.f36.body.map fun c => (cfn Tryd.prog pl36 Tryd.f36 c, guardsAll pl36 c)) = some (pf36, true) := by kernel_rfl

/-- corral/corralsee.fault  sizes [(9, 13)] -/
def pl37 : Nat → DT := dtGet [(9, (.take 0 [0, 1, 11, 10] (.take 1 [1, 10, 11] (.take 2 [2, 3, 11, 4, 5, 6, 9, 10] (.take 3 [3, 4, 11, 5, 6, 9, 10] (.take 4 [4, 5, 11, 6, 9, 10] (.take 5 [5, 6, 11, 9, 10] (.take 7 [7, 8, 11, 9, 10] (.take 8 [8, 9, 11, 10] (.eff true 6 (.eff false 9 (.take 10 [10, 11] (.eff false 11 .done)))))))))))))]
def pf37 : PFn := ⟨42, [.cell 4 (some 2)], (.seq (.ops false [⟨(some 4), .box 63 (.c (.agg [(.v (.int .i64 0)), (.v (.slice none 0 0))])), none⟩] .done)
  (.seq (.seq (.ops false [⟨(some 7), .mov (.t 0), none⟩,
     ⟨(some 8), .eqp 1 true false (.t 7) (.c (.v .nilIface)), none⟩,
     ⟨(some 9), .mov (.t 8), none⟩,
     ⟨(some 10), .mov (.t 1), some (9, false)⟩,
     ⟨(some 11), .bin .eql (.t 10) (.c (.v (.int .i64 0))), some (9, false)⟩,
     ⟨(some 12), .pick (.t 9) (.c (.v (.bool true))) (.t 11), none⟩] .done)
   (.cond (.t 12)
    (.seq (.ops false [⟨(some 13), .call 21 [(.c (.v (.int .i64 (-1))))], none⟩,
       ⟨none, .store 2 (.t 4) (.t 13), none⟩] .done)
     .ret)
    .skip))
  (.seq (.seq (.ops false [⟨(some 14), .mov (.t 0), none⟩] .done)
   (.block 0 (.seq (.ops false [⟨(some 15), .tassert 81 true (.v (.pointer none)) (.t 14), none⟩,
      ⟨(some 16), .ext (.t 15) 1, none⟩,
      ⟨(some 17), .ext (.t 15) 0, none⟩] .done)
    (.cond (.t 16)
     (.seq (.ops false [⟨(some 5), .mov (.t 17), none⟩] .done)
      (.seq (.seq (.ops false [⟨(some 18), .mov (.t 5), none⟩,
         ⟨(some 19), .eqp 0 true false (.t 18) (.c (.v (.pointer none))), none⟩] .done)
       (.cond (.t 19)
        (.seq (.ops false [⟨(some 20), .call 21 [(.c (.v (.int .i64 (-1))))], none⟩,
           ⟨none, .store 2 (.t 4) (.t 20), none⟩] .done)
         .ret)
        .skip))
      (.seq (.ops false [⟨(some 21), .mov (.t 5), none⟩,
        ⟨(some 22), .nilck (.t 21), none⟩,
        ⟨(some 23), .fld 1 (.t 22), none⟩,
        ⟨(some 24), .load none (.t 23), none⟩,
        ⟨(some 25), .mov (.t 1), none⟩,
        ⟨(some 26), .bin .sub (.t 25) (.c (.v (.int .i64 1))), none⟩,
        ⟨(some 27), .call 37 [(.t 24), (.t 26)], none⟩,
        ⟨(some 6), .box 63 (.c (.agg [(.v (.int .i64 0)), (.v (.slice none 0 0))])), none⟩,
        ⟨none, .store 2 (.t 6) (.t 27), none⟩] .done)
      (.seq (.ops true [⟨(some 28), .fld 0 (.t 6), none⟩,
        ⟨(some 29), .load none (.t 28), none⟩,
        ⟨(some 30), .mov (.t 5), none⟩,
        ⟨(some 31), .nilck (.t 30), none⟩,
        ⟨(some 32), .fld 0 (.t 31), none⟩,
        ⟨(some 33), .load none (.t 32), none⟩,
        ⟨(some 34), .bslice 3 [.int .i64] 1 [(.v (.int .i64 0))] [(0, 1, (.t 33))], none⟩,
        ⟨(some 35), .fld 1 (.t 6), none⟩,
        ⟨(some 36), .load none (.t 35), none⟩,
        ⟨(some 37), .append 3 [.int .i64] [(.int .i64 0)] 8 (.t 34) (.t 36), none⟩,
        ⟨(some 38), .build [(.v (.int .i64 0)), (.v (.slice none 0 0))] [(0, 1, (.t 29)), (1, 1, (.t 37))], none⟩,
        ⟨none, .store 2 (.t 4) (.t 38), none⟩] (.take 0 [0, 1, 11, 10] (.take 1 [1, 10, 11] (.take 2 [2, 3, 11, 4, 5, 6, 9, 10] (.take 3 [3, 4, 11, 5, 6, 9, 10] (.take 4 [4, 5, 11, 6, 9, 10] (.take 5 [5, 6, 11, 9, 10] (.take 7 [7, 8, 11, 9, 10] (.take 8 [8, 9, 11, 10] (.eff true 6 (.eff false 9 (.take 10 [10, 11] (.eff false 11 .done)))))))))))))
      .ret))))
     .skip))))
  (.seq (.ops false [⟨(some 39), .mov (.t 0), none⟩,
    ⟨(some 40), .call 39 [(.t 39)], none⟩,
    ⟨(some 41), .call 21 [(.t 40)], none⟩,
    ⟨none, .store 2 (.t 4) (.t 41), none⟩] .done)
  .ret))))⟩
theorem pf37_eq : (Tryd.f37.body.map fun c => (cfn Tryd.prog pl37 Tryd.f37 c, guardsAll pl37 c)) = some (pf37, true) := by kernel_rfl

/-- corral/corralref.SameInts  sizes [(6, 11)] -/
def pl38 : Nat → DT := dtGet [(6, (.take 0 [0, 2, 9, 3, 8] (.take 1 [1, 2, 9, 3, 8] (.take 2 [2, 3, 9, 8] (.take 3 [3, 8, 9] (.take 4 [4, 6, 9, 7, 8] (.take 5 [5, 6, 9, 7, 8] (.take 6 [6, 7, 9, 8] (.take 7 [7, 8, 9] (.take 8 [8, 9] (.take 9 [9] .done)))))))))))]
def pf38 : PFn := ⟨29, [.t 4], (.seq (.ops false [⟨(some 4), .mov (.c (.v (.bool false))), none⟩] .done)
  (.seq (.seq (.ops false [⟨(some 7), .mov (.t 0), none⟩,
     ⟨(some 8), .len (.t 7), none⟩,
     ⟨(some 9), .mov (.t 1), none⟩,
     ⟨(some 10), .len (.t 9), none⟩,
     ⟨(some 11), .bin .neq (.t 8) (.t 10), none⟩] .done)
   (.cond (.t 11)
    (.seq (.ops false [⟨(some 4), .mov (.c (.v (.bool false))), none⟩] .done)
     .ret)
    .skip))
  (.seq (.seq (.ops false [⟨(some 5), .mov (.c (.v (.int .i64 0))), none⟩] .done)
   (.block 0 (.loop (.seq (.seq (.ops false [⟨(some 12), .mov (.t 5), none⟩,
        ⟨(some 13), .mov (.t 0), none⟩,
        ⟨(some 14), .len (.t 13), none⟩,
        ⟨(some 15), .bin .lss (.t 12) (.t 14), none⟩] .done)
      (.cond (.t 15)
       .skip
       (.exit 0)))
     (.seq (.block 1 (.seq (.ops true [⟨(some 18), .mov (.t 0), none⟩,
         ⟨(some 19), .mov (.t 5), none⟩,
         ⟨(some 20), .idx 1 (.t 18) (.t 19), none⟩,
         ⟨(some 21), .load none (.t 20), none⟩,
         ⟨(some 22), .mov (.t 1), none⟩,
         ⟨(some 23), .mov (.t 5), none⟩,
         ⟨(some 24), .idx 1 (.t 22) (.t 23), none⟩,
         ⟨(some 25), .load none (.t 24), none⟩,
         ⟨(some 26), .bin .eql (.t 21) (.t 25), none⟩,
         ⟨(some 6), .mov (.t 26), none⟩] (.take 0 [0, 2, 9, 3, 8] (.take 1 [1, 2, 9, 3, 8] (.take 2 [2, 3, 9, 8] (.take 3 [3, 8, 9] (.take 4 [4, 6, 9, 7, 8] (.take 5 [5, 6, 9, 7, 8] (.take 6 [6, 7, 9, 8] (.take 7 [7, 8, 9] (.take 8 [8, 9] (.take 9 [9] .done)))))))))))
       (.seq (.ops false [⟨(some 27), .mov (.t 6), none⟩,
         ⟨(some 28), .un .not (.t 27), none⟩] .done)
       (.cond (.t 28)
        (.seq (.ops false [⟨(some 4), .mov (.c (.v (.bool false))), none⟩] .done)
         .ret)
        .skip))))
     (.ops false [⟨(some 16), .mov (.t 5), none⟩,
      ⟨(some 17), .bin .add (.t 16) (.c (.v (.int .i64 1))), none⟩,
      ⟨(some 5), .mov (.t 17), none⟩] .done))))))
  (.seq (.ops false [⟨(some 4), .mov (.c (.v (.bool true))), none⟩] .done)
  .ret))))⟩
theorem pf38_eq : (Tryd.f38.body.map fun c => (cfn Tryd.prog pl38 Tryd.f38 c, guardsAll pl38 c)) = some (pf38, true) := by kernel_rfl

/-- corral/corralsee.sentinel  sizes [] -/
def pl39 : Nat → DT := dtGet []
def pf39 : PFn := ⟨20, [.t 2], (.seq (.ops false [⟨(some 2), .mov (.c (.v (.int .i64 0))), none⟩] .done)
  (.seq (.ops false [⟨(some 5), .call 40 [], none⟩,
    ⟨(some 3), .mov (.t 5), none⟩] .done)
  (.seq (.seq (.ops false [⟨(some 4), .mov (.c (.v (.int .i64 0))), none⟩] .done)
   (.block 0 (.loop (.seq (.seq (.ops false [⟨(some 6), .mov (.t 4), none⟩,
        ⟨(some 7), .mov (.t 3), none⟩,
        ⟨(some 8), .len (.t 7), none⟩,
        ⟨(some 9), .bin .lss (.t 6) (.t 8), none⟩] .done)
      (.cond (.t 9)
       .skip
       (.exit 0)))
     (.seq (.block 1 (.seq (.ops false [⟨(some 12), .mov (.t 0), none⟩,
         ⟨(some 13), .mov (.t 3), none⟩,
         ⟨(some 14), .mov (.t 4), none⟩,
         ⟨(some 15), .idx 1 (.t 13) (.t 14), none⟩,
         ⟨(some 16), .load none (.t 15), none⟩,
         ⟨(some 17), .call 41 [(.t 12), (.t 16)], none⟩] .done)
       (.cond (.t 17)
        (.seq (.ops false [⟨(some 18), .mov (.t 4), none⟩,
           ⟨(some 19), .bin .add (.c (.v (.int .i64 101))) (.t 18), none⟩,
           ⟨(some 2), .mov (.t 19), none⟩] .done)
         .ret)
        .skip)))
     (.ops false [⟨(some 10), .mov (.t 4), none⟩,
      ⟨(some 11), .bin .add (.t 10) (.c (.v (.int .i64 1))), none⟩,
      ⟨(some 4), .mov (.t 11), none⟩] .done))))))
  (.seq (.ops false [⟨(some 2), .mov (.c (.v (.int .i64 (-1)))), none⟩] .done)
  .ret))))⟩
theorem pf39_eq : (Tryd.f39.body.map fun c => (cfn Tryd.prog pl39 Tryd.f39 c, guardsAll pl39 c)) = some (pf39, true) := by kernel_rfl

/-- corral/corralsee.sentinels  sizes [] -/
def pl40 : Nat → DT := dtGet []
def pf40 : PFn := ⟨13, [.t 0], (.seq (.ops false [⟨(some 0), .mov (.c (.v (.slice none 0 0))), none⟩] .done)
  (.seq (.ops false [⟨(some 1), .load none (.c (.v (.pointer (some ⟨1, 0, none⟩)))), none⟩,
    ⟨(some 2), .load none (.c (.v (.pointer (some ⟨2, 0, none⟩)))), none⟩,
    ⟨(some 3), .load none (.c (.v (.pointer (some ⟨3, 0, none⟩)))), none⟩,
    ⟨(some 4), .load none (.c (.v (.pointer (some ⟨4, 0, none⟩)))), none⟩,
    ⟨(some 5), .load none (.c (.v (.pointer (some ⟨5, 0, none⟩)))), none⟩,
    ⟨(some 6), .load none (.c (.v (.pointer (some ⟨0, 0, none⟩)))), none⟩,
    ⟨(some 7), .load none (.c (.v (.pointer (some ⟨6, 0, none⟩)))), none⟩,
    ⟨(some 8), .load none (.c (.v (.pointer (some ⟨7, 0, none⟩)))), none⟩,
    ⟨(some 9), .load none (.c (.v (.pointer (some ⟨8, 0, none⟩)))), none⟩,
    ⟨(some 10), .load none (.c (.v (.pointer (some ⟨9, 0, none⟩)))), none⟩,
    ⟨(some 11), .load none (.c (.v (.pointer (some ⟨10, 0, none⟩)))), none⟩,
    ⟨(some 12), .bslice 27 [.raw] 11 [(.v .nilIface), (.v .nilIface), (.v .nilIface), (.v .nilIface), (.v .nilIface), (.v .nilIface), (.v .nilIface), (.v .nilIface), (.v .nilIface), (.v .nilIface), (.v .nilIface)] [(0, 1, (.t 1)), (1, 1, (.t 2)), (2, 1, (.t 3)), (3, 1, (.t 4)), (4, 1, (.t 5)), (5, 1, (.t 6)), (6, 1, (.t 7)), (7, 1, (.t 8)), (8, 1, (.t 9)), (9, 1, (.t 10)), (10, 1, (.t 11))], none⟩,
    ⟨(some 0), .mov (.t 12), none⟩] .done)
  .ret))⟩
theorem pf40_eq : (Tryd.f40.body.map fun c => (cfn Tryd.prog pl40 Tryd.f40 c, guardsAll pl40 c)) = some (pf40, true) := by kernel_rfl

/-- corral/corralsee.Alike  sizes [] -/
def pl41 : Nat → DT := dtGet []
def pf41 : PFn := ⟨20, [.t 4], (.seq (.ops false [⟨(some 4), .mov (.c (.v (.bool false))), none⟩] .done)
  (.seq (.seq (.ops false [⟨(some 5), .mov (.t 0), none⟩,
     ⟨(some 6), .eqp 1 true false (.t 5) (.c (.v .nilIface)), none⟩,
     ⟨(some 7), .mov (.t 6), none⟩,
     ⟨(some 8), .mov (.t 1), some (7, false)⟩,
     ⟨(some 9), .eqp 1 true false (.t 8) (.c (.v .nilIface)), some (7, false)⟩,
     ⟨(some 10), .pick (.t 7) (.c (.v (.bool true))) (.t 9), none⟩] .done)
   (.cond (.t 10)
    (.seq (.ops false [⟨(some 11), .mov (.t 0), none⟩,
       ⟨(some 12), .eqp 1 true false (.t 11) (.c (.v .nilIface)), none⟩,
       ⟨(some 13), .mov (.t 12), none⟩,
       ⟨(some 14), .mov (.t 1), some (13, true)⟩,
       ⟨(some 15), .eqp 1 true false (.t 14) (.c (.v .nilIface)), some (13, true)⟩,
       ⟨(some 16), .pick (.t 13) (.t 15) (.c (.v (.bool false))), none⟩,
       ⟨(some 4), .mov (.t 16), none⟩] .done)
     .ret)
    .skip))
  (.seq (.ops false [⟨(some 17), .mov (.t 0), none⟩,
    ⟨(some 18), .mov (.t 1), none⟩,
    ⟨(some 19), .eqp 1 false false (.t 17) (.t 18), none⟩,
    ⟨(some 4), .mov (.t 19), none⟩] .done)
  .ret)))⟩
theorem pf41_eq : (Tryd.f41.body.map fun c => (cfn Tryd.prog pl41 Tryd.f41 c, guardsAll pl41 c)) = some (pf41, true) := by kernel_rfl

theorem at3 : Tryd.prog.funcs[3]? = some Tryd.f3 ∧ (Tryd.f3.name == "runtime.NumGoroutine") = false := ⟨by kernel_rfl, by kernel_rfl⟩
theorem at4 : Tryd.prog.funcs[4]? = some Tryd.f4 ∧ (Tryd.f4.name == "runtime.NumGoroutine") = false := ⟨by kernel_rfl, by kernel_rfl⟩
theorem at5 : Tryd.prog.funcs[5]? = some Tryd.f5 ∧ (Tryd.f5.name == "runtime.NumGoroutine") = false := ⟨by kernel_rfl, by kernel_rfl⟩
theorem at6 : Tryd.prog.funcs[6]? = some Tryd.f6 ∧ (Tryd.f6.name == "runtime.NumGoroutine") = false := ⟨by kernel_rfl, by kernel_rfl⟩
theorem at7 : Tryd.prog.funcs[7]? = some Tryd.f7 ∧ (Tryd.f7.name == "runtime.NumGoroutine") = false := ⟨by kernel_rfl, by kernel_rfl⟩
theorem at8 : Tryd.prog.funcs[8]? = some Tryd.f8 ∧ (Tryd.f8.name == "runtime.NumGoroutine") = false := ⟨by kernel_rfl, by kernel_rfl⟩
theorem at9 : Tryd.prog.funcs[9]? = some Tryd.f9 ∧ (Tryd.f9.name == "runtime.NumGoroutine") = false := ⟨by kernel_rfl, by kernel_rfl⟩
theorem at10 : Tryd.prog.funcs[10]? = some Tryd.f10 ∧ (Tryd.f10.name == "runtime.NumGoroutine") = false := ⟨by kernel_rfl, by kernel_rfl⟩
theorem at11 : Tryd.prog.funcs[11]? = some Tryd.f11 ∧ (Tryd.f11.name == "runtime.NumGoroutine") = false := ⟨by kernel_rfl, by kernel_rfl⟩
theorem at12 : Tryd.prog.funcs[12]? = some Tryd.f12 ∧ (Tryd.f12.name == "runtime.NumGoroutine") = false := ⟨by kernel_rfl, by kernel_rfl⟩
theorem at13 : Tryd.prog.funcs[13]? = some Tryd.f13 ∧ (Tryd.f13.name == "runtime.NumGoroutine") = false := ⟨by kernel_rfl, by kernel_rfl⟩
theorem at14 : Tryd.prog.funcs[14]? = some Tryd.f14 ∧ (Tryd.f14.name == "runtime.NumGoroutine") = false := ⟨by kernel_rfl, by kernel_rfl⟩
theorem at15 : Tryd.prog.funcs[15]? = some Tryd.f15 ∧ (Tryd.f15.name == "runtime.NumGoroutine") = false := ⟨by kernel_rfl, by kernel_rfl⟩
theorem at16 : Tryd.prog.funcs[16]? = some Tryd.f16 ∧ (Tryd.f16.name == "runtime.NumGoroutine") = false := ⟨by kernel_rfl, by kernel_rfl⟩
theorem at17 : Tryd.prog.funcs[17]? = some Tryd.f17 ∧ (Tryd.f17.name == "runtime.NumGoroutine") = false := ⟨by kernel_rfl, by kernel_rfl⟩
theorem at18 : Tryd.prog.funcs[18]? = some Tryd.f18 ∧ (Tryd.f18.name == "runtime.NumGoroutine") = false := ⟨by kernel_rfl, by kernel_rfl⟩
theorem at19 : Tryd.prog.funcs[19]? = some Tryd.f19 ∧ (Tryd.f19.name == "runtime.NumGoroutine") = false := ⟨by kernel_rfl, by kernel_rfl⟩
theorem at20 : Tryd.prog.funcs[20]? = some Tryd.f20 ∧ (Tryd.f20.name == "runtime.NumGoroutine") = false := ⟨by kernel_rfl, by kernel_rfl⟩
theorem at21 : Tryd.prog.funcs[21]? = some Tryd.f21 ∧ (Tryd.f21.name == "runtime.NumGoroutine") = false := ⟨by kernel_rfl, by kernel_rfl⟩
theorem at22 : Tryd.prog.funcs[22]? = some Tryd.f22 ∧ (Tryd.f22.name == "runtime.NumGoroutine") = false := ⟨by kernel_rfl, by kernel_rfl⟩
theorem at23 : Tryd.prog.funcs[23]? = some Tryd.f23 ∧ (Tryd.f23.name == "runtime.NumGoroutine") = false := ⟨by kernel_rfl, by kernel_rfl⟩
theorem at24 : Tryd.prog.funcs[24]? = some Tryd.f24 ∧ (Tryd.f24.name == "runtime.NumGoroutine") = false := ⟨by kernel_rfl, by kernel_rfl⟩
theorem at25 : Tryd.prog.funcs[25]? = some Tryd.f25 ∧ (Tryd.f25.name == "runtime.NumGoroutine") = false := ⟨by kernel_rfl, by kernel_rfl⟩
theorem at26 : Tryd.prog.funcs[26]? = some Tryd.f26 ∧ (Tryd.f26.name == "runtime.NumGoroutine") = false := ⟨by kernel_rfl, by kernel_rfl⟩
theorem at27 : Tryd.prog.funcs[27]? = some Tryd.f27 ∧ (Tryd.f27.name == "runtime.NumGoroutine") = false := ⟨by kernel_rfl, by kernel_rfl⟩
theorem at28 : Tryd.prog.funcs[28]? = some Tryd.f28 ∧ (Tryd.f28.name == "runtime.NumGoroutine") = false := ⟨by kernel_rfl, by kernel_rfl⟩
theorem at29 : Tryd.prog.funcs[29]? = some Tryd.f29 ∧ (Tryd.f29.name == "runtime.NumGoroutine") = false := ⟨by kernel_rfl, by kernel_rfl⟩
theorem at30 : Tryd.prog.funcs[30]? = some Tryd.f30 ∧ (Tryd.f30.name == "runtime.NumGoroutine") = false := ⟨by kernel_rfl, by kernel_rfl⟩
theorem at31 : Tryd.prog.funcs[31]? = some Tryd.f31 ∧ (Tryd.f31.name == "runtime.NumGoroutine") = false := ⟨by kernel_rfl, by kernel_rfl⟩
theorem at32 : Tryd.prog.funcs[32]? = some Tryd.f32 ∧ (Tryd.f32.name == "runtime.NumGoroutine") = false := ⟨by kernel_rfl, by kernel_rfl⟩
theorem at33 : Tryd.prog.funcs[33]? = some Tryd.f33 ∧ (Tryd.f33.name == "runtime.NumGoroutine") = false := ⟨by kernel_rfl, by kernel_rfl⟩
theorem at34 : Tryd.prog.funcs[34]? = some Tryd.f34 ∧ (Tryd.f34.name == "runtime.NumGoroutine") = false := ⟨by kernel_rfl, by kernel_rfl⟩
theorem at35 : Tryd.prog.funcs[35]? = some Tryd.f35 ∧ (Tryd.f35.name == "runtime.NumGoroutine") = false := ⟨by kernel_rfl, by kernel_rfl⟩
theorem at36 : Tryd.prog.funcs[36]? = some Tryd.f36 ∧ (Tryd.f36.name == "runtime.NumGoroutine") = false := ⟨by kernel_rfl, by kernel_rfl⟩
theorem at37 : Tryd.prog.funcs[37]? = some Tryd.f37 ∧ (Tryd.f37.name == "runtime.NumGoroutine") = false := ⟨by kernel_rfl, by kernel_rfl⟩
theorem at38 : Tryd.prog.funcs[38]? = some Tryd.f38 ∧ (Tryd.f38.name == "runtime.NumGoroutine") = false := ⟨by kernel_rfl, by kernel_rfl⟩
theorem at39 : Tryd.prog.funcs[39]? = some Tryd.f39 ∧ (Tryd.f39.name == "runtime.NumGoroutine") = false := ⟨by kernel_rfl, by kernel_rfl⟩
theorem at40 : Tryd.prog.funcs[40]? = some Tryd.f40 ∧ (Tryd.f40.name == "runtime.NumGoroutine") = false := ⟨by kernel_rfl, by kernel_rfl⟩
theorem at41 : Tryd.prog.funcs[41]? = some Tryd.f41 ∧ (Tryd.f41.name == "runtime.NumGoroutine") = false := ⟨by kernel_rfl, by kernel_rfl⟩
def tab : List (Nat × PFn) := [(3, pf3), (4, pf4), (5, pf5), (6, pf6), (7, pf7), (8, pf8), (9, pf9), (10, pf10), (11, pf11), (12, pf12), (13, pf13), (14, pf14), (15, pf15), (16, pf16), (17, pf17), (18, pf18), (19, pf19), (20, pf20), (21, pf21), (22, pf22), (23, pf23), (24, pf24), (25, pf25), (26, pf26), (27, pf27), (28, pf28), (29, pf29), (30, pf30), (31, pf31), (32, pf32), (33, pf33), (34, pf34), (35, pf35), (36, pf36), (37, pf37), (38, pf38), (39, pf39), (40, pf40), (41, pf41)]
theorem tab_ok : TabOK Tryd.prog tab :=
  .cons mixed at3 pf3_eq (.cons mixed at4 pf4_eq (.cons mixed at5 pf5_eq (.cons mixed at6 pf6_eq (.cons mixed at7 pf7_eq (.cons mixed at8 pf8_eq (.cons mixed at9 pf9_eq (.cons mixed at10 pf10_eq (.cons mixed at11 pf11_eq (.cons mixed at12 pf12_eq (.cons mixed at13 pf13_eq (.cons mixed at14 pf14_eq (.cons mixed at15 pf15_eq (.cons mixed at16 pf16_eq (.cons mixed at17 pf17_eq (.cons mixed at18 pf18_eq (.cons mixed at19 pf19_eq (.cons mixed at20 pf20_eq (.cons mixed at21 pf21_eq (.cons mixed at22 pf22_eq (.cons mixed at23 pf23_eq (.cons mixed at24 pf24_eq (.cons mixed at25 pf25_eq (.cons mixed at26 pf26_eq (.cons mixed at27 pf27_eq (.cons mixed at28 pf28_eq (.cons mixed at29 pf29_eq (.cons mixed at30 pf30_eq (.cons mixed at31 pf31_eq (.cons mixed at32 pf32_eq (.cons mixed at33 pf33_eq (.cons mixed at34 pf34_eq (.cons mixed at35 pf35_eq (.cons mixed at36 pf36_eq (.cons mixed at37 pf37_eq (.cons mixed at38 pf38_eq (.cons mixed at39 pf39_eq (.cons mixed at40 pf40_eq (.cons mixed at41 pf41_eq (.nil)))))))))))))))))))))))))))))))))))))))
noncomputable def G0 : Nat → Option Trans := tabG (tget []) (tget tab) 5
theorem G0_ok : GOK Tryd.prog G0 := tabG_ok .nil tab_ok 5
end Go.Proofs.YtdmcdlgcmeledaaDoor
