/-
  The programs of the functions that the laws reach, read off the given program by the kernel.
-/
import Derived.Test.YtjbknaniihkcnaaDoorProg
import Derived.Test.YtjbknaniihkcnaaDoorVcs
namespace Go.Proofs.YtjbknaniihkcnaaDoor
open Go Go.Vc
set_option maxRecDepth 100000
theorem mixed : Tryd.prog.follows .mixedOrders = true := by kernel_rfl
/-- corral/corrallaw25.LsqForwards  sizes [] -/
def pl3 : Nat → DT := dtGet []
def pf3 : PFn := ⟨175, [.t 2], (.seq (.ops false [⟨(some 2), .mov (.c (.v (.bool false))), none⟩] .done)
  (.seq (.ops false [⟨(some 20), .call 5 [], none⟩,
    ⟨(some 3), .mov (.t 20), none⟩] .done)
  (.seq (.seq (.ops false [⟨(some 21), .mov (.t 3), none⟩,
     ⟨(some 22), .un .not (.t 21), none⟩] .done)
   (.cond (.t 22)
    (.seq (.ops false [⟨(some 2), .mov (.c (.v (.bool false))), none⟩] .done)
     .ret)
    .skip))
  (.seq (.seq (.ops false [⟨(some 23), .mov (.t 0), none⟩,
     ⟨(some 24), .len (.t 23), none⟩,
     ⟨(some 25), .bin .gtr (.t 24) (.c (.v (.int .i64 30))), none⟩,
     ⟨(some 26), .mov (.t 25), none⟩,
     ⟨(some 27), .mov (.t 3), some (26, false)⟩,
     ⟨(some 28), .un .not (.t 27), some (26, false)⟩,
     ⟨(some 29), .pick (.t 26) (.c (.v (.bool true))) (.t 28), none⟩] .done)
   (.cond (.t 29)
    (.seq (.ops false [⟨(some 30), .mov (.t 3), none⟩,
       ⟨(some 2), .mov (.t 30), none⟩] .done)
     .ret)
    .skip))
  (.seq (.ops false [⟨(some 32), .call 6 [(.c (.v (.int .i64 64)))], none⟩,
    ⟨(some 31), .mov (.t 32), none⟩,
    ⟨(some 33), .ext (.t 31) 0, none⟩,
    ⟨(some 34), .ext (.t 31) 1, none⟩,
    ⟨(some 4), .mov (.t 33), none⟩,
    ⟨(some 5), .mov (.t 34), none⟩] .done)
  (.seq (.ops false [⟨(some 36), .call 7 [(.c (.v (.int .i64 16))), (.c (.v (.slice none 0 0)))], none⟩,
    ⟨(some 35), .mov (.t 36), none⟩,
    ⟨(some 37), .ext (.t 35) 0, none⟩,
    ⟨(some 38), .ext (.t 35) 1, none⟩,
    ⟨(some 6), .mov (.t 37), none⟩,
    ⟨(some 7), .mov (.t 38), none⟩] .done)
  (.seq (.seq (.ops false [⟨(some 39), .mov (.t 4), none⟩,
     ⟨(some 40), .eqp 0 true false (.t 39) (.c (.v (.pointer none))), none⟩,
     ⟨(some 41), .mov (.t 40), none⟩,
     ⟨(some 42), .mov (.t 5), some (41, false)⟩,
     ⟨(some 43), .eqp 1 true true (.t 42) (.c (.v .nilIface)), some (41, false)⟩,
     ⟨(some 44), .pick (.t 41) (.c (.v (.bool true))) (.t 43), none⟩,
     ⟨(some 45), .mov (.t 44), none⟩,
     ⟨(some 46), .mov (.t 7), some (45, false)⟩,
     ⟨(some 47), .bin .neq (.t 46) (.c (.v (.int .i64 0))), some (45, false)⟩,
     ⟨(some 48), .pick (.t 45) (.c (.v (.bool true))) (.t 47), none⟩] .done)
   (.cond (.t 48)
    (.seq (.ops false [⟨(some 2), .mov (.c (.v (.bool false))), none⟩] .done)
     .ret)
    .skip))
  (.seq (.ops false [⟨(some 49), .mslice 4 [.bool] [(.bool false)] 1 (.c (.v (.int .i64 16))) (.c (.v (.int .i64 16))), none⟩,
    ⟨(some 8), .mov (.t 49), none⟩] .done)
  (.seq (.seq (.ops false [⟨(some 9), .mov (.c (.v (.int .i64 0))), none⟩] .done)
   (.block 0 (.loop (.seq (.seq (.ops false [⟨(some 50), .mov (.t 9), none⟩,
        ⟨(some 51), .mov (.t 0), none⟩,
        ⟨(some 52), .len (.t 51), none⟩,
        ⟨(some 53), .bin .lss (.t 50) (.t 52), none⟩] .done)
      (.cond (.t 53)
       .skip
       (.exit 0)))
     (.seq (.block 1 (.seq (.ops false [⟨(some 56), .bslice 3 [.int .i64] 3 [(.v (.int .i64 0)), (.v (.int .i64 0)), (.v (.int .i64 0))] [(0, 1, (.c (.v (.int .i64 1)))), (1, 1, (.c (.v (.int .i64 2)))), (2, 1, (.c (.v (.int .i64 4))))], none⟩,
         ⟨(some 57), .mov (.t 0), none⟩,
         ⟨(some 58), .mov (.t 9), none⟩,
         ⟨(some 59), .idx 7 (.t 57) (.t 58), none⟩,
         ⟨(some 60), .fld 2 (.t 59), none⟩,
         ⟨(some 61), .load none (.t 60), none⟩,
         ⟨(some 62), .call 8 [(.t 61), (.c (.v (.int .i64 3)))], none⟩,
         ⟨(some 63), .idx 1 (.t 56) (.t 62), none⟩,
         ⟨(some 64), .load none (.t 63), none⟩,
         ⟨(some 10), .mov (.t 64), none⟩] .done)
       (.seq (.ops false [⟨(some 65), .mov (.t 0), none⟩,
         ⟨(some 66), .mov (.t 9), none⟩,
         ⟨(some 67), .idx 7 (.t 65) (.t 66), none⟩,
         ⟨(some 68), .fld 4 (.t 67), none⟩,
         ⟨(some 69), .load none (.t 68), none⟩,
         ⟨(some 70), .bin .rem (.t 69) (.c (.v (.int .u32 16))), none⟩,
         ⟨(some 71), .mov (.t 10), none⟩,
         ⟨(some 72), .bin .sub (.t 71) (.c (.v (.int .i64 1))), none⟩,
         ⟨(some 73), .conv .u32 (.t 72), none⟩,
         ⟨(some 74), .bin .andNot (.t 70) (.t 73), none⟩,
         ⟨(some 11), .mov (.t 74), none⟩] .done)
       (.seq (.seq (.ops false [⟨(some 75), .mov (.t 4), none⟩,
          ⟨(some 76), .mov (.t 9), none⟩,
          ⟨(some 77), .mov (.t 0), none⟩,
          ⟨(some 78), .mov (.t 9), none⟩,
          ⟨(some 79), .idx 7 (.t 77) (.t 78), none⟩,
          ⟨(some 80), .fld 3 (.t 79), none⟩,
          ⟨(some 81), .load none (.t 80), none⟩,
          ⟨(some 82), .call 9 [(.t 75), (.t 76), (.t 81)], none⟩,
          ⟨(some 83), .un .not (.t 82), none⟩,
          ⟨(some 84), .mov (.t 83), none⟩,
          ⟨(some 85), .mov (.t 4), some (84, false)⟩,
          ⟨(some 86), .mov (.t 9), some (84, false)⟩,
          ⟨(some 87), .mov (.t 11), some (84, false)⟩,
          ⟨(some 88), .mov (.t 10), some (84, false)⟩,
          ⟨(some 89), .call 10 [(.t 85), (.t 86), (.t 87), (.t 88)], some (84, false)⟩,
          ⟨(some 90), .un .not (.t 89), some (84, false)⟩,
          ⟨(some 91), .pick (.t 84) (.c (.v (.bool true))) (.t 90), none⟩] .done)
        (.cond (.t 91)
         (.seq (.ops false [⟨(some 2), .mov (.c (.v (.bool false))), none⟩] .done)
          .ret)
         .skip))
       (.seq (.seq (.ops false [⟨(some 92), .mov (.t 0), none⟩,
          ⟨(some 93), .mov (.t 9), none⟩,
          ⟨(some 94), .idx 7 (.t 92) (.t 93), none⟩,
          ⟨(some 95), .fld 3 (.t 94), none⟩,
          ⟨(some 96), .load none (.t 95), none⟩] .done)
        (.cond (.t 96)
         (.seq (.seq (.ops false [⟨(some 97), .mov (.t 4), none⟩,
             ⟨(some 98), .mov (.t 9), none⟩,
             ⟨(some 99), .mov (.t 0), none⟩,
             ⟨(some 100), .mov (.t 9), none⟩,
             ⟨(some 101), .idx 7 (.t 99) (.t 100), none⟩,
             ⟨(some 102), .fld 5 (.t 101), none⟩,
             ⟨(some 103), .load none (.t 102), none⟩,
             ⟨(some 104), .call 11 [(.t 97), (.t 98), (.t 103)], none⟩,
             ⟨(some 105), .un .not (.t 104), none⟩,
             ⟨(some 106), .mov (.t 105), none⟩,
             ⟨(some 107), .mov (.t 6), some (106, false)⟩,
             ⟨(some 108), .mov (.t 11), some (106, false)⟩,
             ⟨(some 109), .mov (.t 10), some (106, false)⟩,
             ⟨(some 110), .mov (.t 0), some (106, false)⟩,
             ⟨(some 111), .mov (.t 9), some (106, false)⟩,
             ⟨(some 112), .idx 7 (.t 110) (.t 111), some (106, false)⟩,
             ⟨(some 113), .fld 5 (.t 112), some (106, false)⟩,
             ⟨(some 114), .load none (.t 113), some (106, false)⟩,
             ⟨(some 115), .call 12 [(.t 107), (.t 108), (.t 109), (.t 114)], some (106, false)⟩,
             ⟨(some 116), .un .not (.t 115), some (106, false)⟩,
             ⟨(some 117), .pick (.t 106) (.c (.v (.bool true))) (.t 116), none⟩] .done)
           (.cond (.t 117)
            (.seq (.ops false [⟨(some 2), .mov (.c (.v (.bool false))), none⟩] .done)
             .ret)
            .skip))
          (.seq (.seq (.ops false [⟨(some 12), .mov (.c (.v (.int .i64 0))), none⟩] .done)
           (.block 2 (.loop (.seq (.seq (.ops false [⟨(some 118), .mov (.t 12), none⟩,
                ⟨(some 119), .mov (.t 10), none⟩,
                ⟨(some 120), .bin .lss (.t 118) (.t 119), none⟩] .done)
              (.cond (.t 120)
               .skip
               (.exit 2)))
             (.seq (.block 3 (.ops false [⟨(some 123), .mov (.t 8), none⟩,
                ⟨(some 124), .mov (.t 11), none⟩,
                ⟨(some 125), .conv .i64 (.t 124), none⟩,
                ⟨(some 126), .mov (.t 12), none⟩,
                ⟨(some 127), .bin .add (.t 125) (.t 126), none⟩,
                ⟨(some 128), .idx 1 (.t 123) (.t 127), none⟩,
                ⟨none, .store 1 (.t 128) (.c (.v (.bool true))), none⟩] .done))
             (.ops false [⟨(some 121), .mov (.t 12), none⟩,
              ⟨(some 122), .bin .add (.t 121) (.c (.v (.int .i64 1))), none⟩,
              ⟨(some 12), .mov (.t 122), none⟩] .done))))))
          (.exit 1)))
         .skip))
       (.seq (.ops false [⟨(some 13), .mov (.c (.v (.bool false))), none⟩] .done)
       (.seq (.seq (.ops false [⟨(some 14), .mov (.c (.v (.int .i64 0))), none⟩] .done)
        (.block 4 (.loop (.seq (.seq (.ops false [⟨(some 129), .mov (.t 14), none⟩,
             ⟨(some 130), .mov (.t 10), none⟩,
             ⟨(some 131), .bin .lss (.t 129) (.t 130), none⟩] .done)
           (.cond (.t 131)
            .skip
            (.exit 4)))
          (.seq (.block 5 (.ops false [⟨(some 134), .mov (.t 13), none⟩,
             ⟨(some 135), .mov (.t 134), none⟩,
             ⟨(some 136), .mov (.t 8), some (135, false)⟩,
             ⟨(some 137), .mov (.t 11), some (135, false)⟩,
             ⟨(some 138), .conv .i64 (.t 137), some (135, false)⟩,
             ⟨(some 139), .mov (.t 14), some (135, false)⟩,
             ⟨(some 140), .bin .add (.t 138) (.t 139), some (135, false)⟩,
             ⟨(some 141), .idx 1 (.t 136) (.t 140), some (135, false)⟩,
             ⟨(some 142), .load none (.t 141), some (135, false)⟩,
             ⟨(some 143), .pick (.t 135) (.c (.v (.bool true))) (.t 142), none⟩,
             ⟨(some 13), .mov (.t 143), none⟩] .done))
          (.ops false [⟨(some 132), .mov (.t 14), none⟩,
           ⟨(some 133), .bin .add (.t 132) (.c (.v (.int .i64 1))), none⟩,
           ⟨(some 14), .mov (.t 133), none⟩] .done))))))
       (.seq (.ops false [⟨(some 145), .mov (.t 4), none⟩,
         ⟨(some 146), .mov (.t 9), none⟩,
         ⟨(some 147), .call 13 [(.t 145), (.t 146)], none⟩,
         ⟨(some 144), .mov (.t 147), none⟩,
         ⟨(some 148), .ext (.t 144) 0, none⟩,
         ⟨(some 149), .ext (.t 144) 1, none⟩,
         ⟨(some 150), .ext (.t 144) 2, none⟩,
         ⟨(some 15), .mov (.t 148), none⟩,
         ⟨(some 16), .mov (.t 149), none⟩,
         ⟨(some 17), .mov (.t 150), none⟩] .done)
       (.seq (.ops false [⟨(some 152), .mov (.t 6), none⟩,
         ⟨(some 153), .mov (.t 11), none⟩,
         ⟨(some 154), .mov (.t 10), none⟩,
         ⟨(some 155), .call 14 [(.t 152), (.t 153), (.t 154)], none⟩,
         ⟨(some 151), .mov (.t 155), none⟩,
         ⟨(some 156), .ext (.t 151) 0, none⟩,
         ⟨(some 157), .ext (.t 151) 1, none⟩,
         ⟨(some 18), .mov (.t 156), none⟩,
         ⟨(some 19), .mov (.t 157), none⟩] .done)
       (.seq (.ops false [⟨(some 158), .mov (.t 15), none⟩,
         ⟨(some 159), .bin .eql (.t 158) (.c (.v (.int .i64 0))), none⟩,
         ⟨(some 160), .mov (.t 13), none⟩,
         ⟨(some 161), .eqb false (.t 159) (.t 160), none⟩,
         ⟨(some 162), .mov (.t 161), none⟩,
         ⟨(some 163), .mov (.t 15), some (162, false)⟩,
         ⟨(some 164), .bin .eql (.t 163) (.c (.v (.int .i64 3))), some (162, false)⟩,
         ⟨(some 165), .pick (.t 162) (.c (.v (.bool true))) (.t 164), none⟩,
         ⟨(some 166), .mov (.t 165), none⟩,
         ⟨(some 167), .mov (.t 15), some (166, false)⟩,
         ⟨(some 168), .bin .eql (.t 167) (.c (.v (.int .i64 1))), some (166, false)⟩,
         ⟨(some 169), .mov (.t 168), some (166, false)⟩,
         ⟨(some 170), .mov (.t 16), some (169, true)⟩,
         ⟨(some 171), .mov (.t 18), some (169, true)⟩,
         ⟨(some 172), .bin .neq (.t 170) (.t 171), some (169, true)⟩,
         ⟨(some 173), .pick (.t 169) (.t 172) (.c (.v (.bool false))), some (166, false)⟩,
         ⟨(some 174), .pick (.t 166) (.c (.v (.bool true))) (.t 173), none⟩] .done)
       (.cond (.t 174)
        (.seq (.ops false [⟨(some 2), .mov (.c (.v (.bool false))), none⟩] .done)
         .ret)
        .skip)))))))))))
     (.ops false [⟨(some 54), .mov (.t 9), none⟩,
      ⟨(some 55), .bin .add (.t 54) (.c (.v (.int .i64 1))), none⟩,
      ⟨(some 9), .mov (.t 55), none⟩] .done))))))
  (.seq (.ops false [⟨(some 2), .mov (.c (.v (.bool true))), none⟩] .done)
  .ret))))))))))⟩
theorem pf3_eq : (Tryd.f3.body.map fun c => (cfn Tryd.prog pl3 Tryd.f3 c, guardsAll pl3 c)) = some (pf3, true) := by kernel_rfl

/-- corral/corrallaw25.LsqHits  sizes [] -/
def pl4 : Nat → DT := dtGet []
def pf4 : PFn := ⟨102, [.t 6], (.seq (.ops false [⟨(some 6), .mov (.c (.v (.bool false))), none⟩] .done)
  (.seq (.ops false [⟨(some 14), .call 5 [], none⟩,
    ⟨(some 7), .mov (.t 14), none⟩] .done)
  (.seq (.seq (.ops false [⟨(some 15), .mov (.t 7), none⟩,
     ⟨(some 16), .un .not (.t 15), none⟩] .done)
   (.cond (.t 16)
    (.seq (.ops false [⟨(some 6), .mov (.c (.v (.bool false))), none⟩] .done)
     .ret)
    .skip))
  (.seq (.seq (.ops false [⟨(some 17), .mov (.t 0), none⟩,
     ⟨(some 18), .len (.t 17), none⟩,
     ⟨(some 19), .bin .gtr (.t 18) (.c (.v (.int .i64 30))), none⟩,
     ⟨(some 20), .mov (.t 19), none⟩,
     ⟨(some 21), .mov (.t 7), some (20, false)⟩,
     ⟨(some 22), .un .not (.t 21), some (20, false)⟩,
     ⟨(some 23), .pick (.t 20) (.c (.v (.bool true))) (.t 22), none⟩] .done)
   (.cond (.t 23)
    (.seq (.ops false [⟨(some 24), .mov (.t 7), none⟩,
       ⟨(some 6), .mov (.t 24), none⟩] .done)
     .ret)
    .skip))
  (.seq (.ops false [⟨(some 26), .call 6 [(.c (.v (.int .i64 40)))], none⟩,
    ⟨(some 25), .mov (.t 26), none⟩,
    ⟨(some 27), .ext (.t 25) 0, none⟩,
    ⟨(some 28), .ext (.t 25) 1, none⟩,
    ⟨(some 8), .mov (.t 27), none⟩,
    ⟨(some 9), .mov (.t 28), none⟩] .done)
  (.seq (.seq (.ops false [⟨(some 29), .mov (.t 8), none⟩,
     ⟨(some 30), .eqp 0 true false (.t 29) (.c (.v (.pointer none))), none⟩,
     ⟨(some 31), .mov (.t 30), none⟩,
     ⟨(some 32), .mov (.t 9), some (31, false)⟩,
     ⟨(some 33), .eqp 1 true true (.t 32) (.c (.v .nilIface)), some (31, false)⟩,
     ⟨(some 34), .pick (.t 31) (.c (.v (.bool true))) (.t 33), none⟩] .done)
   (.cond (.t 34)
    (.seq (.ops false [⟨(some 6), .mov (.c (.v (.bool false))), none⟩] .done)
     .ret)
    .skip))
  (.seq (.ops false [⟨(some 35), .mov (.t 1), none⟩,
    ⟨(some 36), .call 8 [(.t 35), (.c (.v (.int .i64 4)))], none⟩,
    ⟨(some 1), .mov (.t 36), none⟩] .done)
  (.seq (.ops false [⟨(some 37), .mov (.t 2), none⟩,
    ⟨(some 38), .call 8 [(.t 37), (.c (.v (.int .i64 40)))], none⟩,
    ⟨(some 2), .mov (.t 38), none⟩] .done)
  (.seq (.ops false [⟨(some 10), .mov (.c (.v (.slice none 0 0))), none⟩] .done)
  (.seq (.seq (.ops false [⟨(some 11), .mov (.c (.v (.int .i64 0))), none⟩] .done)
   (.block 0 (.loop (.seq (.seq (.ops false [⟨(some 39), .mov (.t 11), none⟩,
        ⟨(some 40), .mov (.t 0), none⟩,
        ⟨(some 41), .len (.t 40), none⟩,
        ⟨(some 42), .bin .lss (.t 39) (.t 41), none⟩] .done)
      (.cond (.t 42)
       .skip
       (.exit 0)))
     (.seq (.block 1 (.seq (.ops false [⟨(some 45), .mov (.t 0), none⟩,
         ⟨(some 46), .mov (.t 11), none⟩,
         ⟨(some 47), .idx 1 (.t 45) (.t 46), none⟩,
         ⟨(some 48), .load none (.t 47), none⟩,
         ⟨(some 49), .bin .rem (.t 48) (.c (.v (.int .u32 64))), none⟩,
         ⟨(some 50), .bin .andNot (.t 49) (.c (.v (.int .u32 3))), none⟩,
         ⟨(some 12), .mov (.t 50), none⟩] .done)
       (.seq (.ops false [⟨(some 51), .mov (.t 8), none⟩,
         ⟨(some 52), .mov (.t 11), none⟩,
         ⟨(some 53), .call 9 [(.t 51), (.t 52), (.c (.v (.bool false)))], none⟩] .done)
       (.seq (.ops false [⟨(some 54), .mov (.t 8), none⟩,
         ⟨(some 55), .mov (.t 11), none⟩,
         ⟨(some 56), .mov (.t 12), none⟩,
         ⟨(some 57), .call 10 [(.t 54), (.t 55), (.t 56), (.c (.v (.int .i64 4)))], none⟩] .done)
       (.seq (.ops false [⟨(some 58), .mov (.t 0), none⟩,
         ⟨(some 59), .mov (.t 11), none⟩,
         ⟨(some 60), .idx 1 (.t 58) (.t 59), none⟩,
         ⟨(some 61), .load none (.t 60), none⟩,
         ⟨(some 62), .bin .shr (.t 61) (.c (.v (.int .u64 8))), none⟩,
         ⟨(some 63), .bin .and (.t 62) (.c (.v (.int .u32 1))), none⟩,
         ⟨(some 64), .bin .eql (.t 63) (.c (.v (.int .u32 0))), none⟩] .done)
       (.cond (.t 64)
        (.seq (.seq (.ops false [⟨(some 65), .mov (.t 8), none⟩,
            ⟨(some 66), .mov (.t 11), none⟩,
            ⟨(some 67), .mov (.t 11), none⟩,
            ⟨(some 68), .call 15 [(.t 65), (.t 66), (.t 67)], none⟩,
            ⟨(some 69), .un .not (.t 68), none⟩] .done)
          (.cond (.t 69)
           (.seq (.ops false [⟨(some 6), .mov (.c (.v (.bool false))), none⟩] .done)
            .ret)
           .skip))
         (.seq (.ops false [⟨(some 70), .mov (.t 12), none⟩,
           ⟨(some 71), .conv .i64 (.t 70), none⟩,
           ⟨(some 72), .bin .quo (.t 71) (.c (.v (.int .i64 16))), none⟩,
           ⟨(some 73), .mov (.t 1), none⟩,
           ⟨(some 74), .bin .eql (.t 72) (.t 73), none⟩,
           ⟨(some 75), .mov (.t 74), none⟩,
           ⟨(some 76), .mov (.t 11), some (75, true)⟩,
           ⟨(some 77), .mov (.t 2), some (75, true)⟩,
           ⟨(some 78), .bin .leq (.t 76) (.t 77), some (75, true)⟩,
           ⟨(some 79), .pick (.t 75) (.t 78) (.c (.v (.bool false))), none⟩] .done)
         (.cond (.t 79)
          (.ops false [⟨(some 80), .mov (.t 10), none⟩,
            ⟨(some 81), .mov (.t 11), none⟩,
            ⟨(some 82), .bslice 3 [.int .i64] 1 [(.v (.int .i64 0))] [(0, 1, (.t 81))], none⟩,
            ⟨(some 83), .append 3 [.int .i64] [(.int .i64 0)] 8 (.t 80) (.t 82), none⟩,
            ⟨(some 10), .mov (.t 83), none⟩] .done)
          .skip)))
        .skip))))))
     (.ops false [⟨(some 43), .mov (.t 11), none⟩,
      ⟨(some 44), .bin .add (.t 43) (.c (.v (.int .i64 1))), none⟩,
      ⟨(some 11), .mov (.t 44), none⟩] .done))))))
  (.seq (.ops false [⟨(some 84), .mov (.t 8), none⟩,
    ⟨(some 85), .mov (.t 2), none⟩,
    ⟨(some 86), .call 16 [(.t 84), (.t 85)], none⟩,
    ⟨(some 13), .mov (.t 86), none⟩] .done)
  (.seq (.ops false [⟨(some 87), .mov (.t 13), none⟩,
    ⟨(some 88), .mov (.t 0), none⟩,
    ⟨(some 89), .len (.t 88), none⟩,
    ⟨(some 90), .bin .sub (.t 89) (.c (.v (.int .i64 1))), none⟩,
    ⟨(some 91), .mov (.t 2), none⟩,
    ⟨(some 92), .bin .sub (.t 90) (.t 91), none⟩,
    ⟨(some 93), .minmax true [(.c (.v (.int .i64 0))), (.t 92)], none⟩,
    ⟨(some 94), .bin .eql (.t 87) (.t 93), none⟩,
    ⟨(some 95), .mov (.t 94), none⟩,
    ⟨(some 96), .mov (.t 8), some (95, true)⟩,
    ⟨(some 97), .mov (.t 1), some (95, true)⟩,
    ⟨(some 98), .call 18 [(.t 96), (.t 97)], some (95, true)⟩,
    ⟨(some 99), .mov (.t 10), some (95, true)⟩,
    ⟨(some 100), .call 17 [(.t 98), (.t 99)], some (95, true)⟩,
    ⟨(some 101), .pick (.t 95) (.t 100) (.c (.v (.bool false))), none⟩,
    ⟨(some 6), .mov (.t 101), none⟩] .done)
  .ret))))))))))))⟩
theorem pf4_eq : (Tryd.f4.body.map fun c => (cfn Tryd.prog pl4 Tryd.f4 c, guardsAll pl4 c)) = some (pf4, true) := by kernel_rfl

/-- corral/corrallaw25.first  sizes [] -/
def pl5 : Nat → DT := dtGet []
def pf5 : PFn := ⟨42, [.t 0], (.seq (.ops false [⟨(some 0), .mov (.c (.v (.bool false))), none⟩] .done)
  (.seq (.ops false [⟨(some 7), .call 6 [(.c (.v (.int .i64 4)))], none⟩,
    ⟨(some 6), .mov (.t 7), none⟩,
    ⟨(some 8), .ext (.t 6) 0, none⟩,
    ⟨(some 9), .ext (.t 6) 1, none⟩,
    ⟨(some 1), .mov (.t 8), none⟩,
    ⟨(some 2), .mov (.t 9), none⟩] .done)
  (.seq (.seq (.ops false [⟨(some 10), .mov (.t 1), none⟩,
     ⟨(some 11), .eqp 0 true false (.t 10) (.c (.v (.pointer none))), none⟩,
     ⟨(some 12), .mov (.t 11), none⟩,
     ⟨(some 13), .mov (.t 2), some (12, false)⟩,
     ⟨(some 14), .eqp 1 true true (.t 13) (.c (.v .nilIface)), some (12, false)⟩,
     ⟨(some 15), .pick (.t 12) (.c (.v (.bool true))) (.t 14), none⟩] .done)
   (.cond (.t 15)
    (.seq (.ops false [⟨(some 0), .mov (.c (.v (.bool false))), none⟩] .done)
     .ret)
    .skip))
  (.seq (.ops false [⟨(some 16), .mov (.t 1), none⟩,
    ⟨(some 17), .call 9 [(.t 16), (.c (.v (.int .i64 1))), (.c (.v (.bool true)))], none⟩] .done)
  (.seq (.ops false [⟨(some 18), .mov (.t 1), none⟩,
    ⟨(some 19), .call 9 [(.t 18), (.c (.v (.int .i64 2))), (.c (.v (.bool false)))], none⟩] .done)
  (.seq (.ops false [⟨(some 20), .mov (.t 1), none⟩,
    ⟨(some 21), .call 10 [(.t 20), (.c (.v (.int .i64 1))), (.c (.v (.int .u32 0))), (.c (.v (.int .i64 4)))], none⟩] .done)
  (.seq (.ops false [⟨(some 22), .mov (.t 1), none⟩,
    ⟨(some 23), .call 11 [(.t 22), (.c (.v (.int .i64 1))), (.c (.v (.int .u32 67305985)))], none⟩] .done)
  (.seq (.ops false [⟨(some 24), .mov (.t 1), none⟩,
    ⟨(some 25), .call 10 [(.t 24), (.c (.v (.int .i64 2))), (.c (.v (.int .u32 1))), (.c (.v (.int .i64 1)))], none⟩] .done)
  (.seq (.ops false [⟨(some 27), .mov (.t 1), none⟩,
    ⟨(some 28), .call 13 [(.t 27), (.c (.v (.int .i64 2)))], none⟩,
    ⟨(some 26), .mov (.t 28), none⟩,
    ⟨(some 29), .ext (.t 26) 0, none⟩,
    ⟨(some 30), .ext (.t 26) 1, none⟩,
    ⟨(some 31), .ext (.t 26) 2, none⟩,
    ⟨(some 3), .mov (.t 29), none⟩,
    ⟨(some 4), .mov (.t 30), none⟩,
    ⟨(some 5), .mov (.t 31), none⟩] .done)
  (.seq (.ops false [⟨(some 32), .mov (.t 3), none⟩,
    ⟨(some 33), .bin .eql (.t 32) (.c (.v (.int .i64 1))), none⟩,
    ⟨(some 34), .mov (.t 33), none⟩,
    ⟨(some 35), .mov (.t 4), some (34, true)⟩,
    ⟨(some 36), .bin .eql (.t 35) (.c (.v (.int .u32 2))), some (34, true)⟩,
    ⟨(some 37), .pick (.t 34) (.t 36) (.c (.v (.bool false))), none⟩,
    ⟨(some 38), .mov (.t 37), none⟩,
    ⟨(some 39), .mov (.t 5), some (38, true)⟩,
    ⟨(some 40), .bin .eql (.t 39) (.c (.v (.int .i64 1))), some (38, true)⟩,
    ⟨(some 41), .pick (.t 38) (.t 40) (.c (.v (.bool false))), none⟩,
    ⟨(some 0), .mov (.t 41), none⟩] .done)
  .ret))))))))))⟩
theorem pf5_eq : (Tryd.f5.body.map fun c => (cfn Tryd.prog pl5 Tryd.f5 c, guardsAll pl5 c)) = some (pf5, true) := by kernel_rfl

/-- corral/lsq.New  sizes [(2, 4)] -/
def pl6 : Nat → DT := dtGet [(2, (.take 0 [0, 2] (.take 1 [1, 2] (.take 2 [2] .done))))]
def pf6 : PFn := ⟨14, [.t 2, .t 3], (.seq (.ops false [⟨(some 2), .mov (.c (.v (.pointer none))), none⟩,
    ⟨(some 3), .mov (.c (.v .nilIface)), none⟩] .done)
  (.seq (.seq (.ops false [⟨(some 4), .mov (.t 0), none⟩,
     ⟨(some 5), .bin .lss (.t 4) (.c (.v (.int .i64 1))), none⟩,
     ⟨(some 6), .mov (.t 5), none⟩,
     ⟨(some 7), .mov (.t 0), some (6, false)⟩,
     ⟨(some 8), .bin .gtr (.t 7) (.c (.v (.int .i64 64))), some (6, false)⟩,
     ⟨(some 9), .pick (.t 6) (.c (.v (.bool true))) (.t 8), none⟩] .done)
   (.cond (.t 9)
    (.seq (.ops true [⟨(some 10), .load none (.c (.v (.pointer (some ⟨0, 0, none⟩)))), none⟩,
       ⟨(some 2), .mov (.c (.v (.pointer none))), none⟩,
       ⟨(some 3), .mov (.t 10), none⟩] (.take 0 [0, 2] (.take 1 [1, 2] (.take 2 [2] .done))))
     .ret)
    .skip))
  (.seq (.ops false [⟨(some 11), .mov (.t 0), none⟩,
    ⟨(some 12), .build [(.v (.int .i64 0)), (.v (.slice none 0 0))] [(0, 1, (.t 11))], none⟩,
    ⟨(some 13), .box 56 (.t 12), none⟩,
    ⟨(some 2), .mov (.t 13), none⟩,
    ⟨(some 3), .mov (.c (.v .nilIface)), none⟩] .done)
  .ret)))⟩
theorem pf6_eq : (Tryd.f6.body.map fun c => (cfn Tryd.prog pl6 Tryd.f6 c, guardsAll pl6 c)) = some (pf6, true) := by kernel_rfl

/-- corral/corralref6.NewMemory  sizes [] -/
def pl7 : Nat → DT := dtGet []
def pf7 : PFn := ⟨44, [.t 4, .t 5], (.seq (.ops false [⟨(some 4), .mov (.c (.v (.pointer none))), none⟩,
    ⟨(some 5), .mov (.c (.v (.int .i64 0))), none⟩] .done)
  (.seq (.seq (.ops false [⟨(some 8), .mov (.t 0), none⟩,
     ⟨(some 9), .bin .lss (.t 8) (.c (.v (.int .i64 16))), none⟩,
     ⟨(some 10), .mov (.t 9), none⟩,
     ⟨(some 11), .mov (.t 0), some (10, false)⟩,
     ⟨(some 12), .bin .gtr (.t 11) (.c (.v (.int .i64 65536))), some (10, false)⟩,
     ⟨(some 13), .pick (.t 10) (.c (.v (.bool true))) (.t 12), none⟩,
     ⟨(some 14), .mov (.t 13), none⟩,
     ⟨(some 15), .mov (.t 0), some (14, false)⟩,
     ⟨(some 16), .bin .rem (.t 15) (.c (.v (.int .i64 16))), some (14, false)⟩,
     ⟨(some 17), .bin .neq (.t 16) (.c (.v (.int .i64 0))), some (14, false)⟩,
     ⟨(some 18), .pick (.t 14) (.c (.v (.bool true))) (.t 17), none⟩] .done)
   (.cond (.t 18)
    (.seq (.ops false [⟨(some 4), .mov (.c (.v (.pointer none))), none⟩,
       ⟨(some 5), .mov (.c (.v (.int .i64 106))), none⟩] .done)
     .ret)
    .skip))
  (.seq (.seq (.ops false [⟨(some 19), .mov (.t 1), none⟩,
     ⟨(some 20), .len (.t 19), none⟩,
     ⟨(some 21), .mov (.t 0), none⟩,
     ⟨(some 22), .bin .quo (.t 21) (.c (.v (.int .i64 4))), none⟩,
     ⟨(some 23), .bin .gtr (.t 20) (.t 22), none⟩] .done)
   (.cond (.t 23)
    (.seq (.ops false [⟨(some 4), .mov (.c (.v (.pointer none))), none⟩,
       ⟨(some 5), .mov (.c (.v (.int .i64 101))), none⟩] .done)
     .ret)
    .skip))
  (.seq (.ops false [⟨(some 24), .mov (.t 0), none⟩,
    ⟨(some 25), .mslice 5 [.int .u8] [(.int .u8 0)] 1 (.t 24) (.t 24), none⟩,
    ⟨(some 26), .build [(.v (.slice none 0 0))] [(0, 1, (.t 25))], none⟩,
    ⟨(some 27), .box 59 (.t 26), none⟩,
    ⟨(some 6), .mov (.t 27), none⟩] .done)
  (.seq (.seq (.ops false [⟨(some 7), .mov (.c (.v (.int .i64 0))), none⟩] .done)
   (.block 0 (.loop (.seq (.seq (.ops false [⟨(some 28), .mov (.t 7), none⟩,
        ⟨(some 29), .mov (.t 1), none⟩,
        ⟨(some 30), .len (.t 29), none⟩,
        ⟨(some 31), .bin .lss (.t 28) (.t 30), none⟩] .done)
      (.cond (.t 31)
       .skip
       (.exit 0)))
     (.seq (.block 1 (.ops false [⟨(some 34), .mov (.t 6), none⟩,
        ⟨(some 35), .mov (.t 7), none⟩,
        ⟨(some 36), .bin .mul (.c (.v (.int .i64 4))) (.t 35), none⟩,
        ⟨(some 37), .conv .u32 (.t 36), none⟩,
        ⟨(some 38), .mov (.t 1), none⟩,
        ⟨(some 39), .mov (.t 7), none⟩,
        ⟨(some 40), .idx 1 (.t 38) (.t 39), none⟩,
        ⟨(some 41), .load none (.t 40), none⟩,
        ⟨(some 42), .call 12 [(.t 34), (.t 37), (.c (.v (.int .i64 4))), (.t 41)], none⟩] .done))
     (.ops false [⟨(some 32), .mov (.t 7), none⟩,
      ⟨(some 33), .bin .add (.t 32) (.c (.v (.int .i64 1))), none⟩,
      ⟨(some 7), .mov (.t 33), none⟩] .done))))))
  (.seq (.ops false [⟨(some 43), .mov (.t 6), none⟩,
    ⟨(some 4), .mov (.t 43), none⟩,
    ⟨(some 5), .mov (.c (.v (.int .i64 0))), none⟩] .done)
  .ret))))))⟩
theorem pf7_eq : (Tryd.f7.body.map fun c => (cfn Tryd.prog pl7 Tryd.f7 c, guardsAll pl7 c)) = some (pf7, true) := by kernel_rfl

/-- corral/corralworld.Number  sizes [] -/
def pl8 : Nat → DT := dtGet []
def pf8 : PFn := ⟨12, [.t 4], (.seq (.ops false [⟨(some 4), .mov (.c (.v (.int .i64 0))), none⟩] .done)
  (.seq (.ops false [⟨(some 5), .mov (.t 0), none⟩,
    ⟨(some 6), .mov (.t 1), none⟩,
    ⟨(some 7), .bin .rem (.t 5) (.t 6), none⟩,
    ⟨(some 8), .mov (.t 1), none⟩,
    ⟨(some 9), .bin .add (.t 7) (.t 8), none⟩,
    ⟨(some 10), .mov (.t 1), none⟩,
    ⟨(some 11), .bin .rem (.t 9) (.t 10), none⟩,
    ⟨(some 4), .mov (.t 11), none⟩] .done)
  .ret))⟩
theorem pf8_eq : (Tryd.f8.body.map fun c => (cfn Tryd.prog pl8 Tryd.f8 c, guardsAll pl8 c)) = some (pf8, true) := by kernel_rfl

/-- (*corral/lsq.Queue).Add  sizes [(1, 36)] -/
def pl9 : Nat → DT := dtGet [(1, (.take 0 [0, 1, 2, 3, 4, 9, 10, 11, 12, 13, 14, 15, 16, 17, 33, 34, 18, 19, 20, 21, 22, 23, 24, 25, 26, 27, 28, 29, 30, 31, 32] (.take 1 [1, 2, 3, 4, 9, 10, 11, 12, 13, 14, 15, 16, 17, 33, 34, 18, 19, 20, 21, 22, 23, 24, 25, 26, 27, 28, 29, 30, 31, 32] (.take 2 [2, 3, 4, 9, 10, 11, 12, 13, 14, 15, 16, 17, 33, 34, 18, 19, 20, 21, 22, 23, 24, 25, 26, 27, 28, 29, 30, 31, 32] (.take 3 [3, 4, 9, 10, 11, 12, 13, 14, 15, 16, 17, 33, 34, 18, 19, 20, 21, 22, 23, 24, 25, 26, 27, 28, 29, 30, 31, 32] (.take 4 [4, 9, 10, 11, 12, 13, 14, 15, 16, 17, 33, 34, 18, 19, 20, 21, 22, 23, 24, 25, 26, 27, 28, 29, 30, 31, 32] (.take 5 [5, 6, 7, 8, 9, 10, 11, 12, 13, 14, 15, 16, 17, 33, 34, 18, 19, 20, 21, 22, 23, 24, 25, 26, 27, 28, 29, 30, 31, 32] (.take 6 [6, 7, 8, 9, 10, 11, 12, 13, 14, 15, 16, 17, 33, 34, 18, 19, 20, 21, 22, 23, 24, 25, 26, 27, 28, 29, 30, 31, 32] (.take 7 [7, 8, 9, 10, 11, 12, 13, 14, 15, 16, 17, 33, 34, 18, 19, 20, 21, 22, 23, 24, 25, 26, 27, 28, 29, 30, 31, 32] (.take 8 [8, 9, 10, 11, 12, 13, 14, 15, 16, 17, 33, 34, 18, 19, 20, 21, 22, 23, 24, 25, 26, 27, 28, 29, 30, 31, 32] (.take 9 [9, 10, 11, 12, 13, 14, 15, 16, 17, 33, 34, 18, 19, 20, 21, 22, 23, 24, 25, 26, 27, 28, 29, 30, 31, 32] (.take 10 [10, 11, 12, 13, 14, 15, 16, 17, 33, 34, 18, 19, 20, 21, 22, 23, 24, 25, 26, 27, 28, 29, 30, 31, 32] (.take 11 [11, 12, 13, 14, 15, 16, 17, 18, 19, 20, 21, 22, 23, 24, 25, 26, 27, 28, 29, 30, 31, 32, 33, 34] (.take 12 [12, 13, 14, 15, 16, 17, 18, 19, 20, 21, 22, 23, 24, 25, 26, 27, 28, 29, 30, 31, 32, 33, 34] (.take 13 [13, 14, 15, 16, 17, 18, 19, 20, 21, 22, 23, 24, 25, 26, 27, 28, 29, 30, 31, 32, 33, 34] (.take 14 [14, 15, 16, 17, 18, 19, 20, 21, 22, 23, 24, 25, 26, 27, 28, 29, 30, 31, 32, 33, 34] (.take 15 [15, 16, 17, 18, 19, 20, 21, 22, 23, 24, 25, 26, 27, 28, 29, 30, 31, 32, 33, 34] (.take 16 [16, 17, 18, 19, 20, 21, 22, 23, 24, 25, 26, 27, 28, 29, 30, 31, 32, 33, 34] (.take 17 [17, 18, 19, 20, 21, 22, 23, 24, 25, 26, 27, 28, 29, 30, 31, 32, 33, 34] (.take 18 [18, 32, 33, 34] (.take 19 [19, 20, 21, 22, 29, 30, 31, 32, 33, 34] (.take 20 [20, 21, 22, 29, 30, 31, 32, 33, 34] (.take 21 [21, 22, 29, 30, 31, 32, 33, 34] (.take 22 [22, 29, 30, 31, 32, 33, 34] (.take 23 [23, 24, 25, 26, 27, 28, 29, 30, 31, 32, 33, 34] (.take 24 [24, 25, 26, 27, 28, 29, 30, 31, 32, 33, 34] (.take 25 [25, 26, 27, 28, 29, 30, 31, 32, 33, 34] (.take 26 [26, 27, 28, 29, 30, 31, 32, 33, 34] (.take 27 [27, 28, 29, 30, 31, 32, 33, 34] (.take 28 [28, 29, 30, 31, 32, 33, 34] (.take 29 [29, 30, 31, 32, 33, 34] (.take 30 [30, 31, 32, 33, 34] (.take 31 [31, 32, 33, 34] (.take 32 [32, 33, 34] (.take 33 [33, 34] (.take 34 [34] .done))))))))))))))))))))))))))))))))))))]
def pf9 : PFn := ⟨54, [.t 6], (.seq (.ops false [⟨(some 6), .mov (.c (.v (.bool false))), none⟩] .done)
  (.seq (.seq (.ops true [⟨(some 7), .mov (.t 0), none⟩,
     ⟨(some 8), .nilck (.t 7), none⟩,
     ⟨(some 9), .fld 1 (.t 8), none⟩,
     ⟨(some 10), .load none (.t 9), none⟩,
     ⟨(some 11), .len (.t 10), none⟩,
     ⟨(some 12), .mov (.t 0), none⟩,
     ⟨(some 13), .nilck (.t 12), none⟩,
     ⟨(some 14), .fld 0 (.t 13), none⟩,
     ⟨(some 15), .load none (.t 14), none⟩,
     ⟨(some 16), .bin .geq (.t 11) (.t 15), none⟩,
     ⟨(some 17), .mov (.t 16), none⟩,
     ⟨(some 18), .mov (.t 0), some (17, false)⟩,
     ⟨(some 19), .nilck (.t 18), some (17, false)⟩,
     ⟨(some 20), .fld 1 (.t 19), some (17, false)⟩,
     ⟨(some 21), .load none (.t 20), some (17, false)⟩,
     ⟨(some 22), .len (.t 21), some (17, false)⟩,
     ⟨(some 23), .bin .gtr (.t 22) (.c (.v (.int .i64 0))), some (17, false)⟩,
     ⟨(some 24), .mov (.t 23), some (17, false)⟩,
     ⟨(some 25), .mov (.t 1), some (24, true)⟩,
     ⟨(some 26), .mov (.t 0), some (24, true)⟩,
     ⟨(some 27), .nilck (.t 26), some (24, true)⟩,
     ⟨(some 28), .fld 1 (.t 27), some (24, true)⟩,
     ⟨(some 29), .load none (.t 28), some (24, true)⟩,
     ⟨(some 30), .mov (.t 0), some (24, true)⟩,
     ⟨(some 31), .nilck (.t 30), some (24, true)⟩,
     ⟨(some 32), .fld 1 (.t 31), some (24, true)⟩,
     ⟨(some 33), .load none (.t 32), some (24, true)⟩,
     ⟨(some 34), .len (.t 33), some (24, true)⟩,
     ⟨(some 35), .bin .sub (.t 34) (.c (.v (.int .i64 1))), some (24, true)⟩,
     ⟨(some 36), .idx 7 (.t 29) (.t 35), some (24, true)⟩,
     ⟨(some 37), .fld 0 (.t 36), some (24, true)⟩,
     ⟨(some 38), .load none (.t 37), some (24, true)⟩,
     ⟨(some 39), .bin .leq (.t 25) (.t 38), some (24, true)⟩,
     ⟨(some 40), .pick (.t 24) (.t 39) (.c (.v (.bool false))), some (17, false)⟩,
     ⟨(some 41), .pick (.t 17) (.c (.v (.bool true))) (.t 40), none⟩] (.take 0 [0, 1, 2, 3, 4, 9, 10, 11, 12, 13, 14, 15, 16, 17, 33, 34, 18, 19, 20, 21, 22, 23, 24, 25, 26, 27, 28, 29, 30, 31, 32] (.take 1 [1, 2, 3, 4, 9, 10, 11, 12, 13, 14, 15, 16, 17, 33, 34, 18, 19, 20, 21, 22, 23, 24, 25, 26, 27, 28, 29, 30, 31, 32] (.take 2 [2, 3, 4, 9, 10, 11, 12, 13, 14, 15, 16, 17, 33, 34, 18, 19, 20, 21, 22, 23, 24, 25, 26, 27, 28, 29, 30, 31, 32] (.take 3 [3, 4, 9, 10, 11, 12, 13, 14, 15, 16, 17, 33, 34, 18, 19, 20, 21, 22, 23, 24, 25, 26, 27, 28, 29, 30, 31, 32] (.take 4 [4, 9, 10, 11, 12, 13, 14, 15, 16, 17, 33, 34, 18, 19, 20, 21, 22, 23, 24, 25, 26, 27, 28, 29, 30, 31, 32] (.take 5 [5, 6, 7, 8, 9, 10, 11, 12, 13, 14, 15, 16, 17, 33, 34, 18, 19, 20, 21, 22, 23, 24, 25, 26, 27, 28, 29, 30, 31, 32] (.take 6 [6, 7, 8, 9, 10, 11, 12, 13, 14, 15, 16, 17, 33, 34, 18, 19, 20, 21, 22, 23, 24, 25, 26, 27, 28, 29, 30, 31, 32] (.take 7 [7, 8, 9, 10, 11, 12, 13, 14, 15, 16, 17, 33, 34, 18, 19, 20, 21, 22, 23, 24, 25, 26, 27, 28, 29, 30, 31, 32] (.take 8 [8, 9, 10, 11, 12, 13, 14, 15, 16, 17, 33, 34, 18, 19, 20, 21, 22, 23, 24, 25, 26, 27, 28, 29, 30, 31, 32] (.take 9 [9, 10, 11, 12, 13, 14, 15, 16, 17, 33, 34, 18, 19, 20, 21, 22, 23, 24, 25, 26, 27, 28, 29, 30, 31, 32] (.take 10 [10, 11, 12, 13, 14, 15, 16, 17, 33, 34, 18, 19, 20, 21, 22, 23, 24, 25, 26, 27, 28, 29, 30, 31, 32] (.take 11 [11, 12, 13, 14, 15, 16, 17, 18, 19, 20, 21, 22, 23, 24, 25, 26, 27, 28, 29, 30, 31, 32, 33, 34] (.take 12 [12, 13, 14, 15, 16, 17, 18, 19, 20, 21, 22, 23, 24, 25, 26, 27, 28, 29, 30, 31, 32, 33, 34] (.take 13 [13, 14, 15, 16, 17, 18, 19, 20, 21, 22, 23, 24, 25, 26, 27, 28, 29, 30, 31, 32, 33, 34] (.take 14 [14, 15, 16, 17, 18, 19, 20, 21, 22, 23, 24, 25, 26, 27, 28, 29, 30, 31, 32, 33, 34] (.take 15 [15, 16, 17, 18, 19, 20, 21, 22, 23, 24, 25, 26, 27, 28, 29, 30, 31, 32, 33, 34] (.take 16 [16, 17, 18, 19, 20, 21, 22, 23, 24, 25, 26, 27, 28, 29, 30, 31, 32, 33, 34] (.take 17 [17, 18, 19, 20, 21, 22, 23, 24, 25, 26, 27, 28, 29, 30, 31, 32, 33, 34] (.take 18 [18, 32, 33, 34] (.take 19 [19, 20, 21, 22, 29, 30, 31, 32, 33, 34] (.take 20 [20, 21, 22, 29, 30, 31, 32, 33, 34] (.take 21 [21, 22, 29, 30, 31, 32, 33, 34] (.take 22 [22, 29, 30, 31, 32, 33, 34] (.take 23 [23, 24, 25, 26, 27, 28, 29, 30, 31, 32, 33, 34] (.take 24 [24, 25, 26, 27, 28, 29, 30, 31, 32, 33, 34] (.take 25 [25, 26, 27, 28, 29, 30, 31, 32, 33, 34] (.take 26 [26, 27, 28, 29, 30, 31, 32, 33, 34] (.take 27 [27, 28, 29, 30, 31, 32, 33, 34] (.take 28 [28, 29, 30, 31, 32, 33, 34] (.take 29 [29, 30, 31, 32, 33, 34] (.take 30 [30, 31, 32, 33, 34] (.take 31 [31, 32, 33, 34] (.take 32 [32, 33, 34] (.take 33 [33, 34] (.take 34 [34] .done))))))))))))))))))))))))))))))))))))
   (.cond (.t 41)
    (.seq (.ops false [⟨(some 6), .mov (.c (.v (.bool false))), none⟩] .done)
     .ret)
    .skip))
  (.seq (.ops false [⟨(some 42), .mov (.t 0), none⟩,
    ⟨(some 43), .mov (.t 0), none⟩,
    ⟨(some 44), .nilck (.t 43), none⟩,
    ⟨(some 45), .fld 1 (.t 44), none⟩,
    ⟨(some 46), .load none (.t 45), none⟩,
    ⟨(some 47), .mov (.t 1), none⟩,
    ⟨(some 48), .mov (.t 2), none⟩,
    ⟨(some 49), .build [(.v (.int .i64 0)), (.v (.bool false)), (.v (.bool false)), (.v (.bool false)), (.v (.int .u32 0)), (.v (.int .i64 0)), (.v (.int .u32 0))] [(0, 1, (.t 47)), (1, 1, (.t 48))], none⟩,
    ⟨(some 50), .bslice 61 [.int .i64, .bool, .bool, .bool, .int .u32, .int .i64, .int .u32] 1 [(.v (.int .i64 0)), (.v (.bool false)), (.v (.bool false)), (.v (.bool false)), (.v (.int .u32 0)), (.v (.int .i64 0)), (.v (.int .u32 0))] [(0, 7, (.t 49))], none⟩,
    ⟨(some 51), .append 61 [.int .i64, .bool, .bool, .bool, .int .u32, .int .i64, .int .u32] [(.int .i64 0), (.bool false), (.bool false), (.bool false), (.int .u32 0), (.int .i64 0), (.int .u32 0)] 32 (.t 46) (.t 50), none⟩,
    ⟨(some 52), .nilck (.t 42), none⟩,
    ⟨(some 53), .fld 1 (.t 52), none⟩,
    ⟨none, .store 1 (.t 53) (.t 51), none⟩] .done)
  (.seq (.ops false [⟨(some 6), .mov (.c (.v (.bool true))), none⟩] .done)
  .ret))))⟩
theorem pf9_eq : (Tryd.f9.body.map fun c => (cfn Tryd.prog pl9 Tryd.f9 c, guardsAll pl9 c)) = some (pf9, true) := by kernel_rfl

/-- (*corral/lsq.Queue).Place  sizes [(4, 27)] -/
def pl10 : Nat → DT := dtGet [(4, (.take 0 [0, 1, 17, 18, 19, 20, 21, 22, 23, 24, 25, 2, 3] (.take 1 [1, 2, 17, 18, 19, 20, 21, 22, 23, 24, 25, 3] (.take 2 [2, 3, 17, 18, 19, 20, 21, 22, 23, 24, 25] (.take 3 [3, 17, 18, 19, 20, 21, 22, 23, 24, 25] (.take 4 [4, 17, 18, 19, 20, 21, 22, 23, 24, 25] (.take 5 [5, 6, 20, 21, 22, 23, 24, 25, 7, 8, 17, 18, 19] (.take 6 [6, 7, 20, 21, 22, 23, 24, 25, 8, 17, 18, 19] (.take 7 [7, 8, 20, 21, 22, 23, 24, 25, 17, 18, 19] (.take 8 [8, 17, 18, 19, 20, 21, 22, 23, 24, 25] (.take 9 [9, 20, 21, 22, 23, 24, 25] (.take 10 [10, 11, 23, 24, 25, 12, 13, 17, 18, 19, 20, 21, 22] (.take 11 [11, 12, 23, 24, 25, 13, 17, 18, 19, 20, 21, 22] (.take 12 [12, 13, 23, 24, 25, 17, 18, 19, 20, 21, 22] (.take 13 [13, 17, 18, 19, 20, 21, 22, 23, 24, 25] (.take 14 [14, 23, 24, 25] (.take 15 [15, 20, 21, 22, 23, 24, 25] (.take 16 [16, 23, 24, 25] (.take 17 [17, 18, 20, 21, 22, 23, 24, 25, 19] (.take 18 [18, 19, 20, 21, 22, 23, 24, 25] (.eff false 19 (.take 20 [20, 21, 23, 24, 25, 22] (.take 21 [21, 22, 23, 24, 25] (.eff false 22 (.take 23 [23, 24, 25] (.take 24 [24, 25] (.eff false 25 .done)))))))))))))))))))))))))))]
def pf10 : PFn := ⟨67, [.t 8], (.seq (.ops false [⟨(some 8), .mov (.c (.v (.bool false))), none⟩] .done)
  (.seq (.ops false [⟨(some 10), .mov (.t 0), none⟩,
    ⟨(some 11), .mov (.t 1), none⟩,
    ⟨(some 12), .call 19 [(.t 10), (.t 11)], none⟩,
    ⟨(some 9), .mov (.t 12), none⟩] .done)
  (.seq (.seq (.ops false [⟨(some 13), .mov (.t 9), none⟩,
     ⟨(some 14), .bin .lss (.t 13) (.c (.v (.int .i64 0))), none⟩,
     ⟨(some 15), .mov (.t 14), none⟩,
     ⟨(some 16), .mov (.t 0), some (15, false)⟩,
     ⟨(some 17), .nilck (.t 16), some (15, false)⟩,
     ⟨(some 18), .fld 1 (.t 17), some (15, false)⟩,
     ⟨(some 19), .load none (.t 18), some (15, false)⟩,
     ⟨(some 20), .mov (.t 9), some (15, false)⟩,
     ⟨(some 21), .idx 7 (.t 19) (.t 20), some (15, false)⟩,
     ⟨(some 22), .fld 2 (.t 21), some (15, false)⟩,
     ⟨(some 23), .load none (.t 22), some (15, false)⟩,
     ⟨(some 24), .pick (.t 15) (.c (.v (.bool true))) (.t 23), none⟩,
     ⟨(some 25), .mov (.t 24), none⟩,
     ⟨(some 26), .mov (.t 3), some (25, false)⟩,
     ⟨(some 27), .bin .neq (.t 26) (.c (.v (.int .i64 1))), some (25, false)⟩,
     ⟨(some 28), .mov (.t 27), some (25, false)⟩,
     ⟨(some 29), .mov (.t 3), some (28, true)⟩,
     ⟨(some 30), .bin .neq (.t 29) (.c (.v (.int .i64 2))), some (28, true)⟩,
     ⟨(some 31), .pick (.t 28) (.t 30) (.c (.v (.bool false))), some (25, false)⟩,
     ⟨(some 32), .mov (.t 31), some (25, false)⟩,
     ⟨(some 33), .mov (.t 3), some (32, true)⟩,
     ⟨(some 34), .bin .neq (.t 33) (.c (.v (.int .i64 4))), some (32, true)⟩,
     ⟨(some 35), .pick (.t 32) (.t 34) (.c (.v (.bool false))), some (25, false)⟩,
     ⟨(some 36), .pick (.t 25) (.c (.v (.bool true))) (.t 35), none⟩,
     ⟨(some 37), .mov (.t 36), none⟩,
     ⟨(some 38), .mov (.t 2), some (37, false)⟩,
     ⟨(some 39), .mov (.t 3), some (37, false)⟩,
     ⟨(some 40), .conv .u32 (.t 39), some (37, false)⟩,
     ⟨(some 41), .bin .rem (.t 38) (.t 40), some (37, false)⟩,
     ⟨(some 42), .bin .neq (.t 41) (.c (.v (.int .u32 0))), some (37, false)⟩,
     ⟨(some 43), .pick (.t 37) (.c (.v (.bool true))) (.t 42), none⟩] .done)
   (.cond (.t 43)
    (.seq (.ops false [⟨(some 8), .mov (.c (.v (.bool false))), none⟩] .done)
     .ret)
    .skip))
  (.seq (.ops true [⟨(some 44), .mov (.t 0), none⟩,
    ⟨(some 45), .nilck (.t 44), none⟩,
    ⟨(some 46), .fld 1 (.t 45), none⟩,
    ⟨(some 47), .load none (.t 46), none⟩,
    ⟨(some 48), .mov (.t 9), none⟩,
    ⟨(some 49), .mov (.t 0), none⟩,
    ⟨(some 50), .nilck (.t 49), none⟩,
    ⟨(some 51), .fld 1 (.t 50), none⟩,
    ⟨(some 52), .load none (.t 51), none⟩,
    ⟨(some 53), .mov (.t 9), none⟩,
    ⟨(some 54), .mov (.t 0), none⟩,
    ⟨(some 55), .nilck (.t 54), none⟩,
    ⟨(some 56), .fld 1 (.t 55), none⟩,
    ⟨(some 57), .load none (.t 56), none⟩,
    ⟨(some 58), .mov (.t 9), none⟩,
    ⟨(some 59), .mov (.t 2), none⟩,
    ⟨(some 60), .mov (.t 3), none⟩,
    ⟨(some 61), .idx 7 (.t 47) (.t 48), none⟩,
    ⟨(some 62), .fld 2 (.t 61), none⟩,
    ⟨none, .store 1 (.t 62) (.c (.v (.bool true))), none⟩,
    ⟨(some 63), .idx 7 (.t 52) (.t 53), none⟩,
    ⟨(some 64), .fld 4 (.t 63), none⟩,
    ⟨none, .store 1 (.t 64) (.t 59), none⟩,
    ⟨(some 65), .idx 7 (.t 57) (.t 58), none⟩,
    ⟨(some 66), .fld 5 (.t 65), none⟩,
    ⟨none, .store 1 (.t 66) (.t 60), none⟩] (.take 0 [0, 1, 17, 18, 19, 20, 21, 22, 23, 24, 25, 2, 3] (.take 1 [1, 2, 17, 18, 19, 20, 21, 22, 23, 24, 25, 3] (.take 2 [2, 3, 17, 18, 19, 20, 21, 22, 23, 24, 25] (.take 3 [3, 17, 18, 19, 20, 21, 22, 23, 24, 25] (.take 4 [4, 17, 18, 19, 20, 21, 22, 23, 24, 25] (.take 5 [5, 6, 20, 21, 22, 23, 24, 25, 7, 8, 17, 18, 19] (.take 6 [6, 7, 20, 21, 22, 23, 24, 25, 8, 17, 18, 19] (.take 7 [7, 8, 20, 21, 22, 23, 24, 25, 17, 18, 19] (.take 8 [8, 17, 18, 19, 20, 21, 22, 23, 24, 25] (.take 9 [9, 20, 21, 22, 23, 24, 25] (.take 10 [10, 11, 23, 24, 25, 12, 13, 17, 18, 19, 20, 21, 22] (.take 11 [11, 12, 23, 24, 25, 13, 17, 18, 19, 20, 21, 22] (.take 12 [12, 13, 23, 24, 25, 17, 18, 19, 20, 21, 22] (.take 13 [13, 17, 18, 19, 20, 21, 22, 23, 24, 25] (.take 14 [14, 23, 24, 25] (.take 15 [15, 20, 21, 22, 23, 24, 25] (.take 16 [16, 23, 24, 25] (.take 17 [17, 18, 20, 21, 22, 23, 24, 25, 19] (.take 18 [18, 19, 20, 21, 22, 23, 24, 25] (.eff false 19 (.take 20 [20, 21, 23, 24, 25, 22] (.take 21 [21, 22, 23, 24, 25] (.eff false 22 (.take 23 [23, 24, 25] (.take 24 [24, 25] (.eff false 25 .done)))))))))))))))))))))))))))
  (.seq (.ops false [⟨(some 8), .mov (.c (.v (.bool true))), none⟩] .done)
  .ret)))))⟩
theorem pf10_eq : (Tryd.f10.body.map fun c => (cfn Tryd.prog pl10 Tryd.f10 c, guardsAll pl10 c)) = some (pf10, true) := by kernel_rfl

/-- (*corral/lsq.Queue).Value  sizes [(4, 18)] -/
def pl11 : Nat → DT := dtGet [(4, (.take 0 [0, 1, 11, 12, 13, 14, 15, 16, 2, 3] (.take 1 [1, 2, 11, 12, 13, 14, 15, 16, 3] (.take 2 [2, 3, 11, 12, 13, 14, 15, 16] (.take 3 [3, 11, 12, 13, 14, 15, 16] (.take 4 [4, 11, 12, 13, 14, 15, 16] (.take 5 [5, 6, 14, 15, 16, 7, 8, 11, 12, 13] (.take 6 [6, 7, 14, 15, 16, 8, 11, 12, 13] (.take 7 [7, 8, 14, 15, 16, 11, 12, 13] (.take 8 [8, 11, 12, 13, 14, 15, 16] (.take 9 [9, 14, 15, 16] (.take 10 [10, 14, 15, 16] (.take 11 [11, 12, 14, 15, 16, 13] (.take 12 [12, 13, 14, 15, 16] (.eff false 13 (.take 14 [14, 15, 16] (.take 15 [15, 16] (.eff false 16 .done))))))))))))))))))]
def pf11 : PFn := ⟨50, [.t 6], (.seq (.ops false [⟨(some 6), .mov (.c (.v (.bool false))), none⟩] .done)
  (.seq (.ops false [⟨(some 8), .mov (.t 0), none⟩,
    ⟨(some 9), .mov (.t 1), none⟩,
    ⟨(some 10), .call 19 [(.t 8), (.t 9)], none⟩,
    ⟨(some 7), .mov (.t 10), none⟩] .done)
  (.seq (.seq (.ops false [⟨(some 11), .mov (.t 7), none⟩,
     ⟨(some 12), .bin .lss (.t 11) (.c (.v (.int .i64 0))), none⟩,
     ⟨(some 13), .mov (.t 12), none⟩,
     ⟨(some 14), .mov (.t 0), some (13, false)⟩,
     ⟨(some 15), .nilck (.t 14), some (13, false)⟩,
     ⟨(some 16), .fld 1 (.t 15), some (13, false)⟩,
     ⟨(some 17), .load none (.t 16), some (13, false)⟩,
     ⟨(some 18), .mov (.t 7), some (13, false)⟩,
     ⟨(some 19), .idx 7 (.t 17) (.t 18), some (13, false)⟩,
     ⟨(some 20), .fld 1 (.t 19), some (13, false)⟩,
     ⟨(some 21), .load none (.t 20), some (13, false)⟩,
     ⟨(some 22), .un .not (.t 21), some (13, false)⟩,
     ⟨(some 23), .pick (.t 13) (.c (.v (.bool true))) (.t 22), none⟩,
     ⟨(some 24), .mov (.t 23), none⟩,
     ⟨(some 25), .mov (.t 0), some (24, false)⟩,
     ⟨(some 26), .nilck (.t 25), some (24, false)⟩,
     ⟨(some 27), .fld 1 (.t 26), some (24, false)⟩,
     ⟨(some 28), .load none (.t 27), some (24, false)⟩,
     ⟨(some 29), .mov (.t 7), some (24, false)⟩,
     ⟨(some 30), .idx 7 (.t 28) (.t 29), some (24, false)⟩,
     ⟨(some 31), .fld 2 (.t 30), some (24, false)⟩,
     ⟨(some 32), .load none (.t 31), some (24, false)⟩,
     ⟨(some 33), .un .not (.t 32), some (24, false)⟩,
     ⟨(some 34), .pick (.t 24) (.c (.v (.bool true))) (.t 33), none⟩] .done)
   (.cond (.t 34)
    (.seq (.ops false [⟨(some 6), .mov (.c (.v (.bool false))), none⟩] .done)
     .ret)
    .skip))
  (.seq (.ops true [⟨(some 35), .mov (.t 0), none⟩,
    ⟨(some 36), .nilck (.t 35), none⟩,
    ⟨(some 37), .fld 1 (.t 36), none⟩,
    ⟨(some 38), .load none (.t 37), none⟩,
    ⟨(some 39), .mov (.t 7), none⟩,
    ⟨(some 40), .mov (.t 0), none⟩,
    ⟨(some 41), .nilck (.t 40), none⟩,
    ⟨(some 42), .fld 1 (.t 41), none⟩,
    ⟨(some 43), .load none (.t 42), none⟩,
    ⟨(some 44), .mov (.t 7), none⟩,
    ⟨(some 45), .mov (.t 2), none⟩,
    ⟨(some 46), .idx 7 (.t 38) (.t 39), none⟩,
    ⟨(some 47), .fld 3 (.t 46), none⟩,
    ⟨none, .store 1 (.t 47) (.c (.v (.bool true))), none⟩,
    ⟨(some 48), .idx 7 (.t 43) (.t 44), none⟩,
    ⟨(some 49), .fld 6 (.t 48), none⟩,
    ⟨none, .store 1 (.t 49) (.t 45), none⟩] (.take 0 [0, 1, 11, 12, 13, 14, 15, 16, 2, 3] (.take 1 [1, 2, 11, 12, 13, 14, 15, 16, 3] (.take 2 [2, 3, 11, 12, 13, 14, 15, 16] (.take 3 [3, 11, 12, 13, 14, 15, 16] (.take 4 [4, 11, 12, 13, 14, 15, 16] (.take 5 [5, 6, 14, 15, 16, 7, 8, 11, 12, 13] (.take 6 [6, 7, 14, 15, 16, 8, 11, 12, 13] (.take 7 [7, 8, 14, 15, 16, 11, 12, 13] (.take 8 [8, 11, 12, 13, 14, 15, 16] (.take 9 [9, 14, 15, 16] (.take 10 [10, 14, 15, 16] (.take 11 [11, 12, 14, 15, 16, 13] (.take 12 [12, 13, 14, 15, 16] (.eff false 13 (.take 14 [14, 15, 16] (.take 15 [15, 16] (.eff false 16 .done))))))))))))))))))
  (.seq (.ops false [⟨(some 6), .mov (.c (.v (.bool true))), none⟩] .done)
  .ret)))))⟩
theorem pf11_eq : (Tryd.f11.body.map fun c => (cfn Tryd.prog pl11 Tryd.f11 c, guardsAll pl11 c)) = some (pf11, true) := by kernel_rfl

/-- (*corral/corralref6.Memory).Store  sizes [] -/
def pl12 : Nat → DT := dtGet []
def pf12 : PFn := ⟨35, [.t 8], (.seq (.ops false [⟨(some 8), .mov (.c (.v (.bool false))), none⟩] .done)
  (.seq (.seq (.ops false [⟨(some 10), .mov (.t 0), none⟩,
     ⟨(some 11), .mov (.t 1), none⟩,
     ⟨(some 12), .mov (.t 2), none⟩,
     ⟨(some 13), .call 20 [(.t 10), (.t 11), (.t 12)], none⟩,
     ⟨(some 14), .un .not (.t 13), none⟩] .done)
   (.cond (.t 14)
    (.seq (.ops false [⟨(some 8), .mov (.c (.v (.bool false))), none⟩] .done)
     .ret)
    .skip))
  (.seq (.seq (.ops false [⟨(some 9), .mov (.c (.v (.int .i64 0))), none⟩] .done)
   (.block 0 (.loop (.seq (.seq (.ops false [⟨(some 15), .mov (.t 9), none⟩,
        ⟨(some 16), .mov (.t 2), none⟩,
        ⟨(some 17), .bin .lss (.t 15) (.t 16), none⟩] .done)
      (.cond (.t 17)
       .skip
       (.exit 0)))
     (.seq (.block 1 (.ops false [⟨(some 20), .mov (.t 0), none⟩,
        ⟨(some 21), .nilck (.t 20), none⟩,
        ⟨(some 22), .fld 0 (.t 21), none⟩,
        ⟨(some 23), .load none (.t 22), none⟩,
        ⟨(some 24), .mov (.t 1), none⟩,
        ⟨(some 25), .conv .i64 (.t 24), none⟩,
        ⟨(some 26), .mov (.t 9), none⟩,
        ⟨(some 27), .bin .add (.t 25) (.t 26), none⟩,
        ⟨(some 28), .mov (.t 3), none⟩,
        ⟨(some 29), .mov (.t 9), none⟩,
        ⟨(some 30), .bin .mul (.c (.v (.int .i64 8))) (.t 29), none⟩,
        ⟨(some 31), .conv .u64 (.t 30), none⟩,
        ⟨(some 32), .bin .shr (.t 28) (.t 31), none⟩,
        ⟨(some 33), .conv .u8 (.t 32), none⟩,
        ⟨(some 34), .idx 1 (.t 23) (.t 27), none⟩,
        ⟨none, .store 1 (.t 34) (.t 33), none⟩] .done))
     (.ops false [⟨(some 18), .mov (.t 9), none⟩,
      ⟨(some 19), .bin .add (.t 18) (.c (.v (.int .i64 1))), none⟩,
      ⟨(some 9), .mov (.t 19), none⟩] .done))))))
  (.seq (.ops false [⟨(some 8), .mov (.c (.v (.bool true))), none⟩] .done)
  .ret))))⟩
theorem pf12_eq : (Tryd.f12.body.map fun c => (cfn Tryd.prog pl12 Tryd.f12 c, guardsAll pl12 c)) = some (pf12, true) := by kernel_rfl

/-- (*corral/lsq.Queue).Ahead  sizes [(4, 9), (10, 61), (11, 8), (16, 6), (17, 23), (999999, 2)] -/
def pl13 : Nat → DT := dtGet [(4, (.take 0 [0, 1, 2, 3, 5, 6] (.take 1 [1, 2, 3, 5, 6] (.take 2 [2, 3, 5, 6] (.take 3 [3, 5, 6] (.take 4 [4, 5, 6] (.take 5 [5, 6] (.take 6 [6] (.take 7 [7] .done))))))))), (10, (.eff true 1000000 (.take 0 [0, 1, 13, 14, 2, 3, 5, 6, 7, 8, 9, 10] (.take 1 [1, 2, 13, 14, 3, 5, 6, 7, 8, 9, 10] (.take 2 [2, 3, 13, 14, 5, 6, 7, 8, 9, 10] (.take 3 [3, 5, 13, 14, 6, 7, 8, 9, 10] (.take 4 [4, 5, 13, 14, 6, 7, 8, 9, 10] (.take 5 [5, 6, 13, 14, 7, 8, 9, 10] (.take 6 [6, 7, 13, 14, 8, 9, 10] (.both (.both (.eff true 7 (.take 8 [8, 9, 10, 13, 14] (.take 9 [9, 13, 14] (.take 10 [10, 14] (.both (.eff true 11 (.eff true 12 (.eff false 13 (.eff false 14 .done)))) (.eff true 12 (.eff true 11 (.eff false 13 (.eff false 14 .done))))))))) (.eff true 11 (.both (.eff true 7 (.take 8 [8, 9, 10, 13, 14] (.take 9 [9, 13, 14] (.take 10 [10, 14] (.eff true 12 (.eff false 13 (.eff false 14 .done))))))) (.eff true 12 (.eff true 7 (.take 8 [8, 9, 10, 13, 14] (.take 9 [9, 13, 14] (.take 10 [10, 14] (.eff false 13 (.eff false 14 .done)))))))))) (.eff true 12 (.both (.eff true 7 (.take 8 [8, 9, 10, 13, 14] (.take 9 [9, 13, 14] (.take 10 [10, 14] (.eff true 11 (.eff false 13 (.eff false 14 .done))))))) (.eff true 11 (.eff true 7 (.take 8 [8, 9, 10, 13, 14] (.take 9 [9, 13, 14] (.take 10 [10, 14] (.eff false 13 (.eff false 14 .done))))))))))))))))))), (11, (.take 0 [0, 1, 2, 3, 5, 6] (.take 1 [1, 2, 3, 5, 6] (.take 2 [2, 3, 5, 6] (.take 3 [3, 5, 6] (.take 4 [4, 5, 6] (.take 5 [5, 6] (.eff true 6 .done)))))))), (16, (.take 0 [0, 1, 4] (.take 1 [1, 4] (.eff false 2 (.eff false 3 (.eff false 4 .done)))))), (17, (.take 0 [0, 1, 20, 21, 16, 19] (.take 1 [1, 16, 20, 21, 19] (.take 2 [2, 4, 20, 21, 5, 6, 16, 19] (.take 3 [3, 4, 20, 21, 5, 6, 16, 19] (.take 4 [4, 5, 20, 21, 6, 16, 19] (.take 5 [5, 6, 20, 21, 16, 19] (.take 6 [6, 16, 20, 21, 19] (.take 7 [7, 8, 20, 21, 9, 10, 12, 13, 14, 15, 16, 19] (.take 8 [8, 9, 20, 21, 10, 12, 13, 14, 15, 16, 19] (.take 9 [9, 10, 20, 21, 12, 13, 14, 15, 16, 19] (.take 10 [10, 12, 20, 21, 13, 14, 15, 16, 19] (.take 11 [11, 12, 20, 21, 13, 14, 15, 16, 19] (.take 12 [12, 13, 20, 21, 14, 15, 16, 19] (.take 13 [13, 14, 20, 21, 15, 16, 19] (.take 14 [14, 15, 20, 21, 16, 19] (.take 15 [15, 16, 20, 21, 19] (.take 17 [17, 18, 21] (.take 18 [18, 21] (.eff true 16 (.eff false 19 (.eff false 20 (.eff false 21 .done))))))))))))))))))))))), (999999, (.take 31 [7] .done))]
def pf13 : PFn := ⟨112, [.cell 4 none, .cell 5 none, .cell 6 none], (.seq (.ops false [⟨(some 2), .box 24 (.t 0), none⟩,
    ⟨(some 4), .box 3 (.c (.v (.int .i64 0))), none⟩,
    ⟨(some 5), .box 35 (.c (.v (.int .u32 0))), none⟩,
    ⟨(some 6), .box 3 (.c (.v (.int .i64 0))), none⟩] .done)
  (.seq (.ops false [⟨(some 16), .load none (.t 2), none⟩,
    ⟨(some 17), .mov (.t 1), none⟩,
    ⟨(some 18), .call 21 [(.t 16), (.t 17)], none⟩,
    ⟨(some 7), .box 3 (.c (.v (.int .i64 0))), none⟩,
    ⟨none, .store 1 (.t 7) (.t 18), none⟩] .done)
  (.seq (.seq (.ops false [⟨(some 19), .load none (.t 7), none⟩,
     ⟨(some 20), .bin .lss (.t 19) (.c (.v (.int .i64 0))), none⟩] .done)
   (.cond (.t 20)
    (.seq (.ops false [⟨none, .store 1 (.t 4) (.c (.v (.int .i64 3))), none⟩,
       ⟨none, .store 1 (.t 5) (.c (.v (.int .u32 0))), none⟩,
       ⟨none, .store 1 (.t 6) (.c (.v (.int .i64 (-1)))), none⟩] .done)
     .ret)
    .skip))
  (.seq (.seq (.ops true [⟨(some 21), .load none (.t 2), none⟩,
     ⟨(some 22), .nilck (.t 21), none⟩,
     ⟨(some 23), .fld 1 (.t 22), none⟩,
     ⟨(some 24), .load none (.t 23), none⟩,
     ⟨(some 25), .load none (.t 7), none⟩,
     ⟨(some 26), .slice 7 (.t 24) none (some (.t 25)) none, none⟩,
     ⟨(some 27), .len (.t 26), none⟩,
     ⟨(some 28), .mov (.c (.v (.int .i64 0))), none⟩] (.take 0 [0, 1, 2, 3, 5, 6] (.take 1 [1, 2, 3, 5, 6] (.take 2 [2, 3, 5, 6] (.take 3 [3, 5, 6] (.take 4 [4, 5, 6] (.take 5 [5, 6] (.take 6 [6] (.take 7 [7] .done)))))))))
   (.block 0 (.loop (.seq (.ops false [⟨(some 29), .bin .lss (.t 28) (.t 27), none⟩] .done)
     (.seq (.cond (.t 29)
       .skip
       (.exit 0))
     (.seq (.block 1 (.seq (.ops false [⟨(some 30), .idx 7 (.t 26) (.t 28), none⟩,
         ⟨(some 31), .load (some 7) (.t 30), none⟩,
         ⟨(some 9), .box 61 (.c (.agg [(.v (.int .i64 0)), (.v (.bool false)), (.v (.bool false)), (.v (.bool false)), (.v (.int .u32 0)), (.v (.int .i64 0)), (.v (.int .u32 0))])), none⟩,
         ⟨none, .store 7 (.t 9) (.t 31), none⟩] .done)
       (.seq (.ops false [⟨(some 32), .fld 1 (.t 9), none⟩,
         ⟨(some 33), .load none (.t 32), none⟩,
         ⟨(some 34), .mov (.t 33), none⟩,
         ⟨(some 35), .fld 2 (.t 9), some (34, true)⟩,
         ⟨(some 36), .load none (.t 35), some (34, true)⟩,
         ⟨(some 37), .un .not (.t 36), some (34, true)⟩,
         ⟨(some 38), .pick (.t 34) (.t 37) (.c (.v (.bool false))), none⟩] .done)
       (.cond (.t 38)
        (.seq (.ops false [⟨none, .store 1 (.t 4) (.c (.v (.int .i64 3))), none⟩,
           ⟨none, .store 1 (.t 5) (.c (.v (.int .u32 0))), none⟩,
           ⟨none, .store 1 (.t 6) (.c (.v (.int .i64 (-1)))), none⟩] .done)
         .ret)
        .skip))))
     (.ops false [⟨(some 39), .bin .add (.t 28) (.c (.v (.int .i64 1))), none⟩,
      ⟨(some 28), .mov (.t 39), none⟩] .done)))))))
  (.seq (.cut (.ops true [⟨(some 41), .load none (.t 2), none⟩,
     ⟨(some 42), .nilck (.t 41), none⟩,
     ⟨(some 43), .fld 1 (.t 42), none⟩,
     ⟨(some 44), .load none (.t 43), none⟩,
     ⟨(some 45), .load none (.t 7), none⟩,
     ⟨(some 46), .idx 7 (.t 44) (.t 45), none⟩,
     ⟨(some 47), .load (some 7) (.t 46), none⟩,
     ⟨(some 48), .call 22 [(.t 47)], none⟩,
     ⟨(some 40), .mov (.t 48), none⟩,
     ⟨(some 49), .ext (.t 40) 0, none⟩,
     ⟨(some 50), .ext (.t 40) 1, none⟩,
     ⟨(some 10), .box 63 (.c (.v (.int .u64 0))), none⟩,
     ⟨(some 11), .box 63 (.c (.v (.int .u64 0))), none⟩,
     ⟨none, .store 1 (.t 10) (.t 49), none⟩,
     ⟨none, .store 1 (.t 11) (.t 50), none⟩] (.take 0 [0, 1, 13, 14, 2, 3, 5, 6, 7, 8, 9, 10] (.take 1 [1, 2, 13, 14, 3, 5, 6, 7, 8, 9, 10] (.take 2 [2, 3, 13, 14, 5, 6, 7, 8, 9, 10] (.take 3 [3, 5, 13, 14, 6, 7, 8, 9, 10] (.take 4 [4, 5, 13, 14, 6, 7, 8, 9, 10] (.take 5 [5, 6, 13, 14, 7, 8, 9, 10] (.take 6 [6, 7, 13, 14, 8, 9, 10] (.both (.both (.eff true 7 (.take 8 [8, 9, 10, 13, 14] (.take 9 [9, 13, 14] (.take 10 [10, 14] (.both (.eff true 11 (.eff true 12 (.eff false 13 (.eff false 14 .done)))) (.eff true 12 (.eff true 11 (.eff false 13 (.eff false 14 .done))))))))) (.eff true 11 (.both (.eff true 7 (.take 8 [8, 9, 10, 13, 14] (.take 9 [9, 13, 14] (.take 10 [10, 14] (.eff true 12 (.eff false 13 (.eff false 14 .done))))))) (.eff true 12 (.eff true 7 (.take 8 [8, 9, 10, 13, 14] (.take 9 [9, 13, 14] (.take 10 [10, 14] (.eff false 13 (.eff false 14 .done)))))))))) (.eff true 12 (.both (.eff true 7 (.take 8 [8, 9, 10, 13, 14] (.take 9 [9, 13, 14] (.take 10 [10, 14] (.eff true 11 (.eff false 13 (.eff false 14 .done))))))) (.eff true 11 (.eff true 7 (.take 8 [8, 9, 10, 13, 14] (.take 9 [9, 13, 14] (.take 10 [10, 14] (.eff false 13 (.eff false 14 .done)))))))))))))))))))
  (.seq (.seq (.ops true [⟨(some 51), .load none (.t 2), none⟩,
     ⟨(some 52), .nilck (.t 51), none⟩,
     ⟨(some 53), .fld 1 (.t 52), none⟩,
     ⟨(some 54), .load none (.t 53), none⟩,
     ⟨(some 55), .load none (.t 7), none⟩,
     ⟨(some 56), .slice 7 (.t 54) none (some (.t 55)) none, none⟩,
     ⟨(some 57), .call 23 [(.t 56)], none⟩] (.take 0 [0, 1, 2, 3, 5, 6] (.take 1 [1, 2, 3, 5, 6] (.take 2 [2, 3, 5, 6] (.take 3 [3, 5, 6] (.take 4 [4, 5, 6] (.take 5 [5, 6] (.eff true 6 .done))))))))
   (.block 2 (.rangef (.t 57) [(31, some 7)] [58, 59] (.ops false [⟨(some 13), .box 61 (.c (.agg [(.v (.int .i64 0)), (.v (.bool false)), (.v (.bool false)), (.v (.bool false)), (.v (.int .u32 0)), (.v (.int .i64 0)), (.v (.int .u32 0))])), none⟩,
      ⟨none, .store 7 (.t 13) (.t 59), none⟩] .done) (.block 3 (.seq (.ops false [⟨(some 61), .load (some 7) (.t 13), none⟩,
        ⟨(some 62), .call 22 [(.t 61)], none⟩,
        ⟨(some 60), .mov (.t 62), none⟩,
        ⟨(some 63), .ext (.t 60) 0, none⟩,
        ⟨(some 64), .ext (.t 60) 1, none⟩,
        ⟨(some 14), .mov (.t 63), none⟩,
        ⟨(some 15), .mov (.t 64), none⟩] .done)
      (.seq (.seq (.ops false [⟨(some 65), .fld 1 (.t 13), none⟩,
         ⟨(some 66), .load none (.t 65), none⟩,
         ⟨(some 67), .un .not (.t 66), none⟩,
         ⟨(some 68), .mov (.t 67), none⟩,
         ⟨(some 69), .mov (.t 14), some (68, false)⟩,
         ⟨(some 70), .load none (.t 11), some (68, false)⟩,
         ⟨(some 71), .bin .geq (.t 69) (.t 70), some (68, false)⟩,
         ⟨(some 72), .pick (.t 68) (.c (.v (.bool true))) (.t 71), none⟩,
         ⟨(some 73), .mov (.t 72), none⟩,
         ⟨(some 74), .mov (.t 15), some (73, false)⟩,
         ⟨(some 75), .load none (.t 10), some (73, false)⟩,
         ⟨(some 76), .bin .leq (.t 74) (.t 75), some (73, false)⟩,
         ⟨(some 77), .pick (.t 73) (.c (.v (.bool true))) (.t 76), none⟩] .done)
       (.cond (.t 77)
        (.exit 3)
        .skip))
      (.seq (.seq (.ops false [⟨(some 78), .mov (.t 14), none⟩,
         ⟨(some 79), .load none (.t 10), none⟩,
         ⟨(some 80), .bin .gtr (.t 78) (.t 79), none⟩,
         ⟨(some 81), .mov (.t 80), none⟩,
         ⟨(some 82), .mov (.t 15), some (81, false)⟩,
         ⟨(some 83), .load none (.t 11), some (81, false)⟩,
         ⟨(some 84), .bin .lss (.t 82) (.t 83), some (81, false)⟩,
         ⟨(some 85), .pick (.t 81) (.c (.v (.bool true))) (.t 84), none⟩,
         ⟨(some 86), .mov (.t 85), none⟩,
         ⟨(some 87), .fld 3 (.t 13), some (86, false)⟩,
         ⟨(some 88), .load none (.t 87), some (86, false)⟩,
         ⟨(some 89), .un .not (.t 88), some (86, false)⟩,
         ⟨(some 90), .pick (.t 86) (.c (.v (.bool true))) (.t 89), none⟩] .done)
       (.cond (.t 90)
        (.seq (.ops true [⟨(some 91), .fld 0 (.t 13), none⟩,
           ⟨(some 92), .load none (.t 91), none⟩,
           ⟨none, .store 1 (.t 4) (.c (.v (.int .i64 2))), none⟩,
           ⟨none, .store 1 (.t 5) (.c (.v (.int .u32 0))), none⟩,
           ⟨none, .store 1 (.t 6) (.t 92), none⟩] (.take 0 [0, 1, 4] (.take 1 [1, 4] (.eff false 2 (.eff false 3 (.eff false 4 .done))))))
         .ret)
        .skip))
      (.seq (.ops true [⟨(some 93), .fld 6 (.t 13), none⟩,
        ⟨(some 94), .load none (.t 93), none⟩,
        ⟨(some 95), .load none (.t 10), none⟩,
        ⟨(some 96), .mov (.t 14), none⟩,
        ⟨(some 97), .bin .sub (.t 95) (.t 96), none⟩,
        ⟨(some 98), .conv .i64 (.t 97), none⟩,
        ⟨(some 99), .bin .mul (.c (.v (.int .i64 8))) (.t 98), none⟩,
        ⟨(some 100), .load none (.t 2), none⟩,
        ⟨(some 101), .nilck (.t 100), none⟩,
        ⟨(some 102), .fld 1 (.t 101), none⟩,
        ⟨(some 103), .load none (.t 102), none⟩,
        ⟨(some 104), .load none (.t 7), none⟩,
        ⟨(some 105), .idx 7 (.t 103) (.t 104), none⟩,
        ⟨(some 106), .fld 5 (.t 105), none⟩,
        ⟨(some 107), .load none (.t 106), none⟩,
        ⟨(some 108), .bin .mul (.c (.v (.int .i64 8))) (.t 107), none⟩,
        ⟨(some 109), .call 24 [(.t 94), (.t 99), (.t 108)], none⟩,
        ⟨(some 110), .fld 0 (.t 13), none⟩,
        ⟨(some 111), .load none (.t 110), none⟩,
        ⟨none, .store 1 (.t 4) (.c (.v (.int .i64 1))), none⟩,
        ⟨none, .store 1 (.t 5) (.t 109), none⟩,
        ⟨none, .store 1 (.t 6) (.t 111), none⟩] (.take 0 [0, 1, 20, 21, 16, 19] (.take 1 [1, 16, 20, 21, 19] (.take 2 [2, 4, 20, 21, 5, 6, 16, 19] (.take 3 [3, 4, 20, 21, 5, 6, 16, 19] (.take 4 [4, 5, 20, 21, 6, 16, 19] (.take 5 [5, 6, 20, 21, 16, 19] (.take 6 [6, 16, 20, 21, 19] (.take 7 [7, 8, 20, 21, 9, 10, 12, 13, 14, 15, 16, 19] (.take 8 [8, 9, 20, 21, 10, 12, 13, 14, 15, 16, 19] (.take 9 [9, 10, 20, 21, 12, 13, 14, 15, 16, 19] (.take 10 [10, 12, 20, 21, 13, 14, 15, 16, 19] (.take 11 [11, 12, 20, 21, 13, 14, 15, 16, 19] (.take 12 [12, 13, 20, 21, 14, 15, 16, 19] (.take 13 [13, 14, 20, 21, 15, 16, 19] (.take 14 [14, 15, 20, 21, 16, 19] (.take 15 [15, 16, 20, 21, 19] (.take 17 [17, 18, 21] (.take 18 [18, 21] (.eff true 16 (.eff false 19 (.eff false 20 (.eff false 21 .done)))))))))))))))))))))))
      .ret))))))))
  (.seq (.ops false [⟨none, .store 1 (.t 4) (.c (.v (.int .i64 0))), none⟩,
    ⟨none, .store 1 (.t 5) (.c (.v (.int .u32 0))), none⟩,
    ⟨none, .store 1 (.t 6) (.c (.v (.int .i64 (-1)))), none⟩] .done)
  .ret)))))))⟩
theorem pf13_eq : (Tryd.f13.body.map fun c => (cfn Tryd.prog pl13 Tryd.f13 c, guardsAll pl13 c)) = some (pf13, true) := by kernel_rfl

/-- (*corral/corralref6.Memory).Load  sizes [] -/
def pl14 : Nat → DT := dtGet []
def pf14 : PFn := ⟨36, [.t 6, .t 7], (.seq (.ops false [⟨(some 6), .mov (.c (.v (.int .u32 0))), none⟩,
    ⟨(some 7), .mov (.c (.v (.bool false))), none⟩] .done)
  (.seq (.seq (.ops false [⟨(some 10), .mov (.t 0), none⟩,
     ⟨(some 11), .mov (.t 1), none⟩,
     ⟨(some 12), .mov (.t 2), none⟩,
     ⟨(some 13), .call 20 [(.t 10), (.t 11), (.t 12)], none⟩,
     ⟨(some 14), .un .not (.t 13), none⟩] .done)
   (.cond (.t 14)
    (.seq (.ops false [⟨(some 6), .mov (.c (.v (.int .u32 0))), none⟩,
       ⟨(some 7), .mov (.c (.v (.bool false))), none⟩] .done)
     .ret)
    .skip))
  (.seq (.ops false [⟨(some 8), .mov (.c (.v (.int .u32 0))), none⟩] .done)
  (.seq (.seq (.ops false [⟨(some 15), .mov (.t 2), none⟩,
     ⟨(some 16), .bin .sub (.t 15) (.c (.v (.int .i64 1))), none⟩,
     ⟨(some 9), .mov (.t 16), none⟩] .done)
   (.block 0 (.loop (.seq (.seq (.ops false [⟨(some 17), .mov (.t 9), none⟩,
        ⟨(some 18), .bin .geq (.t 17) (.c (.v (.int .i64 0))), none⟩] .done)
      (.cond (.t 18)
       .skip
       (.exit 0)))
     (.seq (.block 1 (.ops false [⟨(some 21), .mov (.t 8), none⟩,
        ⟨(some 22), .bin .shl (.t 21) (.c (.v (.int .u64 8))), none⟩,
        ⟨(some 23), .mov (.t 0), none⟩,
        ⟨(some 24), .nilck (.t 23), none⟩,
        ⟨(some 25), .fld 0 (.t 24), none⟩,
        ⟨(some 26), .load none (.t 25), none⟩,
        ⟨(some 27), .mov (.t 1), none⟩,
        ⟨(some 28), .conv .i64 (.t 27), none⟩,
        ⟨(some 29), .mov (.t 9), none⟩,
        ⟨(some 30), .bin .add (.t 28) (.t 29), none⟩,
        ⟨(some 31), .idx 1 (.t 26) (.t 30), none⟩,
        ⟨(some 32), .load none (.t 31), none⟩,
        ⟨(some 33), .conv .u32 (.t 32), none⟩,
        ⟨(some 34), .bin .or (.t 22) (.t 33), none⟩,
        ⟨(some 8), .mov (.t 34), none⟩] .done))
     (.ops false [⟨(some 19), .mov (.t 9), none⟩,
      ⟨(some 20), .bin .sub (.t 19) (.c (.v (.int .i64 1))), none⟩,
      ⟨(some 9), .mov (.t 20), none⟩] .done))))))
  (.seq (.ops false [⟨(some 35), .mov (.t 8), none⟩,
    ⟨(some 6), .mov (.t 35), none⟩,
    ⟨(some 7), .mov (.c (.v (.bool true))), none⟩] .done)
  .ret)))))⟩
theorem pf14_eq : (Tryd.f14.body.map fun c => (cfn Tryd.prog pl14 Tryd.f14 c, guardsAll pl14 c)) = some (pf14, true) := by kernel_rfl

/-- (*corral/lsq.Queue).Got  sizes [] -/
def pl15 : Nat → DT := dtGet []
def pf15 : PFn := ⟨20, [.t 6], (.seq (.ops false [⟨(some 6), .mov (.c (.v (.bool false))), none⟩] .done)
  (.seq (.ops false [⟨(some 8), .mov (.t 0), none⟩,
    ⟨(some 9), .mov (.t 1), none⟩,
    ⟨(some 10), .call 21 [(.t 8), (.t 9)], none⟩,
    ⟨(some 7), .mov (.t 10), none⟩] .done)
  (.seq (.seq (.ops false [⟨(some 11), .mov (.t 7), none⟩,
     ⟨(some 12), .bin .lss (.t 11) (.c (.v (.int .i64 0))), none⟩] .done)
   (.cond (.t 12)
    (.seq (.ops false [⟨(some 6), .mov (.c (.v (.bool false))), none⟩] .done)
     .ret)
    .skip))
  (.seq (.ops false [⟨(some 13), .mov (.t 0), none⟩,
    ⟨(some 14), .nilck (.t 13), none⟩,
    ⟨(some 15), .fld 1 (.t 14), none⟩,
    ⟨(some 16), .load none (.t 15), none⟩,
    ⟨(some 17), .mov (.t 7), none⟩,
    ⟨(some 18), .idx 7 (.t 16) (.t 17), none⟩,
    ⟨(some 19), .fld 3 (.t 18), none⟩,
    ⟨none, .store 1 (.t 19) (.c (.v (.bool true))), none⟩] .done)
  (.seq (.ops false [⟨(some 6), .mov (.c (.v (.bool true))), none⟩] .done)
  .ret)))))⟩
theorem pf15_eq : (Tryd.f15.body.map fun c => (cfn Tryd.prog pl15 Tryd.f15 c, guardsAll pl15 c)) = some (pf15, true) := by kernel_rfl

/-- (*corral/lsq.Queue).Cut  sizes [] -/
def pl16 : Nat → DT := dtGet []
def pf16 : PFn := ⟨8, [.t 4], (.seq (.ops false [⟨(some 3), .box 3 (.t 1), none⟩,
    ⟨(some 4), .mov (.c (.v (.int .i64 0))), none⟩] .done)
  (.seq (.ops false [⟨(some 5), .mov (.t 0), none⟩,
    ⟨(some 6), .clo (.func 26) [] [(.t 3)], none⟩,
    ⟨(some 7), .call 25 [(.t 5), (.t 6)], none⟩,
    ⟨(some 4), .mov (.t 7), none⟩] .done)
  .ret))⟩
theorem pf16_eq : (Tryd.f16.body.map fun c => (cfn Tryd.prog pl16 Tryd.f16 c, guardsAll pl16 c)) = some (pf16, true) := by kernel_rfl

/-- corral/corralref.SameInts  sizes [(6, 11)] -/
def pl17 : Nat → DT := dtGet [(6, (.take 0 [0, 2, 9, 3, 8] (.take 1 [1, 2, 9, 3, 8] (.take 2 [2, 3, 9, 8] (.take 3 [3, 8, 9] (.take 4 [4, 6, 9, 7, 8] (.take 5 [5, 6, 9, 7, 8] (.take 6 [6, 7, 9, 8] (.take 7 [7, 8, 9] (.take 8 [8, 9] (.take 9 [9] .done)))))))))))]
def pf17 : PFn := ⟨29, [.t 4], (.seq (.ops false [⟨(some 4), .mov (.c (.v (.bool false))), none⟩] .done)
  (.seq (.seq (.ops false [⟨(some 7), .mov (.t 0), none⟩,
     ⟨(some 8), .len (.t 7), none⟩,
     ⟨(some 9), .mov (.t 1), none⟩,
     ⟨(some 10), .len (.t 9), none⟩,
     ⟨(some 11), .bin .neq (.t 8) (.t 10), none⟩] .done)
   (.cond (.t 11)
    (.seq (.ops false [⟨(some 4), .mov (.c (.v (.bool false))), none⟩] .done)
     .ret)
    .skip))
  (.seq (.seq (.ops false [⟨(some 5), .mov (.c (.v (.int .i64 0))), none⟩] .done)
   (.block 0 (.loop (.seq (.seq (.ops false [⟨(some 12), .mov (.t 5), none⟩,
        ⟨(some 13), .mov (.t 0), none⟩,
        ⟨(some 14), .len (.t 13), none⟩,
        ⟨(some 15), .bin .lss (.t 12) (.t 14), none⟩] .done)
      (.cond (.t 15)
       .skip
       (.exit 0)))
     (.seq (.block 1 (.seq (.ops true [⟨(some 18), .mov (.t 0), none⟩,
         ⟨(some 19), .mov (.t 5), none⟩,
         ⟨(some 20), .idx 1 (.t 18) (.t 19), none⟩,
         ⟨(some 21), .load none (.t 20), none⟩,
         ⟨(some 22), .mov (.t 1), none⟩,
         ⟨(some 23), .mov (.t 5), none⟩,
         ⟨(some 24), .idx 1 (.t 22) (.t 23), none⟩,
         ⟨(some 25), .load none (.t 24), none⟩,
         ⟨(some 26), .bin .eql (.t 21) (.t 25), none⟩,
         ⟨(some 6), .mov (.t 26), none⟩] (.take 0 [0, 2, 9, 3, 8] (.take 1 [1, 2, 9, 3, 8] (.take 2 [2, 3, 9, 8] (.take 3 [3, 8, 9] (.take 4 [4, 6, 9, 7, 8] (.take 5 [5, 6, 9, 7, 8] (.take 6 [6, 7, 9, 8] (.take 7 [7, 8, 9] (.take 8 [8, 9] (.take 9 [9] .done)))))))))))
       (.seq (.ops false [⟨(some 27), .mov (.t 6), none⟩,
         ⟨(some 28), .un .not (.t 27), none⟩] .done)
       (.cond (.t 28)
        (.seq (.ops false [⟨(some 4), .mov (.c (.v (.bool false))), none⟩] .done)
         .ret)
        .skip))))
     (.ops false [⟨(some 16), .mov (.t 5), none⟩,
      ⟨(some 17), .bin .add (.t 16) (.c (.v (.int .i64 1))), none⟩,
      ⟨(some 5), .mov (.t 17), none⟩] .done))))))
  (.seq (.ops false [⟨(some 4), .mov (.c (.v (.bool true))), none⟩] .done)
  .ret))))⟩
theorem pf17_eq : (Tryd.f17.body.map fun c => (cfn Tryd.prog pl17 Tryd.f17 c, guardsAll pl17 c)) = some (pf17, true) := by kernel_rfl

/-- (*corral/lsq.Queue).Hit  sizes [] -/
def pl18 : Nat → DT := dtGet []
def pf18 : PFn := ⟨38, [.t 4], (.seq (.ops false [⟨(some 4), .mov (.c (.v (.slice none 0 0))), none⟩] .done)
  (.seq (.ops false [⟨(some 5), .mov (.c (.v (.slice none 0 0))), none⟩] .done)
  (.seq (.seq (.ops false [⟨(some 8), .mov (.t 0), none⟩,
     ⟨(some 9), .nilck (.t 8), none⟩,
     ⟨(some 10), .fld 1 (.t 9), none⟩,
     ⟨(some 11), .load none (.t 10), none⟩,
     ⟨(some 12), .len (.t 11), none⟩,
     ⟨(some 13), .mov (.c (.v (.int .i64 0))), none⟩] .done)
   (.block 0 (.loop (.seq (.ops false [⟨(some 14), .bin .lss (.t 13) (.t 12), none⟩] .done)
     (.seq (.cond (.t 14)
       .skip
       (.exit 0))
     (.seq (.block 1 (.seq (.ops false [⟨(some 15), .idx 7 (.t 11) (.t 13), none⟩,
         ⟨(some 16), .load (some 7) (.t 15), none⟩,
         ⟨(some 7), .box 61 (.c (.agg [(.v (.int .i64 0)), (.v (.bool false)), (.v (.bool false)), (.v (.bool false)), (.v (.int .u32 0)), (.v (.int .i64 0)), (.v (.int .u32 0))])), none⟩,
         ⟨none, .store 7 (.t 7) (.t 16), none⟩] .done)
       (.seq (.ops false [⟨(some 17), .fld 1 (.t 7), none⟩,
         ⟨(some 18), .load none (.t 17), none⟩,
         ⟨(some 19), .un .not (.t 18), none⟩,
         ⟨(some 20), .mov (.t 19), none⟩,
         ⟨(some 21), .fld 3 (.t 7), some (20, true)⟩,
         ⟨(some 22), .load none (.t 21), some (20, true)⟩,
         ⟨(some 23), .pick (.t 20) (.t 22) (.c (.v (.bool false))), none⟩,
         ⟨(some 24), .mov (.t 23), none⟩,
         ⟨(some 25), .fld 4 (.t 7), some (24, true)⟩,
         ⟨(some 26), .load none (.t 25), some (24, true)⟩,
         ⟨(some 27), .call 27 [(.t 26)], some (24, true)⟩,
         ⟨(some 28), .mov (.t 1), some (24, true)⟩,
         ⟨(some 29), .bin .eql (.t 27) (.t 28), some (24, true)⟩,
         ⟨(some 30), .pick (.t 24) (.t 29) (.c (.v (.bool false))), none⟩] .done)
       (.cond (.t 30)
        (.ops false [⟨(some 31), .mov (.t 5), none⟩,
          ⟨(some 32), .fld 0 (.t 7), none⟩,
          ⟨(some 33), .load none (.t 32), none⟩,
          ⟨(some 34), .bslice 3 [.int .i64] 1 [(.v (.int .i64 0))] [(0, 1, (.t 33))], none⟩,
          ⟨(some 35), .append 3 [.int .i64] [(.int .i64 0)] 8 (.t 31) (.t 34), none⟩,
          ⟨(some 5), .mov (.t 35), none⟩] .done)
        .skip))))
     (.ops false [⟨(some 36), .bin .add (.t 13) (.c (.v (.int .i64 1))), none⟩,
      ⟨(some 13), .mov (.t 36), none⟩] .done)))))))
  (.seq (.ops false [⟨(some 37), .mov (.t 5), none⟩,
    ⟨(some 4), .mov (.t 37), none⟩] .done)
  .ret))))⟩
theorem pf18_eq : (Tryd.f18.body.map fun c => (cfn Tryd.prog pl18 Tryd.f18 c, guardsAll pl18 c)) = some (pf18, true) := by kernel_rfl

/-- (*corral/lsq.Queue).at  sizes [] -/
def pl19 : Nat → DT := dtGet []
def pf19 : PFn := ⟨11, [.t 4], (.seq (.ops false [⟨(some 3), .box 3 (.t 1), none⟩,
    ⟨(some 4), .mov (.c (.v (.int .i64 0))), none⟩] .done)
  (.seq (.ops false [⟨(some 5), .mov (.t 0), none⟩,
    ⟨(some 6), .nilck (.t 5), none⟩,
    ⟨(some 7), .fld 1 (.t 6), none⟩,
    ⟨(some 8), .load none (.t 7), none⟩,
    ⟨(some 9), .clo (.func 29) [] [(.t 3)], none⟩,
    ⟨(some 10), .call 28 [(.t 8), (.t 9)], none⟩,
    ⟨(some 4), .mov (.t 10), none⟩] .done)
  .ret))⟩
theorem pf19_eq : (Tryd.f19.body.map fun c => (cfn Tryd.prog pl19 Tryd.f19 c, guardsAll pl19 c)) = some (pf19, true) := by kernel_rfl

/-- (*corral/corralref6.Memory).Has  sizes [] -/
def pl20 : Nat → DT := dtGet []
def pf20 : PFn := ⟨15, [.t 6], (.seq (.ops false [⟨(some 6), .mov (.c (.v (.bool false))), none⟩] .done)
  (.seq (.ops false [⟨(some 7), .mov (.t 0), none⟩,
    ⟨(some 8), .nilck (.t 7), none⟩,
    ⟨(some 9), .fld 0 (.t 8), none⟩,
    ⟨(some 10), .load none (.t 9), none⟩,
    ⟨(some 11), .len (.t 10), none⟩,
    ⟨(some 12), .mov (.t 1), none⟩,
    ⟨(some 13), .mov (.t 2), none⟩,
    ⟨(some 14), .call 30 [(.t 11), (.t 12), (.t 13)], none⟩,
    ⟨(some 6), .mov (.t 14), none⟩] .done)
  .ret))⟩
theorem pf20_eq : (Tryd.f20.body.map fun c => (cfn Tryd.prog pl20 Tryd.f20 c, guardsAll pl20 c)) = some (pf20, true) := by kernel_rfl

/-- (*corral/lsq.Queue).load  sizes [] -/
def pl21 : Nat → DT := dtGet []
def pf21 : PFn := ⟨33, [.t 4], (.seq (.ops false [⟨(some 4), .mov (.c (.v (.int .i64 0))), none⟩] .done)
  (.seq (.ops false [⟨(some 6), .mov (.t 0), none⟩,
    ⟨(some 7), .mov (.t 1), none⟩,
    ⟨(some 8), .call 19 [(.t 6), (.t 7)], none⟩,
    ⟨(some 5), .mov (.t 8), none⟩] .done)
  (.seq (.seq (.ops false [⟨(some 9), .mov (.t 5), none⟩,
     ⟨(some 10), .bin .lss (.t 9) (.c (.v (.int .i64 0))), none⟩,
     ⟨(some 11), .mov (.t 10), none⟩,
     ⟨(some 12), .mov (.t 0), some (11, false)⟩,
     ⟨(some 13), .nilck (.t 12), some (11, false)⟩,
     ⟨(some 14), .fld 1 (.t 13), some (11, false)⟩,
     ⟨(some 15), .load none (.t 14), some (11, false)⟩,
     ⟨(some 16), .mov (.t 5), some (11, false)⟩,
     ⟨(some 17), .idx 7 (.t 15) (.t 16), some (11, false)⟩,
     ⟨(some 18), .fld 1 (.t 17), some (11, false)⟩,
     ⟨(some 19), .load none (.t 18), some (11, false)⟩,
     ⟨(some 20), .pick (.t 11) (.c (.v (.bool true))) (.t 19), none⟩,
     ⟨(some 21), .mov (.t 20), none⟩,
     ⟨(some 22), .mov (.t 0), some (21, false)⟩,
     ⟨(some 23), .nilck (.t 22), some (21, false)⟩,
     ⟨(some 24), .fld 1 (.t 23), some (21, false)⟩,
     ⟨(some 25), .load none (.t 24), some (21, false)⟩,
     ⟨(some 26), .mov (.t 5), some (21, false)⟩,
     ⟨(some 27), .idx 7 (.t 25) (.t 26), some (21, false)⟩,
     ⟨(some 28), .fld 2 (.t 27), some (21, false)⟩,
     ⟨(some 29), .load none (.t 28), some (21, false)⟩,
     ⟨(some 30), .un .not (.t 29), some (21, false)⟩,
     ⟨(some 31), .pick (.t 21) (.c (.v (.bool true))) (.t 30), none⟩] .done)
   (.cond (.t 31)
    (.seq (.ops false [⟨(some 4), .mov (.c (.v (.int .i64 (-1)))), none⟩] .done)
     .ret)
    .skip))
  (.seq (.ops false [⟨(some 32), .mov (.t 5), none⟩,
    ⟨(some 4), .mov (.t 32), none⟩] .done)
  .ret))))⟩
theorem pf21_eq : (Tryd.f21.body.map fun c => (cfn Tryd.prog pl21 Tryd.f21 c, guardsAll pl21 c)) = some (pf21, true) := by kernel_rfl

/-- (corral/lsq.one).span  sizes [(1, 13)] -/
def pl22 : Nat → DT := dtGet [(1, (.take 0 [0, 1, 10, 11, 2] (.take 1 [1, 2, 10, 11] (.take 2 [2, 10, 11] (.take 3 [3, 4, 11, 5, 9] (.take 4 [4, 5, 11, 9] (.take 5 [5, 9, 11] (.take 6 [6, 7, 11, 8, 9] (.take 7 [7, 8, 11, 9] (.take 8 [8, 9, 11] (.take 9 [9, 11] (.take 10 [10, 11] (.take 11 [11] .done)))))))))))))]
def pf22 : PFn := ⟨14, [.t 2, .t 3], (.seq (.ops false [⟨(some 1), .box 61 (.t 0), none⟩,
    ⟨(some 2), .mov (.c (.v (.int .u64 0))), none⟩,
    ⟨(some 3), .mov (.c (.v (.int .u64 0))), none⟩] .done)
  (.seq (.ops true [⟨(some 4), .fld 4 (.t 1), none⟩,
    ⟨(some 5), .load none (.t 4), none⟩,
    ⟨(some 6), .conv .u64 (.t 5), none⟩,
    ⟨(some 7), .fld 4 (.t 1), none⟩,
    ⟨(some 8), .load none (.t 7), none⟩,
    ⟨(some 9), .conv .u64 (.t 8), none⟩,
    ⟨(some 10), .fld 5 (.t 1), none⟩,
    ⟨(some 11), .load none (.t 10), none⟩,
    ⟨(some 12), .conv .u64 (.t 11), none⟩,
    ⟨(some 13), .bin .add (.t 9) (.t 12), none⟩,
    ⟨(some 2), .mov (.t 6), none⟩,
    ⟨(some 3), .mov (.t 13), none⟩] (.take 0 [0, 1, 10, 11, 2] (.take 1 [1, 2, 10, 11] (.take 2 [2, 10, 11] (.take 3 [3, 4, 11, 5, 9] (.take 4 [4, 5, 11, 9] (.take 5 [5, 9, 11] (.take 6 [6, 7, 11, 8, 9] (.take 7 [7, 8, 11, 9] (.take 8 [8, 9, 11] (.take 9 [9, 11] (.take 10 [10, 11] (.take 11 [11] .done)))))))))))))
  .ret))⟩
theorem pf22_eq : (Tryd.f22.body.map fun c => (cfn Tryd.prog pl22 Tryd.f22 c, guardsAll pl22 c)) = some (pf22, true) := by kernel_rfl

/-- slices.Backward[[]corral/lsq.one,corral/lsq.one]  sizes [] -/
def pl23 : Nat → DT := dtGet []
def pf23 : PFn := ⟨4, [.t 2], (.seq (.ops false [⟨(some 1), .box 54 (.t 0), none⟩,
    ⟨(some 2), .mov (.c (.v .nilFunc)), none⟩] .done)
  (.seq (.ops false [⟨(some 3), .clo (.func 31) [] [(.t 1)], none⟩,
    ⟨(some 2), .mov (.t 3), none⟩] .done)
  .ret))⟩
theorem pf23_eq : (Tryd.f23.body.map fun c => (cfn Tryd.prog pl23 Tryd.f23 c, guardsAll pl23 c)) = some (pf23, true) := by kernel_rfl

/-- corral/word.Bits  sizes [(3, 8)] -/
def pl24 : Nat → DT := dtGet [(3, (.take 0 [0, 2, 6, 5] (.take 1 [1, 2, 6, 5] (.take 2 [2, 5, 6] (.take 3 [3, 4, 6, 5] (.eff true 4 (.take 5 [5, 6] (.take 6 [6] .done))))))))]
def pf24 : PFn := ⟨23, [.t 6], (.seq (.ops false [⟨(some 6), .mov (.c (.v (.int .u32 0))), none⟩] .done)
  (.seq (.seq (.ops false [⟨(some 7), .mov (.t 1), none⟩,
     ⟨(some 8), .bin .lss (.t 7) (.c (.v (.int .i64 0))), none⟩,
     ⟨(some 9), .mov (.t 8), none⟩,
     ⟨(some 10), .mov (.t 1), some (9, false)⟩,
     ⟨(some 11), .bin .geq (.t 10) (.c (.v (.int .i64 32))), some (9, false)⟩,
     ⟨(some 12), .pick (.t 9) (.c (.v (.bool true))) (.t 11), none⟩,
     ⟨(some 13), .mov (.t 12), none⟩,
     ⟨(some 14), .mov (.t 2), some (13, false)⟩,
     ⟨(some 15), .bin .lss (.t 14) (.c (.v (.int .i64 1))), some (13, false)⟩,
     ⟨(some 16), .pick (.t 13) (.c (.v (.bool true))) (.t 15), none⟩] .done)
   (.cond (.t 16)
    (.seq (.ops false [⟨(some 6), .mov (.c (.v (.int .u32 0))), none⟩] .done)
     .ret)
    .skip))
  (.seq (.ops true [⟨(some 17), .mov (.t 0), none⟩,
    ⟨(some 18), .mov (.t 1), none⟩,
    ⟨(some 19), .bin .shr (.t 17) (.t 18), none⟩,
    ⟨(some 20), .mov (.t 2), none⟩,
    ⟨(some 21), .call 32 [(.t 20)], none⟩,
    ⟨(some 22), .bin .and (.t 19) (.t 21), none⟩,
    ⟨(some 6), .mov (.t 22), none⟩] (.take 0 [0, 2, 6, 5] (.take 1 [1, 2, 6, 5] (.take 2 [2, 5, 6] (.take 3 [3, 4, 6, 5] (.eff true 4 (.take 5 [5, 6] (.take 6 [6] .done))))))))
  .ret)))⟩
theorem pf24_eq : (Tryd.f24.body.map fun c => (cfn Tryd.prog pl24 Tryd.f24 c, guardsAll pl24 c)) = some (pf24, true) := by kernel_rfl

/-- (*corral/lsq.Queue).keep  sizes [] -/
def pl25 : Nat → DT := dtGet []
def pf25 : PFn := ⟨27, [.t 4], (.seq (.ops false [⟨(some 3), .box 71 (.t 1), none⟩,
    ⟨(some 4), .mov (.c (.v (.int .i64 0))), none⟩] .done)
  (.seq (.ops false [⟨(some 6), .mov (.t 0), none⟩,
    ⟨(some 7), .nilck (.t 6), none⟩,
    ⟨(some 8), .fld 1 (.t 7), none⟩,
    ⟨(some 9), .load none (.t 8), none⟩,
    ⟨(some 10), .len (.t 9), none⟩,
    ⟨(some 5), .mov (.t 10), none⟩] .done)
  (.seq (.ops false [⟨(some 11), .mov (.t 0), none⟩,
    ⟨(some 12), .mov (.t 0), none⟩,
    ⟨(some 13), .nilck (.t 12), none⟩,
    ⟨(some 14), .fld 1 (.t 13), none⟩,
    ⟨(some 15), .load none (.t 14), none⟩,
    ⟨(some 16), .clo (.func 34) [] [(.t 3)], none⟩,
    ⟨(some 17), .call 33 [(.t 15), (.t 16)], none⟩,
    ⟨(some 18), .nilck (.t 11), none⟩,
    ⟨(some 19), .fld 1 (.t 18), none⟩,
    ⟨none, .store 1 (.t 19) (.t 17), none⟩] .done)
  (.seq (.ops false [⟨(some 20), .mov (.t 5), none⟩,
    ⟨(some 21), .mov (.t 0), none⟩,
    ⟨(some 22), .nilck (.t 21), none⟩,
    ⟨(some 23), .fld 1 (.t 22), none⟩,
    ⟨(some 24), .load none (.t 23), none⟩,
    ⟨(some 25), .len (.t 24), none⟩,
    ⟨(some 26), .bin .sub (.t 20) (.t 25), none⟩,
    ⟨(some 4), .mov (.t 26), none⟩] .done)
  .ret))))⟩
theorem pf25_eq : (Tryd.f25.body.map fun c => (cfn Tryd.prog pl25 Tryd.f25 c, guardsAll pl25 c)) = some (pf25, true) := by kernel_rfl

/-- (*corral/lsq.Queue).Cut$1  sizes [] -/
def pl26 : Nat → DT := dtGet []
def pf26 : PFn := ⟨7, [.t 3], (.seq (.ops false [⟨(some 3), .mov (.c (.v (.bool false))), none⟩] .done)
  (.seq (.ops false [⟨(some 4), .mov (.t 0), none⟩,
    ⟨(some 5), .load none (.t 1), none⟩,
    ⟨(some 6), .bin .leq (.t 4) (.t 5), none⟩,
    ⟨(some 3), .mov (.t 6), none⟩] .done)
  .ret))⟩
theorem pf26_eq : (Tryd.f26.body.map fun c => (cfn Tryd.prog pl26 Tryd.f26 c, guardsAll pl26 c)) = some (pf26, true) := by kernel_rfl

/-- corral/mem.LineOf  sizes [] -/
def pl27 : Nat → DT := dtGet []
def pf27 : PFn := ⟨6, [.t 2], (.seq (.ops false [⟨(some 2), .mov (.c (.v (.int .i64 0))), none⟩] .done)
  (.seq (.ops false [⟨(some 3), .mov (.t 0), none⟩,
    ⟨(some 4), .bin .quo (.t 3) (.c (.v (.int .u32 16))), none⟩,
    ⟨(some 5), .conv .i64 (.t 4), none⟩,
    ⟨(some 2), .mov (.t 5), none⟩] .done)
  .ret))⟩
theorem pf27_eq : (Tryd.f27.body.map fun c => (cfn Tryd.prog pl27 Tryd.f27 c, guardsAll pl27 c)) = some (pf27, true) := by kernel_rfl

/-- slices.IndexFunc[[]corral/lsq.one,corral/lsq.one]  sizes [] -/
def pl28 : Nat → DT := dtGet []
def pf28 : PFn := ⟨19, [.t 4], (.seq (.ops false [⟨(some 4), .mov (.c (.v (.int .i64 0))), none⟩] .done)
  (.seq (.seq (.ops false [⟨(some 6), .mov (.t 0), none⟩,
     ⟨(some 7), .len (.t 6), none⟩,
     ⟨(some 8), .mov (.c (.v (.int .i64 0))), none⟩] .done)
   (.block 0 (.loop (.seq (.ops false [⟨(some 9), .bin .lss (.t 8) (.t 7), none⟩] .done)
     (.seq (.cond (.t 9)
       .skip
       (.exit 0))
     (.seq (.block 1 (.seq (.ops false [⟨(some 10), .mov (.t 8), none⟩,
         ⟨(some 5), .mov (.t 10), none⟩] .done)
       (.seq (.ops false [⟨(some 11), .mov (.t 1), none⟩,
         ⟨(some 12), .mov (.t 0), none⟩,
         ⟨(some 13), .mov (.t 5), none⟩,
         ⟨(some 14), .idx 7 (.t 12) (.t 13), none⟩,
         ⟨(some 15), .load (some 7) (.t 14), none⟩,
         ⟨(some 16), .callv (.t 11) [(.t 15)], none⟩] .done)
       (.cond (.t 16)
        (.seq (.ops false [⟨(some 17), .mov (.t 5), none⟩,
           ⟨(some 4), .mov (.t 17), none⟩] .done)
         .ret)
        .skip))))
     (.ops false [⟨(some 18), .bin .add (.t 8) (.c (.v (.int .i64 1))), none⟩,
      ⟨(some 8), .mov (.t 18), none⟩] .done)))))))
  (.seq (.ops false [⟨(some 4), .mov (.c (.v (.int .i64 (-1)))), none⟩] .done)
  .ret)))⟩
theorem pf28_eq : (Tryd.f28.body.map fun c => (cfn Tryd.prog pl28 Tryd.f28 c, guardsAll pl28 c)) = some (pf28, true) := by kernel_rfl

/-- (*corral/lsq.Queue).at$1  sizes [] -/
def pl29 : Nat → DT := dtGet []
def pf29 : PFn := ⟨8, [.t 3], (.seq (.ops false [⟨(some 2), .box 61 (.t 0), none⟩,
    ⟨(some 3), .mov (.c (.v (.bool false))), none⟩] .done)
  (.seq (.ops false [⟨(some 4), .fld 0 (.t 2), none⟩,
    ⟨(some 5), .load none (.t 4), none⟩,
    ⟨(some 6), .load none (.t 1), none⟩,
    ⟨(some 7), .bin .eql (.t 5) (.t 6), none⟩,
    ⟨(some 3), .mov (.t 7), none⟩] .done)
  .ret))⟩
theorem pf29_eq : (Tryd.f29.body.map fun c => (cfn Tryd.prog pl29 Tryd.f29 c, guardsAll pl29 c)) = some (pf29, true) := by kernel_rfl

/-- corral/corralref6.Inside  sizes [] -/
def pl30 : Nat → DT := dtGet []
def pf30 : PFn := ⟨37, [.t 6], (.seq (.ops false [⟨(some 6), .mov (.c (.v (.bool false))), none⟩] .done)
  (.seq (.ops false [⟨(some 7), .mov (.t 2), none⟩,
    ⟨(some 8), .bin .eql (.t 7) (.c (.v (.int .i64 1))), none⟩,
    ⟨(some 9), .mov (.t 8), none⟩,
    ⟨(some 10), .mov (.t 2), some (9, false)⟩,
    ⟨(some 11), .bin .eql (.t 10) (.c (.v (.int .i64 2))), some (9, false)⟩,
    ⟨(some 12), .pick (.t 9) (.c (.v (.bool true))) (.t 11), none⟩,
    ⟨(some 13), .mov (.t 12), none⟩,
    ⟨(some 14), .mov (.t 2), some (13, false)⟩,
    ⟨(some 15), .bin .eql (.t 14) (.c (.v (.int .i64 4))), some (13, false)⟩,
    ⟨(some 16), .pick (.t 13) (.c (.v (.bool true))) (.t 15), none⟩,
    ⟨(some 17), .mov (.t 16), none⟩,
    ⟨(some 18), .mov (.t 1), some (17, true)⟩,
    ⟨(some 19), .conv .i64 (.t 18), some (17, true)⟩,
    ⟨(some 20), .mov (.t 2), some (17, true)⟩,
    ⟨(some 21), .bin .rem (.t 19) (.t 20), some (17, true)⟩,
    ⟨(some 22), .bin .eql (.t 21) (.c (.v (.int .i64 0))), some (17, true)⟩,
    ⟨(some 23), .pick (.t 17) (.t 22) (.c (.v (.bool false))), none⟩,
    ⟨(some 24), .mov (.t 23), none⟩,
    ⟨(some 25), .mov (.t 0), some (24, true)⟩,
    ⟨(some 26), .mov (.t 2), some (24, true)⟩,
    ⟨(some 27), .bin .geq (.t 25) (.t 26), some (24, true)⟩,
    ⟨(some 28), .pick (.t 24) (.t 27) (.c (.v (.bool false))), none⟩,
    ⟨(some 29), .mov (.t 28), none⟩,
    ⟨(some 30), .mov (.t 1), some (29, true)⟩,
    ⟨(some 31), .conv .i64 (.t 30), some (29, true)⟩,
    ⟨(some 32), .mov (.t 0), some (29, true)⟩,
    ⟨(some 33), .mov (.t 2), some (29, true)⟩,
    ⟨(some 34), .bin .sub (.t 32) (.t 33), some (29, true)⟩,
    ⟨(some 35), .bin .leq (.t 31) (.t 34), some (29, true)⟩,
    ⟨(some 36), .pick (.t 29) (.t 35) (.c (.v (.bool false))), none⟩,
    ⟨(some 6), .mov (.t 36), none⟩] .done)
  .ret))⟩
theorem pf30_eq : (Tryd.f30.body.map fun c => (cfn Tryd.prog pl30 Tryd.f30 c, guardsAll pl30 c)) = some (pf30, true) := by kernel_rfl

/-- slices.Backward[[]corral/lsq.one,corral/lsq.one]$1  sizes [] -/
def pl31 : Nat → DT := dtGet []
def pf31 : PFn := ⟨19, [], (.seq (.ops false [⟨(some 4), .load none (.t 1), none⟩,
    ⟨(some 5), .len (.t 4), none⟩,
    ⟨(some 6), .bin .sub (.t 5) (.c (.v (.int .i64 1))), none⟩,
    ⟨(some 3), .mov (.t 6), none⟩] .done)
  (.block 0 (.loop (.seq (.seq (.ops false [⟨(some 7), .mov (.t 3), none⟩,
       ⟨(some 8), .bin .geq (.t 7) (.c (.v (.int .i64 0))), none⟩] .done)
     (.cond (.t 8)
      .skip
      (.exit 0)))
    (.seq (.block 1 (.seq (.ops false [⟨(some 11), .mov (.t 0), none⟩,
        ⟨(some 12), .mov (.t 3), none⟩,
        ⟨(some 13), .load none (.t 1), none⟩,
        ⟨(some 14), .mov (.t 3), none⟩,
        ⟨(some 15), .idx 7 (.t 13) (.t 14), none⟩,
        ⟨(some 16), .load (some 7) (.t 15), none⟩,
        ⟨(some 17), .callv (.t 11) [(.t 12), (.t 16)], none⟩,
        ⟨(some 18), .un .not (.t 17), none⟩] .done)
      (.cond (.t 18)
       .ret
       .skip)))
    (.ops false [⟨(some 9), .mov (.t 3), none⟩,
     ⟨(some 10), .bin .sub (.t 9) (.c (.v (.int .i64 1))), none⟩,
     ⟨(some 3), .mov (.t 10), none⟩] .done))))))⟩
theorem pf31_eq : (Tryd.f31.body.map fun c => (cfn Tryd.prog pl31 Tryd.f31 c, guardsAll pl31 c)) = some (pf31, true) := by kernel_rfl

/-- corral/word.mask  sizes [] -/
def pl32 : Nat → DT := dtGet []
def pf32 : PFn := ⟨9, [.t 2], (.seq (.ops false [⟨(some 2), .mov (.c (.v (.int .u32 0))), none⟩] .done)
  (.seq (.seq (.ops false [⟨(some 3), .mov (.t 0), none⟩,
     ⟨(some 4), .bin .geq (.t 3) (.c (.v (.int .i64 32))), none⟩] .done)
   (.cond (.t 4)
    (.seq (.ops false [⟨(some 2), .mov (.c (.v (.int .u32 4294967295))), none⟩] .done)
     .ret)
    .skip))
  (.seq (.ops false [⟨(some 5), .mov (.t 0), none⟩,
    ⟨(some 6), .minmax true [(.t 5), (.c (.v (.int .i64 0)))], none⟩,
    ⟨(some 7), .bin .shl (.c (.v (.int .u32 1))) (.t 6), none⟩,
    ⟨(some 8), .bin .sub (.t 7) (.c (.v (.int .u32 1))), none⟩,
    ⟨(some 2), .mov (.t 8), none⟩] .done)
  .ret)))⟩
theorem pf32_eq : (Tryd.f32.body.map fun c => (cfn Tryd.prog pl32 Tryd.f32 c, guardsAll pl32 c)) = some (pf32, true) := by kernel_rfl

/-- slices.DeleteFunc[[]corral/lsq.one,corral/lsq.one]  sizes [] -/
def pl33 : Nat → DT := dtGet []
def pf33 : PFn := ⟨42, [.t 4], (.seq (.ops false [⟨(some 4), .mov (.c (.v (.slice none 0 0))), none⟩] .done)
  (.seq (.ops false [⟨(some 8), .mov (.t 0), none⟩,
    ⟨(some 9), .mov (.t 1), none⟩,
    ⟨(some 10), .call 28 [(.t 8), (.t 9)], none⟩,
    ⟨(some 5), .mov (.t 10), none⟩] .done)
  (.seq (.seq (.ops false [⟨(some 11), .mov (.t 5), none⟩,
     ⟨(some 12), .bin .eql (.t 11) (.c (.v (.int .i64 (-1)))), none⟩] .done)
   (.cond (.t 12)
    (.seq (.ops false [⟨(some 13), .mov (.t 0), none⟩,
       ⟨(some 4), .mov (.t 13), none⟩] .done)
     .ret)
    .skip))
  (.seq (.seq (.ops false [⟨(some 14), .mov (.t 5), none⟩,
     ⟨(some 15), .bin .add (.t 14) (.c (.v (.int .i64 1))), none⟩,
     ⟨(some 6), .mov (.t 15), none⟩] .done)
   (.block 0 (.loop (.seq (.seq (.ops false [⟨(some 16), .mov (.t 6), none⟩,
        ⟨(some 17), .mov (.t 0), none⟩,
        ⟨(some 18), .len (.t 17), none⟩,
        ⟨(some 19), .bin .lss (.t 16) (.t 18), none⟩] .done)
      (.cond (.t 19)
       .skip
       (.exit 0)))
     (.seq (.block 1 (.seq (.ops false [⟨(some 22), .mov (.t 0), none⟩,
         ⟨(some 23), .mov (.t 6), none⟩,
         ⟨(some 24), .idx 7 (.t 22) (.t 23), none⟩,
         ⟨(some 25), .load (some 7) (.t 24), none⟩,
         ⟨(some 7), .box 61 (.c (.agg [(.v (.int .i64 0)), (.v (.bool false)), (.v (.bool false)), (.v (.bool false)), (.v (.int .u32 0)), (.v (.int .i64 0)), (.v (.int .u32 0))])), none⟩,
         ⟨none, .store 7 (.t 7) (.t 25), none⟩] .done)
       (.seq (.ops false [⟨(some 26), .mov (.t 1), none⟩,
         ⟨(some 27), .load (some 7) (.t 7), none⟩,
         ⟨(some 28), .callv (.t 26) [(.t 27)], none⟩,
         ⟨(some 29), .un .not (.t 28), none⟩] .done)
       (.cond (.t 29)
        (.seq (.ops false [⟨(some 30), .mov (.t 0), none⟩,
           ⟨(some 31), .mov (.t 5), none⟩,
           ⟨(some 32), .load (some 7) (.t 7), none⟩,
           ⟨(some 33), .idx 7 (.t 30) (.t 31), none⟩,
           ⟨none, .store 7 (.t 33) (.t 32), none⟩] .done)
         (.ops false [⟨(some 34), .mov (.t 5), none⟩,
          ⟨(some 35), .bin .add (.t 34) (.c (.v (.int .i64 1))), none⟩,
          ⟨(some 5), .mov (.t 35), none⟩] .done))
        .skip))))
     (.ops false [⟨(some 20), .mov (.t 6), none⟩,
      ⟨(some 21), .bin .add (.t 20) (.c (.v (.int .i64 1))), none⟩,
      ⟨(some 6), .mov (.t 21), none⟩] .done))))))
  (.seq (.ops false [⟨(some 36), .mov (.t 0), none⟩,
    ⟨(some 37), .mov (.t 5), none⟩,
    ⟨(some 38), .slice 7 (.t 36) (some (.t 37)) none none, none⟩,
    ⟨none, .clr 61 [.int .i64, .bool, .bool, .bool, .int .u32, .int .i64, .int .u32] [(.int .i64 0), (.bool false), (.bool false), (.bool false), (.int .u32 0), (.int .i64 0), (.int .u32 0)] (.t 38), none⟩] .done)
  (.seq (.ops false [⟨(some 39), .mov (.t 0), none⟩,
    ⟨(some 40), .mov (.t 5), none⟩,
    ⟨(some 41), .slice 7 (.t 39) none (some (.t 40)) none, none⟩,
    ⟨(some 4), .mov (.t 41), none⟩] .done)
  .ret))))))⟩
theorem pf33_eq : (Tryd.f33.body.map fun c => (cfn Tryd.prog pl33 Tryd.f33 c, guardsAll pl33 c)) = some (pf33, true) := by kernel_rfl

/-- (*corral/lsq.Queue).keep$1  sizes [] -/
def pl34 : Nat → DT := dtGet []
def pf34 : PFn := ⟨9, [.t 3], (.seq (.ops false [⟨(some 2), .box 61 (.t 0), none⟩,
    ⟨(some 3), .mov (.c (.v (.bool false))), none⟩] .done)
  (.seq (.ops false [⟨(some 4), .load none (.t 1), none⟩,
    ⟨(some 5), .fld 0 (.t 2), none⟩,
    ⟨(some 6), .load none (.t 5), none⟩,
    ⟨(some 7), .callv (.t 4) [(.t 6)], none⟩,
    ⟨(some 8), .un .not (.t 7), none⟩,
    ⟨(some 3), .mov (.t 8), none⟩] .done)
  .ret))⟩
theorem pf34_eq : (Tryd.f34.body.map fun c => (cfn Tryd.prog pl34 Tryd.f34 c, guardsAll pl34 c)) = some (pf34, true) := by kernel_rfl

theorem at3 : Tryd.prog.funcs[3]? = some Tryd.f3 ∧ (Tryd.f3.name == "runtime.NumGoroutine") = false := ⟨by kernel_rfl, by kernel_rfl⟩
theorem at4 : Tryd.prog.funcs[4]? = some Tryd.f4 ∧ (Tryd.f4.name == "runtime.NumGoroutine") = false := ⟨by kernel_rfl, by kernel_rfl⟩
theorem at5 : Tryd.prog.funcs[5]? = some Tryd.f5 ∧ (Tryd.f5.name == "runtime.NumGoroutine") = false := ⟨by kernel_rfl, by kernel_rfl⟩
theorem at6 : Tryd.prog.funcs[6]? = some Tryd.f6 ∧ (Tryd.f6.name == "runtime.NumGoroutine") = false := ⟨by kernel_rfl, by kernel_rfl⟩
theorem at7 : Tryd.prog.funcs[7]? = some Tryd.f7 ∧ (Tryd.f7.name == "runtime.NumGoroutine") = false := ⟨by kernel_rfl, by kernel_rfl⟩
theorem at8 : Tryd.prog.funcs[8]? = some Tryd.f8 ∧ (Tryd.f8.name == "runtime.NumGoroutine") = false := ⟨by kernel_rfl, by kernel_rfl⟩
theorem at9 : Tryd.prog.funcs[9]? = some Tryd.f9 ∧ (Tryd.f9.name == "runtime.NumGoroutine") = false := ⟨by kernel_rfl, by kernel_rfl⟩
theorem at10 : Tryd.prog.funcs[10]? = some Tryd.f10 ∧ (Tryd.f10.name == "runtime.NumGoroutine") = false := ⟨by kernel_rfl, by kernel_rfl⟩
theorem at11 : Tryd.prog.funcs[11]? = some Tryd.f11 ∧ (Tryd.f11.name == "runtime.NumGoroutine") = false := ⟨by kernel_rfl, by kernel_rfl⟩
theorem at12 : Tryd.prog.funcs[12]? = some Tryd.f12 ∧ (Tryd.f12.name == "runtime.NumGoroutine") = false := ⟨by kernel_rfl, by kernel_rfl⟩
theorem at13 : Tryd.prog.funcs[13]? = some Tryd.f13 ∧ (Tryd.f13.name == "runtime.NumGoroutine") = false := ⟨by kernel_rfl, by kernel_rfl⟩
theorem at14 : Tryd.prog.funcs[14]? = some Tryd.f14 ∧ (Tryd.f14.name == "runtime.NumGoroutine") = false := ⟨by kernel_rfl, by kernel_rfl⟩
theorem at15 : Tryd.prog.funcs[15]? = some Tryd.f15 ∧ (Tryd.f15.name == "runtime.NumGoroutine") = false := ⟨by kernel_rfl, by kernel_rfl⟩
theorem at16 : Tryd.prog.funcs[16]? = some Tryd.f16 ∧ (Tryd.f16.name == "runtime.NumGoroutine") = false := ⟨by kernel_rfl, by kernel_rfl⟩
theorem at17 : Tryd.prog.funcs[17]? = some Tryd.f17 ∧ (Tryd.f17.name == "runtime.NumGoroutine") = false := ⟨by kernel_rfl, by kernel_rfl⟩
theorem at18 : Tryd.prog.funcs[18]? = some Tryd.f18 ∧ (Tryd.f18.name == "runtime.NumGoroutine") = false := ⟨by kernel_rfl, by kernel_rfl⟩
theorem at19 : Tryd.prog.funcs[19]? = some Tryd.f19 ∧ (Tryd.f19.name == "runtime.NumGoroutine") = false := ⟨by kernel_rfl, by kernel_rfl⟩
theorem at20 : Tryd.prog.funcs[20]? = some Tryd.f20 ∧ (Tryd.f20.name == "runtime.NumGoroutine") = false := ⟨by kernel_rfl, by kernel_rfl⟩
theorem at21 : Tryd.prog.funcs[21]? = some Tryd.f21 ∧ (Tryd.f21.name == "runtime.NumGoroutine") = false := ⟨by kernel_rfl, by kernel_rfl⟩
theorem at22 : Tryd.prog.funcs[22]? = some Tryd.f22 ∧ (Tryd.f22.name == "runtime.NumGoroutine") = false := ⟨by kernel_rfl, by kernel_rfl⟩
theorem at23 : Tryd.prog.funcs[23]? = some Tryd.f23 ∧ (Tryd.f23.name == "runtime.NumGoroutine") = false := ⟨by kernel_rfl, by kernel_rfl⟩
theorem at24 : Tryd.prog.funcs[24]? = some Tryd.f24 ∧ (Tryd.f24.name == "runtime.NumGoroutine") = false := ⟨by kernel_rfl, by kernel_rfl⟩
theorem at25 : Tryd.prog.funcs[25]? = some Tryd.f25 ∧ (Tryd.f25.name == "runtime.NumGoroutine") = false := ⟨by kernel_rfl, by kernel_rfl⟩
theorem at26 : Tryd.prog.funcs[26]? = some Tryd.f26 ∧ (Tryd.f26.name == "runtime.NumGoroutine") = false := ⟨by kernel_rfl, by kernel_rfl⟩
theorem at27 : Tryd.prog.funcs[27]? = some Tryd.f27 ∧ (Tryd.f27.name == "runtime.NumGoroutine") = false := ⟨by kernel_rfl, by kernel_rfl⟩
theorem at28 : Tryd.prog.funcs[28]? = some Tryd.f28 ∧ (Tryd.f28.name == "runtime.NumGoroutine") = false := ⟨by kernel_rfl, by kernel_rfl⟩
theorem at29 : Tryd.prog.funcs[29]? = some Tryd.f29 ∧ (Tryd.f29.name == "runtime.NumGoroutine") = false := ⟨by kernel_rfl, by kernel_rfl⟩
theorem at30 : Tryd.prog.funcs[30]? = some Tryd.f30 ∧ (Tryd.f30.name == "runtime.NumGoroutine") = false := ⟨by kernel_rfl, by kernel_rfl⟩
theorem at31 : Tryd.prog.funcs[31]? = some Tryd.f31 ∧ (Tryd.f31.name == "runtime.NumGoroutine") = false := ⟨by kernel_rfl, by kernel_rfl⟩
theorem at32 : Tryd.prog.funcs[32]? = some Tryd.f32 ∧ (Tryd.f32.name == "runtime.NumGoroutine") = false := ⟨by kernel_rfl, by kernel_rfl⟩
theorem at33 : Tryd.prog.funcs[33]? = some Tryd.f33 ∧ (Tryd.f33.name == "runtime.NumGoroutine") = false := ⟨by kernel_rfl, by kernel_rfl⟩
theorem at34 : Tryd.prog.funcs[34]? = some Tryd.f34 ∧ (Tryd.f34.name == "runtime.NumGoroutine") = false := ⟨by kernel_rfl, by kernel_rfl⟩
def tab : List (Nat × PFn) := [(3, pf3), (4, pf4), (5, pf5), (6, pf6), (7, pf7), (8, pf8), (9, pf9), (10, pf10), (11, pf11), (12, pf12), (14, pf14), (15, pf15), (16, pf16), (17, pf17), (18, pf18), (19, pf19), (20, pf20), (21, pf21), (22, pf22), (23, pf23), (24, pf24), (25, pf25), (26, pf26), (27, pf27), (28, pf28), (29, pf29), (30, pf30), (31, pf31), (32, pf32), (33, pf33), (34, pf34)]
theorem tab_ok : TabOK Tryd.prog tab :=
  .cons mixed at3 pf3_eq (.cons mixed at4 pf4_eq (.cons mixed at5 pf5_eq (.cons mixed at6 pf6_eq (.cons mixed at7 pf7_eq (.cons mixed at8 pf8_eq (.cons mixed at9 pf9_eq (.cons mixed at10 pf10_eq (.cons mixed at11 pf11_eq (.cons mixed at12 pf12_eq (.cons mixed at14 pf14_eq (.cons mixed at15 pf15_eq (.cons mixed at16 pf16_eq (.cons mixed at17 pf17_eq (.cons mixed at18 pf18_eq (.cons mixed at19 pf19_eq (.cons mixed at20 pf20_eq (.cons mixed at21 pf21_eq (.cons mixed at22 pf22_eq (.cons mixed at23 pf23_eq (.cons mixed at24 pf24_eq (.cons mixed at25 pf25_eq (.cons mixed at26 pf26_eq (.cons mixed at27 pf27_eq (.cons mixed at28 pf28_eq (.cons mixed at29 pf29_eq (.cons mixed at30 pf30_eq (.cons mixed at31 pf31_eq (.cons mixed at32 pf32_eq (.cons mixed at33 pf33_eq (.cons mixed at34 pf34_eq (.nil)))))))))))))))))))))))))))))))
noncomputable def G0 : Nat → Option Trans := tabG (tget []) (tget tab) 5
theorem G0_ok : GOK Tryd.prog G0 := tabG_ok .nil tab_ok 5
end Go.Proofs.YtjbknaniihkcnaaDoor
