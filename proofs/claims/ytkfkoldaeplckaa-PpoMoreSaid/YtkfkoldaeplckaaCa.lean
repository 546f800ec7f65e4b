/-
  The programs of the functions that the laws reach, read off the given program by the kernel.
-/
import Derived.Test.YtkfkoldaeplckaaProg
import Derived.Test.YtkfkoldaeplckaaVcs
namespace Go.Proofs.Ytkfkoldaeplckaa
open Go Go.Vc
set_option maxRecDepth 100000
theorem mixed : Try.prog.follows .mixedOrders = true := by kernel_rfl
/-- corral/corrallaw13.PpoMore  sizes [] -/
def pl3 : Nat → DT := dtGet []
def pf3 : PFn := ⟨126, [.t 6], (.seq (.ops false [⟨(some 6), .mov (.c (.v (.bool false))), none⟩] .done)
  (.seq (.ops false [⟨(some 11), .call 8 [], none⟩,
    ⟨(some 7), .mov (.t 11), none⟩] .done)
  (.seq (.seq (.ops false [⟨(some 12), .mov (.t 7), none⟩,
     ⟨(some 13), .un .not (.t 12), none⟩] .done)
   (.cond (.t 13)
    (.seq (.ops false [⟨(some 6), .mov (.c (.v (.bool false))), none⟩] .done)
     .ret)
    .skip))
  (.seq (.seq (.ops false [⟨(some 14), .mov (.t 0), none⟩,
     ⟨(some 15), .call 9 [(.t 14)], none⟩,
     ⟨(some 16), .un .not (.t 15), none⟩,
     ⟨(some 17), .mov (.t 16), none⟩,
     ⟨(some 18), .mov (.t 0), some (17, false)⟩,
     ⟨(some 19), .len (.t 18), some (17, false)⟩,
     ⟨(some 20), .bin .eql (.t 19) (.c (.v (.int .i64 0))), some (17, false)⟩,
     ⟨(some 21), .pick (.t 17) (.c (.v (.bool true))) (.t 20), none⟩,
     ⟨(some 22), .mov (.t 21), none⟩,
     ⟨(some 23), .mov (.t 0), some (22, false)⟩,
     ⟨(some 24), .len (.t 23), some (22, false)⟩,
     ⟨(some 25), .bin .gtr (.t 24) (.c (.v (.int .i64 30))), some (22, false)⟩,
     ⟨(some 26), .pick (.t 22) (.c (.v (.bool true))) (.t 25), none⟩,
     ⟨(some 27), .mov (.t 26), none⟩,
     ⟨(some 28), .mov (.t 7), some (27, false)⟩,
     ⟨(some 29), .un .not (.t 28), some (27, false)⟩,
     ⟨(some 30), .pick (.t 27) (.c (.v (.bool true))) (.t 29), none⟩] .done)
   (.cond (.t 30)
    (.seq (.ops false [⟨(some 31), .mov (.t 7), none⟩,
       ⟨(some 6), .mov (.t 31), none⟩] .done)
     .ret)
    .skip))
  (.seq (.ops false [⟨(some 32), .mov (.t 1), none⟩,
    ⟨(some 33), .mov (.t 0), none⟩,
    ⟨(some 34), .len (.t 33), none⟩,
    ⟨(some 35), .call 10 [(.t 32), (.t 34)], none⟩,
    ⟨(some 1), .mov (.t 35), none⟩] .done)
  (.seq (.ops false [⟨(some 36), .mov (.t 0), none⟩,
    ⟨(some 37), .call 11 [(.t 36)], none⟩,
    ⟨(some 8), .mov (.t 37), none⟩] .done)
  (.seq (.seq (.ops false [⟨(some 38), .mov (.t 2), none⟩,
     ⟨(some 39), .call 10 [(.t 38), (.c (.v (.int .i64 5)))], none⟩] .done)
   (.block 0 (.seq (.ops false [⟨(some 55), .bin .eql (.t 39) (.c (.v (.int .i64 0))), none⟩,
      ⟨(some 54), .mov (.t 55), none⟩] .done)
    (.cond (.t 54)
     (.ops false [⟨(some 56), .mov (.t 8), none⟩,
       ⟨(some 57), .mov (.t 1), none⟩,
       ⟨(some 58), .idx 13 (.t 56) (.t 57), none⟩,
       ⟨(some 59), .fld 6 (.t 58), none⟩,
       ⟨none, .store 1 (.t 59) (.c (.v (.bool true))), none⟩] .done)
     (.seq (.ops false [⟨(some 61), .bin .eql (.t 39) (.c (.v (.int .i64 1))), none⟩,
        ⟨(some 60), .mov (.t 61), none⟩] .done)
      (.cond (.t 60)
       (.ops false [⟨(some 62), .mov (.t 8), none⟩,
         ⟨(some 63), .mov (.t 1), none⟩,
         ⟨(some 64), .idx 13 (.t 62) (.t 63), none⟩,
         ⟨(some 65), .fld 7 (.t 64), none⟩,
         ⟨none, .store 1 (.t 65) (.c (.v (.bool true))), none⟩] .done)
       (.seq (.ops false [⟨(some 67), .bin .eql (.t 39) (.c (.v (.int .i64 2))), none⟩,
          ⟨(some 66), .mov (.t 67), none⟩] .done)
        (.cond (.t 66)
         (.seq (.ops false [⟨(some 68), .mov (.t 1), none⟩,
            ⟨(some 69), .bin .gtr (.t 68) (.c (.v (.int .i64 0))), none⟩] .done)
          (.cond (.t 69)
           (.ops false [⟨(some 70), .mov (.t 8), none⟩,
             ⟨(some 71), .mov (.t 1), none⟩,
             ⟨(some 72), .mov (.t 8), none⟩,
             ⟨(some 73), .mov (.t 1), none⟩,
             ⟨(some 74), .idx 13 (.t 72) (.t 73), none⟩,
             ⟨(some 75), .fld 10 (.t 74), none⟩,
             ⟨(some 76), .load none (.t 75), none⟩,
             ⟨(some 77), .mov (.t 1), none⟩,
             ⟨(some 78), .bin .sub (.t 77) (.c (.v (.int .i64 1))), none⟩,
             ⟨(some 79), .bslice 3 [.int .i64] 1 [(.v (.int .i64 0))] [(0, 1, (.t 78))], none⟩,
             ⟨(some 80), .append 3 [.int .i64] [(.int .i64 0)] 8 (.t 76) (.t 79), none⟩,
             ⟨(some 81), .idx 13 (.t 70) (.t 71), none⟩,
             ⟨(some 82), .fld 10 (.t 81), none⟩,
             ⟨none, .store 1 (.t 82) (.t 80), none⟩] .done)
           .skip))
         (.seq (.ops false [⟨(some 84), .bin .eql (.t 39) (.c (.v (.int .i64 3))), none⟩,
            ⟨(some 83), .mov (.t 84), none⟩] .done)
          (.cond (.t 83)
           (.seq (.ops false [⟨(some 85), .mov (.t 1), none⟩,
              ⟨(some 86), .bin .gtr (.t 85) (.c (.v (.int .i64 0))), none⟩] .done)
            (.cond (.t 86)
             (.ops false [⟨(some 87), .mov (.t 8), none⟩,
               ⟨(some 88), .mov (.t 1), none⟩,
               ⟨(some 89), .mov (.t 8), none⟩,
               ⟨(some 90), .mov (.t 1), none⟩,
               ⟨(some 91), .idx 13 (.t 89) (.t 90), none⟩,
               ⟨(some 92), .fld 12 (.t 91), none⟩,
               ⟨(some 93), .load none (.t 92), none⟩,
               ⟨(some 94), .mov (.t 1), none⟩,
               ⟨(some 95), .bin .quo (.t 94) (.c (.v (.int .i64 2))), none⟩,
               ⟨(some 96), .bslice 3 [.int .i64] 1 [(.v (.int .i64 0))] [(0, 1, (.t 95))], none⟩,
               ⟨(some 97), .append 3 [.int .i64] [(.int .i64 0)] 8 (.t 93) (.t 96), none⟩,
               ⟨(some 98), .idx 13 (.t 87) (.t 88), none⟩,
               ⟨(some 99), .fld 12 (.t 98), none⟩,
               ⟨none, .store 1 (.t 99) (.t 97), none⟩] .done)
             .skip))
           (.seq (.ops false [⟨(some 40), .mov (.t 8), none⟩,
              ⟨(some 41), .mov (.t 1), none⟩,
              ⟨(some 42), .idx 13 (.t 40) (.t 41), none⟩,
              ⟨(some 43), .fld 0 (.t 42), none⟩,
              ⟨(some 44), .load none (.t 43), none⟩,
              ⟨(some 45), .bin .eql (.t 44) (.c (.v (.int .i64 4))), none⟩] .done)
            (.cond (.t 45)
             (.seq (.ops false [⟨(some 46), .mov (.t 8), none⟩,
                ⟨(some 47), .mov (.t 1), none⟩,
                ⟨(some 48), .idx 13 (.t 46) (.t 47), none⟩,
                ⟨(some 49), .fld 8 (.t 48), none⟩,
                ⟨none, .store 1 (.t 49) (.c (.v (.int .i64 3))), none⟩] .done)
              (.ops false [⟨(some 50), .mov (.t 8), none⟩,
               ⟨(some 51), .mov (.t 1), none⟩,
               ⟨(some 52), .idx 13 (.t 50) (.t 51), none⟩,
               ⟨(some 53), .fld 9 (.t 52), none⟩,
               ⟨none, .store 1 (.t 53) (.c (.v (.int .i64 3))), none⟩] .done))
             .skip))))))))))))
  (.seq (.seq (.ops false [⟨(some 9), .mov (.c (.v (.int .i64 0))), none⟩] .done)
   (.block 1 (.loop (.seq (.seq (.ops false [⟨(some 100), .mov (.t 9), none⟩,
        ⟨(some 101), .mov (.t 0), none⟩,
        ⟨(some 102), .len (.t 101), none⟩,
        ⟨(some 103), .bin .lss (.t 100) (.t 102), none⟩] .done)
      (.cond (.t 103)
       .skip
       (.exit 1)))
     (.seq (.block 2 (.seq (.ops false [⟨(some 106), .mov (.t 9), none⟩,
         ⟨(some 107), .bin .add (.t 106) (.c (.v (.int .i64 1))), none⟩,
         ⟨(some 10), .mov (.t 107), none⟩] .done)
       (.block 3 (.loop (.seq (.seq (.ops false [⟨(some 108), .mov (.t 10), none⟩,
            ⟨(some 109), .mov (.t 0), none⟩,
            ⟨(some 110), .len (.t 109), none⟩,
            ⟨(some 111), .bin .lss (.t 108) (.t 110), none⟩] .done)
          (.cond (.t 111)
           .skip
           (.exit 3)))
         (.seq (.block 4 (.seq (.ops false [⟨(some 114), .mov (.t 0), none⟩,
             ⟨(some 115), .mov (.t 9), none⟩,
             ⟨(some 116), .mov (.t 10), none⟩,
             ⟨(some 117), .call 12 [(.t 114), (.t 115), (.t 116)], none⟩,
             ⟨(some 118), .bin .gtr (.t 117) (.c (.v (.int .i64 0))), none⟩,
             ⟨(some 119), .mov (.t 118), none⟩,
             ⟨(some 120), .mov (.t 8), some (119, true)⟩,
             ⟨(some 121), .mov (.t 9), some (119, true)⟩,
             ⟨(some 122), .mov (.t 10), some (119, true)⟩,
             ⟨(some 123), .call 12 [(.t 120), (.t 121), (.t 122)], some (119, true)⟩,
             ⟨(some 124), .bin .eql (.t 123) (.c (.v (.int .i64 0))), some (119, true)⟩,
             ⟨(some 125), .pick (.t 119) (.t 124) (.c (.v (.bool false))), none⟩] .done)
           (.cond (.t 125)
            (.seq (.ops false [⟨(some 6), .mov (.c (.v (.bool false))), none⟩] .done)
             .ret)
            .skip)))
         (.ops false [⟨(some 112), .mov (.t 10), none⟩,
          ⟨(some 113), .bin .add (.t 112) (.c (.v (.int .i64 1))), none⟩,
          ⟨(some 10), .mov (.t 113), none⟩] .done)))))))
     (.ops false [⟨(some 104), .mov (.t 9), none⟩,
      ⟨(some 105), .bin .add (.t 104) (.c (.v (.int .i64 1))), none⟩,
      ⟨(some 9), .mov (.t 105), none⟩] .done))))))
  (.seq (.ops false [⟨(some 6), .mov (.c (.v (.bool true))), none⟩] .done)
  .ret)))))))))⟩
theorem pf3_eq : (Try.f3.body.map fun c => (cfn Try.prog pl3 Try.f3 c, guardsAll pl3 c)) = some (pf3, true) := by kernel_rfl

/-- corral/corrallaw13.PpoFences  sizes [] -/
def pl4 : Nat → DT := dtGet []
def pf4 : PFn := ⟨105, [.t 6], (.seq (.ops false [⟨(some 6), .mov (.c (.v (.bool false))), none⟩] .done)
  (.seq (.ops false [⟨(some 17), .call 8 [], none⟩,
    ⟨(some 7), .mov (.t 17), none⟩] .done)
  (.seq (.seq (.ops false [⟨(some 18), .mov (.t 7), none⟩,
     ⟨(some 19), .un .not (.t 18), none⟩] .done)
   (.cond (.t 19)
    (.seq (.ops false [⟨(some 6), .mov (.c (.v (.bool false))), none⟩] .done)
     .ret)
    .skip))
  (.seq (.seq (.ops false [⟨(some 20), .mov (.t 0), none⟩,
     ⟨(some 21), .len (.t 20), none⟩,
     ⟨(some 22), .bin .gtr (.t 21) (.c (.v (.int .i64 12))), none⟩,
     ⟨(some 23), .mov (.t 22), none⟩,
     ⟨(some 24), .mov (.t 7), some (23, false)⟩,
     ⟨(some 25), .un .not (.t 24), some (23, false)⟩,
     ⟨(some 26), .pick (.t 23) (.c (.v (.bool true))) (.t 25), none⟩] .done)
   (.cond (.t 26)
    (.seq (.ops false [⟨(some 27), .mov (.t 7), none⟩,
       ⟨(some 6), .mov (.t 27), none⟩] .done)
     .ret)
    .skip))
  (.seq (.ops false [⟨(some 28), .mov (.t 1), none⟩,
    ⟨(some 29), .bin .and (.t 28) (.c (.v (.int .i64 3))), none⟩,
    ⟨(some 1), .mov (.t 29), none⟩] .done)
  (.seq (.ops false [⟨(some 30), .mov (.t 2), none⟩,
    ⟨(some 31), .bin .and (.t 30) (.c (.v (.int .i64 3))), none⟩,
    ⟨(some 2), .mov (.t 31), none⟩] .done)
  (.seq (.ops false [⟨(some 8), .mov (.c (.v (.slice none 0 0))), none⟩,
    ⟨(some 9), .mov (.c (.v (.slice none 0 0))), none⟩] .done)
  (.seq (.seq (.ops false [⟨(some 10), .mov (.c (.v (.int .i64 0))), none⟩] .done)
   (.block 0 (.loop (.seq (.seq (.ops false [⟨(some 32), .mov (.t 10), none⟩,
        ⟨(some 33), .mov (.t 0), none⟩,
        ⟨(some 34), .len (.t 33), none⟩,
        ⟨(some 35), .bin .lss (.t 32) (.t 34), none⟩] .done)
      (.cond (.t 35)
       .skip
       (.exit 0)))
     (.seq (.block 1 (.seq (.ops false [⟨(some 38), .mov (.t 10), none⟩,
         ⟨(some 39), .bin .mul (.c (.v (.int .i64 4))) (.t 38), none⟩,
         ⟨(some 40), .conv .u32 (.t 39), none⟩,
         ⟨(some 41), .build [(.v (.int .i64 0)), (.v (.int .i64 0)), (.v (.int .u32 0)), (.v (.int .u32 0)), (.v (.int .u32 0)), (.v (.bool false)), (.v (.bool false)), (.v (.bool false)), (.v (.int .i64 0)), (.v (.int .i64 0)), (.v (.slice none 0 0)), (.v (.slice none 0 0)), (.v (.slice none 0 0))] [(0, 1, (.c (.v (.int .i64 1)))), (1, 1, (.c (.v (.int .i64 4)))), (2, 1, (.t 40))], none⟩,
         ⟨(some 11), .box 30 (.c (.agg [(.v (.int .i64 0)), (.v (.int .i64 0)), (.v (.int .u32 0)), (.v (.int .u32 0)), (.v (.int .u32 0)), (.v (.bool false)), (.v (.bool false)), (.v (.bool false)), (.v (.int .i64 0)), (.v (.int .i64 0)), (.v (.slice none 0 0)), (.v (.slice none 0 0)), (.v (.slice none 0 0))])), none⟩,
         ⟨none, .store 13 (.t 11) (.t 41), none⟩] .done)
       (.seq (.seq (.ops false [⟨(some 42), .mov (.t 0), none⟩,
          ⟨(some 43), .mov (.t 10), none⟩,
          ⟨(some 44), .idx 1 (.t 42) (.t 43), none⟩,
          ⟨(some 45), .load none (.t 44), none⟩] .done)
        (.cond (.t 45)
         (.ops false [⟨(some 46), .fld 0 (.t 11), none⟩,
           ⟨none, .store 1 (.t 46) (.c (.v (.int .i64 2))), none⟩] .done)
         .skip))
       (.seq (.ops false [⟨(some 47), .mov (.t 8), none⟩,
         ⟨(some 48), .load (some 13) (.t 11), none⟩,
         ⟨(some 49), .bslice 30 [.int .i64, .int .i64, .int .u32, .int .u32, .int .u32, .bool, .bool, .bool, .int .i64, .int .i64, .sl, .sl, .sl] 1 [(.v (.int .i64 0)), (.v (.int .i64 0)), (.v (.int .u32 0)), (.v (.int .u32 0)), (.v (.int .u32 0)), (.v (.bool false)), (.v (.bool false)), (.v (.bool false)), (.v (.int .i64 0)), (.v (.int .i64 0)), (.v (.slice none 0 0)), (.v (.slice none 0 0)), (.v (.slice none 0 0))] [(0, 13, (.t 48))], none⟩,
         ⟨(some 50), .append 30 [.int .i64, .int .i64, .int .u32, .int .u32, .int .u32, .bool, .bool, .bool, .int .i64, .int .i64, .sl, .sl, .sl] [(.int .i64 0), (.int .i64 0), (.int .u32 0), (.int .u32 0), (.int .u32 0), (.bool false), (.bool false), (.bool false), (.int .i64 0), (.int .i64 0), (.slice none 0 0), (.slice none 0 0), (.slice none 0 0)] 120 (.t 47) (.t 49), none⟩,
         ⟨(some 8), .mov (.t 50), none⟩] .done)
       (.ops false [⟨(some 51), .mov (.t 9), none⟩,
        ⟨(some 52), .load (some 13) (.t 11), none⟩,
        ⟨(some 53), .mov (.t 1), none⟩,
        ⟨(some 54), .mov (.t 2), none⟩,
        ⟨(some 55), .build [(.v (.int .i64 0)), (.v (.int .i64 0)), (.v (.int .u32 0)), (.v (.int .u32 0)), (.v (.int .u32 0)), (.v (.bool false)), (.v (.bool false)), (.v (.bool false)), (.v (.int .i64 0)), (.v (.int .i64 0)), (.v (.slice none 0 0)), (.v (.slice none 0 0)), (.v (.slice none 0 0))] [(0, 1, (.c (.v (.int .i64 4)))), (8, 1, (.t 53)), (9, 1, (.t 54))], none⟩,
        ⟨(some 56), .bslice 30 [.int .i64, .int .i64, .int .u32, .int .u32, .int .u32, .bool, .bool, .bool, .int .i64, .int .i64, .sl, .sl, .sl] 2 [(.v (.int .i64 0)), (.v (.int .i64 0)), (.v (.int .u32 0)), (.v (.int .u32 0)), (.v (.int .u32 0)), (.v (.bool false)), (.v (.bool false)), (.v (.bool false)), (.v (.int .i64 0)), (.v (.int .i64 0)), (.v (.slice none 0 0)), (.v (.slice none 0 0)), (.v (.slice none 0 0)), (.v (.int .i64 0)), (.v (.int .i64 0)), (.v (.int .u32 0)), (.v (.int .u32 0)), (.v (.int .u32 0)), (.v (.bool false)), (.v (.bool false)), (.v (.bool false)), (.v (.int .i64 0)), (.v (.int .i64 0)), (.v (.slice none 0 0)), (.v (.slice none 0 0)), (.v (.slice none 0 0))] [(0, 13, (.t 52)), (13, 13, (.t 55))], none⟩,
        ⟨(some 57), .append 30 [.int .i64, .int .i64, .int .u32, .int .u32, .int .u32, .bool, .bool, .bool, .int .i64, .int .i64, .sl, .sl, .sl] [(.int .i64 0), (.int .i64 0), (.int .u32 0), (.int .u32 0), (.int .u32 0), (.bool false), (.bool false), (.bool false), (.int .i64 0), (.int .i64 0), (.slice none 0 0), (.slice none 0 0), (.slice none 0 0)] 120 (.t 51) (.t 56), none⟩,
        ⟨(some 9), .mov (.t 57), none⟩] .done)))))
     (.ops false [⟨(some 36), .mov (.t 10), none⟩,
      ⟨(some 37), .bin .add (.t 36) (.c (.v (.int .i64 1))), none⟩,
      ⟨(some 10), .mov (.t 37), none⟩] .done))))))
  (.seq (.seq (.ops false [⟨(some 12), .mov (.c (.v (.int .i64 0))), none⟩] .done)
   (.block 2 (.loop (.seq (.seq (.ops false [⟨(some 58), .mov (.t 12), none⟩,
        ⟨(some 59), .mov (.t 0), none⟩,
        ⟨(some 60), .len (.t 59), none⟩,
        ⟨(some 61), .bin .lss (.t 58) (.t 60), none⟩] .done)
      (.cond (.t 61)
       .skip
       (.exit 2)))
     (.seq (.block 3 (.seq (.ops false [⟨(some 64), .mov (.t 12), none⟩,
         ⟨(some 65), .bin .add (.t 64) (.c (.v (.int .i64 1))), none⟩,
         ⟨(some 13), .mov (.t 65), none⟩] .done)
       (.block 4 (.loop (.seq (.seq (.ops false [⟨(some 66), .mov (.t 13), none⟩,
            ⟨(some 67), .mov (.t 0), none⟩,
            ⟨(some 68), .len (.t 67), none⟩,
            ⟨(some 69), .bin .lss (.t 66) (.t 68), none⟩] .done)
          (.cond (.t 69)
           .skip
           (.exit 4)))
         (.seq (.block 5 (.seq (.ops false [⟨(some 14), .mov (.c (.v (.int .i64 1))), none⟩] .done)
           (.seq (.seq (.ops false [⟨(some 72), .mov (.t 0), none⟩,
              ⟨(some 73), .mov (.t 12), none⟩,
              ⟨(some 74), .idx 1 (.t 72) (.t 73), none⟩,
              ⟨(some 75), .load none (.t 74), none⟩] .done)
            (.cond (.t 75)
             (.ops false [⟨(some 14), .mov (.c (.v (.int .i64 2))), none⟩] .done)
             .skip))
           (.seq (.ops false [⟨(some 15), .mov (.c (.v (.int .i64 1))), none⟩] .done)
           (.seq (.seq (.ops false [⟨(some 76), .mov (.t 0), none⟩,
              ⟨(some 77), .mov (.t 13), none⟩,
              ⟨(some 78), .idx 1 (.t 76) (.t 77), none⟩,
              ⟨(some 79), .load none (.t 78), none⟩] .done)
            (.cond (.t 79)
             (.ops false [⟨(some 15), .mov (.c (.v (.int .i64 2))), none⟩] .done)
             .skip))
           (.seq (.ops false [⟨(some 16), .mov (.c (.v (.int .i64 0))), none⟩] .done)
           (.seq (.seq (.ops false [⟨(some 80), .mov (.t 1), none⟩,
              ⟨(some 81), .mov (.t 14), none⟩,
              ⟨(some 82), .bin .and (.t 80) (.t 81), none⟩,
              ⟨(some 83), .bin .neq (.t 82) (.c (.v (.int .i64 0))), none⟩,
              ⟨(some 84), .mov (.t 83), none⟩,
              ⟨(some 85), .mov (.t 2), some (84, true)⟩,
              ⟨(some 86), .mov (.t 15), some (84, true)⟩,
              ⟨(some 87), .bin .and (.t 85) (.t 86), some (84, true)⟩,
              ⟨(some 88), .bin .neq (.t 87) (.c (.v (.int .i64 0))), some (84, true)⟩,
              ⟨(some 89), .pick (.t 84) (.t 88) (.c (.v (.bool false))), none⟩] .done)
            (.cond (.t 89)
             (.ops false [⟨(some 16), .mov (.c (.v (.int .i64 4))), none⟩] .done)
             .skip))
           (.seq (.ops false [⟨(some 90), .mov (.t 8), none⟩,
             ⟨(some 91), .mov (.t 12), none⟩,
             ⟨(some 92), .mov (.t 13), none⟩,
             ⟨(some 93), .call 12 [(.t 90), (.t 91), (.t 92)], none⟩,
             ⟨(some 94), .bin .neq (.t 93) (.c (.v (.int .i64 0))), none⟩,
             ⟨(some 95), .mov (.t 94), none⟩,
             ⟨(some 96), .mov (.t 9), some (95, false)⟩,
             ⟨(some 97), .mov (.t 12), some (95, false)⟩,
             ⟨(some 98), .bin .mul (.c (.v (.int .i64 2))) (.t 97), some (95, false)⟩,
             ⟨(some 99), .mov (.t 13), some (95, false)⟩,
             ⟨(some 100), .bin .mul (.c (.v (.int .i64 2))) (.t 99), some (95, false)⟩,
             ⟨(some 101), .call 12 [(.t 96), (.t 98), (.t 100)], some (95, false)⟩,
             ⟨(some 102), .mov (.t 16), some (95, false)⟩,
             ⟨(some 103), .bin .neq (.t 101) (.t 102), some (95, false)⟩,
             ⟨(some 104), .pick (.t 95) (.c (.v (.bool true))) (.t 103), none⟩] .done)
           (.cond (.t 104)
            (.seq (.ops false [⟨(some 6), .mov (.c (.v (.bool false))), none⟩] .done)
             .ret)
            .skip)))))))))
         (.ops false [⟨(some 70), .mov (.t 13), none⟩,
          ⟨(some 71), .bin .add (.t 70) (.c (.v (.int .i64 1))), none⟩,
          ⟨(some 13), .mov (.t 71), none⟩] .done)))))))
     (.ops false [⟨(some 62), .mov (.t 12), none⟩,
      ⟨(some 63), .bin .add (.t 62) (.c (.v (.int .i64 1))), none⟩,
      ⟨(some 12), .mov (.t 63), none⟩] .done))))))
  (.seq (.ops false [⟨(some 6), .mov (.c (.v (.bool true))), none⟩] .done)
  .ret))))))))))⟩
theorem pf4_eq : (Try.f4.body.map fun c => (cfn Try.prog pl4 Try.f4 c, guardsAll pl4 c)) = some (pf4, true) := by kernel_rfl

/-- corral/corrallaw13.PpoDeps  sizes [] -/
def pl5 : Nat → DT := dtGet []
def pf5 : PFn := ⟨132, [.t 10], (.seq (.ops false [⟨(some 10), .mov (.c (.v (.bool false))), none⟩] .done)
  (.seq (.ops false [⟨(some 18), .call 8 [], none⟩,
    ⟨(some 11), .mov (.t 18), none⟩] .done)
  (.seq (.seq (.ops false [⟨(some 19), .mov (.t 11), none⟩,
     ⟨(some 20), .un .not (.t 19), none⟩] .done)
   (.cond (.t 20)
    (.seq (.ops false [⟨(some 10), .mov (.c (.v (.bool false))), none⟩] .done)
     .ret)
    .skip))
  (.seq (.ops false [⟨(some 21), .mov (.t 0), none⟩,
    ⟨(some 22), .call 10 [(.t 21), (.c (.v (.int .i64 12)))], none⟩,
    ⟨(some 23), .bin .add (.t 22) (.c (.v (.int .i64 2))), none⟩,
    ⟨(some 0), .mov (.t 23), none⟩] .done)
  (.seq (.ops false [⟨(some 24), .mov (.t 2), none⟩,
    ⟨(some 25), .mov (.t 0), none⟩,
    ⟨(some 26), .bin .sub (.t 25) (.c (.v (.int .i64 1))), none⟩,
    ⟨(some 27), .call 10 [(.t 24), (.t 26)], none⟩,
    ⟨(some 28), .bin .add (.t 27) (.c (.v (.int .i64 1))), none⟩,
    ⟨(some 2), .mov (.t 28), none⟩] .done)
  (.seq (.ops false [⟨(some 29), .mov (.t 1), none⟩,
    ⟨(some 30), .mov (.t 2), none⟩,
    ⟨(some 31), .call 10 [(.t 29), (.t 30)], none⟩,
    ⟨(some 1), .mov (.t 31), none⟩] .done)
  (.seq (.ops false [⟨(some 32), .mov (.t 3), none⟩,
    ⟨(some 33), .call 10 [(.t 32), (.c (.v (.int .i64 4)))], none⟩,
    ⟨(some 3), .mov (.t 33), none⟩] .done)
  (.seq (.ops false [⟨(some 12), .mov (.c (.v (.slice none 0 0))), none⟩] .done)
  (.seq (.seq (.ops false [⟨(some 13), .mov (.c (.v (.int .i64 0))), none⟩] .done)
   (.block 0 (.loop (.seq (.seq (.ops false [⟨(some 34), .mov (.t 13), none⟩,
        ⟨(some 35), .mov (.t 0), none⟩,
        ⟨(some 36), .bin .lss (.t 34) (.t 35), none⟩] .done)
      (.cond (.t 36)
       .skip
       (.exit 0)))
     (.seq (.block 1 (.ops false [⟨(some 39), .mov (.t 12), none⟩,
        ⟨(some 40), .mov (.t 13), none⟩,
        ⟨(some 41), .bin .mul (.c (.v (.int .i64 4))) (.t 40), none⟩,
        ⟨(some 42), .conv .u32 (.t 41), none⟩,
        ⟨(some 43), .build [(.v (.int .i64 0)), (.v (.int .i64 0)), (.v (.int .u32 0)), (.v (.int .u32 0)), (.v (.int .u32 0)), (.v (.bool false)), (.v (.bool false)), (.v (.bool false)), (.v (.int .i64 0)), (.v (.int .i64 0)), (.v (.slice none 0 0)), (.v (.slice none 0 0)), (.v (.slice none 0 0))] [(0, 1, (.c (.v (.int .i64 1)))), (1, 1, (.c (.v (.int .i64 4)))), (2, 1, (.t 42))], none⟩,
        ⟨(some 44), .bslice 30 [.int .i64, .int .i64, .int .u32, .int .u32, .int .u32, .bool, .bool, .bool, .int .i64, .int .i64, .sl, .sl, .sl] 1 [(.v (.int .i64 0)), (.v (.int .i64 0)), (.v (.int .u32 0)), (.v (.int .u32 0)), (.v (.int .u32 0)), (.v (.bool false)), (.v (.bool false)), (.v (.bool false)), (.v (.int .i64 0)), (.v (.int .i64 0)), (.v (.slice none 0 0)), (.v (.slice none 0 0)), (.v (.slice none 0 0))] [(0, 13, (.t 43))], none⟩,
        ⟨(some 45), .append 30 [.int .i64, .int .i64, .int .u32, .int .u32, .int .u32, .bool, .bool, .bool, .int .i64, .int .i64, .sl, .sl, .sl] [(.int .i64 0), (.int .i64 0), (.int .u32 0), (.int .u32 0), (.int .u32 0), (.bool false), (.bool false), (.bool false), (.int .i64 0), (.int .i64 0), (.slice none 0 0), (.slice none 0 0), (.slice none 0 0)] 120 (.t 39) (.t 44), none⟩,
        ⟨(some 12), .mov (.t 45), none⟩] .done))
     (.ops false [⟨(some 37), .mov (.t 13), none⟩,
      ⟨(some 38), .bin .add (.t 37) (.c (.v (.int .i64 1))), none⟩,
      ⟨(some 13), .mov (.t 38), none⟩] .done))))))
  (.seq (.seq (.ops false [⟨(some 46), .mov (.t 4), none⟩] .done)
   (.cond (.t 46)
    (.ops false [⟨(some 47), .mov (.t 12), none⟩,
      ⟨(some 48), .mov (.t 2), none⟩,
      ⟨(some 49), .idx 13 (.t 47) (.t 48), none⟩,
      ⟨(some 50), .fld 0 (.t 49), none⟩,
      ⟨none, .store 1 (.t 50) (.c (.v (.int .i64 2))), none⟩] .done)
    .skip))
  (.seq (.ops false [⟨(some 14), .mov (.c (.v (.int .i64 0))), none⟩] .done)
  (.seq (.seq (.ops false [⟨(some 51), .mov (.t 3), none⟩] .done)
   (.block 2 (.seq (.ops false [⟨(some 53), .bin .eql (.t 51) (.c (.v (.int .i64 0))), none⟩,
      ⟨(some 52), .mov (.t 53), none⟩] .done)
    (.cond (.t 52)
     (.seq (.ops false [⟨(some 54), .mov (.t 12), none⟩,
        ⟨(some 55), .mov (.t 2), none⟩,
        ⟨(some 56), .mov (.t 1), none⟩,
        ⟨(some 57), .bslice 3 [.int .i64] 1 [(.v (.int .i64 0))] [(0, 1, (.t 56))], none⟩,
        ⟨(some 58), .idx 13 (.t 54) (.t 55), none⟩,
        ⟨(some 59), .fld 10 (.t 58), none⟩,
        ⟨none, .store 1 (.t 59) (.t 57), none⟩] .done)
      (.ops false [⟨(some 14), .mov (.c (.v (.int .i64 9))), none⟩] .done))
     (.seq (.ops false [⟨(some 61), .bin .eql (.t 51) (.c (.v (.int .i64 1))), none⟩,
        ⟨(some 60), .mov (.t 61), none⟩] .done)
      (.cond (.t 60)
       (.seq (.ops false [⟨(some 62), .mov (.t 12), none⟩,
          ⟨(some 63), .mov (.t 2), none⟩,
          ⟨(some 64), .mov (.t 1), none⟩,
          ⟨(some 65), .bslice 3 [.int .i64] 1 [(.v (.int .i64 0))] [(0, 1, (.t 64))], none⟩,
          ⟨(some 66), .idx 13 (.t 62) (.t 63), none⟩,
          ⟨(some 67), .fld 11 (.t 66), none⟩,
          ⟨none, .store 1 (.t 67) (.t 65), none⟩] .done)
        (.ops false [⟨(some 14), .mov (.c (.v (.int .i64 10))), none⟩] .done))
       (.seq (.ops false [⟨(some 69), .bin .eql (.t 51) (.c (.v (.int .i64 2))), none⟩,
          ⟨(some 68), .mov (.t 69), none⟩] .done)
        (.cond (.t 68)
         (.seq (.ops false [⟨(some 70), .mov (.t 12), none⟩,
            ⟨(some 71), .mov (.t 2), none⟩,
            ⟨(some 72), .mov (.t 1), none⟩,
            ⟨(some 73), .bslice 3 [.int .i64] 1 [(.v (.int .i64 0))] [(0, 1, (.t 72))], none⟩,
            ⟨(some 74), .idx 13 (.t 70) (.t 71), none⟩,
            ⟨(some 75), .fld 12 (.t 74), none⟩,
            ⟨none, .store 1 (.t 75) (.t 73), none⟩] .done)
          (.seq (.ops false [⟨(some 76), .mov (.t 4), none⟩] .done)
          (.cond (.t 76)
           (.ops false [⟨(some 14), .mov (.c (.v (.int .i64 11))), none⟩] .done)
           .skip)))
         .skip))))))))
  (.seq (.seq (.ops false [⟨(some 15), .mov (.c (.v (.int .i64 0))), none⟩] .done)
   (.block 3 (.loop (.seq (.seq (.ops false [⟨(some 77), .mov (.t 15), none⟩,
        ⟨(some 78), .mov (.t 0), none⟩,
        ⟨(some 79), .bin .lss (.t 77) (.t 78), none⟩] .done)
      (.cond (.t 79)
       .skip
       (.exit 3)))
     (.seq (.block 4 (.seq (.ops false [⟨(some 82), .mov (.t 15), none⟩,
         ⟨(some 83), .bin .add (.t 82) (.c (.v (.int .i64 1))), none⟩,
         ⟨(some 16), .mov (.t 83), none⟩] .done)
       (.block 5 (.loop (.seq (.seq (.ops false [⟨(some 84), .mov (.t 16), none⟩,
            ⟨(some 85), .mov (.t 0), none⟩,
            ⟨(some 86), .bin .lss (.t 84) (.t 85), none⟩] .done)
          (.cond (.t 86)
           .skip
           (.exit 5)))
         (.seq (.block 6 (.seq (.ops false [⟨(some 17), .mov (.c (.v (.int .i64 0))), none⟩] .done)
           (.seq (.seq (.ops false [⟨(some 89), .mov (.t 15), none⟩,
              ⟨(some 90), .mov (.t 1), none⟩,
              ⟨(some 91), .bin .eql (.t 89) (.t 90), none⟩,
              ⟨(some 92), .mov (.t 91), none⟩,
              ⟨(some 93), .mov (.t 16), some (92, true)⟩,
              ⟨(some 94), .mov (.t 2), some (92, true)⟩,
              ⟨(some 95), .bin .eql (.t 93) (.t 94), some (92, true)⟩,
              ⟨(some 96), .pick (.t 92) (.t 95) (.c (.v (.bool false))), none⟩] .done)
            (.cond (.t 96)
             (.ops false [⟨(some 97), .mov (.t 14), none⟩,
               ⟨(some 17), .mov (.t 97), none⟩] .done)
             .skip))
           (.seq (.ops false [⟨(some 98), .mov (.t 12), none⟩,
             ⟨(some 99), .mov (.t 15), none⟩,
             ⟨(some 100), .mov (.t 16), none⟩,
             ⟨(some 101), .call 12 [(.t 98), (.t 99), (.t 100)], none⟩,
             ⟨(some 102), .mov (.t 17), none⟩,
             ⟨(some 103), .bin .neq (.t 101) (.t 102), none⟩] .done)
           (.cond (.t 103)
            (.seq (.ops false [⟨(some 10), .mov (.c (.v (.bool false))), none⟩] .done)
             .ret)
            .skip)))))
         (.ops false [⟨(some 87), .mov (.t 16), none⟩,
          ⟨(some 88), .bin .add (.t 87) (.c (.v (.int .i64 1))), none⟩,
          ⟨(some 16), .mov (.t 88), none⟩] .done)))))))
     (.ops false [⟨(some 80), .mov (.t 15), none⟩,
      ⟨(some 81), .bin .add (.t 80) (.c (.v (.int .i64 1))), none⟩,
      ⟨(some 15), .mov (.t 81), none⟩] .done))))))
  (.seq (.ops false [⟨(some 104), .mov (.t 11), none⟩,
    ⟨(some 105), .mov (.t 104), none⟩,
    ⟨(some 106), .mov (.t 12), some (105, true)⟩,
    ⟨(some 107), .mov (.t 2), some (105, true)⟩,
    ⟨(some 108), .mov (.t 1), some (105, true)⟩,
    ⟨(some 109), .call 12 [(.t 106), (.t 107), (.t 108)], some (105, true)⟩,
    ⟨(some 110), .bin .eql (.t 109) (.c (.v (.int .i64 0))), some (105, true)⟩,
    ⟨(some 111), .pick (.t 105) (.t 110) (.c (.v (.bool false))), none⟩,
    ⟨(some 112), .mov (.t 111), none⟩,
    ⟨(some 113), .mov (.t 12), some (112, true)⟩,
    ⟨(some 114), .mov (.t 1), some (112, true)⟩,
    ⟨(some 115), .mov (.t 1), some (112, true)⟩,
    ⟨(some 116), .call 12 [(.t 113), (.t 114), (.t 115)], some (112, true)⟩,
    ⟨(some 117), .bin .eql (.t 116) (.c (.v (.int .i64 0))), some (112, true)⟩,
    ⟨(some 118), .pick (.t 112) (.t 117) (.c (.v (.bool false))), none⟩,
    ⟨(some 119), .mov (.t 118), none⟩,
    ⟨(some 120), .mov (.t 12), some (119, true)⟩,
    ⟨(some 121), .mov (.t 2), some (119, true)⟩,
    ⟨(some 122), .call 12 [(.t 120), (.c (.v (.int .i64 (-1)))), (.t 121)], some (119, true)⟩,
    ⟨(some 123), .bin .eql (.t 122) (.c (.v (.int .i64 0))), some (119, true)⟩,
    ⟨(some 124), .pick (.t 119) (.t 123) (.c (.v (.bool false))), none⟩,
    ⟨(some 125), .mov (.t 124), none⟩,
    ⟨(some 126), .mov (.t 12), some (125, true)⟩,
    ⟨(some 127), .mov (.t 1), some (125, true)⟩,
    ⟨(some 128), .mov (.t 0), some (125, true)⟩,
    ⟨(some 129), .call 12 [(.t 126), (.t 127), (.t 128)], some (125, true)⟩,
    ⟨(some 130), .bin .eql (.t 129) (.c (.v (.int .i64 0))), some (125, true)⟩,
    ⟨(some 131), .pick (.t 125) (.t 130) (.c (.v (.bool false))), none⟩,
    ⟨(some 10), .mov (.t 131), none⟩] .done)
  .ret))))))))))))))⟩
theorem pf5_eq : (Try.f5.body.map fun c => (cfn Try.prog pl5 Try.f5 c, guardsAll pl5 c)) = some (pf5, true) := by kernel_rfl

/-- corral/corrallaw13.PpoThrough  sizes [] -/
def pl6 : Nat → DT := dtGet []
def pf6 : PFn := ⟨73, [.t 6], (.seq (.ops false [⟨(some 6), .mov (.c (.v (.bool false))), none⟩] .done)
  (.seq (.ops false [⟨(some 11), .call 8 [], none⟩,
    ⟨(some 7), .mov (.t 11), none⟩] .done)
  (.seq (.seq (.ops false [⟨(some 12), .mov (.t 7), none⟩,
     ⟨(some 13), .un .not (.t 12), none⟩] .done)
   (.cond (.t 13)
    (.seq (.ops false [⟨(some 6), .mov (.c (.v (.bool false))), none⟩] .done)
     .ret)
    .skip))
  (.seq (.ops false [⟨(some 14), .build [(.v (.int .i64 0)), (.v (.int .i64 0)), (.v (.int .u32 0)), (.v (.int .u32 0)), (.v (.int .u32 0)), (.v (.bool false)), (.v (.bool false)), (.v (.bool false)), (.v (.int .i64 0)), (.v (.int .i64 0)), (.v (.slice none 0 0)), (.v (.slice none 0 0)), (.v (.slice none 0 0))] [(0, 1, (.c (.v (.int .i64 1)))), (1, 1, (.c (.v (.int .i64 4))))], none⟩,
    ⟨(some 15), .build [(.v (.int .i64 0)), (.v (.int .i64 0)), (.v (.int .u32 0)), (.v (.int .u32 0)), (.v (.int .u32 0)), (.v (.bool false)), (.v (.bool false)), (.v (.bool false)), (.v (.int .i64 0)), (.v (.int .i64 0)), (.v (.slice none 0 0)), (.v (.slice none 0 0)), (.v (.slice none 0 0))] [(0, 1, (.c (.v (.int .i64 2)))), (1, 1, (.c (.v (.int .i64 4)))), (2, 1, (.c (.v (.int .u32 8))))], none⟩,
    ⟨(some 16), .build [(.v (.int .i64 0)), (.v (.int .i64 0)), (.v (.int .u32 0)), (.v (.int .u32 0)), (.v (.int .u32 0)), (.v (.bool false)), (.v (.bool false)), (.v (.bool false)), (.v (.int .i64 0)), (.v (.int .i64 0)), (.v (.slice none 0 0)), (.v (.slice none 0 0)), (.v (.slice none 0 0))] [(0, 1, (.c (.v (.int .i64 1)))), (1, 1, (.c (.v (.int .i64 4)))), (2, 1, (.c (.v (.int .u32 12))))], none⟩,
    ⟨(some 17), .bslice 30 [.int .i64, .int .i64, .int .u32, .int .u32, .int .u32, .bool, .bool, .bool, .int .i64, .int .i64, .sl, .sl, .sl] 3 [(.v (.int .i64 0)), (.v (.int .i64 0)), (.v (.int .u32 0)), (.v (.int .u32 0)), (.v (.int .u32 0)), (.v (.bool false)), (.v (.bool false)), (.v (.bool false)), (.v (.int .i64 0)), (.v (.int .i64 0)), (.v (.slice none 0 0)), (.v (.slice none 0 0)), (.v (.slice none 0 0)), (.v (.int .i64 0)), (.v (.int .i64 0)), (.v (.int .u32 0)), (.v (.int .u32 0)), (.v (.int .u32 0)), (.v (.bool false)), (.v (.bool false)), (.v (.bool false)), (.v (.int .i64 0)), (.v (.int .i64 0)), (.v (.slice none 0 0)), (.v (.slice none 0 0)), (.v (.slice none 0 0)), (.v (.int .i64 0)), (.v (.int .i64 0)), (.v (.int .u32 0)), (.v (.int .u32 0)), (.v (.int .u32 0)), (.v (.bool false)), (.v (.bool false)), (.v (.bool false)), (.v (.int .i64 0)), (.v (.int .i64 0)), (.v (.slice none 0 0)), (.v (.slice none 0 0)), (.v (.slice none 0 0))] [(0, 13, (.t 14)), (13, 13, (.t 15)), (26, 13, (.t 16))], none⟩,
    ⟨(some 8), .mov (.t 17), none⟩] .done)
  (.seq (.seq (.ops false [⟨(some 18), .mov (.t 0), none⟩] .done)
   (.cond (.t 18)
    (.ops false [⟨(some 19), .mov (.t 8), none⟩,
      ⟨(some 20), .bslice 3 [.int .i64] 1 [(.v (.int .i64 0))] [(0, 1, (.c (.v (.int .i64 0))))], none⟩,
      ⟨(some 21), .idx 13 (.t 19) (.c (.v (.int .i64 1))), none⟩,
      ⟨(some 22), .fld 11 (.t 21), none⟩,
      ⟨none, .store 1 (.t 22) (.t 20), none⟩] .done)
    (.ops false [⟨(some 23), .mov (.t 8), none⟩,
      ⟨(some 24), .bslice 3 [.int .i64] 1 [(.v (.int .i64 0))] [(0, 1, (.c (.v (.int .i64 0))))], none⟩,
      ⟨(some 25), .idx 13 (.t 23) (.c (.v (.int .i64 1))), none⟩,
      ⟨(some 26), .fld 10 (.t 25), none⟩,
      ⟨none, .store 1 (.t 26) (.t 24), none⟩] .done)))
  (.seq (.seq (.ops false [⟨(some 27), .mov (.t 1), none⟩] .done)
   (.cond (.t 27)
    (.ops false [⟨(some 28), .mov (.t 8), none⟩,
      ⟨(some 29), .idx 13 (.t 28) (.c (.v (.int .i64 2))), none⟩,
      ⟨(some 30), .fld 2 (.t 29), none⟩,
      ⟨none, .store 1 (.t 30) (.c (.v (.int .u32 8))), none⟩] .done)
    .skip))
  (.seq (.seq (.ops false [⟨(some 31), .mov (.t 2), none⟩] .done)
   (.cond (.t 31)
    (.ops false [⟨(some 32), .mov (.t 8), none⟩,
      ⟨(some 33), .idx 13 (.t 32) (.c (.v (.int .i64 2))), none⟩,
      ⟨(some 34), .fld 0 (.t 33), none⟩,
      ⟨none, .store 1 (.t 34) (.c (.v (.int .i64 2))), none⟩] .done)
    .skip))
  (.seq (.ops false [⟨(some 9), .mov (.c (.v (.int .i64 0))), none⟩] .done)
  (.seq (.seq (.ops false [⟨(some 35), .mov (.t 2), none⟩,
     ⟨(some 36), .un .not (.t 35), none⟩,
     ⟨(some 37), .mov (.t 36), none⟩,
     ⟨(some 38), .mov (.t 1), some (37, true)⟩,
     ⟨(some 39), .pick (.t 37) (.t 38) (.c (.v (.bool false))), none⟩] .done)
   (.cond (.t 39)
    (.ops false [⟨(some 9), .mov (.c (.v (.int .i64 12))), none⟩] .done)
    .skip))
  (.seq (.seq (.ops false [⟨(some 40), .mov (.t 2), none⟩,
     ⟨(some 41), .mov (.t 40), none⟩,
     ⟨(some 42), .mov (.t 0), some (41, true)⟩,
     ⟨(some 43), .un .not (.t 42), some (41, true)⟩,
     ⟨(some 44), .pick (.t 41) (.t 43) (.c (.v (.bool false))), none⟩] .done)
   (.cond (.t 44)
    (.ops false [⟨(some 9), .mov (.c (.v (.int .i64 13))), none⟩] .done)
    .skip))
  (.seq (.ops false [⟨(some 45), .mov (.t 8), none⟩,
    ⟨(some 46), .call 12 [(.t 45), (.c (.v (.int .i64 1))), (.c (.v (.int .i64 2)))], none⟩,
    ⟨(some 10), .mov (.t 46), none⟩] .done)
  (.seq (.ops false [⟨(some 47), .mov (.t 7), none⟩,
    ⟨(some 48), .mov (.t 47), none⟩,
    ⟨(some 49), .mov (.t 8), some (48, true)⟩,
    ⟨(some 50), .call 12 [(.t 49), (.c (.v (.int .i64 0))), (.c (.v (.int .i64 2)))], some (48, true)⟩,
    ⟨(some 51), .mov (.t 9), some (48, true)⟩,
    ⟨(some 52), .bin .eql (.t 50) (.t 51), some (48, true)⟩,
    ⟨(some 53), .pick (.t 48) (.t 52) (.c (.v (.bool false))), none⟩,
    ⟨(some 54), .mov (.t 53), none⟩,
    ⟨(some 55), .mov (.t 10), some (54, true)⟩,
    ⟨(some 56), .bin .eql (.t 55) (.c (.v (.int .i64 1))), some (54, true)⟩,
    ⟨(some 57), .mov (.t 1), some (54, true)⟩,
    ⟨(some 58), .mov (.t 57), some (54, true)⟩,
    ⟨(some 59), .mov (.t 2), some (58, true)⟩,
    ⟨(some 60), .pick (.t 58) (.t 59) (.c (.v (.bool false))), some (54, true)⟩,
    ⟨(some 61), .eqb false (.t 56) (.t 60), some (54, true)⟩,
    ⟨(some 62), .pick (.t 54) (.t 61) (.c (.v (.bool false))), none⟩,
    ⟨(some 63), .mov (.t 62), none⟩,
    ⟨(some 64), .mov (.t 10), some (63, true)⟩,
    ⟨(some 65), .bin .eql (.t 64) (.c (.v (.int .i64 0))), some (63, true)⟩,
    ⟨(some 66), .mov (.t 1), some (63, true)⟩,
    ⟨(some 67), .mov (.t 66), some (63, true)⟩,
    ⟨(some 68), .mov (.t 2), some (67, true)⟩,
    ⟨(some 69), .pick (.t 67) (.t 68) (.c (.v (.bool false))), some (63, true)⟩,
    ⟨(some 70), .un .not (.t 69), some (63, true)⟩,
    ⟨(some 71), .eqb false (.t 65) (.t 70), some (63, true)⟩,
    ⟨(some 72), .pick (.t 63) (.t 71) (.c (.v (.bool false))), none⟩,
    ⟨(some 6), .mov (.t 72), none⟩] .done)
  .ret))))))))))))⟩
theorem pf6_eq : (Try.f6.body.map fun c => (cfn Try.prog pl6 Try.f6 c, guardsAll pl6 c)) = some (pf6, true) := by kernel_rfl

/-- corral/corrallaw13.PpoPairs  sizes [(25, 34)] -/
def pl7 : Nat → DT := dtGet [(25, (.take 0 [0, 1, 4, 5, 6, 7, 8, 9, 10, 11, 12, 13, 14, 15, 16, 17, 18, 19, 20, 21, 22, 31, 32, 23, 24, 25, 26, 27, 28, 29, 30] (.take 1 [1, 4, 5, 6, 7, 8, 9, 10, 11, 12, 13, 14, 15, 16, 17, 18, 19, 20, 21, 22, 31, 32, 23, 24, 25, 26, 27, 28, 29, 30] (.take 2 [2, 3, 4, 5, 6, 7, 8, 9, 10, 11, 12, 13, 14, 15, 16, 17, 18, 19, 20, 21, 22, 31, 32, 23, 24, 25, 26, 27, 28, 29, 30] (.take 3 [3, 4, 5, 6, 7, 8, 9, 10, 11, 12, 13, 14, 15, 16, 17, 18, 19, 20, 21, 22, 31, 32, 23, 24, 25, 26, 27, 28, 29, 30] (.take 4 [4, 5, 6, 7, 8, 9, 10, 11, 12, 13, 14, 15, 16, 17, 18, 19, 20, 21, 22, 31, 32, 23, 24, 25, 26, 27, 28, 29, 30] (.take 5 [5, 6, 7, 8, 9, 10, 11, 12, 13, 14, 15, 16, 17, 18, 19, 20, 21, 22, 31, 32, 23, 24, 25, 26, 27, 28, 29, 30] (.take 6 [6, 8, 9, 14, 15, 16, 17, 18, 19, 20, 21, 22, 31, 32, 23, 24, 25, 26, 27, 28, 29, 30] (.take 7 [7, 8, 9, 14, 15, 16, 17, 18, 19, 20, 21, 22, 31, 32, 23, 24, 25, 26, 27, 28, 29, 30] (.take 8 [8, 9, 14, 15, 16, 17, 18, 19, 20, 21, 22, 31, 32, 23, 24, 25, 26, 27, 28, 29, 30] (.take 9 [9, 14, 15, 16, 17, 18, 19, 20, 21, 22, 31, 32, 23, 24, 25, 26, 27, 28, 29, 30] (.take 10 [10, 12, 13, 14, 15, 16, 17, 18, 19, 20, 21, 22, 31, 32, 23, 24, 25, 26, 27, 28, 29, 30] (.take 11 [11, 12, 13, 14, 15, 16, 17, 18, 19, 20, 21, 22, 31, 32, 23, 24, 25, 26, 27, 28, 29, 30] (.take 12 [12, 13, 14, 15, 16, 17, 18, 19, 20, 21, 22, 31, 32, 23, 24, 25, 26, 27, 28, 29, 30] (.take 13 [13, 14, 15, 16, 17, 18, 19, 20, 21, 22, 31, 32, 23, 24, 25, 26, 27, 28, 29, 30] (.take 14 [14, 15, 16, 17, 18, 19, 20, 21, 22, 31, 32, 23, 24, 25, 26, 27, 28, 29, 30] (.take 15 [15, 16, 17, 18, 19, 20, 21, 22, 31, 32, 23, 24, 25, 26, 27, 28, 29, 30] (.take 16 [16, 17, 18, 19, 20, 21, 22, 31, 32, 23, 24, 25, 26, 27, 28, 29, 30] (.take 17 [17, 19, 20, 21, 22, 23, 24, 25, 26, 27, 28, 29, 30, 31, 32] (.take 18 [18, 19, 20, 21, 22, 23, 24, 25, 26, 27, 28, 29, 30, 31, 32] (.take 19 [19, 20, 21, 22, 23, 24, 25, 26, 27, 28, 29, 30, 31, 32] (.take 20 [20, 21, 22, 23, 24, 25, 26, 27, 28, 29, 30, 31, 32] (.take 21 [21, 22, 23, 24, 25, 26, 27, 28, 29, 30, 31, 32] (.take 22 [22, 23, 24, 25, 26, 27, 28, 29, 30, 31, 32] (.take 23 [23, 29, 30, 31, 32] (.take 24 [24, 26, 27, 29, 30, 31, 32] (.take 25 [25, 26, 27, 29, 30, 31, 32] (.take 26 [26, 27, 29, 30, 31, 32] (.take 27 [27, 29, 30, 31, 32] (.take 28 [28, 29, 30, 31, 32] (.eff true 29 (.take 30 [30, 31, 32] (.take 31 [31, 32] (.take 32 [32] .done))))))))))))))))))))))))))))))))))]
def pf7 : PFn := ⟨89, [.t 2], (.seq (.ops false [⟨(some 2), .mov (.c (.v (.bool false))), none⟩] .done)
  (.seq (.ops false [⟨(some 12), .call 8 [], none⟩,
    ⟨(some 3), .mov (.t 12), none⟩] .done)
  (.seq (.seq (.ops false [⟨(some 13), .mov (.t 3), none⟩,
     ⟨(some 14), .un .not (.t 13), none⟩] .done)
   (.cond (.t 14)
    (.seq (.ops false [⟨(some 2), .mov (.c (.v (.bool false))), none⟩] .done)
     .ret)
    .skip))
  (.seq (.seq (.ops false [⟨(some 15), .mov (.t 0), none⟩,
     ⟨(some 16), .len (.t 15), none⟩,
     ⟨(some 17), .bin .gtr (.t 16) (.c (.v (.int .i64 20))), none⟩,
     ⟨(some 18), .mov (.t 17), none⟩,
     ⟨(some 19), .mov (.t 3), some (18, false)⟩,
     ⟨(some 20), .un .not (.t 19), some (18, false)⟩,
     ⟨(some 21), .pick (.t 18) (.c (.v (.bool true))) (.t 20), none⟩] .done)
   (.cond (.t 21)
    (.seq (.ops false [⟨(some 22), .mov (.t 3), none⟩,
       ⟨(some 2), .mov (.t 22), none⟩] .done)
     .ret)
    .skip))
  (.seq (.ops false [⟨(some 4), .mov (.c (.v (.slice none 0 0))), none⟩] .done)
  (.seq (.ops false [⟨(some 5), .mov (.c (.v (.int .i64 (-1)))), none⟩] .done)
  (.seq (.ops false [⟨(some 6), .mov (.c (.v (.slice none 0 0))), none⟩] .done)
  (.seq (.seq (.ops false [⟨(some 7), .mov (.c (.v (.int .i64 0))), none⟩] .done)
   (.block 0 (.loop (.seq (.seq (.ops false [⟨(some 23), .mov (.t 7), none⟩,
        ⟨(some 24), .mov (.t 0), none⟩,
        ⟨(some 25), .len (.t 24), none⟩,
        ⟨(some 26), .bin .lss (.t 23) (.t 25), none⟩] .done)
      (.cond (.t 26)
       .skip
       (.exit 0)))
     (.seq (.block 1 (.seq (.ops false [⟨(some 29), .mov (.t 7), none⟩,
         ⟨(some 30), .bin .mul (.c (.v (.int .i64 4))) (.t 29), none⟩,
         ⟨(some 31), .conv .u32 (.t 30), none⟩,
         ⟨(some 32), .build [(.v (.int .i64 0)), (.v (.int .i64 0)), (.v (.int .u32 0)), (.v (.int .u32 0)), (.v (.int .u32 0)), (.v (.bool false)), (.v (.bool false)), (.v (.bool false)), (.v (.int .i64 0)), (.v (.int .i64 0)), (.v (.slice none 0 0)), (.v (.slice none 0 0)), (.v (.slice none 0 0))] [(0, 1, (.c (.v (.int .i64 1)))), (1, 1, (.c (.v (.int .i64 4)))), (2, 1, (.t 31)), (5, 1, (.c (.v (.bool true))))], none⟩,
         ⟨(some 8), .box 30 (.c (.agg [(.v (.int .i64 0)), (.v (.int .i64 0)), (.v (.int .u32 0)), (.v (.int .u32 0)), (.v (.int .u32 0)), (.v (.bool false)), (.v (.bool false)), (.v (.bool false)), (.v (.int .i64 0)), (.v (.int .i64 0)), (.v (.slice none 0 0)), (.v (.slice none 0 0)), (.v (.slice none 0 0))])), none⟩,
         ⟨none, .store 13 (.t 8) (.t 32), none⟩] .done)
       (.seq (.ops false [⟨(some 9), .mov (.c (.v (.int .i64 (-1)))), none⟩] .done)
       (.seq (.seq (.ops false [⟨(some 33), .mov (.t 0), none⟩,
          ⟨(some 34), .mov (.t 7), none⟩,
          ⟨(some 35), .idx 1 (.t 33) (.t 34), none⟩,
          ⟨(some 36), .load none (.t 35), none⟩] .done)
        (.cond (.t 36)
         (.seq (.ops false [⟨(some 37), .fld 0 (.t 8), none⟩,
            ⟨none, .store 1 (.t 37) (.c (.v (.int .i64 2))), none⟩] .done)
          (.seq (.ops false [⟨(some 38), .mov (.t 5), none⟩,
            ⟨(some 9), .mov (.t 38), none⟩] .done)
          (.ops false [⟨(some 5), .mov (.c (.v (.int .i64 (-1)))), none⟩] .done)))
         (.ops false [⟨(some 39), .mov (.t 7), none⟩,
           ⟨(some 5), .mov (.t 39), none⟩] .done)))
       (.seq (.ops false [⟨(some 40), .mov (.t 4), none⟩,
         ⟨(some 41), .load (some 13) (.t 8), none⟩,
         ⟨(some 42), .bslice 30 [.int .i64, .int .i64, .int .u32, .int .u32, .int .u32, .bool, .bool, .bool, .int .i64, .int .i64, .sl, .sl, .sl] 1 [(.v (.int .i64 0)), (.v (.int .i64 0)), (.v (.int .u32 0)), (.v (.int .u32 0)), (.v (.int .u32 0)), (.v (.bool false)), (.v (.bool false)), (.v (.bool false)), (.v (.int .i64 0)), (.v (.int .i64 0)), (.v (.slice none 0 0)), (.v (.slice none 0 0)), (.v (.slice none 0 0))] [(0, 13, (.t 41))], none⟩,
         ⟨(some 43), .append 30 [.int .i64, .int .i64, .int .u32, .int .u32, .int .u32, .bool, .bool, .bool, .int .i64, .int .i64, .sl, .sl, .sl] [(.int .i64 0), (.int .i64 0), (.int .u32 0), (.int .u32 0), (.int .u32 0), (.bool false), (.bool false), (.bool false), (.int .i64 0), (.int .i64 0), (.slice none 0 0), (.slice none 0 0), (.slice none 0 0)] 120 (.t 40) (.t 42), none⟩,
         ⟨(some 4), .mov (.t 43), none⟩] .done)
       (.ops false [⟨(some 44), .mov (.t 6), none⟩,
        ⟨(some 45), .mov (.t 9), none⟩,
        ⟨(some 46), .bslice 3 [.int .i64] 1 [(.v (.int .i64 0))] [(0, 1, (.t 45))], none⟩,
        ⟨(some 47), .append 3 [.int .i64] [(.int .i64 0)] 8 (.t 44) (.t 46), none⟩,
        ⟨(some 6), .mov (.t 47), none⟩] .done))))))
     (.ops false [⟨(some 27), .mov (.t 7), none⟩,
      ⟨(some 28), .bin .add (.t 27) (.c (.v (.int .i64 1))), none⟩,
      ⟨(some 7), .mov (.t 28), none⟩] .done))))))
  (.seq (.ops false [⟨(some 48), .mov (.t 4), none⟩,
    ⟨(some 49), .call 13 [(.t 48)], none⟩,
    ⟨(some 10), .mov (.t 49), none⟩] .done)
  (.seq (.seq (.ops false [⟨(some 11), .mov (.c (.v (.int .i64 0))), none⟩] .done)
   (.block 2 (.loop (.seq (.seq (.ops false [⟨(some 50), .mov (.t 11), none⟩,
        ⟨(some 51), .mov (.t 4), none⟩,
        ⟨(some 52), .len (.t 51), none⟩,
        ⟨(some 53), .bin .lss (.t 50) (.t 52), none⟩] .done)
      (.cond (.t 53)
       .skip
       (.exit 2)))
     (.seq (.block 3 (.seq (.ops true [⟨(some 56), .mov (.t 10), none⟩,
         ⟨(some 57), .len (.t 56), none⟩,
         ⟨(some 58), .mov (.t 4), none⟩,
         ⟨(some 59), .len (.t 58), none⟩,
         ⟨(some 60), .bin .neq (.t 57) (.t 59), none⟩,
         ⟨(some 61), .mov (.t 60), none⟩,
         ⟨(some 62), .mov (.t 10), some (61, false)⟩,
         ⟨(some 63), .mov (.t 11), some (61, false)⟩,
         ⟨(some 64), .idx 1 (.t 62) (.t 63), some (61, false)⟩,
         ⟨(some 65), .load none (.t 64), some (61, false)⟩,
         ⟨(some 66), .mov (.t 6), some (61, false)⟩,
         ⟨(some 67), .mov (.t 11), some (61, false)⟩,
         ⟨(some 68), .idx 1 (.t 66) (.t 67), some (61, false)⟩,
         ⟨(some 69), .load none (.t 68), some (61, false)⟩,
         ⟨(some 70), .bin .neq (.t 65) (.t 69), some (61, false)⟩,
         ⟨(some 71), .pick (.t 61) (.c (.v (.bool true))) (.t 70), none⟩,
         ⟨(some 72), .mov (.t 71), none⟩,
         ⟨(some 73), .mov (.t 6), some (72, false)⟩,
         ⟨(some 74), .mov (.t 11), some (72, false)⟩,
         ⟨(some 75), .idx 1 (.t 73) (.t 74), some (72, false)⟩,
         ⟨(some 76), .load none (.t 75), some (72, false)⟩,
         ⟨(some 77), .bin .geq (.t 76) (.c (.v (.int .i64 0))), some (72, false)⟩,
         ⟨(some 78), .mov (.t 77), some (72, false)⟩,
         ⟨(some 79), .mov (.t 4), some (78, true)⟩,
         ⟨(some 80), .mov (.t 6), some (78, true)⟩,
         ⟨(some 81), .mov (.t 11), some (78, true)⟩,
         ⟨(some 82), .idx 1 (.t 80) (.t 81), some (78, true)⟩,
         ⟨(some 83), .load none (.t 82), some (78, true)⟩,
         ⟨(some 84), .mov (.t 11), some (78, true)⟩,
         ⟨(some 85), .call 12 [(.t 79), (.t 83), (.t 84)], some (78, true)⟩,
         ⟨(some 86), .bin .neq (.t 85) (.c (.v (.int .i64 8))), some (78, true)⟩,
         ⟨(some 87), .pick (.t 78) (.t 86) (.c (.v (.bool false))), some (72, false)⟩,
         ⟨(some 88), .pick (.t 72) (.c (.v (.bool true))) (.t 87), none⟩] (.take 0 [0, 1, 4, 5, 6, 7, 8, 9, 10, 11, 12, 13, 14, 15, 16, 17, 18, 19, 20, 21, 22, 31, 32, 23, 24, 25, 26, 27, 28, 29, 30] (.take 1 [1, 4, 5, 6, 7, 8, 9, 10, 11, 12, 13, 14, 15, 16, 17, 18, 19, 20, 21, 22, 31, 32, 23, 24, 25, 26, 27, 28, 29, 30] (.take 2 [2, 3, 4, 5, 6, 7, 8, 9, 10, 11, 12, 13, 14, 15, 16, 17, 18, 19, 20, 21, 22, 31, 32, 23, 24, 25, 26, 27, 28, 29, 30] (.take 3 [3, 4, 5, 6, 7, 8, 9, 10, 11, 12, 13, 14, 15, 16, 17, 18, 19, 20, 21, 22, 31, 32, 23, 24, 25, 26, 27, 28, 29, 30] (.take 4 [4, 5, 6, 7, 8, 9, 10, 11, 12, 13, 14, 15, 16, 17, 18, 19, 20, 21, 22, 31, 32, 23, 24, 25, 26, 27, 28, 29, 30] (.take 5 [5, 6, 7, 8, 9, 10, 11, 12, 13, 14, 15, 16, 17, 18, 19, 20, 21, 22, 31, 32, 23, 24, 25, 26, 27, 28, 29, 30] (.take 6 [6, 8, 9, 14, 15, 16, 17, 18, 19, 20, 21, 22, 31, 32, 23, 24, 25, 26, 27, 28, 29, 30] (.take 7 [7, 8, 9, 14, 15, 16, 17, 18, 19, 20, 21, 22, 31, 32, 23, 24, 25, 26, 27, 28, 29, 30] (.take 8 [8, 9, 14, 15, 16, 17, 18, 19, 20, 21, 22, 31, 32, 23, 24, 25, 26, 27, 28, 29, 30] (.take 9 [9, 14, 15, 16, 17, 18, 19, 20, 21, 22, 31, 32, 23, 24, 25, 26, 27, 28, 29, 30] (.take 10 [10, 12, 13, 14, 15, 16, 17, 18, 19, 20, 21, 22, 31, 32, 23, 24, 25, 26, 27, 28, 29, 30] (.take 11 [11, 12, 13, 14, 15, 16, 17, 18, 19, 20, 21, 22, 31, 32, 23, 24, 25, 26, 27, 28, 29, 30] (.take 12 [12, 13, 14, 15, 16, 17, 18, 19, 20, 21, 22, 31, 32, 23, 24, 25, 26, 27, 28, 29, 30] (.take 13 [13, 14, 15, 16, 17, 18, 19, 20, 21, 22, 31, 32, 23, 24, 25, 26, 27, 28, 29, 30] (.take 14 [14, 15, 16, 17, 18, 19, 20, 21, 22, 31, 32, 23, 24, 25, 26, 27, 28, 29, 30] (.take 15 [15, 16, 17, 18, 19, 20, 21, 22, 31, 32, 23, 24, 25, 26, 27, 28, 29, 30] (.take 16 [16, 17, 18, 19, 20, 21, 22, 31, 32, 23, 24, 25, 26, 27, 28, 29, 30] (.take 17 [17, 19, 20, 21, 22, 23, 24, 25, 26, 27, 28, 29, 30, 31, 32] (.take 18 [18, 19, 20, 21, 22, 23, 24, 25, 26, 27, 28, 29, 30, 31, 32] (.take 19 [19, 20, 21, 22, 23, 24, 25, 26, 27, 28, 29, 30, 31, 32] (.take 20 [20, 21, 22, 23, 24, 25, 26, 27, 28, 29, 30, 31, 32] (.take 21 [21, 22, 23, 24, 25, 26, 27, 28, 29, 30, 31, 32] (.take 22 [22, 23, 24, 25, 26, 27, 28, 29, 30, 31, 32] (.take 23 [23, 29, 30, 31, 32] (.take 24 [24, 26, 27, 29, 30, 31, 32] (.take 25 [25, 26, 27, 29, 30, 31, 32] (.take 26 [26, 27, 29, 30, 31, 32] (.take 27 [27, 29, 30, 31, 32] (.take 28 [28, 29, 30, 31, 32] (.eff true 29 (.take 30 [30, 31, 32] (.take 31 [31, 32] (.take 32 [32] .done))))))))))))))))))))))))))))))))))
       (.cond (.t 88)
        (.seq (.ops false [⟨(some 2), .mov (.c (.v (.bool false))), none⟩] .done)
         .ret)
        .skip)))
     (.ops false [⟨(some 54), .mov (.t 11), none⟩,
      ⟨(some 55), .bin .add (.t 54) (.c (.v (.int .i64 1))), none⟩,
      ⟨(some 11), .mov (.t 55), none⟩] .done))))))
  (.seq (.ops false [⟨(some 2), .mov (.c (.v (.bool true))), none⟩] .done)
  .ret)))))))))))⟩
theorem pf7_eq : (Try.f7.body.map fun c => (cfn Try.prog pl7 Try.f7 c, guardsAll pl7 c)) = some (pf7, true) := by kernel_rfl

/-- corral/corrallaw13.first  sizes [(2, 10)] -/
def pl8 : Nat → DT := dtGet [(2, (.take 0 [0, 1, 8, 2, 7] (.take 1 [1, 2, 8, 7] (.take 2 [2, 7, 8] (.take 3 [3, 7, 8] (.take 4 [4, 5, 8, 6, 7] (.take 5 [5, 6, 8, 7] (.take 6 [6, 7, 8] (.eff true 7 (.take 8 [8] .done))))))))))]
def pf8 : PFn := ⟨22, [.t 0], (.seq (.ops false [⟨(some 0), .mov (.c (.v (.bool false))), none⟩] .done)
  (.seq (.ops false [⟨(some 3), .build [(.v (.int .i64 0)), (.v (.int .i64 0)), (.v (.int .u32 0)), (.v (.int .u32 0)), (.v (.int .u32 0)), (.v (.bool false)), (.v (.bool false)), (.v (.bool false)), (.v (.int .i64 0)), (.v (.int .i64 0)), (.v (.slice none 0 0)), (.v (.slice none 0 0)), (.v (.slice none 0 0))] [(0, 1, (.c (.v (.int .i64 1)))), (1, 1, (.c (.v (.int .i64 4))))], none⟩,
    ⟨(some 4), .build [(.v (.int .i64 0)), (.v (.int .i64 0)), (.v (.int .u32 0)), (.v (.int .u32 0)), (.v (.int .u32 0)), (.v (.bool false)), (.v (.bool false)), (.v (.bool false)), (.v (.int .i64 0)), (.v (.int .i64 0)), (.v (.slice none 0 0)), (.v (.slice none 0 0)), (.v (.slice none 0 0))] [(0, 1, (.c (.v (.int .i64 2)))), (1, 1, (.c (.v (.int .i64 4)))), (2, 1, (.c (.v (.int .u32 4))))], none⟩,
    ⟨(some 5), .bslice 30 [.int .i64, .int .i64, .int .u32, .int .u32, .int .u32, .bool, .bool, .bool, .int .i64, .int .i64, .sl, .sl, .sl] 2 [(.v (.int .i64 0)), (.v (.int .i64 0)), (.v (.int .u32 0)), (.v (.int .u32 0)), (.v (.int .u32 0)), (.v (.bool false)), (.v (.bool false)), (.v (.bool false)), (.v (.int .i64 0)), (.v (.int .i64 0)), (.v (.slice none 0 0)), (.v (.slice none 0 0)), (.v (.slice none 0 0)), (.v (.int .i64 0)), (.v (.int .i64 0)), (.v (.int .u32 0)), (.v (.int .u32 0)), (.v (.int .u32 0)), (.v (.bool false)), (.v (.bool false)), (.v (.bool false)), (.v (.int .i64 0)), (.v (.int .i64 0)), (.v (.slice none 0 0)), (.v (.slice none 0 0)), (.v (.slice none 0 0))] [(0, 13, (.t 3)), (13, 13, (.t 4))], none⟩,
    ⟨(some 1), .mov (.t 5), none⟩] .done)
  (.seq (.ops true [⟨(some 6), .mov (.t 1), none⟩,
    ⟨(some 7), .idx 13 (.t 6) (.c (.v (.int .i64 0))), none⟩,
    ⟨(some 8), .load (some 13) (.t 7), none⟩,
    ⟨(some 9), .build [(.v (.int .i64 0)), (.v (.int .i64 0)), (.v (.int .u32 0)), (.v (.int .u32 0)), (.v (.int .u32 0)), (.v (.bool false)), (.v (.bool false)), (.v (.bool false)), (.v (.int .i64 0)), (.v (.int .i64 0)), (.v (.slice none 0 0)), (.v (.slice none 0 0)), (.v (.slice none 0 0))] [(0, 1, (.c (.v (.int .i64 4)))), (8, 1, (.c (.v (.int .i64 1)))), (9, 1, (.c (.v (.int .i64 2))))], none⟩,
    ⟨(some 10), .mov (.t 1), none⟩,
    ⟨(some 11), .idx 13 (.t 10) (.c (.v (.int .i64 1))), none⟩,
    ⟨(some 12), .load (some 13) (.t 11), none⟩,
    ⟨(some 13), .bslice 30 [.int .i64, .int .i64, .int .u32, .int .u32, .int .u32, .bool, .bool, .bool, .int .i64, .int .i64, .sl, .sl, .sl] 3 [(.v (.int .i64 0)), (.v (.int .i64 0)), (.v (.int .u32 0)), (.v (.int .u32 0)), (.v (.int .u32 0)), (.v (.bool false)), (.v (.bool false)), (.v (.bool false)), (.v (.int .i64 0)), (.v (.int .i64 0)), (.v (.slice none 0 0)), (.v (.slice none 0 0)), (.v (.slice none 0 0)), (.v (.int .i64 0)), (.v (.int .i64 0)), (.v (.int .u32 0)), (.v (.int .u32 0)), (.v (.int .u32 0)), (.v (.bool false)), (.v (.bool false)), (.v (.bool false)), (.v (.int .i64 0)), (.v (.int .i64 0)), (.v (.slice none 0 0)), (.v (.slice none 0 0)), (.v (.slice none 0 0)), (.v (.int .i64 0)), (.v (.int .i64 0)), (.v (.int .u32 0)), (.v (.int .u32 0)), (.v (.int .u32 0)), (.v (.bool false)), (.v (.bool false)), (.v (.bool false)), (.v (.int .i64 0)), (.v (.int .i64 0)), (.v (.slice none 0 0)), (.v (.slice none 0 0)), (.v (.slice none 0 0))] [(0, 13, (.t 8)), (13, 13, (.t 9)), (26, 13, (.t 12))], none⟩,
    ⟨(some 2), .mov (.t 13), none⟩] (.take 0 [0, 1, 8, 2, 7] (.take 1 [1, 2, 8, 7] (.take 2 [2, 7, 8] (.take 3 [3, 7, 8] (.take 4 [4, 5, 8, 6, 7] (.take 5 [5, 6, 8, 7] (.take 6 [6, 7, 8] (.eff true 7 (.take 8 [8] .done))))))))))
  (.seq (.ops false [⟨(some 14), .mov (.t 1), none⟩,
    ⟨(some 15), .call 12 [(.t 14), (.c (.v (.int .i64 0))), (.c (.v (.int .i64 1)))], none⟩,
    ⟨(some 16), .bin .eql (.t 15) (.c (.v (.int .i64 0))), none⟩,
    ⟨(some 17), .mov (.t 16), none⟩,
    ⟨(some 18), .mov (.t 2), some (17, true)⟩,
    ⟨(some 19), .call 12 [(.t 18), (.c (.v (.int .i64 0))), (.c (.v (.int .i64 2)))], some (17, true)⟩,
    ⟨(some 20), .bin .eql (.t 19) (.c (.v (.int .i64 4))), some (17, true)⟩,
    ⟨(some 21), .pick (.t 17) (.t 20) (.c (.v (.bool false))), none⟩,
    ⟨(some 0), .mov (.t 21), none⟩] .done)
  .ret))))⟩
theorem pf8_eq : (Try.f8.body.map fun c => (cfn Try.prog pl8 Try.f8 c, guardsAll pl8 c)) = some (pf8, true) := by kernel_rfl

/-- corral/corrallaw13.fit  sizes [] -/
def pl9 : Nat → DT := dtGet []
def pf9 : PFn := ⟨37, [.t 2], (.seq (.ops false [⟨(some 2), .mov (.c (.v (.bool false))), none⟩] .done)
  (.seq (.seq (.ops false [⟨(some 3), .mov (.c (.v (.int .i64 0))), none⟩] .done)
   (.block 0 (.loop (.seq (.seq (.ops false [⟨(some 5), .mov (.t 3), none⟩,
        ⟨(some 6), .mov (.t 0), none⟩,
        ⟨(some 7), .len (.t 6), none⟩,
        ⟨(some 8), .bin .lss (.t 5) (.t 7), none⟩] .done)
      (.cond (.t 8)
       .skip
       (.exit 0)))
     (.seq (.block 1 (.seq (.ops false [⟨(some 11), .mov (.t 0), none⟩,
         ⟨(some 12), .mov (.t 3), none⟩,
         ⟨(some 13), .idx 13 (.t 11) (.t 12), none⟩,
         ⟨(some 14), .fld 1 (.t 13), none⟩,
         ⟨(some 15), .load none (.t 14), none⟩,
         ⟨(some 4), .mov (.t 15), none⟩] .done)
       (.seq (.ops false [⟨(some 16), .mov (.t 0), none⟩,
         ⟨(some 17), .mov (.t 3), none⟩,
         ⟨(some 18), .idx 13 (.t 16) (.t 17), none⟩,
         ⟨(some 19), .fld 0 (.t 18), none⟩,
         ⟨(some 20), .load none (.t 19), none⟩,
         ⟨(some 21), .bin .neq (.t 20) (.c (.v (.int .i64 4))), none⟩,
         ⟨(some 22), .mov (.t 21), none⟩,
         ⟨(some 23), .mov (.t 4), some (22, true)⟩,
         ⟨(some 24), .bin .neq (.t 23) (.c (.v (.int .i64 1))), some (22, true)⟩,
         ⟨(some 25), .pick (.t 22) (.t 24) (.c (.v (.bool false))), none⟩,
         ⟨(some 26), .mov (.t 25), none⟩,
         ⟨(some 27), .mov (.t 4), some (26, true)⟩,
         ⟨(some 28), .bin .neq (.t 27) (.c (.v (.int .i64 2))), some (26, true)⟩,
         ⟨(some 29), .pick (.t 26) (.t 28) (.c (.v (.bool false))), none⟩,
         ⟨(some 30), .mov (.t 29), none⟩,
         ⟨(some 31), .mov (.t 4), some (30, true)⟩,
         ⟨(some 32), .bin .neq (.t 31) (.c (.v (.int .i64 4))), some (30, true)⟩,
         ⟨(some 33), .pick (.t 30) (.t 32) (.c (.v (.bool false))), none⟩] .done)
       (.cond (.t 33)
        (.seq (.ops false [⟨(some 2), .mov (.c (.v (.bool false))), none⟩] .done)
         .ret)
        .skip))))
     (.ops false [⟨(some 9), .mov (.t 3), none⟩,
      ⟨(some 10), .bin .add (.t 9) (.c (.v (.int .i64 1))), none⟩,
      ⟨(some 3), .mov (.t 10), none⟩] .done))))))
  (.seq (.ops false [⟨(some 34), .mov (.t 0), none⟩,
    ⟨(some 35), .bslice 22 [.sl] 1 [(.v (.slice none 0 0))] [(0, 1, (.t 34))], none⟩,
    ⟨(some 36), .call 14 [(.t 35), (.c (.v (.int .i64 40)))], none⟩,
    ⟨(some 2), .mov (.t 36), none⟩] .done)
  .ret)))⟩
theorem pf9_eq : (Try.f9.body.map fun c => (cfn Try.prog pl9 Try.f9 c, guardsAll pl9 c)) = some (pf9, true) := by kernel_rfl

/-- corral/corralworld.Number  sizes [] -/
def pl10 : Nat → DT := dtGet []
def pf10 : PFn := ⟨12, [.t 4], (.seq (.ops false [⟨(some 4), .mov (.c (.v (.int .i64 0))), none⟩] .done)
  (.seq (.ops false [⟨(some 5), .mov (.t 0), none⟩,
    ⟨(some 6), .mov (.t 1), none⟩,
    ⟨(some 7), .bin .rem (.t 5) (.t 6), none⟩,
    ⟨(some 8), .mov (.t 1), none⟩,
    ⟨(some 9), .bin .add (.t 7) (.t 8), none⟩,
    ⟨(some 10), .mov (.t 1), none⟩,
    ⟨(some 11), .bin .rem (.t 9) (.t 10), none⟩,
    ⟨(some 4), .mov (.t 11), none⟩] .done)
  .ret))⟩
theorem pf10_eq : (Try.f10.body.map fun c => (cfn Try.prog pl10 Try.f10 c, guardsAll pl10 c)) = some (pf10, true) := by kernel_rfl

/-- corral/corralref.Ops  sizes [] -/
def pl11 : Nat → DT := dtGet []
def pf11 : PFn := ⟨23, [.t 2], (.seq (.ops false [⟨(some 2), .mov (.c (.v (.slice none 0 0))), none⟩] .done)
  (.seq (.ops false [⟨(some 5), .mov (.t 0), none⟩,
    ⟨(some 6), .len (.t 5), none⟩,
    ⟨(some 7), .mslice 30 [.int .i64, .int .i64, .int .u32, .int .u32, .int .u32, .bool, .bool, .bool, .int .i64, .int .i64, .sl, .sl, .sl] [(.int .i64 0), (.int .i64 0), (.int .u32 0), (.int .u32 0), (.int .u32 0), (.bool false), (.bool false), (.bool false), (.int .i64 0), (.int .i64 0), (.slice none 0 0), (.slice none 0 0), (.slice none 0 0)] 120 (.c (.v (.int .i64 0))) (.t 6), none⟩,
    ⟨(some 3), .mov (.t 7), none⟩] .done)
  (.seq (.seq (.ops false [⟨(some 4), .mov (.c (.v (.int .i64 0))), none⟩] .done)
   (.block 0 (.loop (.seq (.seq (.ops false [⟨(some 8), .mov (.t 4), none⟩,
        ⟨(some 9), .mov (.t 0), none⟩,
        ⟨(some 10), .len (.t 9), none⟩,
        ⟨(some 11), .bin .lss (.t 8) (.t 10), none⟩] .done)
      (.cond (.t 11)
       .skip
       (.exit 0)))
     (.seq (.block 1 (.ops false [⟨(some 14), .mov (.t 3), none⟩,
        ⟨(some 15), .mov (.t 0), none⟩,
        ⟨(some 16), .mov (.t 4), none⟩,
        ⟨(some 17), .idx 13 (.t 15) (.t 16), none⟩,
        ⟨(some 18), .load (some 13) (.t 17), none⟩,
        ⟨(some 19), .call 15 [(.t 18)], none⟩,
        ⟨(some 20), .bslice 30 [.int .i64, .int .i64, .int .u32, .int .u32, .int .u32, .bool, .bool, .bool, .int .i64, .int .i64, .sl, .sl, .sl] 1 [(.v (.int .i64 0)), (.v (.int .i64 0)), (.v (.int .u32 0)), (.v (.int .u32 0)), (.v (.int .u32 0)), (.v (.bool false)), (.v (.bool false)), (.v (.bool false)), (.v (.int .i64 0)), (.v (.int .i64 0)), (.v (.slice none 0 0)), (.v (.slice none 0 0)), (.v (.slice none 0 0))] [(0, 13, (.t 19))], none⟩,
        ⟨(some 21), .append 30 [.int .i64, .int .i64, .int .u32, .int .u32, .int .u32, .bool, .bool, .bool, .int .i64, .int .i64, .sl, .sl, .sl] [(.int .i64 0), (.int .i64 0), (.int .u32 0), (.int .u32 0), (.int .u32 0), (.bool false), (.bool false), (.bool false), (.int .i64 0), (.int .i64 0), (.slice none 0 0), (.slice none 0 0), (.slice none 0 0)] 120 (.t 14) (.t 20), none⟩,
        ⟨(some 3), .mov (.t 21), none⟩] .done))
     (.ops false [⟨(some 12), .mov (.t 4), none⟩,
      ⟨(some 13), .bin .add (.t 12) (.c (.v (.int .i64 1))), none⟩,
      ⟨(some 4), .mov (.t 13), none⟩] .done))))))
  (.seq (.ops false [⟨(some 22), .mov (.t 3), none⟩,
    ⟨(some 2), .mov (.t 22), none⟩] .done)
  .ret))))⟩
theorem pf11_eq : (Try.f11.body.map fun c => (cfn Try.prog pl11 Try.f11 c, guardsAll pl11 c)) = some (pf11, true) := by kernel_rfl

/-- corral/ppo.Why  sizes [] -/
def pl12 : Nat → DT := dtGet []
def pf12 : PFn := ⟨26, [.t 6], (.seq (.ops false [⟨(some 6), .mov (.c (.v (.int .i64 0))), none⟩] .done)
  (.seq (.seq (.ops false [⟨(some 7), .mov (.t 1), none⟩,
     ⟨(some 8), .bin .lss (.t 7) (.c (.v (.int .i64 0))), none⟩,
     ⟨(some 9), .mov (.t 8), none⟩,
     ⟨(some 10), .mov (.t 1), some (9, false)⟩,
     ⟨(some 11), .mov (.t 2), some (9, false)⟩,
     ⟨(some 12), .bin .geq (.t 10) (.t 11), some (9, false)⟩,
     ⟨(some 13), .pick (.t 9) (.c (.v (.bool true))) (.t 12), none⟩,
     ⟨(some 14), .mov (.t 13), none⟩,
     ⟨(some 15), .mov (.t 2), some (14, false)⟩,
     ⟨(some 16), .mov (.t 0), some (14, false)⟩,
     ⟨(some 17), .len (.t 16), some (14, false)⟩,
     ⟨(some 18), .bin .geq (.t 15) (.t 17), some (14, false)⟩,
     ⟨(some 19), .pick (.t 14) (.c (.v (.bool true))) (.t 18), none⟩] .done)
   (.cond (.t 19)
    (.seq (.ops false [⟨(some 6), .mov (.c (.v (.int .i64 0))), none⟩] .done)
     .ret)
    .skip))
  (.seq (.ops false [⟨(some 20), .mov (.t 0), none⟩,
    ⟨(some 21), .mov (.t 0), none⟩,
    ⟨(some 22), .call 13 [(.t 21)], none⟩,
    ⟨(some 23), .mov (.t 1), none⟩,
    ⟨(some 24), .mov (.t 2), none⟩,
    ⟨(some 25), .call 16 [(.t 20), (.t 22), (.t 23), (.t 24)], none⟩,
    ⟨(some 6), .mov (.t 25), none⟩] .done)
  .ret)))⟩
theorem pf12_eq : (Try.f12.body.map fun c => (cfn Try.prog pl12 Try.f12 c, guardsAll pl12 c)) = some (pf12, true) := by kernel_rfl

/-- corral/ppo.Pairs  sizes [] -/
def pl13 : Nat → DT := dtGet []
def pf13 : PFn := ⟨45, [.t 2], (.seq (.ops false [⟨(some 2), .mov (.c (.v (.slice none 0 0))), none⟩] .done)
  (.seq (.ops false [⟨(some 7), .mov (.t 0), none⟩,
    ⟨(some 8), .len (.t 7), none⟩,
    ⟨(some 9), .mslice 3 [.int .i64] [(.int .i64 0)] 8 (.t 8) (.t 8), none⟩,
    ⟨(some 3), .mov (.t 9), none⟩] .done)
  (.seq (.ops false [⟨(some 4), .mov (.c (.v (.int .i64 (-1)))), none⟩] .done)
  (.seq (.seq (.ops false [⟨(some 10), .mov (.t 0), none⟩,
     ⟨(some 11), .len (.t 10), none⟩,
     ⟨(some 12), .mov (.c (.v (.int .i64 0))), none⟩] .done)
   (.block 0 (.loop (.seq (.ops false [⟨(some 13), .bin .lss (.t 12) (.t 11), none⟩] .done)
     (.seq (.cond (.t 13)
       .skip
       (.exit 0))
     (.seq (.block 1 (.seq (.ops false [⟨(some 14), .mov (.t 12), none⟩,
         ⟨(some 15), .idx 13 (.t 10) (.t 12), none⟩,
         ⟨(some 16), .load (some 13) (.t 15), none⟩,
         ⟨(some 6), .box 30 (.c (.agg [(.v (.int .i64 0)), (.v (.int .i64 0)), (.v (.int .u32 0)), (.v (.int .u32 0)), (.v (.int .u32 0)), (.v (.bool false)), (.v (.bool false)), (.v (.bool false)), (.v (.int .i64 0)), (.v (.int .i64 0)), (.v (.slice none 0 0)), (.v (.slice none 0 0)), (.v (.slice none 0 0))])), none⟩,
         ⟨(some 5), .mov (.t 14), none⟩,
         ⟨none, .store 13 (.t 6) (.t 16), none⟩] .done)
       (.seq (.ops false [⟨(some 17), .mov (.t 3), none⟩,
         ⟨(some 18), .mov (.t 5), none⟩,
         ⟨(some 19), .idx 1 (.t 17) (.t 18), none⟩,
         ⟨none, .store 1 (.t 19) (.c (.v (.int .i64 (-1)))), none⟩] .done)
       (.seq (.seq (.ops false [⟨(some 20), .fld 5 (.t 6), none⟩,
          ⟨(some 21), .load none (.t 20), none⟩,
          ⟨(some 22), .un .not (.t 21), none⟩] .done)
        (.cond (.t 22)
         (.exit 1)
         .skip))
       (.seq (.seq (.ops false [⟨(some 23), .fld 0 (.t 6), none⟩,
          ⟨(some 24), .load none (.t 23), none⟩,
          ⟨(some 25), .bin .eql (.t 24) (.c (.v (.int .i64 2))), none⟩,
          ⟨(some 26), .mov (.t 25), none⟩,
          ⟨(some 27), .mov (.t 4), some (26, true)⟩,
          ⟨(some 28), .bin .geq (.t 27) (.c (.v (.int .i64 0))), some (26, true)⟩,
          ⟨(some 29), .pick (.t 26) (.t 28) (.c (.v (.bool false))), none⟩,
          ⟨(some 30), .mov (.t 29), none⟩,
          ⟨(some 31), .mov (.t 0), some (30, true)⟩,
          ⟨(some 32), .mov (.t 4), some (30, true)⟩,
          ⟨(some 33), .idx 13 (.t 31) (.t 32), some (30, true)⟩,
          ⟨(some 34), .fld 0 (.t 33), some (30, true)⟩,
          ⟨(some 35), .load none (.t 34), some (30, true)⟩,
          ⟨(some 36), .bin .eql (.t 35) (.c (.v (.int .i64 1))), some (30, true)⟩,
          ⟨(some 37), .pick (.t 30) (.t 36) (.c (.v (.bool false))), none⟩] .done)
        (.cond (.t 37)
         (.ops false [⟨(some 38), .mov (.t 3), none⟩,
           ⟨(some 39), .mov (.t 5), none⟩,
           ⟨(some 40), .mov (.t 4), none⟩,
           ⟨(some 41), .idx 1 (.t 38) (.t 39), none⟩,
           ⟨none, .store 1 (.t 41) (.t 40), none⟩] .done)
         .skip))
       (.ops false [⟨(some 42), .mov (.t 5), none⟩,
        ⟨(some 4), .mov (.t 42), none⟩] .done))))))
     (.ops false [⟨(some 43), .bin .add (.t 12) (.c (.v (.int .i64 1))), none⟩,
      ⟨(some 12), .mov (.t 43), none⟩] .done)))))))
  (.seq (.ops false [⟨(some 44), .mov (.t 3), none⟩,
    ⟨(some 2), .mov (.t 44), none⟩] .done)
  .ret)))))⟩
theorem pf13_eq : (Try.f13.body.map fun c => (cfn Try.prog pl13 Try.f13 c, guardsAll pl13 c)) = some (pf13, true) := by kernel_rfl

/-- corral/corralworld.Ops  sizes [] -/
def pl14 : Nat → DT := dtGet []
def pf14 : PFn := ⟨71, [.t 4], (.seq (.ops false [⟨(some 4), .mov (.c (.v (.bool false))), none⟩] .done)
  (.seq (.ops false [⟨(some 5), .mov (.c (.v (.int .i64 0))), none⟩] .done)
  (.seq (.seq (.ops false [⟨(some 6), .mov (.c (.v (.int .i64 0))), none⟩] .done)
   (.block 0 (.loop (.seq (.seq (.ops false [⟨(some 9), .mov (.t 6), none⟩,
        ⟨(some 10), .mov (.t 0), none⟩,
        ⟨(some 11), .len (.t 10), none⟩,
        ⟨(some 12), .bin .lss (.t 9) (.t 11), none⟩,
        ⟨(some 13), .mov (.t 12), none⟩,
        ⟨(some 14), .mov (.t 6), some (13, true)⟩,
        ⟨(some 15), .bin .leq (.t 14) (.c (.v (.int .i64 70))), some (13, true)⟩,
        ⟨(some 16), .pick (.t 13) (.t 15) (.c (.v (.bool false))), none⟩] .done)
      (.cond (.t 16)
       .skip
       (.exit 0)))
     (.seq (.block 1 (.seq (.ops false [⟨(some 19), .mov (.t 5), none⟩,
         ⟨(some 20), .mov (.t 0), none⟩,
         ⟨(some 21), .mov (.t 6), none⟩,
         ⟨(some 22), .idx 1 (.t 20) (.t 21), none⟩,
         ⟨(some 23), .load none (.t 22), none⟩,
         ⟨(some 24), .len (.t 23), none⟩,
         ⟨(some 25), .bin .add (.t 19) (.t 24), none⟩,
         ⟨(some 5), .mov (.t 25), none⟩] .done)
       (.seq (.ops false [⟨(some 7), .mov (.c (.v (.int .i64 0))), none⟩] .done)
       (.block 2 (.loop (.seq (.seq (.ops false [⟨(some 26), .mov (.t 7), none⟩,
            ⟨(some 27), .mov (.t 0), none⟩,
            ⟨(some 28), .mov (.t 6), none⟩,
            ⟨(some 29), .idx 1 (.t 27) (.t 28), none⟩,
            ⟨(some 30), .load none (.t 29), none⟩,
            ⟨(some 31), .len (.t 30), none⟩,
            ⟨(some 32), .bin .lss (.t 26) (.t 31), none⟩,
            ⟨(some 33), .mov (.t 32), none⟩,
            ⟨(some 34), .mov (.t 7), some (33, true)⟩,
            ⟨(some 35), .mov (.t 1), some (33, true)⟩,
            ⟨(some 36), .bin .leq (.t 34) (.t 35), some (33, true)⟩,
            ⟨(some 37), .pick (.t 33) (.t 36) (.c (.v (.bool false))), none⟩] .done)
          (.cond (.t 37)
           .skip
           (.exit 2)))
         (.seq (.block 3 (.seq (.ops false [⟨(some 40), .mov (.t 0), none⟩,
             ⟨(some 41), .mov (.t 6), none⟩,
             ⟨(some 42), .idx 1 (.t 40) (.t 41), none⟩,
             ⟨(some 43), .load none (.t 42), none⟩,
             ⟨(some 44), .mov (.t 7), none⟩,
             ⟨(some 45), .idx 13 (.t 43) (.t 44), none⟩,
             ⟨(some 46), .load (some 13) (.t 45), none⟩,
             ⟨(some 8), .box 30 (.c (.agg [(.v (.int .i64 0)), (.v (.int .i64 0)), (.v (.int .u32 0)), (.v (.int .u32 0)), (.v (.int .u32 0)), (.v (.bool false)), (.v (.bool false)), (.v (.bool false)), (.v (.int .i64 0)), (.v (.int .i64 0)), (.v (.slice none 0 0)), (.v (.slice none 0 0)), (.v (.slice none 0 0))])), none⟩,
             ⟨none, .store 13 (.t 8) (.t 46), none⟩] .done)
           (.seq (.ops false [⟨(some 47), .fld 10 (.t 8), none⟩,
             ⟨(some 48), .load none (.t 47), none⟩,
             ⟨(some 49), .len (.t 48), none⟩,
             ⟨(some 50), .bin .gtr (.t 49) (.c (.v (.int .i64 40))), none⟩,
             ⟨(some 51), .mov (.t 50), none⟩,
             ⟨(some 52), .fld 11 (.t 8), some (51, false)⟩,
             ⟨(some 53), .load none (.t 52), some (51, false)⟩,
             ⟨(some 54), .len (.t 53), some (51, false)⟩,
             ⟨(some 55), .bin .gtr (.t 54) (.c (.v (.int .i64 40))), some (51, false)⟩,
             ⟨(some 56), .pick (.t 51) (.c (.v (.bool true))) (.t 55), none⟩,
             ⟨(some 57), .mov (.t 56), none⟩,
             ⟨(some 58), .fld 12 (.t 8), some (57, false)⟩,
             ⟨(some 59), .load none (.t 58), some (57, false)⟩,
             ⟨(some 60), .len (.t 59), some (57, false)⟩,
             ⟨(some 61), .bin .gtr (.t 60) (.c (.v (.int .i64 40))), some (57, false)⟩,
             ⟨(some 62), .pick (.t 57) (.c (.v (.bool true))) (.t 61), none⟩] .done)
           (.cond (.t 62)
            (.seq (.ops false [⟨(some 4), .mov (.c (.v (.bool false))), none⟩] .done)
             .ret)
            .skip))))
         (.ops false [⟨(some 38), .mov (.t 7), none⟩,
          ⟨(some 39), .bin .add (.t 38) (.c (.v (.int .i64 1))), none⟩,
          ⟨(some 7), .mov (.t 39), none⟩] .done))))))))
     (.ops false [⟨(some 17), .mov (.t 6), none⟩,
      ⟨(some 18), .bin .add (.t 17) (.c (.v (.int .i64 1))), none⟩,
      ⟨(some 6), .mov (.t 18), none⟩] .done))))))
  (.seq (.ops false [⟨(some 63), .mov (.t 0), none⟩,
    ⟨(some 64), .len (.t 63), none⟩,
    ⟨(some 65), .bin .leq (.t 64) (.c (.v (.int .i64 70))), none⟩,
    ⟨(some 66), .mov (.t 65), none⟩,
    ⟨(some 67), .mov (.t 5), some (66, true)⟩,
    ⟨(some 68), .mov (.t 1), some (66, true)⟩,
    ⟨(some 69), .bin .leq (.t 67) (.t 68), some (66, true)⟩,
    ⟨(some 70), .pick (.t 66) (.t 69) (.c (.v (.bool false))), none⟩,
    ⟨(some 4), .mov (.t 70), none⟩] .done)
  .ret))))⟩
theorem pf14_eq : (Try.f14.body.map fun c => (cfn Try.prog pl14 Try.f14 c, guardsAll pl14 c)) = some (pf14, true) := by kernel_rfl

/-- corral/corralref.Op  sizes [(1, 32)] -/
def pl15 : Nat → DT := dtGet [(1, (.take 0 [0, 1, 30, 29] (.take 1 [1, 29, 30] (.take 2 [2, 3, 30, 29] (.take 3 [3, 29, 30] (.take 4 [4, 5, 30, 29] (.take 5 [5, 29, 30] (.take 6 [6, 7, 30, 29] (.take 7 [7, 29, 30] (.take 8 [8, 9, 30, 29] (.take 9 [9, 29, 30] (.take 10 [10, 11, 30, 29] (.take 11 [11, 29, 30] (.take 12 [12, 13, 30, 29] (.take 13 [13, 29, 30] (.take 14 [14, 15, 30, 29] (.take 15 [15, 29, 30] (.take 16 [16, 17, 30, 29] (.take 17 [17, 29, 30] (.take 18 [18, 19, 30, 29] (.take 19 [19, 29, 30] (.take 20 [20, 21, 30, 22, 25, 29, 28] (.take 21 [21, 22, 30, 25, 29, 28] (.take 23 [23, 24, 30, 25, 28, 29] (.take 24 [24, 25, 30, 28, 29] (.take 26 [26, 27, 30, 28, 29] (.take 27 [27, 28, 30, 29] (.eff true 22 (.eff true 25 (.eff true 28 (.take 29 [29, 30] (.eff false 30 .done))))))))))))))))))))))))))))))))]
def pf15 : PFn := ⟨33, [.cell 2 (some 13)], (.seq (.ops false [⟨(some 1), .box 30 (.t 0), none⟩,
    ⟨(some 2), .box 30 (.c (.agg [(.v (.int .i64 0)), (.v (.int .i64 0)), (.v (.int .u32 0)), (.v (.int .u32 0)), (.v (.int .u32 0)), (.v (.bool false)), (.v (.bool false)), (.v (.bool false)), (.v (.int .i64 0)), (.v (.int .i64 0)), (.v (.slice none 0 0)), (.v (.slice none 0 0)), (.v (.slice none 0 0))])), none⟩] .done)
  (.seq (.ops true [⟨(some 3), .fld 0 (.t 1), none⟩,
    ⟨(some 4), .load none (.t 3), none⟩,
    ⟨(some 5), .fld 1 (.t 1), none⟩,
    ⟨(some 6), .load none (.t 5), none⟩,
    ⟨(some 7), .fld 2 (.t 1), none⟩,
    ⟨(some 8), .load none (.t 7), none⟩,
    ⟨(some 9), .fld 3 (.t 1), none⟩,
    ⟨(some 10), .load none (.t 9), none⟩,
    ⟨(some 11), .fld 4 (.t 1), none⟩,
    ⟨(some 12), .load none (.t 11), none⟩,
    ⟨(some 13), .fld 5 (.t 1), none⟩,
    ⟨(some 14), .load none (.t 13), none⟩,
    ⟨(some 15), .fld 6 (.t 1), none⟩,
    ⟨(some 16), .load none (.t 15), none⟩,
    ⟨(some 17), .fld 7 (.t 1), none⟩,
    ⟨(some 18), .load none (.t 17), none⟩,
    ⟨(some 19), .fld 8 (.t 1), none⟩,
    ⟨(some 20), .load none (.t 19), none⟩,
    ⟨(some 21), .fld 9 (.t 1), none⟩,
    ⟨(some 22), .load none (.t 21), none⟩,
    ⟨(some 23), .fld 10 (.t 1), none⟩,
    ⟨(some 24), .load none (.t 23), none⟩,
    ⟨(some 25), .call 17 [(.t 24)], none⟩,
    ⟨(some 26), .fld 11 (.t 1), none⟩,
    ⟨(some 27), .load none (.t 26), none⟩,
    ⟨(some 28), .call 17 [(.t 27)], none⟩,
    ⟨(some 29), .fld 12 (.t 1), none⟩,
    ⟨(some 30), .load none (.t 29), none⟩,
    ⟨(some 31), .call 17 [(.t 30)], none⟩,
    ⟨(some 32), .build [(.v (.int .i64 0)), (.v (.int .i64 0)), (.v (.int .u32 0)), (.v (.int .u32 0)), (.v (.int .u32 0)), (.v (.bool false)), (.v (.bool false)), (.v (.bool false)), (.v (.int .i64 0)), (.v (.int .i64 0)), (.v (.slice none 0 0)), (.v (.slice none 0 0)), (.v (.slice none 0 0))] [(0, 1, (.t 4)), (1, 1, (.t 6)), (2, 1, (.t 8)), (3, 1, (.t 10)), (4, 1, (.t 12)), (5, 1, (.t 14)), (6, 1, (.t 16)), (7, 1, (.t 18)), (8, 1, (.t 20)), (9, 1, (.t 22)), (10, 1, (.t 25)), (11, 1, (.t 28)), (12, 1, (.t 31))], none⟩,
    ⟨none, .store 13 (.t 2) (.t 32), none⟩] (.take 0 [0, 1, 30, 29] (.take 1 [1, 29, 30] (.take 2 [2, 3, 30, 29] (.take 3 [3, 29, 30] (.take 4 [4, 5, 30, 29] (.take 5 [5, 29, 30] (.take 6 [6, 7, 30, 29] (.take 7 [7, 29, 30] (.take 8 [8, 9, 30, 29] (.take 9 [9, 29, 30] (.take 10 [10, 11, 30, 29] (.take 11 [11, 29, 30] (.take 12 [12, 13, 30, 29] (.take 13 [13, 29, 30] (.take 14 [14, 15, 30, 29] (.take 15 [15, 29, 30] (.take 16 [16, 17, 30, 29] (.take 17 [17, 29, 30] (.take 18 [18, 19, 30, 29] (.take 19 [19, 29, 30] (.take 20 [20, 21, 30, 22, 25, 29, 28] (.take 21 [21, 22, 30, 25, 29, 28] (.take 23 [23, 24, 30, 25, 28, 29] (.take 24 [24, 25, 30, 28, 29] (.take 26 [26, 27, 30, 28, 29] (.take 27 [27, 28, 30, 29] (.eff true 22 (.eff true 25 (.eff true 28 (.take 29 [29, 30] (.eff false 30 .done))))))))))))))))))))))))))))))))
  .ret))⟩
theorem pf15_eq : (Try.f15.body.map fun c => (cfn Try.prog pl15 Try.f15 c, guardsAll pl15 c)) = some (pf15, true) := by kernel_rfl

/-- corral/ppo.With  sizes [(1, 20), (2, 2), (5, 2), (7, 2), (9, 2), (17, 2), (25, 2), (27, 2), (29, 2)] -/
def pl16 : Nat → DT := dtGet [(1, (.eff true 1000000 (.take 0 [0, 2, 10, 11, 3] (.take 1 [1, 2, 10, 11, 3] (.take 2 [2, 3, 10, 11] (.take 3 [3, 10, 11] (.take 4 [4, 6, 11, 7] (.take 5 [5, 6, 11, 7] (.take 6 [6, 7, 11] (.take 7 [7, 11] (.both (.eff true 8 (.eff true 9 (.eff false 10 (.eff false 11 .done)))) (.eff true 9 (.eff true 8 (.eff false 10 (.eff false 11 .done))))))))))))))), (2, (.eff true 1000000 .done)), (5, (.eff true 1000000 .done)), (7, (.eff true 1000000 .done)), (9, (.eff true 1000000 .done)), (17, (.eff true 1000000 .done)), (25, (.eff true 1000000 .done)), (27, (.eff true 1000000 .done)), (29, (.eff true 1000000 .done))]
def pf16 : PFn := ⟨145, [.t 8], (.seq (.ops false [⟨(some 8), .mov (.c (.v (.int .i64 0))), none⟩] .done)
  (.seq (.cut (.ops true [⟨(some 12), .mov (.t 0), none⟩,
     ⟨(some 13), .mov (.t 2), none⟩,
     ⟨(some 14), .idx 13 (.t 12) (.t 13), none⟩,
     ⟨(some 15), .load (some 13) (.t 14), none⟩,
     ⟨(some 16), .mov (.t 0), none⟩,
     ⟨(some 17), .mov (.t 3), none⟩,
     ⟨(some 18), .idx 13 (.t 16) (.t 17), none⟩,
     ⟨(some 19), .load (some 13) (.t 18), none⟩,
     ⟨(some 9), .box 30 (.c (.agg [(.v (.int .i64 0)), (.v (.int .i64 0)), (.v (.int .u32 0)), (.v (.int .u32 0)), (.v (.int .u32 0)), (.v (.bool false)), (.v (.bool false)), (.v (.bool false)), (.v (.int .i64 0)), (.v (.int .i64 0)), (.v (.slice none 0 0)), (.v (.slice none 0 0)), (.v (.slice none 0 0))])), none⟩,
     ⟨(some 10), .box 30 (.c (.agg [(.v (.int .i64 0)), (.v (.int .i64 0)), (.v (.int .u32 0)), (.v (.int .u32 0)), (.v (.int .u32 0)), (.v (.bool false)), (.v (.bool false)), (.v (.bool false)), (.v (.int .i64 0)), (.v (.int .i64 0)), (.v (.slice none 0 0)), (.v (.slice none 0 0)), (.v (.slice none 0 0))])), none⟩,
     ⟨none, .store 13 (.t 9) (.t 15), none⟩,
     ⟨none, .store 13 (.t 10) (.t 19), none⟩] (.take 0 [0, 2, 10, 11, 3] (.take 1 [1, 2, 10, 11, 3] (.take 2 [2, 3, 10, 11] (.take 3 [3, 10, 11] (.take 4 [4, 6, 11, 7] (.take 5 [5, 6, 11, 7] (.take 6 [6, 7, 11] (.take 7 [7, 11] (.both (.eff true 8 (.eff true 9 (.eff false 10 (.eff false 11 .done)))) (.eff true 9 (.eff true 8 (.eff false 10 (.eff false 11 .done)))))))))))))))
  (.seq (.seq (.cut (.ops false [⟨(some 20), .fld 0 (.t 9), none⟩,
      ⟨(some 21), .load none (.t 20), none⟩,
      ⟨(some 22), .bin .eql (.t 21) (.c (.v (.int .i64 4))), none⟩,
      ⟨(some 23), .mov (.t 22), none⟩,
      ⟨(some 24), .fld 0 (.t 10), some (23, false)⟩,
      ⟨(some 25), .load none (.t 24), some (23, false)⟩,
      ⟨(some 26), .bin .eql (.t 25) (.c (.v (.int .i64 4))), some (23, false)⟩,
      ⟨(some 27), .pick (.t 23) (.c (.v (.bool true))) (.t 26), none⟩] .done))
   (.cond (.t 27)
    (.seq (.ops false [⟨(some 8), .mov (.c (.v (.int .i64 0))), none⟩] .done)
     .ret)
    .skip))
  (.seq (.ops false [⟨(some 28), .mov (.t 0), none⟩,
    ⟨(some 29), .mov (.t 2), none⟩,
    ⟨(some 30), .bin .add (.t 29) (.c (.v (.int .i64 1))), none⟩,
    ⟨(some 31), .mov (.t 3), none⟩,
    ⟨(some 32), .slice 13 (.t 28) (some (.t 30)) (some (.t 31)) none, none⟩,
    ⟨(some 11), .mov (.t 32), none⟩] .done)
  (.seq (.block 0 (.seq (.cut (.ops false [⟨(some 34), .load (some 13) (.t 10), none⟩,
       ⟨(some 35), .call 18 [(.t 34)], none⟩,
       ⟨(some 36), .mov (.t 35), none⟩,
       ⟨(some 37), .load (some 13) (.t 9), some (36, true)⟩,
       ⟨(some 38), .load (some 13) (.t 10), some (36, true)⟩,
       ⟨(some 39), .bslice 30 [.int .i64, .int .i64, .int .u32, .int .u32, .int .u32, .bool, .bool, .bool, .int .i64, .int .i64, .sl, .sl, .sl] 2 [(.v (.int .i64 0)), (.v (.int .i64 0)), (.v (.int .u32 0)), (.v (.int .u32 0)), (.v (.int .u32 0)), (.v (.bool false)), (.v (.bool false)), (.v (.bool false)), (.v (.int .i64 0)), (.v (.int .i64 0)), (.v (.slice none 0 0)), (.v (.slice none 0 0)), (.v (.slice none 0 0)), (.v (.int .i64 0)), (.v (.int .i64 0)), (.v (.int .u32 0)), (.v (.int .u32 0)), (.v (.int .u32 0)), (.v (.bool false)), (.v (.bool false)), (.v (.bool false)), (.v (.int .i64 0)), (.v (.int .i64 0)), (.v (.slice none 0 0)), (.v (.slice none 0 0)), (.v (.slice none 0 0))] [(0, 13, (.t 37)), (13, 13, (.t 38))], some (36, true)⟩,
       ⟨(some 40), .call 19 [(.t 39)], some (36, true)⟩,
       ⟨(some 41), .pick (.t 36) (.t 40) (.c (.v (.bool false))), none⟩,
       ⟨(some 33), .mov (.t 41), none⟩] .done))
    (.cond (.t 33)
     (.seq (.ops false [⟨(some 8), .mov (.c (.v (.int .i64 1))), none⟩] .done)
      .ret)
     (.seq (.cut (.ops false [⟨(some 43), .load (some 13) (.t 9), none⟩,
         ⟨(some 44), .call 20 [(.t 43)], none⟩,
         ⟨(some 45), .mov (.t 44), none⟩,
         ⟨(some 46), .load (some 13) (.t 10), some (45, true)⟩,
         ⟨(some 47), .call 20 [(.t 46)], some (45, true)⟩,
         ⟨(some 48), .pick (.t 45) (.t 47) (.c (.v (.bool false))), none⟩,
         ⟨(some 49), .mov (.t 48), none⟩,
         ⟨(some 50), .load (some 13) (.t 9), some (49, true)⟩,
         ⟨(some 51), .load (some 13) (.t 10), some (49, true)⟩,
         ⟨(some 52), .bslice 30 [.int .i64, .int .i64, .int .u32, .int .u32, .int .u32, .bool, .bool, .bool, .int .i64, .int .i64, .sl, .sl, .sl] 2 [(.v (.int .i64 0)), (.v (.int .i64 0)), (.v (.int .u32 0)), (.v (.int .u32 0)), (.v (.int .u32 0)), (.v (.bool false)), (.v (.bool false)), (.v (.bool false)), (.v (.int .i64 0)), (.v (.int .i64 0)), (.v (.slice none 0 0)), (.v (.slice none 0 0)), (.v (.slice none 0 0)), (.v (.int .i64 0)), (.v (.int .i64 0)), (.v (.int .u32 0)), (.v (.int .u32 0)), (.v (.int .u32 0)), (.v (.bool false)), (.v (.bool false)), (.v (.bool false)), (.v (.int .i64 0)), (.v (.int .i64 0)), (.v (.slice none 0 0)), (.v (.slice none 0 0)), (.v (.slice none 0 0))] [(0, 13, (.t 50)), (13, 13, (.t 51))], some (49, true)⟩,
         ⟨(some 53), .call 19 [(.t 52)], some (49, true)⟩,
         ⟨(some 54), .pick (.t 49) (.t 53) (.c (.v (.bool false))), none⟩,
         ⟨(some 55), .mov (.t 54), none⟩,
         ⟨(some 56), .mov (.t 11), some (55, true)⟩,
         ⟨(some 57), .load (some 13) (.t 9), some (55, true)⟩,
         ⟨(some 58), .load (some 13) (.t 10), some (55, true)⟩,
         ⟨(some 59), .call 21 [(.t 56), (.t 57), (.t 58)], some (55, true)⟩,
         ⟨(some 60), .un .not (.t 59), some (55, true)⟩,
         ⟨(some 61), .pick (.t 55) (.t 60) (.c (.v (.bool false))), none⟩,
         ⟨(some 42), .mov (.t 61), none⟩] .done))
      (.cond (.t 42)
       (.seq (.ops false [⟨(some 8), .mov (.c (.v (.int .i64 2))), none⟩] .done)
        .ret)
       (.seq (.cut (.ops false [⟨(some 63), .fld 0 (.t 9), none⟩,
           ⟨(some 64), .load none (.t 63), none⟩,
           ⟨(some 65), .bin .eql (.t 64) (.c (.v (.int .i64 3))), none⟩,
           ⟨(some 66), .mov (.t 65), none⟩,
           ⟨(some 67), .fld 5 (.t 9), some (66, false)⟩,
           ⟨(some 68), .load none (.t 67), some (66, false)⟩,
           ⟨(some 69), .mov (.t 68), some (66, false)⟩,
           ⟨(some 70), .load (some 13) (.t 9), some (69, true)⟩,
           ⟨(some 71), .call 18 [(.t 70)], some (69, true)⟩,
           ⟨(some 72), .pick (.t 69) (.t 71) (.c (.v (.bool false))), some (66, false)⟩,
           ⟨(some 73), .pick (.t 66) (.c (.v (.bool true))) (.t 72), none⟩,
           ⟨(some 74), .mov (.t 73), none⟩,
           ⟨(some 75), .load (some 13) (.t 10), some (74, true)⟩,
           ⟨(some 76), .call 20 [(.t 75)], some (74, true)⟩,
           ⟨(some 77), .pick (.t 74) (.t 76) (.c (.v (.bool false))), none⟩,
           ⟨(some 78), .mov (.t 77), none⟩,
           ⟨(some 79), .load (some 13) (.t 9), some (78, true)⟩,
           ⟨(some 80), .load (some 13) (.t 10), some (78, true)⟩,
           ⟨(some 81), .bslice 30 [.int .i64, .int .i64, .int .u32, .int .u32, .int .u32, .bool, .bool, .bool, .int .i64, .int .i64, .sl, .sl, .sl] 2 [(.v (.int .i64 0)), (.v (.int .i64 0)), (.v (.int .u32 0)), (.v (.int .u32 0)), (.v (.int .u32 0)), (.v (.bool false)), (.v (.bool false)), (.v (.bool false)), (.v (.int .i64 0)), (.v (.int .i64 0)), (.v (.slice none 0 0)), (.v (.slice none 0 0)), (.v (.slice none 0 0)), (.v (.int .i64 0)), (.v (.int .i64 0)), (.v (.int .u32 0)), (.v (.int .u32 0)), (.v (.int .u32 0)), (.v (.bool false)), (.v (.bool false)), (.v (.bool false)), (.v (.int .i64 0)), (.v (.int .i64 0)), (.v (.slice none 0 0)), (.v (.slice none 0 0)), (.v (.slice none 0 0))] [(0, 13, (.t 79)), (13, 13, (.t 80))], some (78, true)⟩,
           ⟨(some 82), .call 19 [(.t 81)], some (78, true)⟩,
           ⟨(some 83), .pick (.t 78) (.t 82) (.c (.v (.bool false))), none⟩,
           ⟨(some 62), .mov (.t 83), none⟩] .done))
        (.cond (.t 62)
         (.seq (.ops false [⟨(some 8), .mov (.c (.v (.int .i64 3))), none⟩] .done)
          .ret)
         (.seq (.ops false [⟨(some 85), .mov (.t 11), none⟩,
            ⟨(some 86), .load (some 13) (.t 9), none⟩,
            ⟨(some 87), .load (some 13) (.t 10), none⟩,
            ⟨(some 88), .call 22 [(.t 85), (.t 86), (.t 87)], none⟩,
            ⟨(some 84), .mov (.t 88), none⟩] .done)
          (.cond (.t 84)
           (.seq (.ops false [⟨(some 8), .mov (.c (.v (.int .i64 4))), none⟩] .done)
            .ret)
           (.seq (.ops false [⟨(some 90), .fld 6 (.t 9), none⟩,
              ⟨(some 91), .load none (.t 90), none⟩,
              ⟨(some 89), .mov (.t 91), none⟩] .done)
            (.cond (.t 89)
             (.seq (.ops false [⟨(some 8), .mov (.c (.v (.int .i64 5))), none⟩] .done)
              .ret)
             (.seq (.ops false [⟨(some 93), .fld 7 (.t 10), none⟩,
                ⟨(some 94), .load none (.t 93), none⟩,
                ⟨(some 92), .mov (.t 94), none⟩] .done)
              (.cond (.t 92)
               (.seq (.ops false [⟨(some 8), .mov (.c (.v (.int .i64 6))), none⟩] .done)
                .ret)
               (.seq (.cut (.ops false [⟨(some 96), .load (some 13) (.t 9), none⟩,
                   ⟨(some 97), .call 23 [(.t 96)], none⟩,
                   ⟨(some 98), .mov (.t 97), none⟩,
                   ⟨(some 99), .load (some 13) (.t 10), some (98, true)⟩,
                   ⟨(some 100), .call 23 [(.t 99)], some (98, true)⟩,
                   ⟨(some 101), .pick (.t 98) (.t 100) (.c (.v (.bool false))), none⟩,
                   ⟨(some 95), .mov (.t 101), none⟩] .done))
                (.cond (.t 95)
                 (.seq (.ops false [⟨(some 8), .mov (.c (.v (.int .i64 7))), none⟩] .done)
                  .ret)
                 (.seq (.ops false [⟨(some 103), .mov (.t 1), none⟩,
                    ⟨(some 104), .mov (.t 3), none⟩,
                    ⟨(some 105), .idx 1 (.t 103) (.t 104), none⟩,
                    ⟨(some 106), .load none (.t 105), none⟩,
                    ⟨(some 107), .mov (.t 2), none⟩,
                    ⟨(some 108), .bin .eql (.t 106) (.t 107), none⟩,
                    ⟨(some 102), .mov (.t 108), none⟩] .done)
                  (.cond (.t 102)
                   (.seq (.ops false [⟨(some 8), .mov (.c (.v (.int .i64 8))), none⟩] .done)
                    .ret)
                   (.seq (.ops false [⟨(some 110), .fld 10 (.t 10), none⟩,
                      ⟨(some 111), .load none (.t 110), none⟩,
                      ⟨(some 112), .mov (.t 2), none⟩,
                      ⟨(some 113), .call 24 [(.t 111), (.t 112)], none⟩,
                      ⟨(some 109), .mov (.t 113), none⟩] .done)
                    (.cond (.t 109)
                     (.seq (.ops false [⟨(some 8), .mov (.c (.v (.int .i64 9))), none⟩] .done)
                      .ret)
                     (.seq (.ops false [⟨(some 115), .fld 11 (.t 10), none⟩,
                        ⟨(some 116), .load none (.t 115), none⟩,
                        ⟨(some 117), .mov (.t 2), none⟩,
                        ⟨(some 118), .call 24 [(.t 116), (.t 117)], none⟩,
                        ⟨(some 114), .mov (.t 118), none⟩] .done)
                      (.cond (.t 114)
                       (.seq (.ops false [⟨(some 8), .mov (.c (.v (.int .i64 10))), none⟩] .done)
                        .ret)
                       (.seq (.cut (.ops false [⟨(some 120), .load (some 13) (.t 10), none⟩,
                           ⟨(some 121), .call 18 [(.t 120)], none⟩,
                           ⟨(some 122), .mov (.t 121), none⟩,
                           ⟨(some 123), .fld 12 (.t 10), some (122, true)⟩,
                           ⟨(some 124), .load none (.t 123), some (122, true)⟩,
                           ⟨(some 125), .mov (.t 2), some (122, true)⟩,
                           ⟨(some 126), .call 24 [(.t 124), (.t 125)], some (122, true)⟩,
                           ⟨(some 127), .pick (.t 122) (.t 126) (.c (.v (.bool false))), none⟩,
                           ⟨(some 119), .mov (.t 127), none⟩] .done))
                        (.cond (.t 119)
                         (.seq (.ops false [⟨(some 8), .mov (.c (.v (.int .i64 11))), none⟩] .done)
                          .ret)
                         (.seq (.cut (.ops false [⟨(some 129), .load (some 13) (.t 10), none⟩,
                             ⟨(some 130), .call 20 [(.t 129)], none⟩,
                             ⟨(some 131), .mov (.t 130), none⟩,
                             ⟨(some 132), .mov (.t 0), some (131, true)⟩,
                             ⟨(some 133), .mov (.t 2), some (131, true)⟩,
                             ⟨(some 134), .mov (.t 3), some (131, true)⟩,
                             ⟨(some 135), .call 25 [(.t 132), (.t 133), (.t 134)], some (131, true)⟩,
                             ⟨(some 136), .pick (.t 131) (.t 135) (.c (.v (.bool false))), none⟩,
                             ⟨(some 128), .mov (.t 136), none⟩] .done))
                          (.cond (.t 128)
                           (.seq (.ops false [⟨(some 8), .mov (.c (.v (.int .i64 12))), none⟩] .done)
                            .ret)
                           (.seq (.cut (.ops false [⟨(some 138), .load (some 13) (.t 10), none⟩,
                               ⟨(some 139), .call 18 [(.t 138)], none⟩,
                               ⟨(some 140), .mov (.t 139), none⟩,
                               ⟨(some 141), .mov (.t 11), some (140, true)⟩,
                               ⟨(some 142), .mov (.t 2), some (140, true)⟩,
                               ⟨(some 143), .call 26 [(.t 141), (.t 142)], some (140, true)⟩,
                               ⟨(some 144), .pick (.t 140) (.t 143) (.c (.v (.bool false))), none⟩,
                               ⟨(some 137), .mov (.t 144), none⟩] .done))
                            (.cond (.t 137)
                             (.seq (.ops false [⟨(some 8), .mov (.c (.v (.int .i64 13))), none⟩] .done)
                              .ret)
                             .skip)))))))))))))))))))))))))))
  (.seq (.ops false [⟨(some 8), .mov (.c (.v (.int .i64 0))), none⟩] .done)
  .ret))))))⟩
theorem pf16_eq : (Try.f16.body.map fun c => (cfn Try.prog pl16 Try.f16 c, guardsAll pl16 c)) = some (pf16, true) := by kernel_rfl

/-- corral/corralref.Ints  sizes [] -/
def pl17 : Nat → DT := dtGet []
def pf17 : PFn := ⟨22, [.t 2], (.seq (.ops false [⟨(some 2), .mov (.c (.v (.slice none 0 0))), none⟩] .done)
  (.seq (.ops false [⟨(some 5), .mov (.t 0), none⟩,
    ⟨(some 6), .len (.t 5), none⟩,
    ⟨(some 7), .mslice 3 [.int .i64] [(.int .i64 0)] 8 (.c (.v (.int .i64 0))) (.t 6), none⟩,
    ⟨(some 3), .mov (.t 7), none⟩] .done)
  (.seq (.seq (.ops false [⟨(some 4), .mov (.c (.v (.int .i64 0))), none⟩] .done)
   (.block 0 (.loop (.seq (.seq (.ops false [⟨(some 8), .mov (.t 4), none⟩,
        ⟨(some 9), .mov (.t 0), none⟩,
        ⟨(some 10), .len (.t 9), none⟩,
        ⟨(some 11), .bin .lss (.t 8) (.t 10), none⟩] .done)
      (.cond (.t 11)
       .skip
       (.exit 0)))
     (.seq (.block 1 (.ops false [⟨(some 14), .mov (.t 3), none⟩,
        ⟨(some 15), .mov (.t 0), none⟩,
        ⟨(some 16), .mov (.t 4), none⟩,
        ⟨(some 17), .idx 1 (.t 15) (.t 16), none⟩,
        ⟨(some 18), .load none (.t 17), none⟩,
        ⟨(some 19), .bslice 3 [.int .i64] 1 [(.v (.int .i64 0))] [(0, 1, (.t 18))], none⟩,
        ⟨(some 20), .append 3 [.int .i64] [(.int .i64 0)] 8 (.t 14) (.t 19), none⟩,
        ⟨(some 3), .mov (.t 20), none⟩] .done))
     (.ops false [⟨(some 12), .mov (.t 4), none⟩,
      ⟨(some 13), .bin .add (.t 12) (.c (.v (.int .i64 1))), none⟩,
      ⟨(some 4), .mov (.t 13), none⟩] .done))))))
  (.seq (.ops false [⟨(some 21), .mov (.t 3), none⟩,
    ⟨(some 2), .mov (.t 21), none⟩] .done)
  .ret))))⟩
theorem pf17_eq : (Try.f17.body.map fun c => (cfn Try.prog pl17 Try.f17 c, guardsAll pl17 c)) = some (pf17, true) := by kernel_rfl

/-- corral/ppo.writes  sizes [] -/
def pl18 : Nat → DT := dtGet []
def pf18 : PFn := ⟨11, [.t 2], (.seq (.ops false [⟨(some 1), .box 30 (.t 0), none⟩,
    ⟨(some 2), .mov (.c (.v (.bool false))), none⟩] .done)
  (.seq (.ops false [⟨(some 3), .fld 0 (.t 1), none⟩,
    ⟨(some 4), .load none (.t 3), none⟩,
    ⟨(some 5), .bin .eql (.t 4) (.c (.v (.int .i64 2))), none⟩,
    ⟨(some 6), .mov (.t 5), none⟩,
    ⟨(some 7), .fld 0 (.t 1), some (6, false)⟩,
    ⟨(some 8), .load none (.t 7), some (6, false)⟩,
    ⟨(some 9), .bin .eql (.t 8) (.c (.v (.int .i64 3))), some (6, false)⟩,
    ⟨(some 10), .pick (.t 6) (.c (.v (.bool true))) (.t 9), none⟩,
    ⟨(some 2), .mov (.t 10), none⟩] .done)
  .ret))⟩
theorem pf18_eq : (Try.f18.body.map fun c => (cfn Try.prog pl18 Try.f18 c, guardsAll pl18 c)) = some (pf18, true) := by kernel_rfl

/-- corral/ppo.meet  sizes [] -/
def pl19 : Nat → DT := dtGet []
def pf19 : PFn := ⟨38, [.t 2], (.seq (.ops false [⟨(some 2), .mov (.c (.v (.bool false))), none⟩] .done)
  (.seq (.ops false [⟨(some 10), .mov (.t 0), none⟩,
    ⟨(some 11), .idx 13 (.t 10) (.c (.v (.int .i64 0))), none⟩,
    ⟨(some 12), .load (some 13) (.t 11), none⟩,
    ⟨(some 13), .call 27 [(.t 12)], none⟩,
    ⟨(some 9), .mov (.t 13), none⟩,
    ⟨(some 14), .ext (.t 9) 0, none⟩,
    ⟨(some 15), .ext (.t 9) 1, none⟩,
    ⟨(some 3), .mov (.t 14), none⟩,
    ⟨(some 4), .mov (.t 15), none⟩] .done)
  (.seq (.seq (.ops false [⟨(some 16), .mov (.t 0), none⟩,
     ⟨(some 17), .slice 13 (.t 16) (some (.c (.v (.int .i64 1)))) none none, none⟩,
     ⟨(some 18), .len (.t 17), none⟩,
     ⟨(some 19), .mov (.c (.v (.int .i64 0))), none⟩] .done)
   (.block 0 (.loop (.seq (.ops false [⟨(some 20), .bin .lss (.t 19) (.t 18), none⟩] .done)
     (.seq (.cond (.t 20)
       .skip
       (.exit 0))
     (.seq (.block 1 (.seq (.ops false [⟨(some 21), .idx 13 (.t 17) (.t 19), none⟩,
         ⟨(some 22), .load (some 13) (.t 21), none⟩,
         ⟨(some 6), .box 30 (.c (.agg [(.v (.int .i64 0)), (.v (.int .i64 0)), (.v (.int .u32 0)), (.v (.int .u32 0)), (.v (.int .u32 0)), (.v (.bool false)), (.v (.bool false)), (.v (.bool false)), (.v (.int .i64 0)), (.v (.int .i64 0)), (.v (.slice none 0 0)), (.v (.slice none 0 0)), (.v (.slice none 0 0))])), none⟩,
         ⟨none, .store 13 (.t 6) (.t 22), none⟩] .done)
       (.seq (.ops false [⟨(some 24), .load (some 13) (.t 6), none⟩,
         ⟨(some 25), .call 27 [(.t 24)], none⟩,
         ⟨(some 23), .mov (.t 25), none⟩,
         ⟨(some 26), .ext (.t 23) 0, none⟩,
         ⟨(some 27), .ext (.t 23) 1, none⟩,
         ⟨(some 7), .mov (.t 26), none⟩,
         ⟨(some 8), .mov (.t 27), none⟩] .done)
       (.ops false [⟨(some 28), .mov (.t 3), none⟩,
        ⟨(some 29), .mov (.t 7), none⟩,
        ⟨(some 30), .minmax true [(.t 28), (.t 29)], none⟩,
        ⟨(some 31), .mov (.t 4), none⟩,
        ⟨(some 32), .mov (.t 8), none⟩,
        ⟨(some 33), .minmax false [(.t 31), (.t 32)], none⟩,
        ⟨(some 3), .mov (.t 30), none⟩,
        ⟨(some 4), .mov (.t 33), none⟩] .done))))
     (.ops false [⟨(some 34), .bin .add (.t 19) (.c (.v (.int .i64 1))), none⟩,
      ⟨(some 19), .mov (.t 34), none⟩] .done)))))))
  (.seq (.ops false [⟨(some 35), .mov (.t 3), none⟩,
    ⟨(some 36), .mov (.t 4), none⟩,
    ⟨(some 37), .bin .lss (.t 35) (.t 36), none⟩,
    ⟨(some 2), .mov (.t 37), none⟩] .done)
  .ret))))⟩
theorem pf19_eq : (Try.f19.body.map fun c => (cfn Try.prog pl19 Try.f19 c, guardsAll pl19 c)) = some (pf19, true) := by kernel_rfl

/-- corral/ppo.reads  sizes [] -/
def pl20 : Nat → DT := dtGet []
def pf20 : PFn := ⟨11, [.t 2], (.seq (.ops false [⟨(some 1), .box 30 (.t 0), none⟩,
    ⟨(some 2), .mov (.c (.v (.bool false))), none⟩] .done)
  (.seq (.ops false [⟨(some 3), .fld 0 (.t 1), none⟩,
    ⟨(some 4), .load none (.t 3), none⟩,
    ⟨(some 5), .bin .eql (.t 4) (.c (.v (.int .i64 1))), none⟩,
    ⟨(some 6), .mov (.t 5), none⟩,
    ⟨(some 7), .fld 0 (.t 1), some (6, false)⟩,
    ⟨(some 8), .load none (.t 7), some (6, false)⟩,
    ⟨(some 9), .bin .eql (.t 8) (.c (.v (.int .i64 3))), some (6, false)⟩,
    ⟨(some 10), .pick (.t 6) (.c (.v (.bool true))) (.t 9), none⟩,
    ⟨(some 2), .mov (.t 10), none⟩] .done)
  .ret))⟩
theorem pf20_eq : (Try.f20.body.map fun c => (cfn Try.prog pl20 Try.f20 c, guardsAll pl20 c)) = some (pf20, true) := by kernel_rfl

/-- corral/ppo.over  sizes [] -/
def pl21 : Nat → DT := dtGet []
def pf21 : PFn := ⟨25, [.t 6], (.seq (.ops false [⟨(some 4), .box 30 (.t 1), none⟩,
    ⟨(some 5), .box 30 (.t 2), none⟩,
    ⟨(some 6), .mov (.c (.v (.bool false))), none⟩] .done)
  (.seq (.seq (.ops false [⟨(some 9), .mov (.t 0), none⟩,
     ⟨(some 10), .len (.t 9), none⟩,
     ⟨(some 11), .mov (.c (.v (.int .i64 0))), none⟩] .done)
   (.block 0 (.loop (.seq (.ops false [⟨(some 12), .bin .lss (.t 11) (.t 10), none⟩] .done)
     (.seq (.cond (.t 12)
       .skip
       (.exit 0))
     (.seq (.block 1 (.seq (.ops false [⟨(some 13), .idx 13 (.t 9) (.t 11), none⟩,
         ⟨(some 14), .load (some 13) (.t 13), none⟩,
         ⟨(some 8), .box 30 (.c (.agg [(.v (.int .i64 0)), (.v (.int .i64 0)), (.v (.int .u32 0)), (.v (.int .u32 0)), (.v (.int .u32 0)), (.v (.bool false)), (.v (.bool false)), (.v (.bool false)), (.v (.int .i64 0)), (.v (.int .i64 0)), (.v (.slice none 0 0)), (.v (.slice none 0 0)), (.v (.slice none 0 0))])), none⟩,
         ⟨none, .store 13 (.t 8) (.t 14), none⟩] .done)
       (.seq (.ops false [⟨(some 15), .load (some 13) (.t 8), none⟩,
         ⟨(some 16), .call 18 [(.t 15)], none⟩,
         ⟨(some 17), .mov (.t 16), none⟩,
         ⟨(some 18), .load (some 13) (.t 8), some (17, true)⟩,
         ⟨(some 19), .load (some 13) (.t 4), some (17, true)⟩,
         ⟨(some 20), .load (some 13) (.t 5), some (17, true)⟩,
         ⟨(some 21), .bslice 30 [.int .i64, .int .i64, .int .u32, .int .u32, .int .u32, .bool, .bool, .bool, .int .i64, .int .i64, .sl, .sl, .sl] 3 [(.v (.int .i64 0)), (.v (.int .i64 0)), (.v (.int .u32 0)), (.v (.int .u32 0)), (.v (.int .u32 0)), (.v (.bool false)), (.v (.bool false)), (.v (.bool false)), (.v (.int .i64 0)), (.v (.int .i64 0)), (.v (.slice none 0 0)), (.v (.slice none 0 0)), (.v (.slice none 0 0)), (.v (.int .i64 0)), (.v (.int .i64 0)), (.v (.int .u32 0)), (.v (.int .u32 0)), (.v (.int .u32 0)), (.v (.bool false)), (.v (.bool false)), (.v (.bool false)), (.v (.int .i64 0)), (.v (.int .i64 0)), (.v (.slice none 0 0)), (.v (.slice none 0 0)), (.v (.slice none 0 0)), (.v (.int .i64 0)), (.v (.int .i64 0)), (.v (.int .u32 0)), (.v (.int .u32 0)), (.v (.int .u32 0)), (.v (.bool false)), (.v (.bool false)), (.v (.bool false)), (.v (.int .i64 0)), (.v (.int .i64 0)), (.v (.slice none 0 0)), (.v (.slice none 0 0)), (.v (.slice none 0 0))] [(0, 13, (.t 18)), (13, 13, (.t 19)), (26, 13, (.t 20))], some (17, true)⟩,
         ⟨(some 22), .call 19 [(.t 21)], some (17, true)⟩,
         ⟨(some 23), .pick (.t 17) (.t 22) (.c (.v (.bool false))), none⟩] .done)
       (.cond (.t 23)
        (.seq (.ops false [⟨(some 6), .mov (.c (.v (.bool true))), none⟩] .done)
         .ret)
        .skip))))
     (.ops false [⟨(some 24), .bin .add (.t 11) (.c (.v (.int .i64 1))), none⟩,
      ⟨(some 11), .mov (.t 24), none⟩] .done)))))))
  (.seq (.ops false [⟨(some 6), .mov (.c (.v (.bool false))), none⟩] .done)
  .ret)))⟩
theorem pf21_eq : (Try.f21.body.map fun c => (cfn Try.prog pl21 Try.f21 c, guardsAll pl21 c)) = some (pf21, true) := by kernel_rfl

/-- corral/ppo.barred  sizes [] -/
def pl22 : Nat → DT := dtGet []
def pf22 : PFn := ⟨31, [.t 6], (.seq (.ops false [⟨(some 4), .box 30 (.t 1), none⟩,
    ⟨(some 5), .box 30 (.t 2), none⟩,
    ⟨(some 6), .mov (.c (.v (.bool false))), none⟩] .done)
  (.seq (.seq (.ops false [⟨(some 9), .mov (.t 0), none⟩,
     ⟨(some 10), .len (.t 9), none⟩,
     ⟨(some 11), .mov (.c (.v (.int .i64 0))), none⟩] .done)
   (.block 0 (.loop (.seq (.ops false [⟨(some 12), .bin .lss (.t 11) (.t 10), none⟩] .done)
     (.seq (.cond (.t 12)
       .skip
       (.exit 0))
     (.seq (.block 1 (.seq (.ops false [⟨(some 13), .idx 13 (.t 9) (.t 11), none⟩,
         ⟨(some 14), .load (some 13) (.t 13), none⟩,
         ⟨(some 8), .box 30 (.c (.agg [(.v (.int .i64 0)), (.v (.int .i64 0)), (.v (.int .u32 0)), (.v (.int .u32 0)), (.v (.int .u32 0)), (.v (.bool false)), (.v (.bool false)), (.v (.bool false)), (.v (.int .i64 0)), (.v (.int .i64 0)), (.v (.slice none 0 0)), (.v (.slice none 0 0)), (.v (.slice none 0 0))])), none⟩,
         ⟨none, .store 13 (.t 8) (.t 14), none⟩] .done)
       (.seq (.ops false [⟨(some 15), .fld 0 (.t 8), none⟩,
         ⟨(some 16), .load none (.t 15), none⟩,
         ⟨(some 17), .bin .eql (.t 16) (.c (.v (.int .i64 4))), none⟩,
         ⟨(some 18), .mov (.t 17), none⟩,
         ⟨(some 19), .fld 8 (.t 8), some (18, true)⟩,
         ⟨(some 20), .load none (.t 19), some (18, true)⟩,
         ⟨(some 21), .load (some 13) (.t 4), some (18, true)⟩,
         ⟨(some 22), .call 28 [(.t 20), (.t 21)], some (18, true)⟩,
         ⟨(some 23), .pick (.t 18) (.t 22) (.c (.v (.bool false))), none⟩,
         ⟨(some 24), .mov (.t 23), none⟩,
         ⟨(some 25), .fld 9 (.t 8), some (24, true)⟩,
         ⟨(some 26), .load none (.t 25), some (24, true)⟩,
         ⟨(some 27), .load (some 13) (.t 5), some (24, true)⟩,
         ⟨(some 28), .call 28 [(.t 26), (.t 27)], some (24, true)⟩,
         ⟨(some 29), .pick (.t 24) (.t 28) (.c (.v (.bool false))), none⟩] .done)
       (.cond (.t 29)
        (.seq (.ops false [⟨(some 6), .mov (.c (.v (.bool true))), none⟩] .done)
         .ret)
        .skip))))
     (.ops false [⟨(some 30), .bin .add (.t 11) (.c (.v (.int .i64 1))), none⟩,
      ⟨(some 11), .mov (.t 30), none⟩] .done)))))))
  (.seq (.ops false [⟨(some 6), .mov (.c (.v (.bool false))), none⟩] .done)
  .ret)))⟩
theorem pf22_eq : (Try.f22.body.map fun c => (cfn Try.prog pl22 Try.f22 c, guardsAll pl22 c)) = some (pf22, true) := by kernel_rfl

/-- corral/ppo.marked  sizes [] -/
def pl23 : Nat → DT := dtGet []
def pf23 : PFn := ⟨9, [.t 2], (.seq (.ops false [⟨(some 1), .box 30 (.t 0), none⟩,
    ⟨(some 2), .mov (.c (.v (.bool false))), none⟩] .done)
  (.seq (.ops false [⟨(some 3), .fld 6 (.t 1), none⟩,
    ⟨(some 4), .load none (.t 3), none⟩,
    ⟨(some 5), .mov (.t 4), none⟩,
    ⟨(some 6), .fld 7 (.t 1), some (5, false)⟩,
    ⟨(some 7), .load none (.t 6), some (5, false)⟩,
    ⟨(some 8), .pick (.t 5) (.c (.v (.bool true))) (.t 7), none⟩,
    ⟨(some 2), .mov (.t 8), none⟩] .done)
  .ret))⟩
theorem pf23_eq : (Try.f23.body.map fun c => (cfn Try.prog pl23 Try.f23 c, guardsAll pl23 c)) = some (pf23, true) := by kernel_rfl

/-- slices.Contains[[]int,int]  sizes [] -/
def pl24 : Nat → DT := dtGet []
def pf24 : PFn := ⟨9, [.t 4], (.seq (.ops false [⟨(some 4), .mov (.c (.v (.bool false))), none⟩] .done)
  (.seq (.ops false [⟨(some 5), .mov (.t 0), none⟩,
    ⟨(some 6), .mov (.t 1), none⟩,
    ⟨(some 7), .call 29 [(.t 5), (.t 6)], none⟩,
    ⟨(some 8), .bin .geq (.t 7) (.c (.v (.int .i64 0))), none⟩,
    ⟨(some 4), .mov (.t 8), none⟩] .done)
  .ret))⟩
theorem pf24_eq : (Try.f24.body.map fun c => (cfn Try.prog pl24 Try.f24 c, guardsAll pl24 c)) = some (pf24, true) := by kernel_rfl

/-- corral/ppo.through  sizes [(5, 39)] -/
def pl25 : Nat → DT := dtGet [(5, (.eff true 1000000 (.take 0 [0, 1, 2, 3, 4, 5, 6, 7, 12, 13, 8, 9, 10, 11, 14, 15, 16, 17, 18, 19, 20, 21, 22, 23, 24, 25, 26, 27, 28, 29, 30, 31, 32, 33, 34, 35, 36] (.eff true 1 (.take 2 [2, 3, 4, 5, 6, 7, 12, 13, 8, 9, 10, 11, 14, 15, 16, 17, 18, 19, 20, 21, 22, 23, 24, 25, 26, 27, 28, 29, 30, 31, 32, 33, 34, 35, 36] (.take 3 [3, 4, 6, 7, 8, 9, 10, 11, 12, 13, 14, 15, 16, 17, 18, 19, 20, 21, 22, 23, 24, 25, 26, 27, 28, 29, 30, 31, 32, 33, 34, 35, 36] (.take 4 [4, 6, 7, 8, 9, 10, 11, 12, 13, 14, 15, 16, 17, 18, 19, 20, 21, 22, 23, 24, 25, 26, 27, 28, 29, 30, 31, 32, 33, 34, 35, 36] (.take 5 [5, 6, 7, 8, 9, 10, 11, 12, 13, 14, 15, 16, 17, 18, 19, 20, 21, 22, 23, 24, 25, 26, 27, 28, 29, 30, 31, 32, 33, 34, 35, 36] (.eff true 6 (.take 7 [7, 8, 9, 10, 11, 12, 13, 14, 15, 16, 17, 18, 19, 20, 21, 22, 23, 24, 25, 26, 27, 28, 29, 30, 31, 32, 33, 34, 35, 36] (.take 8 [8, 9, 11, 12, 14, 13, 15, 16, 17, 18, 19, 20, 21, 22, 23, 24, 25, 26, 27, 28, 29, 30, 31, 32, 33, 34, 35, 36] (.take 9 [9, 11, 12, 14, 13, 15, 16, 17, 18, 19, 20, 21, 22, 23, 24, 25, 26, 27, 28, 29, 30, 31, 32, 33, 34, 35, 36] (.take 10 [10, 11, 12, 14, 13, 15, 16, 17, 18, 19, 20, 21, 22, 23, 24, 25, 26, 27, 28, 29, 30, 31, 32, 33, 34, 35, 36] (.eff true 11 (.take 12 [12, 13, 14, 15, 16, 17, 18, 19, 20, 21, 22, 23, 24, 25, 26, 27, 28, 29, 30, 31, 32, 33, 34, 35, 36] (.take 13 [13, 14, 15, 16, 17, 18, 19, 20, 21, 22, 23, 24, 25, 26, 27, 28, 29, 30, 31, 32, 33, 34, 35, 36] (.take 14 [14, 15, 16, 17, 18, 19, 20, 21, 22, 23, 24, 25, 26, 27, 28, 29, 30, 31, 32, 33, 34, 35, 36] (.take 15 [15, 20, 21, 22, 23, 24, 25, 26, 27, 28, 29, 30, 31, 32, 33, 34, 35, 36] (.take 16 [16, 18, 19, 20, 21, 22, 23, 24, 25, 26, 27, 28, 29, 30, 31, 32, 33, 34, 35, 36] (.take 17 [17, 18, 19, 20, 21, 22, 23, 24, 25, 26, 27, 28, 29, 30, 31, 32, 33, 34, 35, 36] (.take 18 [18, 19, 20, 21, 22, 23, 24, 25, 26, 27, 28, 29, 30, 31, 32, 33, 34, 35, 36] (.take 19 [19, 20, 21, 22, 23, 24, 25, 26, 27, 28, 29, 30, 31, 32, 33, 34, 35, 36] (.eff true 20 (.eff true 21 (.take 22 [22, 23, 24, 25, 26, 27, 28, 29, 30, 31, 32, 33, 34, 35, 36] (.take 23 [23, 24, 25, 26, 27, 28, 29, 30, 31, 32, 33, 34, 35, 36] (.take 24 [24, 28, 34, 35, 36] (.take 25 [25, 26, 28, 34, 35, 36] (.take 26 [26, 28, 34, 35, 36] (.take 27 [27, 28, 34, 35, 36] (.take 28 [28, 34, 35, 36] (.take 29 [29, 34, 35, 36] (.take 30 [30, 32, 33, 34, 35, 36] (.take 31 [31, 32, 33, 34, 35, 36] (.take 32 [32, 33, 34, 35, 36] (.take 33 [33, 34, 35, 36] (.eff true 34 (.take 35 [35, 36] (.take 36 [36] .done)))))))))))))))))))))))))))))))))))))))]
def pf25 : PFn := ⟨57, [.t 6], (.seq (.ops false [⟨(some 6), .mov (.c (.v (.bool false))), none⟩] .done)
  (.seq (.seq (.ops false [⟨(some 9), .mov (.t 1), none⟩,
     ⟨(some 10), .bin .add (.t 9) (.c (.v (.int .i64 1))), none⟩,
     ⟨(some 7), .mov (.t 10), none⟩] .done)
   (.block 0 (.loop (.seq (.seq (.ops false [⟨(some 11), .mov (.t 7), none⟩,
        ⟨(some 12), .mov (.t 2), none⟩,
        ⟨(some 13), .bin .lss (.t 11) (.t 12), none⟩] .done)
      (.cond (.t 13)
       .skip
       (.exit 0)))
     (.seq (.block 1 (.seq (.ops false [⟨(some 16), .mov (.t 0), none⟩,
         ⟨(some 17), .mov (.t 7), none⟩,
         ⟨(some 18), .idx 13 (.t 16) (.t 17), none⟩,
         ⟨(some 19), .load (some 13) (.t 18), none⟩,
         ⟨(some 8), .box 30 (.c (.agg [(.v (.int .i64 0)), (.v (.int .i64 0)), (.v (.int .u32 0)), (.v (.int .u32 0)), (.v (.int .u32 0)), (.v (.bool false)), (.v (.bool false)), (.v (.bool false)), (.v (.int .i64 0)), (.v (.int .i64 0)), (.v (.slice none 0 0)), (.v (.slice none 0 0)), (.v (.slice none 0 0))])), none⟩,
         ⟨none, .store 13 (.t 8) (.t 19), none⟩] .done)
       (.seq (.cut (.ops true [⟨(some 20), .load (some 13) (.t 8), none⟩,
          ⟨(some 21), .call 18 [(.t 20)], none⟩,
          ⟨(some 22), .mov (.t 21), none⟩,
          ⟨(some 23), .fld 10 (.t 8), some (22, true)⟩,
          ⟨(some 24), .load none (.t 23), some (22, true)⟩,
          ⟨(some 25), .mov (.t 1), some (22, true)⟩,
          ⟨(some 26), .call 24 [(.t 24), (.t 25)], some (22, true)⟩,
          ⟨(some 27), .mov (.t 26), some (22, true)⟩,
          ⟨(some 28), .fld 11 (.t 8), some (27, false)⟩,
          ⟨(some 29), .load none (.t 28), some (27, false)⟩,
          ⟨(some 30), .mov (.t 1), some (27, false)⟩,
          ⟨(some 31), .call 24 [(.t 29), (.t 30)], some (27, false)⟩,
          ⟨(some 32), .pick (.t 27) (.c (.v (.bool true))) (.t 31), some (22, true)⟩,
          ⟨(some 33), .pick (.t 22) (.t 32) (.c (.v (.bool false))), none⟩,
          ⟨(some 34), .mov (.t 33), none⟩,
          ⟨(some 35), .load (some 13) (.t 8), some (34, true)⟩,
          ⟨(some 36), .mov (.t 0), some (34, true)⟩,
          ⟨(some 37), .mov (.t 2), some (34, true)⟩,
          ⟨(some 38), .idx 13 (.t 36) (.t 37), some (34, true)⟩,
          ⟨(some 39), .load (some 13) (.t 38), some (34, true)⟩,
          ⟨(some 40), .bslice 30 [.int .i64, .int .i64, .int .u32, .int .u32, .int .u32, .bool, .bool, .bool, .int .i64, .int .i64, .sl, .sl, .sl] 2 [(.v (.int .i64 0)), (.v (.int .i64 0)), (.v (.int .u32 0)), (.v (.int .u32 0)), (.v (.int .u32 0)), (.v (.bool false)), (.v (.bool false)), (.v (.bool false)), (.v (.int .i64 0)), (.v (.int .i64 0)), (.v (.slice none 0 0)), (.v (.slice none 0 0)), (.v (.slice none 0 0)), (.v (.int .i64 0)), (.v (.int .i64 0)), (.v (.int .u32 0)), (.v (.int .u32 0)), (.v (.int .u32 0)), (.v (.bool false)), (.v (.bool false)), (.v (.bool false)), (.v (.int .i64 0)), (.v (.int .i64 0)), (.v (.slice none 0 0)), (.v (.slice none 0 0)), (.v (.slice none 0 0))] [(0, 13, (.t 35)), (13, 13, (.t 39))], some (34, true)⟩,
          ⟨(some 41), .call 19 [(.t 40)], some (34, true)⟩,
          ⟨(some 42), .pick (.t 34) (.t 41) (.c (.v (.bool false))), none⟩,
          ⟨(some 43), .mov (.t 42), none⟩,
          ⟨(some 44), .mov (.t 0), some (43, true)⟩,
          ⟨(some 45), .mov (.t 7), some (43, true)⟩,
          ⟨(some 46), .bin .add (.t 45) (.c (.v (.int .i64 1))), some (43, true)⟩,
          ⟨(some 47), .mov (.t 2), some (43, true)⟩,
          ⟨(some 48), .slice 13 (.t 44) (some (.t 46)) (some (.t 47)) none, some (43, true)⟩,
          ⟨(some 49), .load (some 13) (.t 8), some (43, true)⟩,
          ⟨(some 50), .mov (.t 0), some (43, true)⟩,
          ⟨(some 51), .mov (.t 2), some (43, true)⟩,
          ⟨(some 52), .idx 13 (.t 50) (.t 51), some (43, true)⟩,
          ⟨(some 53), .load (some 13) (.t 52), some (43, true)⟩,
          ⟨(some 54), .call 21 [(.t 48), (.t 49), (.t 53)], some (43, true)⟩,
          ⟨(some 55), .un .not (.t 54), some (43, true)⟩,
          ⟨(some 56), .pick (.t 43) (.t 55) (.c (.v (.bool false))), none⟩] (.take 0 [0, 1, 2, 3, 4, 5, 6, 7, 12, 13, 8, 9, 10, 11, 14, 15, 16, 17, 18, 19, 20, 21, 22, 23, 24, 25, 26, 27, 28, 29, 30, 31, 32, 33, 34, 35, 36] (.eff true 1 (.take 2 [2, 3, 4, 5, 6, 7, 12, 13, 8, 9, 10, 11, 14, 15, 16, 17, 18, 19, 20, 21, 22, 23, 24, 25, 26, 27, 28, 29, 30, 31, 32, 33, 34, 35, 36] (.take 3 [3, 4, 6, 7, 8, 9, 10, 11, 12, 13, 14, 15, 16, 17, 18, 19, 20, 21, 22, 23, 24, 25, 26, 27, 28, 29, 30, 31, 32, 33, 34, 35, 36] (.take 4 [4, 6, 7, 8, 9, 10, 11, 12, 13, 14, 15, 16, 17, 18, 19, 20, 21, 22, 23, 24, 25, 26, 27, 28, 29, 30, 31, 32, 33, 34, 35, 36] (.take 5 [5, 6, 7, 8, 9, 10, 11, 12, 13, 14, 15, 16, 17, 18, 19, 20, 21, 22, 23, 24, 25, 26, 27, 28, 29, 30, 31, 32, 33, 34, 35, 36] (.eff true 6 (.take 7 [7, 8, 9, 10, 11, 12, 13, 14, 15, 16, 17, 18, 19, 20, 21, 22, 23, 24, 25, 26, 27, 28, 29, 30, 31, 32, 33, 34, 35, 36] (.take 8 [8, 9, 11, 12, 14, 13, 15, 16, 17, 18, 19, 20, 21, 22, 23, 24, 25, 26, 27, 28, 29, 30, 31, 32, 33, 34, 35, 36] (.take 9 [9, 11, 12, 14, 13, 15, 16, 17, 18, 19, 20, 21, 22, 23, 24, 25, 26, 27, 28, 29, 30, 31, 32, 33, 34, 35, 36] (.take 10 [10, 11, 12, 14, 13, 15, 16, 17, 18, 19, 20, 21, 22, 23, 24, 25, 26, 27, 28, 29, 30, 31, 32, 33, 34, 35, 36] (.eff true 11 (.take 12 [12, 13, 14, 15, 16, 17, 18, 19, 20, 21, 22, 23, 24, 25, 26, 27, 28, 29, 30, 31, 32, 33, 34, 35, 36] (.take 13 [13, 14, 15, 16, 17, 18, 19, 20, 21, 22, 23, 24, 25, 26, 27, 28, 29, 30, 31, 32, 33, 34, 35, 36] (.take 14 [14, 15, 16, 17, 18, 19, 20, 21, 22, 23, 24, 25, 26, 27, 28, 29, 30, 31, 32, 33, 34, 35, 36] (.take 15 [15, 20, 21, 22, 23, 24, 25, 26, 27, 28, 29, 30, 31, 32, 33, 34, 35, 36] (.take 16 [16, 18, 19, 20, 21, 22, 23, 24, 25, 26, 27, 28, 29, 30, 31, 32, 33, 34, 35, 36] (.take 17 [17, 18, 19, 20, 21, 22, 23, 24, 25, 26, 27, 28, 29, 30, 31, 32, 33, 34, 35, 36] (.take 18 [18, 19, 20, 21, 22, 23, 24, 25, 26, 27, 28, 29, 30, 31, 32, 33, 34, 35, 36] (.take 19 [19, 20, 21, 22, 23, 24, 25, 26, 27, 28, 29, 30, 31, 32, 33, 34, 35, 36] (.eff true 20 (.eff true 21 (.take 22 [22, 23, 24, 25, 26, 27, 28, 29, 30, 31, 32, 33, 34, 35, 36] (.take 23 [23, 24, 25, 26, 27, 28, 29, 30, 31, 32, 33, 34, 35, 36] (.take 24 [24, 28, 34, 35, 36] (.take 25 [25, 26, 28, 34, 35, 36] (.take 26 [26, 28, 34, 35, 36] (.take 27 [27, 28, 34, 35, 36] (.take 28 [28, 34, 35, 36] (.take 29 [29, 34, 35, 36] (.take 30 [30, 32, 33, 34, 35, 36] (.take 31 [31, 32, 33, 34, 35, 36] (.take 32 [32, 33, 34, 35, 36] (.take 33 [33, 34, 35, 36] (.eff true 34 (.take 35 [35, 36] (.take 36 [36] .done)))))))))))))))))))))))))))))))))))))))
       (.cond (.t 56)
        (.seq (.ops false [⟨(some 6), .mov (.c (.v (.bool true))), none⟩] .done)
         .ret)
        .skip))))
     (.ops false [⟨(some 14), .mov (.t 7), none⟩,
      ⟨(some 15), .bin .add (.t 14) (.c (.v (.int .i64 1))), none⟩,
      ⟨(some 7), .mov (.t 15), none⟩] .done))))))
  (.seq (.ops false [⟨(some 6), .mov (.c (.v (.bool false))), none⟩] .done)
  .ret)))⟩
theorem pf25_eq : (Try.f25.body.map fun c => (cfn Try.prog pl25 Try.f25 c, guardsAll pl25 c)) = some (pf25, true) := by kernel_rfl

/-- corral/ppo.placed  sizes [] -/
def pl26 : Nat → DT := dtGet []
def pf26 : PFn := ⟨23, [.t 4], (.seq (.ops false [⟨(some 4), .mov (.c (.v (.bool false))), none⟩] .done)
  (.seq (.seq (.ops false [⟨(some 7), .mov (.t 0), none⟩,
     ⟨(some 8), .len (.t 7), none⟩,
     ⟨(some 9), .mov (.c (.v (.int .i64 0))), none⟩] .done)
   (.block 0 (.loop (.seq (.ops false [⟨(some 10), .bin .lss (.t 9) (.t 8), none⟩] .done)
     (.seq (.cond (.t 10)
       .skip
       (.exit 0))
     (.seq (.block 1 (.seq (.ops false [⟨(some 11), .idx 13 (.t 7) (.t 9), none⟩,
         ⟨(some 12), .load (some 13) (.t 11), none⟩,
         ⟨(some 6), .box 30 (.c (.agg [(.v (.int .i64 0)), (.v (.int .i64 0)), (.v (.int .u32 0)), (.v (.int .u32 0)), (.v (.int .u32 0)), (.v (.bool false)), (.v (.bool false)), (.v (.bool false)), (.v (.int .i64 0)), (.v (.int .i64 0)), (.v (.slice none 0 0)), (.v (.slice none 0 0)), (.v (.slice none 0 0))])), none⟩,
         ⟨none, .store 13 (.t 6) (.t 12), none⟩] .done)
       (.seq (.ops false [⟨(some 13), .fld 0 (.t 6), none⟩,
         ⟨(some 14), .load none (.t 13), none⟩,
         ⟨(some 15), .bin .neq (.t 14) (.c (.v (.int .i64 4))), none⟩,
         ⟨(some 16), .mov (.t 15), none⟩,
         ⟨(some 17), .fld 10 (.t 6), some (16, true)⟩,
         ⟨(some 18), .load none (.t 17), some (16, true)⟩,
         ⟨(some 19), .mov (.t 1), some (16, true)⟩,
         ⟨(some 20), .call 24 [(.t 18), (.t 19)], some (16, true)⟩,
         ⟨(some 21), .pick (.t 16) (.t 20) (.c (.v (.bool false))), none⟩] .done)
       (.cond (.t 21)
        (.seq (.ops false [⟨(some 4), .mov (.c (.v (.bool true))), none⟩] .done)
         .ret)
        .skip))))
     (.ops false [⟨(some 22), .bin .add (.t 9) (.c (.v (.int .i64 1))), none⟩,
      ⟨(some 9), .mov (.t 22), none⟩] .done)))))))
  (.seq (.ops false [⟨(some 4), .mov (.c (.v (.bool false))), none⟩] .done)
  .ret)))⟩
theorem pf26_eq : (Try.f26.body.map fun c => (cfn Try.prog pl26 Try.f26 c, guardsAll pl26 c)) = some (pf26, true) := by kernel_rfl

/-- corral/ppo.span  sizes [(3, 12)] -/
def pl27 : Nat → DT := dtGet [(3, (.take 0 [0, 1, 9, 10, 2] (.take 1 [1, 2, 9, 10] (.take 2 [2, 9, 10] (.take 3 [3, 4, 10, 5, 8] (.take 4 [4, 5, 10, 8] (.take 5 [5, 8, 10] (.take 6 [6, 7, 10, 8] (.take 7 [7, 8, 10] (.take 8 [8, 10] (.take 9 [9, 10] (.take 10 [10] .done))))))))))))]
def pf27 : PFn := ⟨16, [.t 2, .t 3], (.seq (.ops false [⟨(some 1), .box 30 (.t 0), none⟩,
    ⟨(some 2), .mov (.c (.v (.int .i64 0))), none⟩,
    ⟨(some 3), .mov (.c (.v (.int .i64 0))), none⟩] .done)
  (.seq (.seq (.ops false [⟨(some 4), .fld 0 (.t 1), none⟩,
     ⟨(some 5), .load none (.t 4), none⟩,
     ⟨(some 6), .bin .eql (.t 5) (.c (.v (.int .i64 4))), none⟩] .done)
   (.cond (.t 6)
    (.seq (.ops false [⟨(some 2), .mov (.c (.v (.int .i64 0))), none⟩,
       ⟨(some 3), .mov (.c (.v (.int .i64 0))), none⟩] .done)
     .ret)
    .skip))
  (.seq (.ops true [⟨(some 7), .fld 2 (.t 1), none⟩,
    ⟨(some 8), .load none (.t 7), none⟩,
    ⟨(some 9), .conv .i64 (.t 8), none⟩,
    ⟨(some 10), .fld 2 (.t 1), none⟩,
    ⟨(some 11), .load none (.t 10), none⟩,
    ⟨(some 12), .conv .i64 (.t 11), none⟩,
    ⟨(some 13), .fld 1 (.t 1), none⟩,
    ⟨(some 14), .load none (.t 13), none⟩,
    ⟨(some 15), .bin .add (.t 12) (.t 14), none⟩,
    ⟨(some 2), .mov (.t 9), none⟩,
    ⟨(some 3), .mov (.t 15), none⟩] (.take 0 [0, 1, 9, 10, 2] (.take 1 [1, 2, 9, 10] (.take 2 [2, 9, 10] (.take 3 [3, 4, 10, 5, 8] (.take 4 [4, 5, 10, 8] (.take 5 [5, 8, 10] (.take 6 [6, 7, 10, 8] (.take 7 [7, 8, 10] (.take 8 [8, 10] (.take 9 [9, 10] (.take 10 [10] .done))))))))))))
  .ret)))⟩
theorem pf27_eq : (Try.f27.body.map fun c => (cfn Try.prog pl27 Try.f27 c, guardsAll pl27 c)) = some (pf27, true) := by kernel_rfl

/-- corral/ppo.by  sizes [] -/
def pl28 : Nat → DT := dtGet []
def pf28 : PFn := ⟨21, [.t 4], (.seq (.ops false [⟨(some 3), .box 30 (.t 1), none⟩,
    ⟨(some 4), .mov (.c (.v (.bool false))), none⟩] .done)
  (.seq (.ops false [⟨(some 5), .load (some 13) (.t 3), none⟩,
    ⟨(some 6), .call 20 [(.t 5)], none⟩,
    ⟨(some 7), .mov (.t 6), none⟩,
    ⟨(some 8), .mov (.t 0), some (7, true)⟩,
    ⟨(some 9), .bin .and (.t 8) (.c (.v (.int .i64 1))), some (7, true)⟩,
    ⟨(some 10), .bin .neq (.t 9) (.c (.v (.int .i64 0))), some (7, true)⟩,
    ⟨(some 11), .pick (.t 7) (.t 10) (.c (.v (.bool false))), none⟩,
    ⟨(some 12), .mov (.t 11), none⟩,
    ⟨(some 13), .load (some 13) (.t 3), some (12, false)⟩,
    ⟨(some 14), .call 18 [(.t 13)], some (12, false)⟩,
    ⟨(some 15), .mov (.t 14), some (12, false)⟩,
    ⟨(some 16), .mov (.t 0), some (15, true)⟩,
    ⟨(some 17), .bin .and (.t 16) (.c (.v (.int .i64 2))), some (15, true)⟩,
    ⟨(some 18), .bin .neq (.t 17) (.c (.v (.int .i64 0))), some (15, true)⟩,
    ⟨(some 19), .pick (.t 15) (.t 18) (.c (.v (.bool false))), some (12, false)⟩,
    ⟨(some 20), .pick (.t 12) (.c (.v (.bool true))) (.t 19), none⟩,
    ⟨(some 4), .mov (.t 20), none⟩] .done)
  .ret))⟩
theorem pf28_eq : (Try.f28.body.map fun c => (cfn Try.prog pl28 Try.f28 c, guardsAll pl28 c)) = some (pf28, true) := by kernel_rfl

/-- slices.Index[[]int,int]  sizes [] -/
def pl29 : Nat → DT := dtGet []
def pf29 : PFn := ⟨19, [.t 4], (.seq (.ops false [⟨(some 4), .mov (.c (.v (.int .i64 0))), none⟩] .done)
  (.seq (.seq (.ops false [⟨(some 6), .mov (.t 0), none⟩,
     ⟨(some 7), .len (.t 6), none⟩,
     ⟨(some 8), .mov (.c (.v (.int .i64 0))), none⟩] .done)
   (.block 0 (.loop (.seq (.ops false [⟨(some 9), .bin .lss (.t 8) (.t 7), none⟩] .done)
     (.seq (.cond (.t 9)
       .skip
       (.exit 0))
     (.seq (.block 1 (.seq (.ops false [⟨(some 10), .mov (.t 8), none⟩,
         ⟨(some 5), .mov (.t 10), none⟩] .done)
       (.seq (.ops false [⟨(some 11), .mov (.t 1), none⟩,
         ⟨(some 12), .mov (.t 0), none⟩,
         ⟨(some 13), .mov (.t 5), none⟩,
         ⟨(some 14), .idx 1 (.t 12) (.t 13), none⟩,
         ⟨(some 15), .load none (.t 14), none⟩,
         ⟨(some 16), .bin .eql (.t 11) (.t 15), none⟩] .done)
       (.cond (.t 16)
        (.seq (.ops false [⟨(some 17), .mov (.t 5), none⟩,
           ⟨(some 4), .mov (.t 17), none⟩] .done)
         .ret)
        .skip))))
     (.ops false [⟨(some 18), .bin .add (.t 8) (.c (.v (.int .i64 1))), none⟩,
      ⟨(some 8), .mov (.t 18), none⟩] .done)))))))
  (.seq (.ops false [⟨(some 4), .mov (.c (.v (.int .i64 (-1)))), none⟩] .done)
  .ret)))⟩
theorem pf29_eq : (Try.f29.body.map fun c => (cfn Try.prog pl29 Try.f29 c, guardsAll pl29 c)) = some (pf29, true) := by kernel_rfl

theorem at3 : Try.prog.funcs[3]? = some Try.f3 ∧ (Try.f3.name == "runtime.NumGoroutine") = false := ⟨by kernel_rfl, by kernel_rfl⟩
theorem at4 : Try.prog.funcs[4]? = some Try.f4 ∧ (Try.f4.name == "runtime.NumGoroutine") = false := ⟨by kernel_rfl, by kernel_rfl⟩
theorem at5 : Try.prog.funcs[5]? = some Try.f5 ∧ (Try.f5.name == "runtime.NumGoroutine") = false := ⟨by kernel_rfl, by kernel_rfl⟩
theorem at6 : Try.prog.funcs[6]? = some Try.f6 ∧ (Try.f6.name == "runtime.NumGoroutine") = false := ⟨by kernel_rfl, by kernel_rfl⟩
theorem at7 : Try.prog.funcs[7]? = some Try.f7 ∧ (Try.f7.name == "runtime.NumGoroutine") = false := ⟨by kernel_rfl, by kernel_rfl⟩
theorem at8 : Try.prog.funcs[8]? = some Try.f8 ∧ (Try.f8.name == "runtime.NumGoroutine") = false := ⟨by kernel_rfl, by kernel_rfl⟩
theorem at9 : Try.prog.funcs[9]? = some Try.f9 ∧ (Try.f9.name == "runtime.NumGoroutine") = false := ⟨by kernel_rfl, by kernel_rfl⟩
theorem at10 : Try.prog.funcs[10]? = some Try.f10 ∧ (Try.f10.name == "runtime.NumGoroutine") = false := ⟨by kernel_rfl, by kernel_rfl⟩
theorem at11 : Try.prog.funcs[11]? = some Try.f11 ∧ (Try.f11.name == "runtime.NumGoroutine") = false := ⟨by kernel_rfl, by kernel_rfl⟩
theorem at12 : Try.prog.funcs[12]? = some Try.f12 ∧ (Try.f12.name == "runtime.NumGoroutine") = false := ⟨by kernel_rfl, by kernel_rfl⟩
theorem at13 : Try.prog.funcs[13]? = some Try.f13 ∧ (Try.f13.name == "runtime.NumGoroutine") = false := ⟨by kernel_rfl, by kernel_rfl⟩
theorem at14 : Try.prog.funcs[14]? = some Try.f14 ∧ (Try.f14.name == "runtime.NumGoroutine") = false := ⟨by kernel_rfl, by kernel_rfl⟩
theorem at15 : Try.prog.funcs[15]? = some Try.f15 ∧ (Try.f15.name == "runtime.NumGoroutine") = false := ⟨by kernel_rfl, by kernel_rfl⟩
theorem at16 : Try.prog.funcs[16]? = some Try.f16 ∧ (Try.f16.name == "runtime.NumGoroutine") = false := ⟨by kernel_rfl, by kernel_rfl⟩
theorem at17 : Try.prog.funcs[17]? = some Try.f17 ∧ (Try.f17.name == "runtime.NumGoroutine") = false := ⟨by kernel_rfl, by kernel_rfl⟩
theorem at18 : Try.prog.funcs[18]? = some Try.f18 ∧ (Try.f18.name == "runtime.NumGoroutine") = false := ⟨by kernel_rfl, by kernel_rfl⟩
theorem at19 : Try.prog.funcs[19]? = some Try.f19 ∧ (Try.f19.name == "runtime.NumGoroutine") = false := ⟨by kernel_rfl, by kernel_rfl⟩
theorem at20 : Try.prog.funcs[20]? = some Try.f20 ∧ (Try.f20.name == "runtime.NumGoroutine") = false := ⟨by kernel_rfl, by kernel_rfl⟩
theorem at21 : Try.prog.funcs[21]? = some Try.f21 ∧ (Try.f21.name == "runtime.NumGoroutine") = false := ⟨by kernel_rfl, by kernel_rfl⟩
theorem at22 : Try.prog.funcs[22]? = some Try.f22 ∧ (Try.f22.name == "runtime.NumGoroutine") = false := ⟨by kernel_rfl, by kernel_rfl⟩
theorem at23 : Try.prog.funcs[23]? = some Try.f23 ∧ (Try.f23.name == "runtime.NumGoroutine") = false := ⟨by kernel_rfl, by kernel_rfl⟩
theorem at24 : Try.prog.funcs[24]? = some Try.f24 ∧ (Try.f24.name == "runtime.NumGoroutine") = false := ⟨by kernel_rfl, by kernel_rfl⟩
theorem at25 : Try.prog.funcs[25]? = some Try.f25 ∧ (Try.f25.name == "runtime.NumGoroutine") = false := ⟨by kernel_rfl, by kernel_rfl⟩
theorem at26 : Try.prog.funcs[26]? = some Try.f26 ∧ (Try.f26.name == "runtime.NumGoroutine") = false := ⟨by kernel_rfl, by kernel_rfl⟩
theorem at27 : Try.prog.funcs[27]? = some Try.f27 ∧ (Try.f27.name == "runtime.NumGoroutine") = false := ⟨by kernel_rfl, by kernel_rfl⟩
theorem at28 : Try.prog.funcs[28]? = some Try.f28 ∧ (Try.f28.name == "runtime.NumGoroutine") = false := ⟨by kernel_rfl, by kernel_rfl⟩
theorem at29 : Try.prog.funcs[29]? = some Try.f29 ∧ (Try.f29.name == "runtime.NumGoroutine") = false := ⟨by kernel_rfl, by kernel_rfl⟩
def tab : List (Nat × PFn) := [(3, pf3), (4, pf4), (5, pf5), (6, pf6), (7, pf7), (8, pf8), (9, pf9), (10, pf10), (11, pf11), (12, pf12), (13, pf13), (14, pf14), (15, pf15), (16, pf16), (17, pf17), (18, pf18), (19, pf19), (20, pf20), (21, pf21), (22, pf22), (23, pf23), (24, pf24), (25, pf25), (26, pf26), (27, pf27), (28, pf28), (29, pf29)]
theorem tab_ok : TabOK Try.prog tab :=
  .cons mixed at3 pf3_eq (.cons mixed at4 pf4_eq (.cons mixed at5 pf5_eq (.cons mixed at6 pf6_eq (.cons mixed at7 pf7_eq (.cons mixed at8 pf8_eq (.cons mixed at9 pf9_eq (.cons mixed at10 pf10_eq (.cons mixed at11 pf11_eq (.cons mixed at12 pf12_eq (.cons mixed at13 pf13_eq (.cons mixed at14 pf14_eq (.cons mixed at15 pf15_eq (.cons mixed at16 pf16_eq (.cons mixed at17 pf17_eq (.cons mixed at18 pf18_eq (.cons mixed at19 pf19_eq (.cons mixed at20 pf20_eq (.cons mixed at21 pf21_eq (.cons mixed at22 pf22_eq (.cons mixed at23 pf23_eq (.cons mixed at24 pf24_eq (.cons mixed at25 pf25_eq (.cons mixed at26 pf26_eq (.cons mixed at27 pf27_eq (.cons mixed at28 pf28_eq (.cons mixed at29 pf29_eq (.nil)))))))))))))))))))))))))))
noncomputable def G0 : Nat → Option Trans := tabG (tget []) (tget tab) 5
theorem G0_ok : GOK Try.prog G0 := tabG_ok .nil tab_ok 5
end Go.Proofs.Ytkfkoldaeplckaa
