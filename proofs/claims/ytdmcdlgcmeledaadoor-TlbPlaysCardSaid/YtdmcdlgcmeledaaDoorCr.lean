/-
  The program of one function, with other quiet calls.
-/
import Derived.Test.YtdmcdlgcmeledaaDoorCl
namespace Go.Proofs.YtdmcdlgcmeledaaDoor
open Go Go.Vc
set_option maxRecDepth 100000
/-- (*corral/corralref21.TLB).Put  sizes [(6, 9), (8, 11), (10, 64)] -/
def pl9q : Nat → DT := dtGet [(6, (.take 0 [0, 1, 6, 7, 2, 3] (.take 1 [1, 2, 6, 7, 3] (.take 2 [2, 3, 6, 7] (.take 3 [3, 6, 7] (.take 4 [4, 6, 7] (.take 5 [5, 6, 7] (.take 6 [6, 7] (.eff false 7 .done))))))))), (8, (.take 0 [0, 1, 2, 3, 4, 9] (.take 1 [1, 2, 3, 4, 9] (.take 2 [2, 3, 4, 9] (.take 3 [3, 4, 9] (.take 4 [4, 9] (.take 5 [5, 6, 7, 8, 9] (.take 6 [6, 7, 8, 9] (.take 7 [7, 8, 9] (.take 8 [8, 9] (.take 9 [9] .done))))))))))), (10, (.take 0 [0, 16, 17, 18] (.take 1 [1, 2, 16, 17, 18, 3, 4, 5, 6, 7, 12, 15] (.take 2 [2, 3, 16, 17, 18, 4, 5, 6, 7, 12, 15] (.take 3 [3, 4, 16, 17, 18, 5, 6, 7, 12, 15] (.take 4 [4, 5, 16, 17, 18, 6, 7, 12, 15] (.take 5 [5, 6, 16, 17, 18, 7, 12, 15] (.take 6 [6, 7, 16, 17, 18, 12, 15] (.take 8 [8, 9, 16, 17, 18, 10, 11, 12, 15] (.take 9 [9, 10, 16, 17, 18, 11, 12, 15] (.take 10 [10, 11, 16, 17, 18, 12, 15] (.take 11 [11, 12, 16, 17, 18, 15] (.both (.eff true 7 (.both (.eff false 12 (.eff false 13 (.eff true 14 (.eff false 15 (.take 16 [16, 17, 18] (.take 17 [17, 18] (.eff false 18 .done))))))) (.eff false 13 (.both (.eff false 12 (.eff true 14 (.eff false 15 (.take 16 [16, 17, 18] (.take 17 [17, 18] (.eff false 18 .done)))))) (.eff true 14 (.eff false 12 (.eff false 15 (.take 16 [16, 17, 18] (.take 17 [17, 18] (.eff false 18 .done)))))))))) (.eff false 13 (.both (.eff true 7 (.both (.eff false 12 (.eff true 14 (.eff false 15 (.take 16 [16, 17, 18] (.take 17 [17, 18] (.eff false 18 .done)))))) (.eff true 14 (.eff false 12 (.eff false 15 (.take 16 [16, 17, 18] (.take 17 [17, 18] (.eff false 18 .done)))))))) (.eff true 14 (.eff true 7 (.eff false 12 (.eff false 15 (.take 16 [16, 17, 18] (.take 17 [17, 18] (.eff false 18 .done))))))))))))))))))))))]
def pf9q : PFn := ⟨73, [.t 6], (.seq (.ops false [⟨(some 6), .mov (.c (.v (.bool false))), none⟩] .done)
  (.seq (.seq (.ops false [⟨(some 9), .mov (.t 1), none⟩,
     ⟨(some 10), .bin .geq (.t 9) (.c (.v (.int .u32 1048576))), none⟩,
     ⟨(some 11), .mov (.t 10), none⟩,
     ⟨(some 12), .mov (.t 2), some (11, false)⟩,
     ⟨(some 13), .len (.t 12), some (11, false)⟩,
     ⟨(some 14), .bin .lss (.t 13) (.c (.v (.int .i64 1))), some (11, false)⟩,
     ⟨(some 15), .pick (.t 11) (.c (.v (.bool true))) (.t 14), none⟩,
     ⟨(some 16), .mov (.t 15), none⟩,
     ⟨(some 17), .mov (.t 2), some (16, false)⟩,
     ⟨(some 18), .len (.t 17), some (16, false)⟩,
     ⟨(some 19), .bin .gtr (.t 18) (.c (.v (.int .i64 2))), some (16, false)⟩,
     ⟨(some 20), .pick (.t 16) (.c (.v (.bool true))) (.t 19), none⟩] .done)
   (.cond (.t 20)
    (.seq (.ops false [⟨(some 6), .mov (.c (.v (.bool false))), none⟩] .done)
     .ret)
    .skip))
  (.seq (.ops false [⟨(some 21), .mov (.t 0), none⟩,
    ⟨(some 22), .mov (.t 1), none⟩,
    ⟨(some 23), .call 25 [(.t 21), (.t 22)], none⟩,
    ⟨(some 7), .mov (.t 23), none⟩] .done)
  (.seq (.ops false [⟨(some 24), .mov (.t 1), none⟩,
    ⟨(some 25), .mov (.t 2), none⟩,
    ⟨(some 26), .call 26 [(.t 25)], none⟩,
    ⟨(some 27), .build [(.v (.int .u32 0)), (.v (.slice none 0 0))] [(0, 1, (.t 24)), (1, 1, (.t 26))], none⟩,
    ⟨(some 8), .box 50 (.c (.agg [(.v (.int .u32 0)), (.v (.slice none 0 0))])), none⟩,
    ⟨none, .store 2 (.t 8) (.t 27), none⟩] .done)
  (.seq (.seq (.ops false [⟨(some 28), .mov (.t 7), none⟩,
     ⟨(some 29), .bin .geq (.t 28) (.c (.v (.int .i64 0))), none⟩] .done)
   (.cond (.t 29)
    (.seq (.ops true [⟨(some 30), .mov (.t 0), none⟩,
       ⟨(some 31), .nilck (.t 30), none⟩,
       ⟨(some 32), .fld 1 (.t 31), none⟩,
       ⟨(some 33), .load none (.t 32), none⟩,
       ⟨(some 34), .mov (.t 7), none⟩,
       ⟨(some 35), .load (some 2) (.t 8), none⟩,
       ⟨(some 36), .idx 2 (.t 33) (.t 34), none⟩,
       ⟨none, .store 2 (.t 36) (.t 35), none⟩] (.take 0 [0, 1, 6, 7, 2, 3] (.take 1 [1, 2, 6, 7, 3] (.take 2 [2, 3, 6, 7] (.take 3 [3, 6, 7] (.take 4 [4, 6, 7] (.take 5 [5, 6, 7] (.take 6 [6, 7] (.eff false 7 .done)))))))))
     (.seq (.ops false [⟨(some 6), .mov (.c (.v (.bool true))), none⟩] .done)
     .ret))
    .skip))
  (.seq (.seq (.ops true [⟨(some 37), .mov (.t 0), none⟩,
     ⟨(some 38), .nilck (.t 37), none⟩,
     ⟨(some 39), .fld 1 (.t 38), none⟩,
     ⟨(some 40), .load none (.t 39), none⟩,
     ⟨(some 41), .len (.t 40), none⟩,
     ⟨(some 42), .mov (.t 0), none⟩,
     ⟨(some 43), .nilck (.t 42), none⟩,
     ⟨(some 44), .fld 0 (.t 43), none⟩,
     ⟨(some 45), .load none (.t 44), none⟩,
     ⟨(some 46), .bin .eql (.t 41) (.t 45), none⟩] (.take 0 [0, 1, 2, 3, 4, 9] (.take 1 [1, 2, 3, 4, 9] (.take 2 [2, 3, 4, 9] (.take 3 [3, 4, 9] (.take 4 [4, 9] (.take 5 [5, 6, 7, 8, 9] (.take 6 [6, 7, 8, 9] (.take 7 [7, 8, 9] (.take 8 [8, 9] (.take 9 [9] .done)))))))))))
   (.cond (.t 46)
    (.ops false [⟨(some 47), .mov (.t 0), none⟩,
      ⟨(some 48), .mov (.t 0), none⟩,
      ⟨(some 49), .nilck (.t 48), none⟩,
      ⟨(some 50), .fld 1 (.t 49), none⟩,
      ⟨(some 51), .load none (.t 50), none⟩,
      ⟨(some 52), .slice 2 (.t 51) (some (.c (.v (.int .i64 1)))) none none, none⟩,
      ⟨(some 53), .nilck (.t 47), none⟩,
      ⟨(some 54), .fld 1 (.t 53), none⟩,
      ⟨none, .store 1 (.t 54) (.t 52), none⟩] .done)
    .skip))
  (.seq (.ops true [⟨(some 55), .mov (.t 0), none⟩,
    ⟨(some 56), .mov (.t 0), none⟩,
    ⟨(some 57), .nilck (.t 56), none⟩,
    ⟨(some 58), .fld 1 (.t 57), none⟩,
    ⟨(some 59), .load none (.t 58), none⟩,
    ⟨(some 60), .len (.t 59), none⟩,
    ⟨(some 61), .bin .add (.t 60) (.c (.v (.int .i64 1))), none⟩,
    ⟨(some 62), .mslice 50 [.int .u32, .sl] [(.int .u32 0), (.slice none 0 0)] 32 (.c (.v (.int .i64 0))) (.t 61), none⟩,
    ⟨(some 63), .mov (.t 0), none⟩,
    ⟨(some 64), .nilck (.t 63), none⟩,
    ⟨(some 65), .fld 1 (.t 64), none⟩,
    ⟨(some 66), .load none (.t 65), none⟩,
    ⟨(some 67), .append 50 [.int .u32, .sl] [(.int .u32 0), (.slice none 0 0)] 32 (.t 62) (.t 66), none⟩,
    ⟨(some 68), .load (some 2) (.t 8), none⟩,
    ⟨(some 69), .bslice 50 [.int .u32, .sl] 1 [(.v (.int .u32 0)), (.v (.slice none 0 0))] [(0, 2, (.t 68))], none⟩,
    ⟨(some 70), .append 50 [.int .u32, .sl] [(.int .u32 0), (.slice none 0 0)] 32 (.t 67) (.t 69), none⟩,
    ⟨(some 71), .nilck (.t 55), none⟩,
    ⟨(some 72), .fld 1 (.t 71), none⟩,
    ⟨none, .store 1 (.t 72) (.t 70), none⟩] (.take 0 [0, 16, 17, 18] (.take 1 [1, 2, 16, 17, 18, 3, 4, 5, 6, 7, 12, 15] (.take 2 [2, 3, 16, 17, 18, 4, 5, 6, 7, 12, 15] (.take 3 [3, 4, 16, 17, 18, 5, 6, 7, 12, 15] (.take 4 [4, 5, 16, 17, 18, 6, 7, 12, 15] (.take 5 [5, 6, 16, 17, 18, 7, 12, 15] (.take 6 [6, 7, 16, 17, 18, 12, 15] (.take 8 [8, 9, 16, 17, 18, 10, 11, 12, 15] (.take 9 [9, 10, 16, 17, 18, 11, 12, 15] (.take 10 [10, 11, 16, 17, 18, 12, 15] (.take 11 [11, 12, 16, 17, 18, 15] (.both (.eff true 7 (.both (.eff false 12 (.eff false 13 (.eff true 14 (.eff false 15 (.take 16 [16, 17, 18] (.take 17 [17, 18] (.eff false 18 .done))))))) (.eff false 13 (.both (.eff false 12 (.eff true 14 (.eff false 15 (.take 16 [16, 17, 18] (.take 17 [17, 18] (.eff false 18 .done)))))) (.eff true 14 (.eff false 12 (.eff false 15 (.take 16 [16, 17, 18] (.take 17 [17, 18] (.eff false 18 .done)))))))))) (.eff false 13 (.both (.eff true 7 (.both (.eff false 12 (.eff true 14 (.eff false 15 (.take 16 [16, 17, 18] (.take 17 [17, 18] (.eff false 18 .done)))))) (.eff true 14 (.eff false 12 (.eff false 15 (.take 16 [16, 17, 18] (.take 17 [17, 18] (.eff false 18 .done)))))))) (.eff true 14 (.eff true 7 (.eff false 12 (.eff false 15 (.take 16 [16, 17, 18] (.take 17 [17, 18] (.eff false 18 .done))))))))))))))))))))))
  (.seq (.ops false [⟨(some 6), .mov (.c (.v (.bool true))), none⟩] .done)
  .ret))))))))⟩
theorem pf9q_eq : (Tryd.f9.body.map fun c => (cfn Tryd.prog pl9q Tryd.f9 c, guardsAll pl9q c)) = some (pf9q, true) := by kernel_rfl


end Go.Proofs.YtdmcdlgcmeledaaDoor
