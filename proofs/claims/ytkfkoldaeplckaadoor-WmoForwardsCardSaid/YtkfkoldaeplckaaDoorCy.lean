/-
  The program of one function, with other quiet calls.
-/
import Derived.Test.YtkfkoldaeplckaaDoorCw

namespace Go.Proofs.YtkfkoldaeplckaaDoor
open Go Go.Vc
set_option maxRecDepth 100000
/-- corral/corrallaw14.WmoForwards  sizes [] -/
def pl4q : Nat → DT := dtGet []
def pf4q : PFn := ⟨62, [.t 4], (.seq (.ops false [⟨(some 4), .mov (.c (.v (.bool false))), none⟩] .done)
  (.seq (.ops false [⟨(some 11), .call 12 [], none⟩,
    ⟨(some 5), .mov (.t 11), none⟩] .done)
  (.seq (.seq (.ops false [⟨(some 12), .mov (.t 5), none⟩,
     ⟨(some 13), .un .not (.t 12), none⟩] .done)
   (.cond (.t 13)
    (.seq (.ops false [⟨(some 4), .mov (.c (.v (.bool false))), none⟩] .done)
     .ret)
    .skip))
  (.seq (.ops false [⟨(some 14), .mov (.t 0), none⟩,
    ⟨(some 15), .build [(.v (.int .i64 0)), (.v (.int .i64 0)), (.v (.int .u32 0)), (.v (.int .u32 0)), (.v (.int .u32 0)), (.v (.bool false)), (.v (.bool false)), (.v (.bool false)), (.v (.int .i64 0)), (.v (.int .i64 0)), (.v (.slice none 0 0)), (.v (.slice none 0 0)), (.v (.slice none 0 0))] [(0, 1, (.c (.v (.int .i64 2)))), (1, 1, (.c (.v (.int .i64 4)))), (3, 1, (.t 14))], none⟩,
    ⟨(some 16), .mov (.t 0), none⟩,
    ⟨(some 17), .build [(.v (.int .i64 0)), (.v (.int .i64 0)), (.v (.int .u32 0)), (.v (.int .u32 0)), (.v (.int .u32 0)), (.v (.bool false)), (.v (.bool false)), (.v (.bool false)), (.v (.int .i64 0)), (.v (.int .i64 0)), (.v (.slice none 0 0)), (.v (.slice none 0 0)), (.v (.slice none 0 0))] [(0, 1, (.c (.v (.int .i64 1)))), (1, 1, (.c (.v (.int .i64 4)))), (4, 1, (.t 16))], none⟩,
    ⟨(some 18), .bslice 38 [.int .i64, .int .i64, .int .u32, .int .u32, .int .u32, .bool, .bool, .bool, .int .i64, .int .i64, .sl, .sl, .sl] 2 [(.v (.int .i64 0)), (.v (.int .i64 0)), (.v (.int .u32 0)), (.v (.int .u32 0)), (.v (.int .u32 0)), (.v (.bool false)), (.v (.bool false)), (.v (.bool false)), (.v (.int .i64 0)), (.v (.int .i64 0)), (.v (.slice none 0 0)), (.v (.slice none 0 0)), (.v (.slice none 0 0)), (.v (.int .i64 0)), (.v (.int .i64 0)), (.v (.int .u32 0)), (.v (.int .u32 0)), (.v (.int .u32 0)), (.v (.bool false)), (.v (.bool false)), (.v (.bool false)), (.v (.int .i64 0)), (.v (.int .i64 0)), (.v (.slice none 0 0)), (.v (.slice none 0 0)), (.v (.slice none 0 0))] [(0, 13, (.t 15)), (13, 13, (.t 17))], none⟩,
    ⟨(some 19), .mov (.t 1), none⟩,
    ⟨(some 20), .build [(.v (.int .i64 0)), (.v (.int .i64 0)), (.v (.int .u32 0)), (.v (.int .u32 0)), (.v (.int .u32 0)), (.v (.bool false)), (.v (.bool false)), (.v (.bool false)), (.v (.int .i64 0)), (.v (.int .i64 0)), (.v (.slice none 0 0)), (.v (.slice none 0 0)), (.v (.slice none 0 0))] [(0, 1, (.c (.v (.int .i64 2)))), (1, 1, (.c (.v (.int .i64 4)))), (3, 1, (.t 19))], none⟩,
    ⟨(some 21), .bslice 38 [.int .i64, .int .i64, .int .u32, .int .u32, .int .u32, .bool, .bool, .bool, .int .i64, .int .i64, .sl, .sl, .sl] 1 [(.v (.int .i64 0)), (.v (.int .i64 0)), (.v (.int .u32 0)), (.v (.int .u32 0)), (.v (.int .u32 0)), (.v (.bool false)), (.v (.bool false)), (.v (.bool false)), (.v (.int .i64 0)), (.v (.int .i64 0)), (.v (.slice none 0 0)), (.v (.slice none 0 0)), (.v (.slice none 0 0))] [(0, 13, (.t 20))], none⟩,
    ⟨(some 22), .bslice 34 [.sl] 2 [(.v (.slice none 0 0)), (.v (.slice none 0 0))] [(0, 1, (.t 18)), (1, 1, (.t 21))], none⟩,
    ⟨(some 6), .mov (.t 22), none⟩] .done)
  (.seq (.ops false [⟨(some 23), .call 17 [(.c (.v (.slice none 0 0)))], none⟩,
    ⟨(some 7), .mov (.t 23), none⟩] .done)
  (.seq (.ops false [⟨(some 24), .mov (.t 6), none⟩,
    ⟨(some 25), .build [(.v (.int .i64 0)), (.v (.int .i64 0))] [(0, 1, (.c (.v (.int .i64 0)))), (1, 1, (.c (.v (.int .i64 1))))], none⟩,
    ⟨(some 26), .build [(.v (.int .i64 0)), (.v (.int .i64 0))] [(0, 1, (.c (.v (.int .i64 1))))], none⟩,
    ⟨(some 27), .build [(.v (.int .i64 0)), (.v (.int .i64 0))] [(0, 1, (.c (.v (.int .i64 0))))], none⟩,
    ⟨(some 28), .bslice 41 [.int .i64, .int .i64] 3 [(.v (.int .i64 0)), (.v (.int .i64 0)), (.v (.int .i64 0)), (.v (.int .i64 0)), (.v (.int .i64 0)), (.v (.int .i64 0))] [(0, 2, (.t 25)), (2, 2, (.t 26)), (4, 2, (.t 27))], none⟩,
    ⟨(some 29), .mov (.t 7), none⟩,
    ⟨(some 30), .call 18 [(.t 24), (.t 28), (.t 29)], none⟩,
    ⟨(some 8), .mov (.t 30), none⟩] .done)
  (.seq (.ops false [⟨(some 31), .mov (.t 6), none⟩,
    ⟨(some 32), .build [(.v (.int .i64 0)), (.v (.int .i64 0))] [(0, 1, (.c (.v (.int .i64 1))))], none⟩,
    ⟨(some 33), .build [(.v (.int .i64 0)), (.v (.int .i64 0))] [(0, 1, (.c (.v (.int .i64 0)))), (1, 1, (.c (.v (.int .i64 1))))], none⟩,
    ⟨(some 34), .build [(.v (.int .i64 0)), (.v (.int .i64 0))] [(0, 1, (.c (.v (.int .i64 0))))], none⟩,
    ⟨(some 35), .bslice 41 [.int .i64, .int .i64] 3 [(.v (.int .i64 0)), (.v (.int .i64 0)), (.v (.int .i64 0)), (.v (.int .i64 0)), (.v (.int .i64 0)), (.v (.int .i64 0))] [(0, 2, (.t 32)), (2, 2, (.t 33)), (4, 2, (.t 34))], none⟩,
    ⟨(some 36), .mov (.t 7), none⟩,
    ⟨(some 37), .call 18 [(.t 31), (.t 35), (.t 36)], none⟩,
    ⟨(some 9), .mov (.t 37), none⟩] .done)
  (.seq (.ops false [⟨(some 38), .mov (.t 6), none⟩,
    ⟨(some 39), .build [(.v (.int .i64 0)), (.v (.int .i64 0))] [(0, 1, (.c (.v (.int .i64 0))))], none⟩,
    ⟨(some 40), .build [(.v (.int .i64 0)), (.v (.int .i64 0))] [(0, 1, (.c (.v (.int .i64 1))))], none⟩,
    ⟨(some 41), .build [(.v (.int .i64 0)), (.v (.int .i64 0))] [(0, 1, (.c (.v (.int .i64 0)))), (1, 1, (.c (.v (.int .i64 1))))], none⟩,
    ⟨(some 42), .bslice 41 [.int .i64, .int .i64] 3 [(.v (.int .i64 0)), (.v (.int .i64 0)), (.v (.int .i64 0)), (.v (.int .i64 0)), (.v (.int .i64 0)), (.v (.int .i64 0))] [(0, 2, (.t 39)), (2, 2, (.t 40)), (4, 2, (.t 41))], none⟩,
    ⟨(some 43), .mov (.t 7), none⟩,
    ⟨(some 44), .call 18 [(.t 38), (.t 42), (.t 43)], none⟩,
    ⟨(some 10), .mov (.t 44), none⟩] .done)
  (.seq (.ops false [⟨(some 45), .mov (.t 5), none⟩,
    ⟨(some 46), .mov (.t 45), none⟩,
    ⟨(some 47), .mov (.t 8), some (46, true)⟩,
    ⟨(some 48), .eqp 1 true false (.t 47) (.c (.v .nilIface)), some (46, true)⟩,
    ⟨(some 49), .pick (.t 46) (.t 48) (.c (.v (.bool false))), none⟩,
    ⟨(some 50), .mov (.t 49), none⟩,
    ⟨(some 51), .mov (.t 9), some (50, true)⟩,
    ⟨(some 52), .eqp 1 true false (.t 51) (.c (.v .nilIface)), some (50, true)⟩,
    ⟨(some 53), .pick (.t 50) (.t 52) (.c (.v (.bool false))), none⟩,
    ⟨(some 54), .mov (.t 53), none⟩,
    ⟨(some 55), .mov (.t 10), some (54, true)⟩,
    ⟨(some 56), .eqp 1 true false (.t 55) (.c (.v .nilIface)), some (54, true)⟩,
    ⟨(some 57), .mov (.t 0), some (54, true)⟩,
    ⟨(some 58), .mov (.t 1), some (54, true)⟩,
    ⟨(some 59), .bin .eql (.t 57) (.t 58), some (54, true)⟩,
    ⟨(some 60), .eqb false (.t 56) (.t 59), some (54, true)⟩,
    ⟨(some 61), .pick (.t 54) (.t 60) (.c (.v (.bool false))), none⟩,
    ⟨(some 4), .mov (.t 61), none⟩] .done)
  .ret)))))))))⟩
theorem pf4q_eq : (Tryd.f4.body.map fun c => (cfn Tryd.prog pl4q Tryd.f4 c, guardsAll pl4q c)) = some (pf4q, true) := by kernel_rfl


end Go.Proofs.YtkfkoldaeplckaaDoor
/-
  What Check tells, in parts; words and their bytes; WmoForwards, walked.
-/
namespace Go.Proofs.YtkfkoldaeplckaaDoor
open Go Go.Vc
set_option maxRecDepth 100000
set_option linter.unusedSimpArgs false
set_option linter.unusedVariables false
set_option maxHeartbeats 20000000
theorem chkE_none {H : Hs} {O : List Rf} {bl : List Int} {n : Nat} (hn : O.length = n) (h1 : firstP (stayN H (tabT H O n) O) n = none) (h2 : ∀ p, p < n → badV H O (wN H O n) bl p = false) (h3 : firstP (badA H O (wN H O n) (frN H O (wN H O n) n)) n = none) : chkE H O bl = none := by
  unfold chkE
  subst hn
  rw [h1]
  dsimp only
  rw [(FirstAt.no h2).eq]
  dsimp only
  rw [h3]
theorem chkE_val {H : Hs} {O : List Rf} {bl : List Int} {n : Nat} (hn : O.length = n) (h1 : firstP (stayN H (tabT H O n) O) n = none) {p : Nat} (hp : p < n) (h2 : badV H O (wN H O n) bl p = true) (ha : ∀ q, q < p → badV H O (wN H O n) bl q = false) : chkE H O bl = some (10, p) := by
  unfold chkE
  subst hn
  rw [h1]
  dsimp only
  rw [(FirstAt.yes p hp h2 ha).eq]
theorem topB4 {x : Op} (hs : x.sz = 4) (h0 : 0 ≤ x.g) (h1 : x.g < 4294967296) : topB x = true := by
  unfold topB
  rw [hs, show IntKind.i64.wrap (8 * 4) = 32 by decide, show IntKind.u64.wrap x.g = x.g by rw [IntKind.wrap_u64]; omega]
  rw [show min (32 : Int).toNat IntKind.u64.bits = 32 by decide, Int.fdiv_eq_ediv_of_nonneg _ (by decide), Int.ediv_eq_zero_of_lt h0 (by simpa using h1)]
  rfl
theorem byteN_0 (a : Int) : byteN a 0 0 = a % 256 := by
  rw [show byteN a 0 0 = IntKind.u8.wrap (a.fdiv 1) from by kernel_rfl, IntKind.wrap_u8, Int.fdiv_eq_ediv_of_nonneg _ (by decide)]
  omega
theorem byteN_1 (a : Int) : byteN a 0 1 = a / 256 % 256 := by
  rw [show byteN a 0 1 = IntKind.u8.wrap (a.fdiv 256) from by kernel_rfl, IntKind.wrap_u8, Int.fdiv_eq_ediv_of_nonneg _ (by decide)]
theorem byteN_2 (a : Int) : byteN a 0 2 = a / 65536 % 256 := by
  rw [show byteN a 0 2 = IntKind.u8.wrap (a.fdiv 65536) from by kernel_rfl, IntKind.wrap_u8, Int.fdiv_eq_ediv_of_nonneg _ (by decide)]
theorem byteN_3 (a : Int) : byteN a 0 3 = a / 16777216 % 256 := by
  rw [show byteN a 0 3 = IntKind.u8.wrap (a.fdiv 16777216) from by kernel_rfl, IntKind.wrap_u8, Int.fdiv_eq_ediv_of_nonneg _ (by decide)]
/-- The four bytes of two words are alike. -/
def same4 (a b : Int) : Bool := (byteN a 0 0 == byteN b 0 0) && (byteN a 0 1 == byteN b 0 1) && (byteN a 0 2 == byteN b 0 2) && (byteN a 0 3 == byteN b 0 3)
theorem same4_eq {a b : Int} (ha : 0 ≤ a ∧ a < 4294967296) (hb : 0 ≤ b ∧ b < 4294967296) : same4 a b = decide (a = b) := by
  unfold same4
  rw [byteN_0, byteN_0, byteN_1, byteN_1, byteN_2, byteN_2, byteN_3, byteN_3]
  by_cases h : a = b
  · subst h
    simp
  · rw [decide_eq_false h]
    simp only [Bool.and_eq_false_iff, beq_eq_false_iff_ne]
    omega
def fwH (y1 y2 : Value) (a b : Int) : Hs := [(y1, [opP 2 4 0 a 0, opP 1 4 0 0 a]), (y2, [opP 2 4 0 b 0])]
def fwO1 : List Rf := [(0, 1), (1, 0), (0, 0)]
def fwO2 : List Rf := [(1, 0), (0, 1), (0, 0)]
def fwO3 : List Rf := [(0, 0), (1, 0), (0, 1)]
theorem fw1_ok (y1 y2 : Value) (a b : Int) : okB (fwH y1 y2 a b) fwO1 = true := by kernel_rfl
theorem fw2_ok (y1 y2 : Value) (a b : Int) : okB (fwH y1 y2 a b) fwO2 = true := by kernel_rfl
theorem fw3_ok (y1 y2 : Value) (a b : Int) : okB (fwH y1 y2 a b) fwO3 = true := by kernel_rfl
theorem fw1_e (y1 y2 : Value) {a : Int} (b : Int) (ha : 0 ≤ a ∧ a < 4294967296) : chkE (fwH y1 y2 a b) fwO1 [] = none := by
  have h0 : badV (fwH y1 y2 a b) fwO1 (wN (fwH y1 y2 a b) fwO1 3) [] 0 = !(topB (opP 1 4 0 0 a) && (byteN a 0 0 == byteN a 0 0) && (byteN a 0 1 == byteN a 0 1) && (byteN a 0 2 == byteN a 0 2) && (byteN a 0 3 == byteN a 0 3)) := by kernel_rfl
  rw [topB4 rfl ha.1 ha.2] at h0
  refine chkE_none (n := 3) rfl (by kernel_rfl) (fun p hp => ?_) (by kernel_rfl)
  rcases (show p = 0 ∨ p = 1 ∨ p = 2 by omega) with rfl | rfl | rfl
  · rw [h0]; simp
  · kernel_rfl
  · kernel_rfl
theorem fw2_e (y1 y2 : Value) {a : Int} (b : Int) (ha : 0 ≤ a ∧ a < 4294967296) : chkE (fwH y1 y2 a b) fwO2 [] = none := by
  have h0 : badV (fwH y1 y2 a b) fwO2 (wN (fwH y1 y2 a b) fwO2 3) [] 1 = !(topB (opP 1 4 0 0 a) && (byteN a 0 0 == byteN a 0 0) && (byteN a 0 1 == byteN a 0 1) && (byteN a 0 2 == byteN a 0 2) && (byteN a 0 3 == byteN a 0 3)) := by kernel_rfl
  rw [topB4 rfl ha.1 ha.2] at h0
  refine chkE_none (n := 3) rfl (by kernel_rfl) (fun p hp => ?_) (by kernel_rfl)
  rcases (show p = 0 ∨ p = 1 ∨ p = 2 by omega) with rfl | rfl | rfl
  · kernel_rfl
  · rw [h0]; simp
  · kernel_rfl
theorem fw3_e (y1 y2 : Value) {a b : Int} (ha : 0 ≤ a ∧ a < 4294967296) (hb : 0 ≤ b ∧ b < 4294967296) : chkE (fwH y1 y2 a b) fwO3 [] = if a = b then none else some (10, 2) := by
  have h0 : badV (fwH y1 y2 a b) fwO3 (wN (fwH y1 y2 a b) fwO3 3) [] 2 = !(topB (opP 1 4 0 0 a) && (byteN a 0 0 == byteN b 0 0) && (byteN a 0 1 == byteN b 0 1) && (byteN a 0 2 == byteN b 0 2) && (byteN a 0 3 == byteN b 0 3)) := by kernel_rfl
  rw [topB4 rfl ha.1 ha.2, Bool.true_and] at h0
  rw [show ((byteN a 0 0 == byteN b 0 0) && (byteN a 0 1 == byteN b 0 1) && (byteN a 0 2 == byteN b 0 2) && (byteN a 0 3 == byteN b 0 3)) = same4 a b from rfl, same4_eq ha hb] at h0
  have h1 : badV (fwH y1 y2 a b) fwO3 (wN (fwH y1 y2 a b) fwO3 3) [] 0 = false := by kernel_rfl
  have h2 : badV (fwH y1 y2 a b) fwO3 (wN (fwH y1 y2 a b) fwO3 3) [] 1 = false := by kernel_rfl
  by_cases h : a = b
  · rw [if_pos h]
    refine chkE_none (n := 3) rfl (by kernel_rfl) (fun p hp => ?_) (by kernel_rfl)
    rcases (show p = 0 ∨ p = 1 ∨ p = 2 by omega) with rfl | rfl | rfl
    · exact h1
    · exact h2
    · rw [h0, decide_eq_true h]; rfl
  · rw [if_neg h]
    refine chkE_val (n := 3) rfl (by kernel_rfl) (p := 2) (by omega) (by rw [h0, decide_eq_false h]; rfl) fun q hq => ?_
    rcases (show q = 0 ∨ q = 1 by omega) with rfl | rfl
    · exact h1
    · exact h2
noncomputable def specsY1 : Nat → Option Vc.Trans := tget [(12, frameT firstS), (17, frameT bofS), (18, frameT checkS)]
noncomputable def GY1 : Nat → Option Vc.Trans := tabG specsY1 (tget tab) 6
theorem GY1_ok : GOK Tryd.prog GY1 := tabG_ok (GOK.cons (frame_ok first_ok) (GOK.cons (frame_ok bof_ok) (GOK.cons (frame_ok check_ok) .nil))) tab_ok 6
theorem fwd_run (M : HL) (K : SV → List Ent → HL → Prop) (ad : Nat → Addr) (hS : Sents M ad) (a b : Int) (ha : 0 ≤ a ∧ a < 4294967296) (hb : 0 ≤ b ∧ b < 4294967296) (hK : ∀ hp M', K (.v (.bool true)) hp M') :
    runF GY1 pf4q [.v (.int .u32 a), .v (.int .u32 b)] [] M K := by
  repeat ((conv => whnf); (first | refine Cnd.yes ?_ | refine Cnd.no ?_ | refine And.intro rfl ?_ | refine aom ?_ | refine Alt.std ?_ | (show Ko_ _ _ _ _; subst hKo_) | refine ctt ?_ | refine cff ?_))
  conv => whnf
  refine ⟨ad, hS, rfl, rfl, ?_⟩
  repeat ((conv => whnf); (first | refine Cnd.yes ?_ | refine Cnd.no ?_ | refine And.intro rfl ?_ | refine aom ?_ | refine Alt.std ?_ | (show Ko_ _ _ _ _; subst hKo_) | refine ctt ?_ | refine cff ?_))
  conv => whnf
  intro y1 M1 hM1 hR1
  repeat ((conv => whnf); (first | refine Cnd.yes ?_ | refine Cnd.no ?_ | refine And.intro rfl ?_ | refine aom ?_ | refine Alt.std ?_ | (show Ko_ _ _ _ _; subst hKo_) | refine ctt ?_ | refine cff ?_))
  conv => whnf
  intro y2 M2 hM2 hR2
  repeat ((conv => whnf); (first | refine Cnd.yes ?_ | refine Cnd.no ?_ | refine And.intro rfl ?_ | refine aom ?_ | refine Alt.std ?_ | (show Ko_ _ _ _ _; subst hKo_) | refine ctt ?_ | refine cff ?_))
  conv => whnf
  have hH : HIn M2 (fwH y1 y2 a b) := HIn.cons (hR1.mono hM2) (bare2 (bareP ..) (bareP ..)) (HIn.cons hR2 (bare1 (bareP ..)) HIn.nil)
  have hS2 := (hS.mono hM1).mono hM2
  refine ⟨ad, 34, 41, 5, fwH y1 y2 a b, fwO1, [], rfl, rfl, hS2, hH, okB_ok (fw1_ok y1 y2 a b), ?_⟩
  rw [fw1_e y1 y2 b ha]
  repeat ((conv => whnf); (first | refine Cnd.yes ?_ | refine Cnd.no ?_ | refine And.intro rfl ?_ | refine aom ?_ | refine Alt.std ?_ | (show Ko_ _ _ _ _; subst hKo_) | refine ctt ?_ | refine cff ?_))
  conv => whnf
  refine ⟨ad, 34, 41, 5, fwH y1 y2 a b, fwO2, [], rfl, rfl, hS2, hH, okB_ok (fw2_ok y1 y2 a b), ?_⟩
  rw [fw2_e y1 y2 b ha]
  repeat ((conv => whnf); (first | refine Cnd.yes ?_ | refine Cnd.no ?_ | refine And.intro rfl ?_ | refine aom ?_ | refine Alt.std ?_ | (show Ko_ _ _ _ _; subst hKo_) | refine ctt ?_ | refine cff ?_))
  conv => whnf
  refine ⟨ad, 34, 41, 5, fwH y1 y2 a b, fwO3, [], rfl, rfl, hS2, hH, okB_ok (fw3_ok y1 y2 a b), ?_⟩
  rw [fw3_e y1 y2 ha hb]
  by_cases h : a = b
  · rw [if_pos h]
    repeat ((conv => whnf); (first | refine Cnd.yes ?_ | refine Cnd.no ?_ | refine And.intro rfl ?_ | refine aom ?_ | refine Alt.std ?_ | (show Ko_ _ _ _ _; subst hKo_) | refine ctt ?_ | refine cff ?_))
    conv => whnf
    have e : (true == (a == b)) = true := by simp [h]
    show K (SV.v (Value.bool (true == (a == b)))) _ _
    rw [e]
    exact hK _ _
  · rw [if_neg h]
    repeat ((conv => whnf); (first | refine Cnd.yes ?_ | refine Cnd.no ?_ | refine And.intro rfl ?_ | refine aom ?_ | refine Alt.std ?_ | (show Ko_ _ _ _ _; subst hKo_) | refine ctt ?_ | refine cff ?_))
    conv => whnf
    have e : (false == (a == b)) = true := by simp [h]
    show K (SV.v (Value.bool (false == (a == b)))) _ _
    rw [e]
    exact hK _ _
end Go.Proofs.YtkfkoldaeplckaaDoor
