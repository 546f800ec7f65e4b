/-
  The program of one function, with other quiet calls.
-/
import Derived.Test.YtkfkoldaeplckaaDoorCw
set_option linter.unusedSimpArgs false
set_option linter.unusedVariables false

namespace Go.Proofs.YtkfkoldaeplckaaDoor
open Go Go.Vc
set_option maxRecDepth 100000
/-- corral/corrallaw14.WmoForwards  sizes [] -/
def pl4q : Nat → DT := dtGet []
def pf4q : PFn := ⟨62, [.t 4], (.seq (.ops false [⟨(some 4), .mov (.c (.v (.bool false))), none⟩] .done)
  (.seq (.ops false [⟨(some 11), .call 12 [], none⟩,
    ⟨(some 5), .mov (.t 11), none⟩] .done)
  (.seq (.seq (.ops false [⟨(some 12), .mov (.t 5), none⟩,
     ⟨(some 13), .un .not (.t 12), none⟩] .done)
   (.cond (.t 13)
    (.seq (.ops false [⟨(some 4), .mov (.c (.v (.bool false))), none⟩] .done)
     .ret)
    .skip))
  (.seq (.ops false [⟨(some 14), .mov (.t 0), none⟩,
    ⟨(some 15), .build [(.v (.int .i64 0)), (.v (.int .i64 0)), (.v (.int .u32 0)), (.v (.int .u32 0)), (.v (.int .u32 0)), (.v (.bool false)), (.v (.bool false)), (.v (.bool false)), (.v (.int .i64 0)), (.v (.int .i64 0)), (.v (.slice none 0 0)), (.v (.slice none 0 0)), (.v (.slice none 0 0))] [(0, 1, (.c (.v (.int .i64 2)))), (1, 1, (.c (.v (.int .i64 4)))), (3, 1, (.t 14))], none⟩,
    ⟨(some 16), .mov (.t 0), none⟩,
    ⟨(some 17), .build [(.v (.int .i64 0)), (.v (.int .i64 0)), (.v (.int .u32 0)), (.v (.int .u32 0)), (.v (.int .u32 0)), (.v (.bool false)), (.v (.bool false)), (.v (.bool false)), (.v (.int .i64 0)), (.v (.int .i64 0)), (.v (.slice none 0 0)), (.v (.slice none 0 0)), (.v (.slice none 0 0))] [(0, 1, (.c (.v (.int .i64 1)))), (1, 1, (.c (.v (.int .i64 4)))), (4, 1, (.t 16))], none⟩,
    ⟨(some 18), .bslice 38 [.int .i64, .int .i64, .int .u32, .int .u32, .int .u32, .bool, .bool, .bool, .int .i64, .int .i64, .sl, .sl, .sl] 2 [(.v (.int .i64 0)), (.v (.int .i64 0)), (.v (.int .u32 0)), (.v (.int .u32 0)), (.v (.int .u32 0)), (.v (.bool false)), (.v (.bool false)), (.v (.bool false)), (.v (.int .i64 0)), (.v (.int .i64 0)), (.v (.slice none 0 0)), (.v (.slice none 0 0)), (.v (.slice none 0 0)), (.v (.int .i64 0)), (.v (.int .i64 0)), (.v (.int .u32 0)), (.v (.int .u32 0)), (.v (.int .u32 0)), (.v (.bool false)), (.v (.bool false)), (.v (.bool false)), (.v (.int .i64 0)), (.v (.int .i64 0)), (.v (.slice none 0 0)), (.v (.slice none 0 0)), (.v (.slice none 0 0))] [(0, 13, (.t 15)), (13, 13, (.t 17))], none⟩,
    ⟨(some 19), .mov (.t 1), none⟩,
    ⟨(some 20), .build [(.v (.int .i64 0)), (.v (.int .i64 0)), (.v (.int .u32 0)), (.v (.int .u32 0)), (.v (.int .u32 0)), (.v (.bool false)), (.v (.bool false)), (.v (.bool false)), (.v (.int .i64 0)), (.v (.int .i64 0)), (.v (.slice none 0 0)), (.v (.slice none 0 0)), (.v (.slice none 0 0))] [(0, 1, (.c (.v (.int .i64 2)))), (1, 1, (.c (.v (.int .i64 4)))), (3, 1, (.t 19))], none⟩,
    ⟨(some 21), .bslice 38 [.int .i64, .int .i64, .int .u32, .int .u32, .int .u32, .bool, .bool, .bool, .int .i64, .int .i64, .sl, .sl, .sl] 1 [(.v (.int .i64 0)), (.v (.int .i64 0)), (.v (.int .u32 0)), (.v (.int .u32 0)), (.v (.int .u32 0)), (.v (.bool false)), (.v (.bool false)), (.v (.bool false)), (.v (.int .i64 0)), (.v (.int .i64 0)), (.v (.slice none 0 0)), (.v (.slice none 0 0)), (.v (.slice none 0 0))] [(0, 13, (.t 20))], none⟩,
    ⟨(some 22), .bslice 34 [.sl] 2 [(.v (.slice none 0 0)), (.v (.slice none 0 0))] [(0, 1, (.t 18)), (1, 1, (.t 21))], none⟩,
    ⟨(some 6), .mov (.t 22), none⟩] .done)
  (.seq (.ops false [⟨(some 23), .call 17 [(.c (.v (.slice none 0 0)))], none⟩,
    ⟨(some 7), .mov (.t 23), none⟩] .done)
  (.seq (.ops false [⟨(some 24), .mov (.t 6), none⟩,
    ⟨(some 25), .build [(.v (.int .i64 0)), (.v (.int .i64 0))] [(0, 1, (.c (.v (.int .i64 0)))), (1, 1, (.c (.v (.int .i64 1))))], none⟩,
    ⟨(some 26), .build [(.v (.int .i64 0)), (.v (.int .i64 0))] [(0, 1, (.c (.v (.int .i64 1))))], none⟩,
    ⟨(some 27), .build [(.v (.int .i64 0)), (.v (.int .i64 0))] [(0, 1, (.c (.v (.int .i64 0))))], none⟩,
    ⟨(some 28), .bslice 41 [.int .i64, .int .i64] 3 [(.v (.int .i64 0)), (.v (.int .i64 0)), (.v (.int .i64 0)), (.v (.int .i64 0)), (.v (.int .i64 0)), (.v (.int .i64 0))] [(0, 2, (.t 25)), (2, 2, (.t 26)), (4, 2, (.t 27))], none⟩,
    ⟨(some 29), .mov (.t 7), none⟩,
    ⟨(some 30), .call 18 [(.t 24), (.t 28), (.t 29)], none⟩,
    ⟨(some 8), .mov (.t 30), none⟩] .done)
  (.seq (.ops false [⟨(some 31), .mov (.t 6), none⟩,
    ⟨(some 32), .build [(.v (.int .i64 0)), (.v (.int .i64 0))] [(0, 1, (.c (.v (.int .i64 1))))], none⟩,
    ⟨(some 33), .build [(.v (.int .i64 0)), (.v (.int .i64 0))] [(0, 1, (.c (.v (.int .i64 0)))), (1, 1, (.c (.v (.int .i64 1))))], none⟩,
    ⟨(some 34), .build [(.v (.int .i64 0)), (.v (.int .i64 0))] [(0, 1, (.c (.v (.int .i64 0))))], none⟩,
    ⟨(some 35), .bslice 41 [.int .i64, .int .i64] 3 [(.v (.int .i64 0)), (.v (.int .i64 0)), (.v (.int .i64 0)), (.v (.int .i64 0)), (.v (.int .i64 0)), (.v (.int .i64 0))] [(0, 2, (.t 32)), (2, 2, (.t 33)), (4, 2, (.t 34))], none⟩,
    ⟨(some 36), .mov (.t 7), none⟩,
    ⟨(some 37), .call 18 [(.t 31), (.t 35), (.t 36)], none⟩,
    ⟨(some 9), .mov (.t 37), none⟩] .done)
  (.seq (.ops false [⟨(some 38), .mov (.t 6), none⟩,
    ⟨(some 39), .build [(.v (.int .i64 0)), (.v (.int .i64 0))] [(0, 1, (.c (.v (.int .i64 0))))], none⟩,
    ⟨(some 40), .build [(.v (.int .i64 0)), (.v (.int .i64 0))] [(0, 1, (.c (.v (.int .i64 1))))], none⟩,
    ⟨(some 41), .build [(.v (.int .i64 0)), (.v (.int .i64 0))] [(0, 1, (.c (.v (.int .i64 0)))), (1, 1, (.c (.v (.int .i64 1))))], none⟩,
    ⟨(some 42), .bslice 41 [.int .i64, .int .i64] 3 [(.v (.int .i64 0)), (.v (.int .i64 0)), (.v (.int .i64 0)), (.v (.int .i64 0)), (.v (.int .i64 0)), (.v (.int .i64 0))] [(0, 2, (.t 39)), (2, 2, (.t 40)), (4, 2, (.t 41))], none⟩,
    ⟨(some 43), .mov (.t 7), none⟩,
    ⟨(some 44), .call 18 [(.t 38), (.t 42), (.t 43)], none⟩,
    ⟨(some 10), .mov (.t 44), none⟩] .done)
  (.seq (.ops false [⟨(some 45), .mov (.t 5), none⟩,
    ⟨(some 46), .mov (.t 45), none⟩,
    ⟨(some 47), .mov (.t 8), some (46, true)⟩,
    ⟨(some 48), .eqp 1 true false (.t 47) (.c (.v .nilIface)), some (46, true)⟩,
    ⟨(some 49), .pick (.t 46) (.t 48) (.c (.v (.bool false))), none⟩,
    ⟨(some 50), .mov (.t 49), none⟩,
    ⟨(some 51), .mov (.t 9), some (50, true)⟩,
    ⟨(some 52), .eqp 1 true false (.t 51) (.c (.v .nilIface)), some (50, true)⟩,
    ⟨(some 53), .pick (.t 50) (.t 52) (.c (.v (.bool false))), none⟩,
    ⟨(some 54), .mov (.t 53), none⟩,
    ⟨(some 55), .mov (.t 10), some (54, true)⟩,
    ⟨(some 56), .eqp 1 true false (.t 55) (.c (.v .nilIface)), some (54, true)⟩,
    ⟨(some 57), .mov (.t 0), some (54, true)⟩,
    ⟨(some 58), .mov (.t 1), some (54, true)⟩,
    ⟨(some 59), .bin .eql (.t 57) (.t 58), some (54, true)⟩,
    ⟨(some 60), .eqb false (.t 56) (.t 59), some (54, true)⟩,
    ⟨(some 61), .pick (.t 54) (.t 60) (.c (.v (.bool false))), none⟩,
    ⟨(some 4), .mov (.t 61), none⟩] .done)
  .ret)))))))))⟩
theorem pf4q_eq : (Tryd.f4.body.map fun c => (cfn Tryd.prog pl4q Tryd.f4 c, guardsAll pl4q c)) = some (pf4q, true) := by kernel_rfl


end Go.Proofs.YtkfkoldaeplckaaDoor
/-
  What Check tells, in parts; words and their bytes; WmoForwards, walked.
-/
namespace Go.Proofs.YtkfkoldaeplckaaDoor
open Go Go.Vc
set_option maxRecDepth 100000
set_option linter.unusedSimpArgs false
set_option linter.unusedVariables false
set_option maxHeartbeats 20000000
theorem chkE_none {H : Hs} {O : List Rf} {bl : List Int} {n : Nat} (hn : O.length = n) (h1 : firstP (stayN H (tabT H O n) O) n = none) (h2 : ∀ p, p < n → badV H O (wN H O n) bl p = false) (h3 : firstP (badA H O (wN H O n) (frN H O (wN H O n) n)) n = none) : chkE H O bl = none := by
  unfold chkE
  subst hn
  rw [h1]
  dsimp only
  rw [(FirstAt.no h2).eq]
  dsimp only
  rw [h3]
theorem chkE_val {H : Hs} {O : List Rf} {bl : List Int} {n : Nat} (hn : O.length = n) (h1 : firstP (stayN H (tabT H O n) O) n = none) {p : Nat} (hp : p < n) (h2 : badV H O (wN H O n) bl p = true) (ha : ∀ q, q < p → badV H O (wN H O n) bl q = false) : chkE H O bl = some (10, p) := by
  unfold chkE
  subst hn
  rw [h1]
  dsimp only
  rw [(FirstAt.yes p hp h2 ha).eq]
theorem topB4 {x : Op} (hs : x.sz = 4) (h0 : 0 ≤ x.g) (h1 : x.g < 4294967296) : topB x = true := by
  unfold topB
  rw [hs, show IntKind.i64.wrap (8 * 4) = 32 by decide, show IntKind.u64.wrap x.g = x.g by rw [IntKind.wrap_u64]; omega]
  rw [show min (32 : Int).toNat IntKind.u64.bits = 32 by decide, Int.fdiv_eq_ediv_of_nonneg _ (by decide), Int.ediv_eq_zero_of_lt h0 (by simpa using h1)]
  rfl
theorem byteN_0 (a : Int) : byteN a 0 0 = a % 256 := by
  rw [show byteN a 0 0 = IntKind.u8.wrap (a.fdiv 1) from by kernel_rfl, IntKind.wrap_u8, Int.fdiv_eq_ediv_of_nonneg _ (by decide)]
  omega
theorem byteN_1 (a : Int) : byteN a 0 1 = a / 256 % 256 := by
  rw [show byteN a 0 1 = IntKind.u8.wrap (a.fdiv 256) from by kernel_rfl, IntKind.wrap_u8, Int.fdiv_eq_ediv_of_nonneg _ (by decide)]
theorem byteN_2 (a : Int) : byteN a 0 2 = a / 65536 % 256 := by
  rw [show byteN a 0 2 = IntKind.u8.wrap (a.fdiv 65536) from by kernel_rfl, IntKind.wrap_u8, Int.fdiv_eq_ediv_of_nonneg _ (by decide)]
theorem byteN_3 (a : Int) : byteN a 0 3 = a / 16777216 % 256 := by
  rw [show byteN a 0 3 = IntKind.u8.wrap (a.fdiv 16777216) from by kernel_rfl, IntKind.wrap_u8, Int.fdiv_eq_ediv_of_nonneg _ (by decide)]
/-- The four bytes of two words are alike. -/
def same4 (a b : Int) : Bool := (byteN a 0 0 == byteN b 0 0) && (byteN a 0 1 == byteN b 0 1) && (byteN a 0 2 == byteN b 0 2) && (byteN a 0 3 == byteN b 0 3)
theorem same4_eq {a b : Int} (ha : 0 ≤ a ∧ a < 4294967296) (hb : 0 ≤ b ∧ b < 4294967296) : same4 a b = decide (a = b) := by
  unfold same4
  rw [byteN_0, byteN_0, byteN_1, byteN_1, byteN_2, byteN_2, byteN_3, byteN_3]
  by_cases h : a = b
  · subst h
    simp
  · rw [decide_eq_false h]
    simp only [Bool.and_eq_false_iff, beq_eq_false_iff_ne]
    omega
def fwH (y1 y2 : Value) (a b : Int) : Hs := [(y1, [opP 2 4 0 a 0, opP 1 4 0 0 a]), (y2, [opP 2 4 0 b 0])]
def fwO1 : List Rf := [(0, 1), (1, 0), (0, 0)]
def fwO2 : List Rf := [(1, 0), (0, 1), (0, 0)]
def fwO3 : List Rf := [(0, 0), (1, 0), (0, 1)]
theorem fw1_ok (y1 y2 : Value) (a b : Int) : okB (fwH y1 y2 a b) fwO1 = true := by kernel_rfl
theorem fw2_ok (y1 y2 : Value) (a b : Int) : okB (fwH y1 y2 a b) fwO2 = true := by kernel_rfl
theorem fw3_ok (y1 y2 : Value) (a b : Int) : okB (fwH y1 y2 a b) fwO3 = true := by kernel_rfl
theorem fw1_e (y1 y2 : Value) {a : Int} (b : Int) (ha : 0 ≤ a ∧ a < 4294967296) : chkE (fwH y1 y2 a b) fwO1 [] = none := by
  have h0 : badV (fwH y1 y2 a b) fwO1 (wN (fwH y1 y2 a b) fwO1 3) [] 0 = !(topB (opP 1 4 0 0 a) && (byteN a 0 0 == byteN a 0 0) && (byteN a 0 1 == byteN a 0 1) && (byteN a 0 2 == byteN a 0 2) && (byteN a 0 3 == byteN a 0 3)) := by kernel_rfl
  rw [topB4 rfl ha.1 ha.2] at h0
  refine chkE_none (n := 3) rfl (by kernel_rfl) (fun p hp => ?_) (by kernel_rfl)
  rcases (show p = 0 ∨ p = 1 ∨ p = 2 by omega) with rfl | rfl | rfl
  · rw [h0]; simp
  · kernel_rfl
  · kernel_rfl
theorem fw2_e (y1 y2 : Value) {a : Int} (b : Int) (ha : 0 ≤ a ∧ a < 4294967296) : chkE (fwH y1 y2 a b) fwO2 [] = none := by
  have h0 : badV (fwH y1 y2 a b) fwO2 (wN (fwH y1 y2 a b) fwO2 3) [] 1 = !(topB (opP 1 4 0 0 a) && (byteN a 0 0 == byteN a 0 0) && (byteN a 0 1 == byteN a 0 1) && (byteN a 0 2 == byteN a 0 2) && (byteN a 0 3 == byteN a 0 3)) := by kernel_rfl
  rw [topB4 rfl ha.1 ha.2] at h0
  refine chkE_none (n := 3) rfl (by kernel_rfl) (fun p hp => ?_) (by kernel_rfl)
  rcases (show p = 0 ∨ p = 1 ∨ p = 2 by omega) with rfl | rfl | rfl
  · kernel_rfl
  · rw [h0]; simp
  · kernel_rfl
theorem fw3_e (y1 y2 : Value) {a b : Int} (ha : 0 ≤ a ∧ a < 4294967296) (hb : 0 ≤ b ∧ b < 4294967296) : chkE (fwH y1 y2 a b) fwO3 [] = if a = b then none else some (10, 2) := by
  have h0 : badV (fwH y1 y2 a b) fwO3 (wN (fwH y1 y2 a b) fwO3 3) [] 2 = !(topB (opP 1 4 0 0 a) && (byteN a 0 0 == byteN b 0 0) && (byteN a 0 1 == byteN b 0 1) && (byteN a 0 2 == byteN b 0 2) && (byteN a 0 3 == byteN b 0 3)) := by kernel_rfl
  rw [topB4 rfl ha.1 ha.2, Bool.true_and] at h0
  rw [show ((byteN a 0 0 == byteN b 0 0) && (byteN a 0 1 == byteN b 0 1) && (byteN a 0 2 == byteN b 0 2) && (byteN a 0 3 == byteN b 0 3)) = same4 a b from rfl, same4_eq ha hb] at h0
  have h1 : badV (fwH y1 y2 a b) fwO3 (wN (fwH y1 y2 a b) fwO3 3) [] 0 = false := by kernel_rfl
  have h2 : badV (fwH y1 y2 a b) fwO3 (wN (fwH y1 y2 a b) fwO3 3) [] 1 = false := by kernel_rfl
  by_cases h : a = b
  · rw [if_pos h]
    refine chkE_none (n := 3) rfl (by kernel_rfl) (fun p hp => ?_) (by kernel_rfl)
    rcases (show p = 0 ∨ p = 1 ∨ p = 2 by omega) with rfl | rfl | rfl
    · exact h1
    · exact h2
    · rw [h0, decide_eq_true h]; rfl
  · rw [if_neg h]
    refine chkE_val (n := 3) rfl (by kernel_rfl) (p := 2) (by omega) (by rw [h0, decide_eq_false h]; rfl) fun q hq => ?_
    rcases (show q = 0 ∨ q = 1 by omega) with rfl | rfl
    · exact h1
    · exact h2
noncomputable def specsY1 : Nat → Option Vc.Trans := tget [(12, frameT firstS), (17, frameT bofS), (18, frameT checkS)]
noncomputable def GY1 : Nat → Option Vc.Trans := tabG specsY1 (tget tab) 6
theorem GY1_ok : GOK Tryd.prog GY1 := tabG_ok (GOK.cons (frame_ok first_ok) (GOK.cons (frame_ok bof_ok) (GOK.cons (frame_ok check_ok) .nil))) tab_ok 6
theorem fwd_run (M : HL) (K : SV → List Ent → HL → Prop) (ad : Nat → Addr) (hS : Sents M ad) (a b : Int) (ha : 0 ≤ a ∧ a < 4294967296) (hb : 0 ≤ b ∧ b < 4294967296) (hK : ∀ hp M', K (.v (.bool true)) hp M') :
    runF GY1 pf4q [.v (.int .u32 a), .v (.int .u32 b)] [] M K := by
  repeat ((conv => whnf); (first | refine Cnd.yes ?_ | refine Cnd.no ?_ | refine And.intro rfl ?_ | refine aom ?_ | refine Alt.std ?_ | (show Ko_ _ _ _ _; subst hKo_) | refine ctt ?_ | refine cff ?_))
  conv => whnf
  refine ⟨ad, hS, rfl, rfl, ?_⟩
  repeat ((conv => whnf); (first | refine Cnd.yes ?_ | refine Cnd.no ?_ | refine And.intro rfl ?_ | refine aom ?_ | refine Alt.std ?_ | (show Ko_ _ _ _ _; subst hKo_) | refine ctt ?_ | refine cff ?_))
  conv => whnf
  intro y1 M1 hM1 hR1
  repeat ((conv => whnf); (first | refine Cnd.yes ?_ | refine Cnd.no ?_ | refine And.intro rfl ?_ | refine aom ?_ | refine Alt.std ?_ | (show Ko_ _ _ _ _; subst hKo_) | refine ctt ?_ | refine cff ?_))
  conv => whnf
  intro y2 M2 hM2 hR2
  repeat ((conv => whnf); (first | refine Cnd.yes ?_ | refine Cnd.no ?_ | refine And.intro rfl ?_ | refine aom ?_ | refine Alt.std ?_ | (show Ko_ _ _ _ _; subst hKo_) | refine ctt ?_ | refine cff ?_))
  conv => whnf
  have hH : HIn M2 (fwH y1 y2 a b) := HIn.cons (hR1.mono hM2) (bare2 (bareP ..) (bareP ..)) (HIn.cons hR2 (bare1 (bareP ..)) HIn.nil)
  have hS2 := (hS.mono hM1).mono hM2
  refine ⟨ad, 34, 41, 5, fwH y1 y2 a b, fwO1, [], rfl, rfl, hS2, hH, okB_ok (fw1_ok y1 y2 a b), ?_⟩
  rw [fw1_e y1 y2 b ha]
  repeat ((conv => whnf); (first | refine Cnd.yes ?_ | refine Cnd.no ?_ | refine And.intro rfl ?_ | refine aom ?_ | refine Alt.std ?_ | (show Ko_ _ _ _ _; subst hKo_) | refine ctt ?_ | refine cff ?_))
  conv => whnf
  refine ⟨ad, 34, 41, 5, fwH y1 y2 a b, fwO2, [], rfl, rfl, hS2, hH, okB_ok (fw2_ok y1 y2 a b), ?_⟩
  rw [fw2_e y1 y2 b ha]
  repeat ((conv => whnf); (first | refine Cnd.yes ?_ | refine Cnd.no ?_ | refine And.intro rfl ?_ | refine aom ?_ | refine Alt.std ?_ | (show Ko_ _ _ _ _; subst hKo_) | refine ctt ?_ | refine cff ?_))
  conv => whnf
  refine ⟨ad, 34, 41, 5, fwH y1 y2 a b, fwO3, [], rfl, rfl, hS2, hH, okB_ok (fw3_ok y1 y2 a b), ?_⟩
  rw [fw3_e y1 y2 ha hb]
  by_cases h : a = b
  · rw [if_pos h]
    repeat ((conv => whnf); (first | refine Cnd.yes ?_ | refine Cnd.no ?_ | refine And.intro rfl ?_ | refine aom ?_ | refine Alt.std ?_ | (show Ko_ _ _ _ _; subst hKo_) | refine ctt ?_ | refine cff ?_))
    conv => whnf
    have e : (true == (a == b)) = true := by simp [h]
    show K (SV.v (Value.bool (true == (a == b)))) _ _
    rw [e]
    exact hK _ _
  · rw [if_neg h]
    repeat ((conv => whnf); (first | refine Cnd.yes ?_ | refine Cnd.no ?_ | refine And.intro rfl ?_ | refine aom ?_ | refine Alt.std ?_ | (show Ko_ _ _ _ _; subst hKo_) | refine ctt ?_ | refine cff ?_))
    conv => whnf
    have e : (false == (a == b)) = true := by simp [h]
    show K (SV.v (Value.bool (false == (a == b)))) _ _
    rw [e]
    exact hK _ _
end Go.Proofs.YtkfkoldaeplckaaDoor
/-
  The program of one function, with other quiet calls.
-/
namespace Go.Proofs.YtkfkoldaeplckaaDoor
open Go Go.Vc
set_option maxRecDepth 100000
/-- corral/corrallaw14.WmoHands  sizes [] -/
def pl5q : Nat → DT := dtGet []
def pf5q : PFn := ⟨107, [.t 6], (.seq (.ops false [⟨(some 6), .mov (.c (.v (.bool false))), none⟩] .done)
  (.seq (.ops false [⟨(some 16), .call 12 [], none⟩,
    ⟨(some 7), .mov (.t 16), none⟩] .done)
  (.seq (.seq (.ops false [⟨(some 17), .mov (.t 7), none⟩,
     ⟨(some 18), .un .not (.t 17), none⟩] .done)
   (.cond (.t 18)
    (.seq (.ops false [⟨(some 6), .mov (.c (.v (.bool false))), none⟩] .done)
     .ret)
    .skip))
  (.seq (.ops false [⟨(some 19), .mov (.t 2), none⟩,
    ⟨(some 20), .bin .or (.t 19) (.c (.v (.int .u32 1))), none⟩,
    ⟨(some 2), .mov (.t 20), none⟩] .done)
  (.seq (.ops false [⟨(some 21), .mov (.t 2), none⟩,
    ⟨(some 22), .build [(.v (.int .i64 0)), (.v (.int .i64 0)), (.v (.int .u32 0)), (.v (.int .u32 0)), (.v (.int .u32 0)), (.v (.bool false)), (.v (.bool false)), (.v (.bool false)), (.v (.int .i64 0)), (.v (.int .i64 0)), (.v (.slice none 0 0)), (.v (.slice none 0 0)), (.v (.slice none 0 0))] [(0, 1, (.c (.v (.int .i64 2)))), (1, 1, (.c (.v (.int .i64 4)))), (3, 1, (.t 21))], none⟩,
    ⟨(some 23), .bslice 38 [.int .i64, .int .i64, .int .u32, .int .u32, .int .u32, .bool, .bool, .bool, .int .i64, .int .i64, .sl, .sl, .sl] 1 [(.v (.int .i64 0)), (.v (.int .i64 0)), (.v (.int .u32 0)), (.v (.int .u32 0)), (.v (.int .u32 0)), (.v (.bool false)), (.v (.bool false)), (.v (.bool false)), (.v (.int .i64 0)), (.v (.int .i64 0)), (.v (.slice none 0 0)), (.v (.slice none 0 0)), (.v (.slice none 0 0))] [(0, 13, (.t 22))], none⟩,
    ⟨(some 8), .mov (.t 23), none⟩] .done)
  (.seq (.ops false [⟨(some 24), .build [(.v (.int .i64 0)), (.v (.int .i64 0)), (.v (.int .u32 0)), (.v (.int .u32 0)), (.v (.int .u32 0)), (.v (.bool false)), (.v (.bool false)), (.v (.bool false)), (.v (.int .i64 0)), (.v (.int .i64 0)), (.v (.slice none 0 0)), (.v (.slice none 0 0)), (.v (.slice none 0 0))] [(0, 1, (.c (.v (.int .i64 1)))), (1, 1, (.c (.v (.int .i64 4)))), (2, 1, (.c (.v (.int .u32 4)))), (4, 1, (.c (.v (.int .u32 1))))], none⟩,
    ⟨(some 25), .bslice 38 [.int .i64, .int .i64, .int .u32, .int .u32, .int .u32, .bool, .bool, .bool, .int .i64, .int .i64, .sl, .sl, .sl] 1 [(.v (.int .i64 0)), (.v (.int .i64 0)), (.v (.int .u32 0)), (.v (.int .u32 0)), (.v (.int .u32 0)), (.v (.bool false)), (.v (.bool false)), (.v (.bool false)), (.v (.int .i64 0)), (.v (.int .i64 0)), (.v (.slice none 0 0)), (.v (.slice none 0 0)), (.v (.slice none 0 0))] [(0, 13, (.t 24))], none⟩,
    ⟨(some 9), .mov (.t 25), none⟩] .done)
  (.seq (.seq (.ops false [⟨(some 26), .mov (.t 0), none⟩] .done)
   (.cond (.t 26)
    (.ops false [⟨(some 27), .mov (.t 8), none⟩,
      ⟨(some 28), .build [(.v (.int .i64 0)), (.v (.int .i64 0)), (.v (.int .u32 0)), (.v (.int .u32 0)), (.v (.int .u32 0)), (.v (.bool false)), (.v (.bool false)), (.v (.bool false)), (.v (.int .i64 0)), (.v (.int .i64 0)), (.v (.slice none 0 0)), (.v (.slice none 0 0)), (.v (.slice none 0 0))] [(0, 1, (.c (.v (.int .i64 4)))), (8, 1, (.c (.v (.int .i64 2)))), (9, 1, (.c (.v (.int .i64 2))))], none⟩,
      ⟨(some 29), .bslice 38 [.int .i64, .int .i64, .int .u32, .int .u32, .int .u32, .bool, .bool, .bool, .int .i64, .int .i64, .sl, .sl, .sl] 1 [(.v (.int .i64 0)), (.v (.int .i64 0)), (.v (.int .u32 0)), (.v (.int .u32 0)), (.v (.int .u32 0)), (.v (.bool false)), (.v (.bool false)), (.v (.bool false)), (.v (.int .i64 0)), (.v (.int .i64 0)), (.v (.slice none 0 0)), (.v (.slice none 0 0)), (.v (.slice none 0 0))] [(0, 13, (.t 28))], none⟩,
      ⟨(some 30), .append 38 [.int .i64, .int .i64, .int .u32, .int .u32, .int .u32, .bool, .bool, .bool, .int .i64, .int .i64, .sl, .sl, .sl] [(.int .i64 0), (.int .i64 0), (.int .u32 0), (.int .u32 0), (.int .u32 0), (.bool false), (.bool false), (.bool false), (.int .i64 0), (.int .i64 0), (.slice none 0 0), (.slice none 0 0), (.slice none 0 0)] 120 (.t 27) (.t 29), none⟩,
      ⟨(some 8), .mov (.t 30), none⟩] .done)
    .skip))
  (.seq (.seq (.ops false [⟨(some 31), .mov (.t 1), none⟩] .done)
   (.cond (.t 31)
    (.ops false [⟨(some 32), .mov (.t 9), none⟩,
      ⟨(some 33), .build [(.v (.int .i64 0)), (.v (.int .i64 0)), (.v (.int .u32 0)), (.v (.int .u32 0)), (.v (.int .u32 0)), (.v (.bool false)), (.v (.bool false)), (.v (.bool false)), (.v (.int .i64 0)), (.v (.int .i64 0)), (.v (.slice none 0 0)), (.v (.slice none 0 0)), (.v (.slice none 0 0))] [(0, 1, (.c (.v (.int .i64 4)))), (8, 1, (.c (.v (.int .i64 1)))), (9, 1, (.c (.v (.int .i64 1))))], none⟩,
      ⟨(some 34), .bslice 38 [.int .i64, .int .i64, .int .u32, .int .u32, .int .u32, .bool, .bool, .bool, .int .i64, .int .i64, .sl, .sl, .sl] 1 [(.v (.int .i64 0)), (.v (.int .i64 0)), (.v (.int .u32 0)), (.v (.int .u32 0)), (.v (.int .u32 0)), (.v (.bool false)), (.v (.bool false)), (.v (.bool false)), (.v (.int .i64 0)), (.v (.int .i64 0)), (.v (.slice none 0 0)), (.v (.slice none 0 0)), (.v (.slice none 0 0))] [(0, 13, (.t 33))], none⟩,
      ⟨(some 35), .append 38 [.int .i64, .int .i64, .int .u32, .int .u32, .int .u32, .bool, .bool, .bool, .int .i64, .int .i64, .sl, .sl, .sl] [(.int .i64 0), (.int .i64 0), (.int .u32 0), (.int .u32 0), (.int .u32 0), (.bool false), (.bool false), (.bool false), (.int .i64 0), (.int .i64 0), (.slice none 0 0), (.slice none 0 0), (.slice none 0 0)] 120 (.t 32) (.t 34), none⟩,
      ⟨(some 9), .mov (.t 35), none⟩] .done)
    .skip))
  (.seq (.ops false [⟨(some 36), .mov (.t 8), none⟩,
    ⟨(some 37), .build [(.v (.int .i64 0)), (.v (.int .i64 0)), (.v (.int .u32 0)), (.v (.int .u32 0)), (.v (.int .u32 0)), (.v (.bool false)), (.v (.bool false)), (.v (.bool false)), (.v (.int .i64 0)), (.v (.int .i64 0)), (.v (.slice none 0 0)), (.v (.slice none 0 0)), (.v (.slice none 0 0))] [(0, 1, (.c (.v (.int .i64 2)))), (1, 1, (.c (.v (.int .i64 4)))), (2, 1, (.c (.v (.int .u32 4)))), (3, 1, (.c (.v (.int .u32 1))))], none⟩,
    ⟨(some 38), .bslice 38 [.int .i64, .int .i64, .int .u32, .int .u32, .int .u32, .bool, .bool, .bool, .int .i64, .int .i64, .sl, .sl, .sl] 1 [(.v (.int .i64 0)), (.v (.int .i64 0)), (.v (.int .u32 0)), (.v (.int .u32 0)), (.v (.int .u32 0)), (.v (.bool false)), (.v (.bool false)), (.v (.bool false)), (.v (.int .i64 0)), (.v (.int .i64 0)), (.v (.slice none 0 0)), (.v (.slice none 0 0)), (.v (.slice none 0 0))] [(0, 13, (.t 37))], none⟩,
    ⟨(some 39), .append 38 [.int .i64, .int .i64, .int .u32, .int .u32, .int .u32, .bool, .bool, .bool, .int .i64, .int .i64, .sl, .sl, .sl] [(.int .i64 0), (.int .i64 0), (.int .u32 0), (.int .u32 0), (.int .u32 0), (.bool false), (.bool false), (.bool false), (.int .i64 0), (.int .i64 0), (.slice none 0 0), (.slice none 0 0), (.slice none 0 0)] 120 (.t 36) (.t 38), none⟩,
    ⟨(some 8), .mov (.t 39), none⟩] .done)
  (.seq (.ops false [⟨(some 40), .mov (.t 9), none⟩,
    ⟨(some 41), .build [(.v (.int .i64 0)), (.v (.int .i64 0)), (.v (.int .u32 0)), (.v (.int .u32 0)), (.v (.int .u32 0)), (.v (.bool false)), (.v (.bool false)), (.v (.bool false)), (.v (.int .i64 0)), (.v (.int .i64 0)), (.v (.slice none 0 0)), (.v (.slice none 0 0)), (.v (.slice none 0 0))] [(0, 1, (.c (.v (.int .i64 1)))), (1, 1, (.c (.v (.int .i64 4))))], none⟩,
    ⟨(some 42), .bslice 38 [.int .i64, .int .i64, .int .u32, .int .u32, .int .u32, .bool, .bool, .bool, .int .i64, .int .i64, .sl, .sl, .sl] 1 [(.v (.int .i64 0)), (.v (.int .i64 0)), (.v (.int .u32 0)), (.v (.int .u32 0)), (.v (.int .u32 0)), (.v (.bool false)), (.v (.bool false)), (.v (.bool false)), (.v (.int .i64 0)), (.v (.int .i64 0)), (.v (.slice none 0 0)), (.v (.slice none 0 0)), (.v (.slice none 0 0))] [(0, 13, (.t 41))], none⟩,
    ⟨(some 43), .append 38 [.int .i64, .int .i64, .int .u32, .int .u32, .int .u32, .bool, .bool, .bool, .int .i64, .int .i64, .sl, .sl, .sl] [(.int .i64 0), (.int .i64 0), (.int .u32 0), (.int .u32 0), (.int .u32 0), (.bool false), (.bool false), (.bool false), (.int .i64 0), (.int .i64 0), (.slice none 0 0), (.slice none 0 0), (.slice none 0 0)] 120 (.t 40) (.t 42), none⟩,
    ⟨(some 9), .mov (.t 43), none⟩] .done)
  (.seq (.ops false [⟨(some 44), .mov (.t 8), none⟩,
    ⟨(some 45), .mov (.t 9), none⟩,
    ⟨(some 46), .bslice 34 [.sl] 2 [(.v (.slice none 0 0)), (.v (.slice none 0 0))] [(0, 1, (.t 44)), (1, 1, (.t 45))], none⟩,
    ⟨(some 10), .mov (.t 46), none⟩] .done)
  (.seq (.ops false [⟨(some 47), .mov (.t 8), none⟩,
    ⟨(some 48), .len (.t 47), none⟩,
    ⟨(some 49), .bin .sub (.t 48) (.c (.v (.int .i64 1))), none⟩,
    ⟨(some 11), .mov (.t 49), none⟩] .done)
  (.seq (.ops false [⟨(some 50), .mov (.t 9), none⟩,
    ⟨(some 51), .len (.t 50), none⟩,
    ⟨(some 52), .bin .sub (.t 51) (.c (.v (.int .i64 1))), none⟩,
    ⟨(some 12), .mov (.t 52), none⟩] .done)
  (.seq (.ops false [⟨(some 53), .call 17 [(.c (.v (.slice none 0 0)))], none⟩,
    ⟨(some 13), .mov (.t 53), none⟩] .done)
  (.seq (.ops false [⟨(some 54), .mov (.t 10), none⟩,
    ⟨(some 55), .mov (.t 11), none⟩,
    ⟨(some 56), .build [(.v (.int .i64 0)), (.v (.int .i64 0))] [(0, 1, (.c (.v (.int .i64 0)))), (1, 1, (.t 55))], none⟩,
    ⟨(some 57), .build [(.v (.int .i64 0)), (.v (.int .i64 0))] [(0, 1, (.c (.v (.int .i64 1))))], none⟩,
    ⟨(some 58), .mov (.t 12), none⟩,
    ⟨(some 59), .build [(.v (.int .i64 0)), (.v (.int .i64 0))] [(0, 1, (.c (.v (.int .i64 1)))), (1, 1, (.t 58))], none⟩,
    ⟨(some 60), .build [(.v (.int .i64 0)), (.v (.int .i64 0))] [(0, 1, (.c (.v (.int .i64 0))))], none⟩,
    ⟨(some 61), .bslice 41 [.int .i64, .int .i64] 4 [(.v (.int .i64 0)), (.v (.int .i64 0)), (.v (.int .i64 0)), (.v (.int .i64 0)), (.v (.int .i64 0)), (.v (.int .i64 0)), (.v (.int .i64 0)), (.v (.int .i64 0))] [(0, 2, (.t 56)), (2, 2, (.t 57)), (4, 2, (.t 59)), (6, 2, (.t 60))], none⟩,
    ⟨(some 62), .mov (.t 13), none⟩,
    ⟨(some 63), .call 18 [(.t 54), (.t 61), (.t 62)], none⟩,
    ⟨(some 14), .mov (.t 63), none⟩] .done)
  (.seq (.ops false [⟨(some 64), .mov (.t 10), none⟩,
    ⟨(some 65), .mov (.t 12), none⟩,
    ⟨(some 66), .build [(.v (.int .i64 0)), (.v (.int .i64 0))] [(0, 1, (.c (.v (.int .i64 1)))), (1, 1, (.t 65))], none⟩,
    ⟨(some 67), .build [(.v (.int .i64 0)), (.v (.int .i64 0))] [(0, 1, (.c (.v (.int .i64 0))))], none⟩,
    ⟨(some 68), .mov (.t 11), none⟩,
    ⟨(some 69), .build [(.v (.int .i64 0)), (.v (.int .i64 0))] [(0, 1, (.c (.v (.int .i64 0)))), (1, 1, (.t 68))], none⟩,
    ⟨(some 70), .build [(.v (.int .i64 0)), (.v (.int .i64 0))] [(0, 1, (.c (.v (.int .i64 1))))], none⟩,
    ⟨(some 71), .bslice 41 [.int .i64, .int .i64] 4 [(.v (.int .i64 0)), (.v (.int .i64 0)), (.v (.int .i64 0)), (.v (.int .i64 0)), (.v (.int .i64 0)), (.v (.int .i64 0)), (.v (.int .i64 0)), (.v (.int .i64 0))] [(0, 2, (.t 66)), (2, 2, (.t 67)), (4, 2, (.t 69)), (6, 2, (.t 70))], none⟩,
    ⟨(some 72), .mov (.t 13), none⟩,
    ⟨(some 73), .call 18 [(.t 64), (.t 71), (.t 72)], none⟩,
    ⟨(some 15), .mov (.t 73), none⟩] .done)
  (.seq (.ops false [⟨(some 74), .mov (.t 7), none⟩,
    ⟨(some 75), .mov (.t 74), none⟩,
    ⟨(some 76), .mov (.t 14), some (75, true)⟩,
    ⟨(some 77), .eqp 1 true false (.t 76) (.c (.v .nilIface)), some (75, true)⟩,
    ⟨(some 78), .mov (.t 0), some (75, true)⟩,
    ⟨(some 79), .un .not (.t 78), some (75, true)⟩,
    ⟨(some 80), .eqb false (.t 77) (.t 79), some (75, true)⟩,
    ⟨(some 81), .pick (.t 75) (.t 80) (.c (.v (.bool false))), none⟩,
    ⟨(some 82), .mov (.t 81), none⟩,
    ⟨(some 83), .mov (.t 15), some (82, true)⟩,
    ⟨(some 84), .eqp 1 true false (.t 83) (.c (.v .nilIface)), some (82, true)⟩,
    ⟨(some 85), .mov (.t 1), some (82, true)⟩,
    ⟨(some 86), .un .not (.t 85), some (82, true)⟩,
    ⟨(some 87), .eqb false (.t 84) (.t 86), some (82, true)⟩,
    ⟨(some 88), .pick (.t 82) (.t 87) (.c (.v (.bool false))), none⟩,
    ⟨(some 89), .mov (.t 88), none⟩,
    ⟨(some 90), .mov (.t 14), some (89, true)⟩,
    ⟨(some 91), .eqp 1 true false (.t 90) (.c (.v .nilIface)), some (89, true)⟩,
    ⟨(some 92), .mov (.t 91), some (89, true)⟩,
    ⟨(some 93), .mov (.t 14), some (92, false)⟩,
    ⟨(some 94), .call 20 [(.c (.v (.int .i64 110))), (.c (.v (.int .i64 3)))], some (92, false)⟩,
    ⟨(some 95), .call 19 [(.t 93), (.t 94)], some (92, false)⟩,
    ⟨(some 96), .pick (.t 92) (.c (.v (.bool true))) (.t 95), some (89, true)⟩,
    ⟨(some 97), .pick (.t 89) (.t 96) (.c (.v (.bool false))), none⟩,
    ⟨(some 98), .mov (.t 97), none⟩,
    ⟨(some 99), .mov (.t 15), some (98, true)⟩,
    ⟨(some 100), .eqp 1 true false (.t 99) (.c (.v .nilIface)), some (98, true)⟩,
    ⟨(some 101), .mov (.t 100), some (98, true)⟩,
    ⟨(some 102), .mov (.t 15), some (101, false)⟩,
    ⟨(some 103), .call 20 [(.c (.v (.int .i64 110))), (.c (.v (.int .i64 3)))], some (101, false)⟩,
    ⟨(some 104), .call 19 [(.t 102), (.t 103)], some (101, false)⟩,
    ⟨(some 105), .pick (.t 101) (.c (.v (.bool true))) (.t 104), some (98, true)⟩,
    ⟨(some 106), .pick (.t 98) (.t 105) (.c (.v (.bool false))), none⟩,
    ⟨(some 6), .mov (.t 106), none⟩] .done)
  .ret)))))))))))))))))⟩
theorem pf5q_eq : (Tryd.f5.body.map fun c => (cfn Tryd.prog pl5q Tryd.f5 c, guardsAll pl5q c)) = some (pf5q, true) := by kernel_rfl


end Go.Proofs.YtkfkoldaeplckaaDoor
/-
  WmoHands, walked.
-/
namespace Go.Proofs.YtkfkoldaeplckaaDoor
open Go Go.Vc
set_option maxRecDepth 100000
set_option linter.unusedSimpArgs false
set_option linter.unusedVariables false
set_option maxHeartbeats 20000000
/-- A barrier. -/
def opB (p s : Int) : Op := ⟨4, 0, 0, 0, 0, false, false, false, p, s, nilV, nilV, nilV, [], [], []⟩
theorem bareB (p s : Int) : Bare (opB p s) := ⟨rfl, rfl, rfl, rfl, rfl, rfl⟩
def haH (a b : Bool) (y1 y2 : Value) (w : Int) : Hs :=
  [(y1, bif a then [opP 2 4 0 w 0, opB 2 2, opP 2 4 4 1 0] else [opP 2 4 0 w 0, opP 2 4 4 1 0]), (y2, bif b then [opP 1 4 4 0 1, opB 1 1, opP 1 4 0 0 0] else [opP 1 4 4 0 1, opP 1 4 0 0 0])]
def haM (a : Bool) : Int := bif a then 2 else 1
def haO1 (a b : Bool) : List Rf := [(0, haM a), (1, 0), (1, haM b), (0, 0)]
def haO2 (a b : Bool) : List Rf := [(1, haM b), (0, 0), (0, haM a), (1, 0)]
theorem ha1_ok (a b : Bool) (y1 y2 : Value) (w : Int) : okB (haH a b y1 y2 w) (haO1 a b) = true := by
  cases a <;> cases b <;> kernel_rfl
theorem ha2_ok (a b : Bool) (y1 y2 : Value) (w : Int) : okB (haH a b y1 y2 w) (haO2 a b) = true := by
  cases a <;> cases b <;> kernel_rfl
theorem ha1_e (a b : Bool) (y1 y2 : Value) (w : Int) : chkE (haH a b y1 y2 w) (haO1 a b) [] = bif a then some (9, 3) else none := by
  cases a <;> cases b <;> kernel_rfl
theorem ha2_e (a b : Bool) (y1 y2 : Value) (w : Int) : chkE (haH a b y1 y2 w) (haO2 a b) [] = bif b then some (9, 3) else none := by
  cases a <;> cases b <;> kernel_rfl
def orW (v : Int) : Int := IntKind.u32.wrap ((BitVec.ofInt IntKind.u32.bits v ||| BitVec.ofInt IntKind.u32.bits 1).toNat : Int)
noncomputable def specsQ1 : Nat → Option Vc.Trans := tget [(12, frameT firstS), (17, frameT bofS), (18, frameT checkS), (19, frameT sameES)]
noncomputable def GQ1 : Nat → Option Vc.Trans := tabG specsQ1 (tget tab) 6
theorem GQ1_ok : GOK Tryd.prog GQ1 := tabG_ok (GOK.cons (frame_ok first_ok) (GOK.cons (frame_ok bof_ok) (GOK.cons (frame_ok check_ok) (GOK.cons (frame_ok sameE_ok) .nil)))) tab_ok 6
theorem hands_run (M : HL) (K : SV → List Ent → HL → Prop) (ad : Nat → Addr) (hS : Sents M ad) (a b : Bool) (v : Int) (hK : ∀ hp M', K (.v (.bool true)) hp M') :
    runF GQ1 pf5q [.v (.bool a), .v (.bool b), .v (.int .u32 v)] [] M K := by
  repeat ((conv => whnf); (first | refine Cnd.yes ?_ | refine Cnd.no ?_ | refine And.intro rfl ?_ | refine aom ?_ | refine Alt.std ?_ | (show Ko_ _ _ _ _; subst hKo_) | refine ctt ?_ | refine cff ?_))
  conv => whnf
  refine ⟨ad, hS, rfl, rfl, ?_⟩
  cases a <;> cases b
  · skip
    skip
    repeat ((conv => whnf); (first | refine Cnd.yes ?_ | refine Cnd.no ?_ | refine And.intro rfl ?_ | refine aom ?_ | refine Alt.std ?_ | (show Ko_ _ _ _ _; subst hKo_) | refine ctt ?_ | refine cff ?_))
    conv => whnf
    intro y1 M1 hM1 hR1
    repeat ((conv => whnf); (first | refine Cnd.yes ?_ | refine Cnd.no ?_ | refine And.intro rfl ?_ | refine aom ?_ | refine Alt.std ?_ | (show Ko_ _ _ _ _; subst hKo_) | refine ctt ?_ | refine cff ?_))
    conv => whnf
    intro y2 M2 hM2 hR2
    repeat ((conv => whnf); (first | refine Cnd.yes ?_ | refine Cnd.no ?_ | refine And.intro rfl ?_ | refine aom ?_ | refine Alt.std ?_ | (show Ko_ _ _ _ _; subst hKo_) | refine ctt ?_ | refine cff ?_))
    conv => whnf
    have hH : HIn M2 (haH false false y1 y2 (orW v)) := HIn.cons (hR1.mono hM2) (bare2 (bareP ..) (bareP ..)) (HIn.cons hR2 (bare2 (bareP ..) (bareP ..)) HIn.nil)
    have hS2 := (hS.mono hM1).mono hM2
    refine ⟨ad, 34, 41, 5, haH false false y1 y2 (orW v), haO1 false false, [], rfl, rfl, hS2, hH, okB_ok (ha1_ok false false y1 y2 (orW v)), ?_⟩
    rw [ha1_e false false y1 y2 (orW v)]
    repeat ((conv => whnf); (first | refine Cnd.yes ?_ | refine Cnd.no ?_ | refine And.intro rfl ?_ | refine aom ?_ | refine Alt.std ?_ | (show Ko_ _ _ _ _; subst hKo_) | refine ctt ?_ | refine cff ?_))
    conv => whnf
    refine ⟨ad, 34, 41, 5, haH false false y1 y2 (orW v), haO2 false false, [], rfl, rfl, hS2, hH, okB_ok (ha2_ok false false y1 y2 (orW v)), ?_⟩
    rw [ha2_e false false y1 y2 (orW v)]
    repeat ((conv => whnf); (first | refine Cnd.yes ?_ | refine Cnd.no ?_ | refine And.intro rfl ?_ | refine aom ?_ | refine Alt.std ?_ | (show Ko_ _ _ _ _; subst hKo_) | refine ctt ?_ | refine cff ?_))
    conv => whnf
    skip
    skip
    exact hK _ _
  · skip
    skip
    repeat ((conv => whnf); (first | refine Cnd.yes ?_ | refine Cnd.no ?_ | refine And.intro rfl ?_ | refine aom ?_ | refine Alt.std ?_ | (show Ko_ _ _ _ _; subst hKo_) | refine ctt ?_ | refine cff ?_))
    conv => whnf
    intro y1 M1 hM1 hR1
    repeat ((conv => whnf); (first | refine Cnd.yes ?_ | refine Cnd.no ?_ | refine And.intro rfl ?_ | refine aom ?_ | refine Alt.std ?_ | (show Ko_ _ _ _ _; subst hKo_) | refine ctt ?_ | refine cff ?_))
    conv => whnf
    intro y2 M2 hM2 hR2
    repeat ((conv => whnf); (first | refine Cnd.yes ?_ | refine Cnd.no ?_ | refine And.intro rfl ?_ | refine aom ?_ | refine Alt.std ?_ | (show Ko_ _ _ _ _; subst hKo_) | refine ctt ?_ | refine cff ?_))
    conv => whnf
    have hH : HIn M2 (haH false true y1 y2 (orW v)) := HIn.cons (hR1.mono hM2) (bare2 (bareP ..) (bareP ..)) (HIn.cons hR2 (bare3 (bareP ..) (bareB ..) (bareP ..)) HIn.nil)
    have hS2 := (hS.mono hM1).mono hM2
    refine ⟨ad, 34, 41, 5, haH false true y1 y2 (orW v), haO1 false true, [], rfl, rfl, hS2, hH, okB_ok (ha1_ok false true y1 y2 (orW v)), ?_⟩
    rw [ha1_e false true y1 y2 (orW v)]
    repeat ((conv => whnf); (first | refine Cnd.yes ?_ | refine Cnd.no ?_ | refine And.intro rfl ?_ | refine aom ?_ | refine Alt.std ?_ | (show Ko_ _ _ _ _; subst hKo_) | refine ctt ?_ | refine cff ?_))
    conv => whnf
    refine ⟨ad, 34, 41, 5, haH false true y1 y2 (orW v), haO2 false true, [], rfl, rfl, hS2, hH, okB_ok (ha2_ok false true y1 y2 (orW v)), ?_⟩
    rw [ha2_e false true y1 y2 (orW v)]
    repeat ((conv => whnf); (first | refine Cnd.yes ?_ | refine Cnd.no ?_ | refine And.intro rfl ?_ | refine aom ?_ | refine Alt.std ?_ | (show Ko_ _ _ _ _; subst hKo_) | refine ctt ?_ | refine cff ?_))
    conv => whnf
    skip
    refine .inl ⟨ad, 9, 3, 110, 3, true, hS2, by decide, rfl, rfl, ?_⟩
    repeat ((conv => whnf); (first | refine Cnd.yes ?_ | refine Cnd.no ?_ | refine And.intro rfl ?_ | refine aom ?_ | refine Alt.std ?_ | (show Ko_ _ _ _ _; subst hKo_) | refine ctt ?_ | refine cff ?_))
    conv => whnf
    exact hK _ _
  · skip
    skip
    repeat ((conv => whnf); (first | refine Cnd.yes ?_ | refine Cnd.no ?_ | refine And.intro rfl ?_ | refine aom ?_ | refine Alt.std ?_ | (show Ko_ _ _ _ _; subst hKo_) | refine ctt ?_ | refine cff ?_))
    conv => whnf
    intro y1 M1 hM1 hR1
    repeat ((conv => whnf); (first | refine Cnd.yes ?_ | refine Cnd.no ?_ | refine And.intro rfl ?_ | refine aom ?_ | refine Alt.std ?_ | (show Ko_ _ _ _ _; subst hKo_) | refine ctt ?_ | refine cff ?_))
    conv => whnf
    intro y2 M2 hM2 hR2
    repeat ((conv => whnf); (first | refine Cnd.yes ?_ | refine Cnd.no ?_ | refine And.intro rfl ?_ | refine aom ?_ | refine Alt.std ?_ | (show Ko_ _ _ _ _; subst hKo_) | refine ctt ?_ | refine cff ?_))
    conv => whnf
    have hH : HIn M2 (haH true false y1 y2 (orW v)) := HIn.cons (hR1.mono hM2) (bare3 (bareP ..) (bareB ..) (bareP ..)) (HIn.cons hR2 (bare2 (bareP ..) (bareP ..)) HIn.nil)
    have hS2 := (hS.mono hM1).mono hM2
    refine ⟨ad, 34, 41, 5, haH true false y1 y2 (orW v), haO1 true false, [], rfl, rfl, hS2, hH, okB_ok (ha1_ok true false y1 y2 (orW v)), ?_⟩
    rw [ha1_e true false y1 y2 (orW v)]
    repeat ((conv => whnf); (first | refine Cnd.yes ?_ | refine Cnd.no ?_ | refine And.intro rfl ?_ | refine aom ?_ | refine Alt.std ?_ | (show Ko_ _ _ _ _; subst hKo_) | refine ctt ?_ | refine cff ?_))
    conv => whnf
    refine ⟨ad, 34, 41, 5, haH true false y1 y2 (orW v), haO2 true false, [], rfl, rfl, hS2, hH, okB_ok (ha2_ok true false y1 y2 (orW v)), ?_⟩
    rw [ha2_e true false y1 y2 (orW v)]
    repeat ((conv => whnf); (first | refine Cnd.yes ?_ | refine Cnd.no ?_ | refine And.intro rfl ?_ | refine aom ?_ | refine Alt.std ?_ | (show Ko_ _ _ _ _; subst hKo_) | refine ctt ?_ | refine cff ?_))
    conv => whnf
    refine .inl ⟨ad, 9, 3, 110, 3, true, hS2, by decide, rfl, rfl, ?_⟩
    repeat ((conv => whnf); (first | refine Cnd.yes ?_ | refine Cnd.no ?_ | refine And.intro rfl ?_ | refine aom ?_ | refine Alt.std ?_ | (show Ko_ _ _ _ _; subst hKo_) | refine ctt ?_ | refine cff ?_))
    conv => whnf
    skip
    exact hK _ _
  · skip
    skip
    repeat ((conv => whnf); (first | refine Cnd.yes ?_ | refine Cnd.no ?_ | refine And.intro rfl ?_ | refine aom ?_ | refine Alt.std ?_ | (show Ko_ _ _ _ _; subst hKo_) | refine ctt ?_ | refine cff ?_))
    conv => whnf
    intro y1 M1 hM1 hR1
    repeat ((conv => whnf); (first | refine Cnd.yes ?_ | refine Cnd.no ?_ | refine And.intro rfl ?_ | refine aom ?_ | refine Alt.std ?_ | (show Ko_ _ _ _ _; subst hKo_) | refine ctt ?_ | refine cff ?_))
    conv => whnf
    intro y2 M2 hM2 hR2
    repeat ((conv => whnf); (first | refine Cnd.yes ?_ | refine Cnd.no ?_ | refine And.intro rfl ?_ | refine aom ?_ | refine Alt.std ?_ | (show Ko_ _ _ _ _; subst hKo_) | refine ctt ?_ | refine cff ?_))
    conv => whnf
    have hH : HIn M2 (haH true true y1 y2 (orW v)) := HIn.cons (hR1.mono hM2) (bare3 (bareP ..) (bareB ..) (bareP ..)) (HIn.cons hR2 (bare3 (bareP ..) (bareB ..) (bareP ..)) HIn.nil)
    have hS2 := (hS.mono hM1).mono hM2
    refine ⟨ad, 34, 41, 5, haH true true y1 y2 (orW v), haO1 true true, [], rfl, rfl, hS2, hH, okB_ok (ha1_ok true true y1 y2 (orW v)), ?_⟩
    rw [ha1_e true true y1 y2 (orW v)]
    repeat ((conv => whnf); (first | refine Cnd.yes ?_ | refine Cnd.no ?_ | refine And.intro rfl ?_ | refine aom ?_ | refine Alt.std ?_ | (show Ko_ _ _ _ _; subst hKo_) | refine ctt ?_ | refine cff ?_))
    conv => whnf
    refine ⟨ad, 34, 41, 5, haH true true y1 y2 (orW v), haO2 true true, [], rfl, rfl, hS2, hH, okB_ok (ha2_ok true true y1 y2 (orW v)), ?_⟩
    rw [ha2_e true true y1 y2 (orW v)]
    repeat ((conv => whnf); (first | refine Cnd.yes ?_ | refine Cnd.no ?_ | refine And.intro rfl ?_ | refine aom ?_ | refine Alt.std ?_ | (show Ko_ _ _ _ _; subst hKo_) | refine ctt ?_ | refine cff ?_))
    conv => whnf
    refine .inl ⟨ad, 9, 3, 110, 3, true, hS2, by decide, rfl, rfl, ?_⟩
    repeat ((conv => whnf); (first | refine Cnd.yes ?_ | refine Cnd.no ?_ | refine And.intro rfl ?_ | refine aom ?_ | refine Alt.std ?_ | (show Ko_ _ _ _ _; subst hKo_) | refine ctt ?_ | refine cff ?_))
    conv => whnf
    refine .inl ⟨ad, 9, 3, 110, 3, true, hS2, by decide, rfl, rfl, ?_⟩
    repeat ((conv => whnf); (first | refine Cnd.yes ?_ | refine Cnd.no ?_ | refine And.intro rfl ?_ | refine aom ?_ | refine Alt.std ?_ | (show Ko_ _ _ _ _; subst hKo_) | refine ctt ?_ | refine cff ?_))
    conv => whnf
    exact hK _ _
end Go.Proofs.YtkfkoldaeplckaaDoor
/-
  The program of one function, with other quiet calls.
-/
namespace Go.Proofs.YtkfkoldaeplckaaDoor
open Go Go.Vc
set_option maxRecDepth 100000
/-- corral/corrallaw14.WmoAlone  sizes [(9, 19)] -/
def pl6q : Nat → DT := dtGet [(9, (.take 0 [0, 1, 17, 2, 3, 4, 15, 16] (.take 1 [1, 2, 17, 3, 4, 15, 16] (.take 2 [2, 3, 17, 4, 15, 16] (.take 3 [3, 4, 17, 15, 16] (.take 4 [4, 15, 17, 16] (.take 5 [5, 6, 17, 7, 8, 9, 15, 16] (.take 6 [6, 7, 17, 8, 9, 15, 16] (.take 7 [7, 8, 17, 9, 15, 16] (.take 8 [8, 9, 17, 15, 16] (.take 9 [9, 15, 17, 16] (.take 10 [10, 11, 17, 12, 13, 14, 15, 16] (.take 11 [11, 12, 17, 13, 14, 15, 16] (.take 12 [12, 13, 17, 14, 15, 16] (.take 13 [13, 14, 17, 15, 16] (.take 14 [14, 15, 17, 16] (.eff true 15 (.eff true 16 (.take 17 [17] .done)))))))))))))))))))]
def pf6q : PFn := ⟨92, [.t 8], (.seq (.ops false [⟨(some 8), .mov (.c (.v (.bool false))), none⟩] .done)
  (.seq (.ops false [⟨(some 14), .call 12 [], none⟩,
    ⟨(some 9), .mov (.t 14), none⟩] .done)
  (.seq (.seq (.ops false [⟨(some 15), .mov (.t 9), none⟩,
     ⟨(some 16), .un .not (.t 15), none⟩] .done)
   (.cond (.t 16)
    (.seq (.ops false [⟨(some 8), .mov (.c (.v (.bool false))), none⟩] .done)
     .ret)
    .skip))
  (.seq (.ops false [⟨(some 17), .bslice 3 [.int .i64] 3 [(.v (.int .i64 0)), (.v (.int .i64 0)), (.v (.int .i64 0))] [(0, 1, (.c (.v (.int .i64 1)))), (1, 1, (.c (.v (.int .i64 2)))), (2, 1, (.c (.v (.int .i64 4))))], none⟩,
    ⟨(some 18), .mov (.t 1), none⟩,
    ⟨(some 19), .call 16 [(.t 18), (.c (.v (.int .i64 3)))], none⟩,
    ⟨(some 20), .idx 1 (.t 17) (.t 19), none⟩,
    ⟨(some 21), .load none (.t 20), none⟩,
    ⟨(some 1), .mov (.t 21), none⟩] .done)
  (.seq (.ops false [⟨(some 22), .mov (.t 0), none⟩,
    ⟨(some 23), .bin .rem (.t 22) (.c (.v (.int .u32 12))), none⟩,
    ⟨(some 24), .mov (.t 1), none⟩,
    ⟨(some 25), .bin .sub (.t 24) (.c (.v (.int .i64 1))), none⟩,
    ⟨(some 26), .conv .u32 (.t 25), none⟩,
    ⟨(some 27), .bin .andNot (.t 23) (.t 26), none⟩,
    ⟨(some 0), .mov (.t 27), none⟩] .done)
  (.seq (.ops false [⟨(some 28), .build [(.v (.int .i64 0)), (.v (.int .i64 0)), (.v (.int .u32 0)), (.v (.int .u32 0)), (.v (.int .u32 0)), (.v (.bool false)), (.v (.bool false)), (.v (.bool false)), (.v (.int .i64 0)), (.v (.int .i64 0)), (.v (.slice none 0 0)), (.v (.slice none 0 0)), (.v (.slice none 0 0))] [(0, 1, (.c (.v (.int .i64 1)))), (1, 1, (.c (.v (.int .i64 4)))), (2, 1, (.c (.v (.int .u32 4)))), (5, 1, (.c (.v (.bool true))))], none⟩,
    ⟨(some 29), .build [(.v (.int .i64 0)), (.v (.int .i64 0)), (.v (.int .u32 0)), (.v (.int .u32 0)), (.v (.int .u32 0)), (.v (.bool false)), (.v (.bool false)), (.v (.bool false)), (.v (.int .i64 0)), (.v (.int .i64 0)), (.v (.slice none 0 0)), (.v (.slice none 0 0)), (.v (.slice none 0 0))] [(0, 1, (.c (.v (.int .i64 2)))), (1, 1, (.c (.v (.int .i64 4)))), (2, 1, (.c (.v (.int .u32 4)))), (3, 1, (.c (.v (.int .u32 9)))), (5, 1, (.c (.v (.bool true))))], none⟩,
    ⟨(some 30), .bslice 38 [.int .i64, .int .i64, .int .u32, .int .u32, .int .u32, .bool, .bool, .bool, .int .i64, .int .i64, .sl, .sl, .sl] 2 [(.v (.int .i64 0)), (.v (.int .i64 0)), (.v (.int .u32 0)), (.v (.int .u32 0)), (.v (.int .u32 0)), (.v (.bool false)), (.v (.bool false)), (.v (.bool false)), (.v (.int .i64 0)), (.v (.int .i64 0)), (.v (.slice none 0 0)), (.v (.slice none 0 0)), (.v (.slice none 0 0)), (.v (.int .i64 0)), (.v (.int .i64 0)), (.v (.int .u32 0)), (.v (.int .u32 0)), (.v (.int .u32 0)), (.v (.bool false)), (.v (.bool false)), (.v (.bool false)), (.v (.int .i64 0)), (.v (.int .i64 0)), (.v (.slice none 0 0)), (.v (.slice none 0 0)), (.v (.slice none 0 0))] [(0, 13, (.t 28)), (13, 13, (.t 29))], none⟩,
    ⟨(some 31), .mov (.t 1), none⟩,
    ⟨(some 32), .mov (.t 0), none⟩,
    ⟨(some 33), .mov (.t 3), none⟩,
    ⟨(some 34), .build [(.v (.int .i64 0)), (.v (.int .i64 0)), (.v (.int .u32 0)), (.v (.int .u32 0)), (.v (.int .u32 0)), (.v (.bool false)), (.v (.bool false)), (.v (.bool false)), (.v (.int .i64 0)), (.v (.int .i64 0)), (.v (.slice none 0 0)), (.v (.slice none 0 0)), (.v (.slice none 0 0))] [(0, 1, (.c (.v (.int .i64 2)))), (1, 1, (.t 31)), (2, 1, (.t 32)), (3, 1, (.t 33))], none⟩,
    ⟨(some 35), .bslice 38 [.int .i64, .int .i64, .int .u32, .int .u32, .int .u32, .bool, .bool, .bool, .int .i64, .int .i64, .sl, .sl, .sl] 1 [(.v (.int .i64 0)), (.v (.int .i64 0)), (.v (.int .u32 0)), (.v (.int .u32 0)), (.v (.int .u32 0)), (.v (.bool false)), (.v (.bool false)), (.v (.bool false)), (.v (.int .i64 0)), (.v (.int .i64 0)), (.v (.slice none 0 0)), (.v (.slice none 0 0)), (.v (.slice none 0 0))] [(0, 13, (.t 34))], none⟩,
    ⟨(some 36), .bslice 34 [.sl] 2 [(.v (.slice none 0 0)), (.v (.slice none 0 0))] [(0, 1, (.t 30)), (1, 1, (.t 35))], none⟩,
    ⟨(some 10), .mov (.t 36), none⟩] .done)
  (.seq (.ops false [⟨(some 37), .build [(.v (.int .i64 0)), (.v (.int .i64 0))] [(0, 1, (.c (.v (.int .i64 0))))], none⟩,
    ⟨(some 38), .build [(.v (.int .i64 0)), (.v (.int .i64 0))] [(0, 1, (.c (.v (.int .i64 1))))], none⟩,
    ⟨(some 39), .build [(.v (.int .i64 0)), (.v (.int .i64 0))] [(0, 1, (.c (.v (.int .i64 0)))), (1, 1, (.c (.v (.int .i64 1))))], none⟩,
    ⟨(some 40), .bslice 41 [.int .i64, .int .i64] 3 [(.v (.int .i64 0)), (.v (.int .i64 0)), (.v (.int .i64 0)), (.v (.int .i64 0)), (.v (.int .i64 0)), (.v (.int .i64 0))] [(0, 2, (.t 37)), (2, 2, (.t 38)), (4, 2, (.t 39))], none⟩,
    ⟨(some 11), .mov (.t 40), none⟩] .done)
  (.seq (.seq (.ops false [⟨(some 41), .mov (.t 2), none⟩] .done)
   (.cond (.t 41)
    (.seq (.ops true [⟨(some 42), .mov (.t 10), none⟩,
       ⟨(some 43), .idx 1 (.t 42) (.c (.v (.int .i64 0))), none⟩,
       ⟨(some 44), .load none (.t 43), none⟩,
       ⟨(some 45), .idx 13 (.t 44) (.c (.v (.int .i64 0))), none⟩,
       ⟨(some 46), .load (some 13) (.t 45), none⟩,
       ⟨(some 47), .mov (.t 10), none⟩,
       ⟨(some 48), .idx 1 (.t 47) (.c (.v (.int .i64 1))), none⟩,
       ⟨(some 49), .load none (.t 48), none⟩,
       ⟨(some 50), .idx 13 (.t 49) (.c (.v (.int .i64 0))), none⟩,
       ⟨(some 51), .load (some 13) (.t 50), none⟩,
       ⟨(some 52), .mov (.t 10), none⟩,
       ⟨(some 53), .idx 1 (.t 52) (.c (.v (.int .i64 0))), none⟩,
       ⟨(some 54), .load none (.t 53), none⟩,
       ⟨(some 55), .idx 13 (.t 54) (.c (.v (.int .i64 1))), none⟩,
       ⟨(some 56), .load (some 13) (.t 55), none⟩,
       ⟨(some 57), .bslice 38 [.int .i64, .int .i64, .int .u32, .int .u32, .int .u32, .bool, .bool, .bool, .int .i64, .int .i64, .sl, .sl, .sl] 3 [(.v (.int .i64 0)), (.v (.int .i64 0)), (.v (.int .u32 0)), (.v (.int .u32 0)), (.v (.int .u32 0)), (.v (.bool false)), (.v (.bool false)), (.v (.bool false)), (.v (.int .i64 0)), (.v (.int .i64 0)), (.v (.slice none 0 0)), (.v (.slice none 0 0)), (.v (.slice none 0 0)), (.v (.int .i64 0)), (.v (.int .i64 0)), (.v (.int .u32 0)), (.v (.int .u32 0)), (.v (.int .u32 0)), (.v (.bool false)), (.v (.bool false)), (.v (.bool false)), (.v (.int .i64 0)), (.v (.int .i64 0)), (.v (.slice none 0 0)), (.v (.slice none 0 0)), (.v (.slice none 0 0)), (.v (.int .i64 0)), (.v (.int .i64 0)), (.v (.int .u32 0)), (.v (.int .u32 0)), (.v (.int .u32 0)), (.v (.bool false)), (.v (.bool false)), (.v (.bool false)), (.v (.int .i64 0)), (.v (.int .i64 0)), (.v (.slice none 0 0)), (.v (.slice none 0 0)), (.v (.slice none 0 0))] [(0, 13, (.t 46)), (13, 13, (.t 51)), (26, 13, (.t 56))], none⟩,
       ⟨(some 58), .bslice 34 [.sl] 1 [(.v (.slice none 0 0))] [(0, 1, (.t 57))], none⟩,
       ⟨(some 10), .mov (.t 58), none⟩] (.take 0 [0, 1, 17, 2, 3, 4, 15, 16] (.take 1 [1, 2, 17, 3, 4, 15, 16] (.take 2 [2, 3, 17, 4, 15, 16] (.take 3 [3, 4, 17, 15, 16] (.take 4 [4, 15, 17, 16] (.take 5 [5, 6, 17, 7, 8, 9, 15, 16] (.take 6 [6, 7, 17, 8, 9, 15, 16] (.take 7 [7, 8, 17, 9, 15, 16] (.take 8 [8, 9, 17, 15, 16] (.take 9 [9, 15, 17, 16] (.take 10 [10, 11, 17, 12, 13, 14, 15, 16] (.take 11 [11, 12, 17, 13, 14, 15, 16] (.take 12 [12, 13, 17, 14, 15, 16] (.take 13 [13, 14, 17, 15, 16] (.take 14 [14, 15, 17, 16] (.eff true 15 (.eff true 16 (.take 17 [17] .done)))))))))))))))))))
     (.ops false [⟨(some 59), .build [(.v (.int .i64 0)), (.v (.int .i64 0))] [(0, 1, (.c (.v (.int .i64 0))))], none⟩,
      ⟨(some 60), .build [(.v (.int .i64 0)), (.v (.int .i64 0))] [(0, 1, (.c (.v (.int .i64 0)))), (1, 1, (.c (.v (.int .i64 1))))], none⟩,
      ⟨(some 61), .build [(.v (.int .i64 0)), (.v (.int .i64 0))] [(0, 1, (.c (.v (.int .i64 0)))), (1, 1, (.c (.v (.int .i64 2))))], none⟩,
      ⟨(some 62), .bslice 41 [.int .i64, .int .i64] 3 [(.v (.int .i64 0)), (.v (.int .i64 0)), (.v (.int .i64 0)), (.v (.int .i64 0)), (.v (.int .i64 0)), (.v (.int .i64 0))] [(0, 2, (.t 59)), (2, 2, (.t 60)), (4, 2, (.t 61))], none⟩,
      ⟨(some 11), .mov (.t 62), none⟩] .done))
    .skip))
  (.seq (.ops false [⟨(some 63), .mov (.t 10), none⟩,
    ⟨(some 64), .mov (.t 11), none⟩,
    ⟨(some 65), .call 17 [(.c (.v (.slice none 0 0)))], none⟩,
    ⟨(some 66), .call 18 [(.t 63), (.t 64), (.t 65)], none⟩,
    ⟨(some 12), .mov (.t 66), none⟩] .done)
  (.seq (.ops false [⟨(some 67), .mov (.t 0), none⟩,
    ⟨(some 68), .bin .lss (.t 67) (.c (.v (.int .u32 8))), none⟩,
    ⟨(some 69), .mov (.t 68), none⟩,
    ⟨(some 70), .mov (.t 0), some (69, true)⟩,
    ⟨(some 71), .mov (.t 1), some (69, true)⟩,
    ⟨(some 72), .conv .u32 (.t 71), some (69, true)⟩,
    ⟨(some 73), .bin .add (.t 70) (.t 72), some (69, true)⟩,
    ⟨(some 74), .bin .gtr (.t 73) (.c (.v (.int .u32 4))), some (69, true)⟩,
    ⟨(some 75), .pick (.t 69) (.t 74) (.c (.v (.bool false))), none⟩,
    ⟨(some 13), .mov (.t 75), none⟩] .done)
  (.seq (.seq (.ops false [⟨(some 76), .mov (.t 13), none⟩,
     ⟨(some 77), .mov (.t 76), none⟩,
     ⟨(some 78), .mov (.t 2), some (77, true)⟩,
     ⟨(some 79), .un .not (.t 78), some (77, true)⟩,
     ⟨(some 80), .pick (.t 77) (.t 79) (.c (.v (.bool false))), none⟩] .done)
   (.cond (.t 80)
    (.seq (.ops false [⟨(some 81), .mov (.t 9), none⟩,
       ⟨(some 82), .mov (.t 81), none⟩,
       ⟨(some 83), .mov (.t 12), some (82, true)⟩,
       ⟨(some 84), .call 20 [(.c (.v (.int .i64 110))), (.c (.v (.int .i64 2)))], some (82, true)⟩,
       ⟨(some 85), .call 19 [(.t 83), (.t 84)], some (82, true)⟩,
       ⟨(some 86), .pick (.t 82) (.t 85) (.c (.v (.bool false))), none⟩,
       ⟨(some 8), .mov (.t 86), none⟩] .done)
     .ret)
    .skip))
  (.seq (.ops false [⟨(some 87), .mov (.t 9), none⟩,
    ⟨(some 88), .mov (.t 87), none⟩,
    ⟨(some 89), .mov (.t 12), some (88, true)⟩,
    ⟨(some 90), .eqp 1 true false (.t 89) (.c (.v .nilIface)), some (88, true)⟩,
    ⟨(some 91), .pick (.t 88) (.t 90) (.c (.v (.bool false))), none⟩,
    ⟨(some 8), .mov (.t 91), none⟩] .done)
  .ret))))))))))))⟩
theorem pf6q_eq : (Tryd.f6.body.map fun c => (cfn Tryd.prog pl6q Tryd.f6 c, guardsAll pl6q c)) = some (pf6q, true) := by kernel_rfl


end Go.Proofs.YtkfkoldaeplckaaDoor
/-
  A number below another.
-/
namespace Go.Proofs.YtkfkoldaeplckaaDoor
open Go Go.Vc
set_option maxRecDepth 100000
set_option linter.unusedSimpArgs false
set_option linter.unusedVariables false
set_option maxHeartbeats 20000000
def numS : Vc.Spec := fun args hp M K => ∃ x n : Int, args = [.v (.int .i64 x), .v (.int .i64 n)] ∧ hp = [] ∧ 0 < n ∧ n < 4611686018427387904 ∧ K (.v (.int .i64 (x % n))) []
theorem num_ok : SOK Tryd.prog 16 numS := by
  refine TOK.weaken (TOK.out (runF_eq G0_ok mixed at16.1 at16.2 pf16_eq)) fun args hp M K h => ?_
  obtain ⟨x, n, rfl, rfl, h1, h2, h⟩ := h
  have h3 : -n < Int.tmod x n := Int.lt_tmod_of_pos x h1
  have h4 : Int.tmod x n < n := Int.tmod_lt_of_pos x h1
  have e : IntKind.i64.wrap (Int.tmod x n + n) = Int.tmod x n + n := by rw [IntKind.wrap_i64]; omega
  have e2 : Int.tmod (Int.tmod x n + n) n = x % n := by
    rw [Int.tmod_eq_emod_of_nonneg (by omega), Int.add_emod_right]
    have := Int.mul_tdiv_add_tmod x n
    conv => rhs; rw [← this]
    rw [Int.add_comm, Int.add_mul_emod_self_left]
  repeat ((conv => whnf); (first | refine Cnd.yes ?_ | refine Cnd.no ?_ | refine And.intro rfl ?_ | refine aom ?_ | refine Alt.std ?_ | (show Ko_ _ _ _ _; subst hKo_) | refine ctt ?_ | refine cff ?_))
  conv => whnf
  rw [e, e2]
  refine ⟨[], .v (.int .i64 (x % n)), [], ?_⟩
  repeat ((conv => whnf); (first | refine Cnd.yes ?_ | refine Cnd.no ?_ | refine And.intro rfl ?_ | refine aom ?_ | refine Alt.std ?_ | (show Ko_ _ _ _ _; subst hKo_)))
  conv => whnf
  exact h
end Go.Proofs.YtkfkoldaeplckaaDoor
/-
  WmoAlone, walked.
-/
namespace Go.Proofs.YtkfkoldaeplckaaDoor
open Go Go.Vc
set_option maxRecDepth 100000
set_option linter.unusedSimpArgs false
set_option linter.unusedVariables false
set_option maxHeartbeats 20000000
/-- A paired operation. -/
def opQ (k sz ad v g : Int) : Op := ⟨k, sz, ad, v, g, true, false, false, 0, 0, nilV, nilV, nilV, [], [], []⟩
theorem bareQ (k sz ad v g : Int) : Bare (opQ k sz ad v g) := ⟨rfl, rfl, rfl, rfl, rfl, rfl⟩
def alH (y1 y2 : Value) (s A v : Int) : Hs := [(y1, [opQ 1 4 4 0 0, opQ 2 4 4 9 0]), (y2, [opP 2 s A v 0])]
def alG (y1 : Value) (s A v : Int) : Hs := [(y1, [opQ 1 4 4 0 0, opP 2 s A v 0, opQ 2 4 4 9 0])]
def alO : List Rf := [(0, 0), (1, 0), (0, 1)]
def alP : List Rf := [(0, 0), (0, 1), (0, 2)]
/-- The address, brought to a multiple of the size. -/
def alW (s r : Int) : Int := IntKind.u32.wrap ((BitVec.ofInt IntKind.u32.bits r &&& ~~~ (BitVec.ofInt IntKind.u32.bits (IntKind.u32.wrap (IntKind.i64.wrap (s - 1))))).toNat : Int)
def alE (s A : Int) : Option (Nat × Nat) := bif decide (A < 8) && decide (4 < A + s) then some (9, 2) else none
noncomputable def specsAL : Nat → Option Vc.Trans := tget [(12, frameT firstS), (16, frameT numS), (17, frameT bofS), (18, frameT checkS), (19, frameT sameES)]
noncomputable def GAL : Nat → Option Vc.Trans := tabG specsAL (tget tab) 6
theorem GAL_ok : GOK Tryd.prog GAL := tabG_ok (GOK.cons (frame_ok first_ok) (GOK.cons (frame_ok num_ok) (GOK.cons (frame_ok bof_ok) (GOK.cons (frame_ok check_ok) (GOK.cons (frame_ok sameE_ok) .nil))))) tab_ok 6
def Lt12 (r : Int) : Prop := r = 0 ∨ r = 1 ∨ r = 2 ∨ r = 3 ∨ r = 4 ∨ r = 5 ∨ r = 6 ∨ r = 7 ∨ r = 8 ∨ r = 9 ∨ r = 10 ∨ r = 11
theorem al_1 (y1 y2 : Value) (r v : Int) (hr : Lt12 r) : okB (alH y1 y2 1 (alW 1 r) v) alO = true ∧ chkE (alH y1 y2 1 (alW 1 r) v) alO [] = alE 1 (alW 1 r) ∧ okB (alG y1 1 (alW 1 r) v) alP = true ∧ chkE (alG y1 1 (alW 1 r) v) alP [] = none := by
  rcases hr with rfl | rfl | rfl | rfl | rfl | rfl | rfl | rfl | rfl | rfl | rfl | rfl <;> exact ⟨by kernel_rfl, by kernel_rfl, by kernel_rfl, by kernel_rfl⟩
theorem al_2 (y1 y2 : Value) (r v : Int) (hr : Lt12 r) : okB (alH y1 y2 2 (alW 2 r) v) alO = true ∧ chkE (alH y1 y2 2 (alW 2 r) v) alO [] = alE 2 (alW 2 r) ∧ okB (alG y1 2 (alW 2 r) v) alP = true ∧ chkE (alG y1 2 (alW 2 r) v) alP [] = none := by
  rcases hr with rfl | rfl | rfl | rfl | rfl | rfl | rfl | rfl | rfl | rfl | rfl | rfl <;> exact ⟨by kernel_rfl, by kernel_rfl, by kernel_rfl, by kernel_rfl⟩
theorem al_4 (y1 y2 : Value) (r v : Int) (hr : Lt12 r) : okB (alH y1 y2 4 (alW 4 r) v) alO = true ∧ chkE (alH y1 y2 4 (alW 4 r) v) alO [] = alE 4 (alW 4 r) ∧ okB (alG y1 4 (alW 4 r) v) alP = true ∧ chkE (alG y1 4 (alW 4 r) v) alP [] = none := by
  rcases hr with rfl | rfl | rfl | rfl | rfl | rfl | rfl | rfl | rfl | rfl | rfl | rfl <;> exact ⟨by kernel_rfl, by kernel_rfl, by kernel_rfl, by kernel_rfl⟩

theorem aln_run (M : HL) (K : SV → List Ent → HL → Prop) (ad : Nat → Addr) (hS : Sents M ad) (a z : Int) (own : Bool) (v : Int) (ha : 0 ≤ a ∧ a < 4294967296) (hK : ∀ hp M', K (.v (.bool true)) hp M') :
    runF GAL pf6q [.v (.int .u32 a), .v (.int .i64 z), .v (.bool own), .v (.int .u32 v)] [] M K := by
  have hr : Lt12 (a.tmod 12) := by
    unfold Lt12
    rw [Int.tmod_eq_emod_of_nonneg ha.1]; omega
  repeat ((conv => whnf); (first | refine Cnd.yes ?_ | refine Cnd.no ?_ | refine And.intro rfl ?_ | refine aom ?_ | refine Alt.std ?_ | (show Ko_ _ _ _ _; subst hKo_) | refine ctt ?_ | refine cff ?_))
  conv => whnf
  refine ⟨ad, hS, rfl, rfl, ?_⟩
  repeat ((conv => whnf); (first | refine Cnd.yes ?_ | refine Cnd.no ?_ | refine And.intro rfl ?_ | refine aom ?_ | refine Alt.std ?_ | (show Ko_ _ _ _ _; subst hKo_) | refine ctt ?_ | refine cff ?_))
  conv => whnf
  refine ⟨z, 3, rfl, rfl, by omega, by omega, ?_⟩
  rcases (show z % 3 = 0 ∨ z % 3 = 1 ∨ z % 3 = 2 by omega) with h | h | h
  · rw [h]
    repeat ((conv => whnf); (first | refine Cnd.yes ?_ | refine Cnd.no ?_ | refine And.intro rfl ?_ | refine aom ?_ | refine Alt.std ?_ | (show Ko_ _ _ _ _; subst hKo_) | refine ctt ?_ | refine cff ?_))
    conv => whnf
    intro y1 M1 hM1 hR1
    repeat ((conv => whnf); (first | refine Cnd.yes ?_ | refine Cnd.no ?_ | refine And.intro rfl ?_ | refine aom ?_ | refine Alt.std ?_ | (show Ko_ _ _ _ _; subst hKo_) | refine ctt ?_ | refine cff ?_))
    conv => whnf
    intro y2 M2 hM2 hR2
    repeat ((conv => whnf); (first | refine Cnd.yes ?_ | refine Cnd.no ?_ | refine And.intro rfl ?_ | refine aom ?_ | refine Alt.std ?_ | (show Ko_ _ _ _ _; subst hKo_) | refine ctt ?_ | refine cff ?_))
    conv => whnf
    have hS2 := (hS.mono hM1).mono hM2
    cases own
    · skip
      repeat ((conv => whnf); (first | refine Cnd.yes ?_ | refine Cnd.no ?_ | refine And.intro rfl ?_ | refine aom ?_ | refine Alt.std ?_ | (show Ko_ _ _ _ _; subst hKo_) | refine ctt ?_ | refine cff ?_))
      conv => whnf
      have hH : HIn M2 (alH y1 y2 1 (alW 1 (a.tmod 12)) v) := HIn.cons (hR1.mono hM2) (bare2 (bareQ ..) (bareQ ..)) (HIn.cons hR2 (bare1 (bareP ..)) HIn.nil)
      refine ⟨ad, 34, 41, 5, alH y1 y2 1 (alW 1 (a.tmod 12)) v, alO, [], rfl, rfl, hS2, hH, okB_ok (al_1 y1 y2 _ v hr).1, ?_⟩
      rw [(al_1 y1 y2 _ v hr).2.1]
      clear hH hR2 hR1
      rcases hr with hr | hr | hr | hr | hr | hr | hr | hr | hr | hr | hr | hr <;> rw [hr]
      all_goals skip
      all_goals
        repeat ((conv => whnf); (first | refine Cnd.yes ?_ | refine Cnd.no ?_ | refine And.intro rfl ?_ | refine aom ?_ | refine Alt.std ?_ | (show Ko_ _ _ _ _; subst hKo_) | refine ctt ?_ | refine cff ?_))
        conv => whnf
      all_goals first | exact hK _ _ | refine .inl ⟨ad, 9, 2, 110, 2, true, hS2, by decide, rfl, rfl, ?_⟩
      all_goals
        repeat ((conv => whnf); (first | refine Cnd.yes ?_ | refine Cnd.no ?_ | refine And.intro rfl ?_ | refine aom ?_ | refine Alt.std ?_ | (show Ko_ _ _ _ _; subst hKo_) | refine ctt ?_ | refine cff ?_))
        conv => whnf
      all_goals exact hK _ _
    · skip
      repeat ((conv => whnf); (first | refine Cnd.yes ?_ | refine Cnd.no ?_ | refine And.intro rfl ?_ | refine aom ?_ | refine Alt.std ?_ | (show Ko_ _ _ _ _; subst hKo_) | refine ctt ?_ | refine cff ?_))
      conv => whnf
      have l1 : (slen y1 : Int) = 2 := by rw [hR1.len]; rfl
      have l2 : (slen y2 : Int) = 1 := by rw [hR2.len]; rfl
      refine And.intro (show (0 : Int) < (slen y1 : Int) by rw [l1]; decide) ?_
      repeat ((conv => whnf); (first | refine Cnd.yes ?_ | refine Cnd.no ?_ | refine And.intro rfl ?_ | refine aom ?_ | refine Alt.std ?_ | (show Ko_ _ _ _ _; subst hKo_) | refine ctt ?_ | refine cff ?_))
      conv => whnf
      have H1 : Vc.RowsIn M2 38 ock y1 ([opQ 1 4 4 0 0, opQ 2 4 4 9 0].map orow) := hR1.mono hM2
      have H2 : Vc.RowsIn M2 38 ock y2 ([opP 2 1 (alW 1 (a.tmod 12)) v 0].map orow) := hR2
      refine ⟨38, ock, _, H1, ?_⟩
      repeat ((conv => whnf); (first | refine Cnd.yes ?_ | refine Cnd.no ?_ | refine And.intro rfl ?_ | refine aom ?_ | refine Alt.std ?_ | (show Ko_ _ _ _ _; subst hKo_) | refine ctt ?_ | refine cff ?_))
      conv => whnf
      refine And.intro (show (0 : Int) < (slen y2 : Int) by rw [l2]; decide) ?_
      repeat ((conv => whnf); (first | refine Cnd.yes ?_ | refine Cnd.no ?_ | refine And.intro rfl ?_ | refine aom ?_ | refine Alt.std ?_ | (show Ko_ _ _ _ _; subst hKo_) | refine ctt ?_ | refine cff ?_))
      conv => whnf
      refine ⟨38, ock, _, H2, ?_⟩
      repeat ((conv => whnf); (first | refine Cnd.yes ?_ | refine Cnd.no ?_ | refine And.intro rfl ?_ | refine aom ?_ | refine Alt.std ?_ | (show Ko_ _ _ _ _; subst hKo_) | refine ctt ?_ | refine cff ?_))
      conv => whnf
      refine And.intro (show (1 : Int) < (slen y1 : Int) by rw [l1]; decide) ?_
      repeat ((conv => whnf); (first | refine Cnd.yes ?_ | refine Cnd.no ?_ | refine And.intro rfl ?_ | refine aom ?_ | refine Alt.std ?_ | (show Ko_ _ _ _ _; subst hKo_) | refine ctt ?_ | refine cff ?_))
      conv => whnf
      refine ⟨38, ock, _, H1, ?_⟩
      repeat ((conv => whnf); (first | refine Cnd.yes ?_ | refine Cnd.no ?_ | refine And.intro rfl ?_ | refine aom ?_ | refine Alt.std ?_ | (show Ko_ _ _ _ _; subst hKo_) | refine ctt ?_ | refine cff ?_))
      conv => whnf
      intro y3 M3 hM3 hR3
      repeat ((conv => whnf); (first | refine Cnd.yes ?_ | refine Cnd.no ?_ | refine And.intro rfl ?_ | refine aom ?_ | refine Alt.std ?_ | (show Ko_ _ _ _ _; subst hKo_) | refine ctt ?_ | refine cff ?_))
      conv => whnf
      have hH : HIn M3 (alG y3 1 (alW 1 (a.tmod 12)) v) := HIn.cons hR3 (bare3 (bareQ ..) (bareP ..) (bareQ ..)) HIn.nil
      refine ⟨ad, 34, 41, 5, alG y3 1 (alW 1 (a.tmod 12)) v, alP, [], rfl, rfl, hS2.mono hM3, hH, okB_ok (al_1 y3 y3 _ v hr).2.2.1, ?_⟩
      rw [(al_1 y3 y3 _ v hr).2.2.2]
      clear hH hR3 H1 H2 hR2 hR1
      rcases hr with hr | hr | hr | hr | hr | hr | hr | hr | hr | hr | hr | hr <;> rw [hr]
      all_goals
        repeat ((conv => whnf); (first | refine Cnd.yes ?_ | refine Cnd.no ?_ | refine And.intro rfl ?_ | refine aom ?_ | refine Alt.std ?_ | (show Ko_ _ _ _ _; subst hKo_) | refine ctt ?_ | refine cff ?_))
        conv => whnf
      all_goals exact hK _ _
  · rw [h]
    repeat ((conv => whnf); (first | refine Cnd.yes ?_ | refine Cnd.no ?_ | refine And.intro rfl ?_ | refine aom ?_ | refine Alt.std ?_ | (show Ko_ _ _ _ _; subst hKo_) | refine ctt ?_ | refine cff ?_))
    conv => whnf
    intro y1 M1 hM1 hR1
    repeat ((conv => whnf); (first | refine Cnd.yes ?_ | refine Cnd.no ?_ | refine And.intro rfl ?_ | refine aom ?_ | refine Alt.std ?_ | (show Ko_ _ _ _ _; subst hKo_) | refine ctt ?_ | refine cff ?_))
    conv => whnf
    intro y2 M2 hM2 hR2
    repeat ((conv => whnf); (first | refine Cnd.yes ?_ | refine Cnd.no ?_ | refine And.intro rfl ?_ | refine aom ?_ | refine Alt.std ?_ | (show Ko_ _ _ _ _; subst hKo_) | refine ctt ?_ | refine cff ?_))
    conv => whnf
    have hS2 := (hS.mono hM1).mono hM2
    cases own
    · skip
      repeat ((conv => whnf); (first | refine Cnd.yes ?_ | refine Cnd.no ?_ | refine And.intro rfl ?_ | refine aom ?_ | refine Alt.std ?_ | (show Ko_ _ _ _ _; subst hKo_) | refine ctt ?_ | refine cff ?_))
      conv => whnf
      have hH : HIn M2 (alH y1 y2 2 (alW 2 (a.tmod 12)) v) := HIn.cons (hR1.mono hM2) (bare2 (bareQ ..) (bareQ ..)) (HIn.cons hR2 (bare1 (bareP ..)) HIn.nil)
      refine ⟨ad, 34, 41, 5, alH y1 y2 2 (alW 2 (a.tmod 12)) v, alO, [], rfl, rfl, hS2, hH, okB_ok (al_2 y1 y2 _ v hr).1, ?_⟩
      rw [(al_2 y1 y2 _ v hr).2.1]
      clear hH hR2 hR1
      rcases hr with hr | hr | hr | hr | hr | hr | hr | hr | hr | hr | hr | hr <;> rw [hr]
      all_goals skip
      all_goals
        repeat ((conv => whnf); (first | refine Cnd.yes ?_ | refine Cnd.no ?_ | refine And.intro rfl ?_ | refine aom ?_ | refine Alt.std ?_ | (show Ko_ _ _ _ _; subst hKo_) | refine ctt ?_ | refine cff ?_))
        conv => whnf
      all_goals first | exact hK _ _ | refine .inl ⟨ad, 9, 2, 110, 2, true, hS2, by decide, rfl, rfl, ?_⟩
      all_goals
        repeat ((conv => whnf); (first | refine Cnd.yes ?_ | refine Cnd.no ?_ | refine And.intro rfl ?_ | refine aom ?_ | refine Alt.std ?_ | (show Ko_ _ _ _ _; subst hKo_) | refine ctt ?_ | refine cff ?_))
        conv => whnf
      all_goals exact hK _ _
    · skip
      repeat ((conv => whnf); (first | refine Cnd.yes ?_ | refine Cnd.no ?_ | refine And.intro rfl ?_ | refine aom ?_ | refine Alt.std ?_ | (show Ko_ _ _ _ _; subst hKo_) | refine ctt ?_ | refine cff ?_))
      conv => whnf
      have l1 : (slen y1 : Int) = 2 := by rw [hR1.len]; rfl
      have l2 : (slen y2 : Int) = 1 := by rw [hR2.len]; rfl
      refine And.intro (show (0 : Int) < (slen y1 : Int) by rw [l1]; decide) ?_
      repeat ((conv => whnf); (first | refine Cnd.yes ?_ | refine Cnd.no ?_ | refine And.intro rfl ?_ | refine aom ?_ | refine Alt.std ?_ | (show Ko_ _ _ _ _; subst hKo_) | refine ctt ?_ | refine cff ?_))
      conv => whnf
      have H1 : Vc.RowsIn M2 38 ock y1 ([opQ 1 4 4 0 0, opQ 2 4 4 9 0].map orow) := hR1.mono hM2
      have H2 : Vc.RowsIn M2 38 ock y2 ([opP 2 2 (alW 2 (a.tmod 12)) v 0].map orow) := hR2
      refine ⟨38, ock, _, H1, ?_⟩
      repeat ((conv => whnf); (first | refine Cnd.yes ?_ | refine Cnd.no ?_ | refine And.intro rfl ?_ | refine aom ?_ | refine Alt.std ?_ | (show Ko_ _ _ _ _; subst hKo_) | refine ctt ?_ | refine cff ?_))
      conv => whnf
      refine And.intro (show (0 : Int) < (slen y2 : Int) by rw [l2]; decide) ?_
      repeat ((conv => whnf); (first | refine Cnd.yes ?_ | refine Cnd.no ?_ | refine And.intro rfl ?_ | refine aom ?_ | refine Alt.std ?_ | (show Ko_ _ _ _ _; subst hKo_) | refine ctt ?_ | refine cff ?_))
      conv => whnf
      refine ⟨38, ock, _, H2, ?_⟩
      repeat ((conv => whnf); (first | refine Cnd.yes ?_ | refine Cnd.no ?_ | refine And.intro rfl ?_ | refine aom ?_ | refine Alt.std ?_ | (show Ko_ _ _ _ _; subst hKo_) | refine ctt ?_ | refine cff ?_))
      conv => whnf
      refine And.intro (show (1 : Int) < (slen y1 : Int) by rw [l1]; decide) ?_
      repeat ((conv => whnf); (first | refine Cnd.yes ?_ | refine Cnd.no ?_ | refine And.intro rfl ?_ | refine aom ?_ | refine Alt.std ?_ | (show Ko_ _ _ _ _; subst hKo_) | refine ctt ?_ | refine cff ?_))
      conv => whnf
      refine ⟨38, ock, _, H1, ?_⟩
      repeat ((conv => whnf); (first | refine Cnd.yes ?_ | refine Cnd.no ?_ | refine And.intro rfl ?_ | refine aom ?_ | refine Alt.std ?_ | (show Ko_ _ _ _ _; subst hKo_) | refine ctt ?_ | refine cff ?_))
      conv => whnf
      intro y3 M3 hM3 hR3
      repeat ((conv => whnf); (first | refine Cnd.yes ?_ | refine Cnd.no ?_ | refine And.intro rfl ?_ | refine aom ?_ | refine Alt.std ?_ | (show Ko_ _ _ _ _; subst hKo_) | refine ctt ?_ | refine cff ?_))
      conv => whnf
      have hH : HIn M3 (alG y3 2 (alW 2 (a.tmod 12)) v) := HIn.cons hR3 (bare3 (bareQ ..) (bareP ..) (bareQ ..)) HIn.nil
      refine ⟨ad, 34, 41, 5, alG y3 2 (alW 2 (a.tmod 12)) v, alP, [], rfl, rfl, hS2.mono hM3, hH, okB_ok (al_2 y3 y3 _ v hr).2.2.1, ?_⟩
      rw [(al_2 y3 y3 _ v hr).2.2.2]
      clear hH hR3 H1 H2 hR2 hR1
      rcases hr with hr | hr | hr | hr | hr | hr | hr | hr | hr | hr | hr | hr <;> rw [hr]
      all_goals
        repeat ((conv => whnf); (first | refine Cnd.yes ?_ | refine Cnd.no ?_ | refine And.intro rfl ?_ | refine aom ?_ | refine Alt.std ?_ | (show Ko_ _ _ _ _; subst hKo_) | refine ctt ?_ | refine cff ?_))
        conv => whnf
      all_goals exact hK _ _
  · rw [h]
    repeat ((conv => whnf); (first | refine Cnd.yes ?_ | refine Cnd.no ?_ | refine And.intro rfl ?_ | refine aom ?_ | refine Alt.std ?_ | (show Ko_ _ _ _ _; subst hKo_) | refine ctt ?_ | refine cff ?_))
    conv => whnf
    intro y1 M1 hM1 hR1
    repeat ((conv => whnf); (first | refine Cnd.yes ?_ | refine Cnd.no ?_ | refine And.intro rfl ?_ | refine aom ?_ | refine Alt.std ?_ | (show Ko_ _ _ _ _; subst hKo_) | refine ctt ?_ | refine cff ?_))
    conv => whnf
    intro y2 M2 hM2 hR2
    repeat ((conv => whnf); (first | refine Cnd.yes ?_ | refine Cnd.no ?_ | refine And.intro rfl ?_ | refine aom ?_ | refine Alt.std ?_ | (show Ko_ _ _ _ _; subst hKo_) | refine ctt ?_ | refine cff ?_))
    conv => whnf
    have hS2 := (hS.mono hM1).mono hM2
    cases own
    · skip
      repeat ((conv => whnf); (first | refine Cnd.yes ?_ | refine Cnd.no ?_ | refine And.intro rfl ?_ | refine aom ?_ | refine Alt.std ?_ | (show Ko_ _ _ _ _; subst hKo_) | refine ctt ?_ | refine cff ?_))
      conv => whnf
      have hH : HIn M2 (alH y1 y2 4 (alW 4 (a.tmod 12)) v) := HIn.cons (hR1.mono hM2) (bare2 (bareQ ..) (bareQ ..)) (HIn.cons hR2 (bare1 (bareP ..)) HIn.nil)
      refine ⟨ad, 34, 41, 5, alH y1 y2 4 (alW 4 (a.tmod 12)) v, alO, [], rfl, rfl, hS2, hH, okB_ok (al_4 y1 y2 _ v hr).1, ?_⟩
      rw [(al_4 y1 y2 _ v hr).2.1]
      clear hH hR2 hR1
      rcases hr with hr | hr | hr | hr | hr | hr | hr | hr | hr | hr | hr | hr <;> rw [hr]
      all_goals skip
      all_goals
        repeat ((conv => whnf); (first | refine Cnd.yes ?_ | refine Cnd.no ?_ | refine And.intro rfl ?_ | refine aom ?_ | refine Alt.std ?_ | (show Ko_ _ _ _ _; subst hKo_) | refine ctt ?_ | refine cff ?_))
        conv => whnf
      all_goals first | exact hK _ _ | refine .inl ⟨ad, 9, 2, 110, 2, true, hS2, by decide, rfl, rfl, ?_⟩
      all_goals
        repeat ((conv => whnf); (first | refine Cnd.yes ?_ | refine Cnd.no ?_ | refine And.intro rfl ?_ | refine aom ?_ | refine Alt.std ?_ | (show Ko_ _ _ _ _; subst hKo_) | refine ctt ?_ | refine cff ?_))
        conv => whnf
      all_goals exact hK _ _
    · skip
      repeat ((conv => whnf); (first | refine Cnd.yes ?_ | refine Cnd.no ?_ | refine And.intro rfl ?_ | refine aom ?_ | refine Alt.std ?_ | (show Ko_ _ _ _ _; subst hKo_) | refine ctt ?_ | refine cff ?_))
      conv => whnf
      have l1 : (slen y1 : Int) = 2 := by rw [hR1.len]; rfl
      have l2 : (slen y2 : Int) = 1 := by rw [hR2.len]; rfl
      refine And.intro (show (0 : Int) < (slen y1 : Int) by rw [l1]; decide) ?_
      repeat ((conv => whnf); (first | refine Cnd.yes ?_ | refine Cnd.no ?_ | refine And.intro rfl ?_ | refine aom ?_ | refine Alt.std ?_ | (show Ko_ _ _ _ _; subst hKo_) | refine ctt ?_ | refine cff ?_))
      conv => whnf
      have H1 : Vc.RowsIn M2 38 ock y1 ([opQ 1 4 4 0 0, opQ 2 4 4 9 0].map orow) := hR1.mono hM2
      have H2 : Vc.RowsIn M2 38 ock y2 ([opP 2 4 (alW 4 (a.tmod 12)) v 0].map orow) := hR2
      refine ⟨38, ock, _, H1, ?_⟩
      repeat ((conv => whnf); (first | refine Cnd.yes ?_ | refine Cnd.no ?_ | refine And.intro rfl ?_ | refine aom ?_ | refine Alt.std ?_ | (show Ko_ _ _ _ _; subst hKo_) | refine ctt ?_ | refine cff ?_))
      conv => whnf
      refine And.intro (show (0 : Int) < (slen y2 : Int) by rw [l2]; decide) ?_
      repeat ((conv => whnf); (first | refine Cnd.yes ?_ | refine Cnd.no ?_ | refine And.intro rfl ?_ | refine aom ?_ | refine Alt.std ?_ | (show Ko_ _ _ _ _; subst hKo_) | refine ctt ?_ | refine cff ?_))
      conv => whnf
      refine ⟨38, ock, _, H2, ?_⟩
      repeat ((conv => whnf); (first | refine Cnd.yes ?_ | refine Cnd.no ?_ | refine And.intro rfl ?_ | refine aom ?_ | refine Alt.std ?_ | (show Ko_ _ _ _ _; subst hKo_) | refine ctt ?_ | refine cff ?_))
      conv => whnf
      refine And.intro (show (1 : Int) < (slen y1 : Int) by rw [l1]; decide) ?_
      repeat ((conv => whnf); (first | refine Cnd.yes ?_ | refine Cnd.no ?_ | refine And.intro rfl ?_ | refine aom ?_ | refine Alt.std ?_ | (show Ko_ _ _ _ _; subst hKo_) | refine ctt ?_ | refine cff ?_))
      conv => whnf
      refine ⟨38, ock, _, H1, ?_⟩
      repeat ((conv => whnf); (first | refine Cnd.yes ?_ | refine Cnd.no ?_ | refine And.intro rfl ?_ | refine aom ?_ | refine Alt.std ?_ | (show Ko_ _ _ _ _; subst hKo_) | refine ctt ?_ | refine cff ?_))
      conv => whnf
      intro y3 M3 hM3 hR3
      repeat ((conv => whnf); (first | refine Cnd.yes ?_ | refine Cnd.no ?_ | refine And.intro rfl ?_ | refine aom ?_ | refine Alt.std ?_ | (show Ko_ _ _ _ _; subst hKo_) | refine ctt ?_ | refine cff ?_))
      conv => whnf
      have hH : HIn M3 (alG y3 4 (alW 4 (a.tmod 12)) v) := HIn.cons hR3 (bare3 (bareQ ..) (bareP ..) (bareQ ..)) HIn.nil
      refine ⟨ad, 34, 41, 5, alG y3 4 (alW 4 (a.tmod 12)) v, alP, [], rfl, rfl, hS2.mono hM3, hH, okB_ok (al_4 y3 y3 _ v hr).2.2.1, ?_⟩
      rw [(al_4 y3 y3 _ v hr).2.2.2]
      clear hH hR3 H1 H2 hR2 hR1
      rcases hr with hr | hr | hr | hr | hr | hr | hr | hr | hr | hr | hr | hr <;> rw [hr]
      all_goals
        repeat ((conv => whnf); (first | refine Cnd.yes ?_ | refine Cnd.no ?_ | refine And.intro rfl ?_ | refine aom ?_ | refine Alt.std ?_ | (show Ko_ _ _ _ _; subst hKo_) | refine ctt ?_ | refine cff ?_))
        conv => whnf
      all_goals exact hK _ _
end Go.Proofs.YtkfkoldaeplckaaDoor
