/-
  Words of 32 bits: a part, a word with a part turned; in plain numbers.
-/
import Derived.Test.YtncninjgfllcdaaDoorCg
namespace Go.Proofs.YtncninjgfllcdaaDoor
open Go Go.Vc
set_option maxRecDepth 100000
set_option linter.unusedSimpArgs false
set_option linter.unusedVariables false
theorem bv32 {x : Nat} (h : x < 4294967296) : (BitVec.ofInt IntKind.u32.bits (x : Int)).toNat = x := ofInt32 h
theorem and32 {x y : Nat} (hx : x < 4294967296) (hy : y < 4294967296) : IntKind.u32.wrap ((BitVec.ofInt IntKind.u32.bits (x : Int) &&& BitVec.ofInt IntKind.u32.bits (y : Int)).toNat : Int) = ((x &&& y : Nat) : Int) := by
  rw [BitVec.toNat_and, ofInt32 hx, ofInt32 hy, IntKind.wrap_u32]
  have : x &&& y ≤ x := Nat.and_le_left
  omega
theorem andn32 {x y : Nat} (hx : x < 4294967296) (hy : y < 4294967296) : IntKind.u32.wrap ((BitVec.ofInt IntKind.u32.bits (x : Int) &&& ~~~ BitVec.ofInt IntKind.u32.bits (y : Int)).toNat : Int) = ((x &&& (2 ^ 32 - (y + 1)) : Nat) : Int) := by
  rw [BitVec.toNat_and, BitVec.toNat_not, ofInt32 hx, ofInt32 hy, IntKind.wrap_u32]
  have e : 2 ^ IntKind.u32.bits - 1 - y = 2 ^ 32 - (y + 1) := by simp only [IntKind.bits]; omega
  rw [e]
  have : x &&& (2 ^ 32 - (y + 1)) ≤ x := Nat.and_le_left
  omega
theorem shr32 (x k : Nat) (hk : k ≤ 32) : ((x : Int).fdiv (2 ^ min ((k : Int)).toNat IntKind.u32.bits)) = ((x / 2 ^ k : Nat) : Int) := by
  have e : min ((k : Int)).toNat IntKind.u32.bits = k := by rw [Int.toNat_natCast]; simp only [IntKind.bits]; omega
  rw [e, Int.fdiv_eq_ediv_of_nonneg _ (Int.le_of_lt (Int.pow_pos (by decide))), show ((2 : Int) ^ k) = ((2 ^ k : Nat) : Int) from (Int.natCast_pow 2 k).symm]
  exact (Int.natCast_ediv x (2 ^ k)).symm
theorem shl32 (x k : Nat) (hk : k ≤ 32) : IntKind.u32.wrap ((x : Int) * 2 ^ min ((k : Int)).toNat IntKind.u32.bits) = ((x * 2 ^ k % 4294967296 : Nat) : Int) := by
  have e : min ((k : Int)).toNat IntKind.u32.bits = k := by rw [Int.toNat_natCast]; simp only [IntKind.bits]; omega
  rw [e, IntKind.wrap_u32, show ((2 : Int) ^ k) = ((2 ^ k : Nat) : Int) from (Int.natCast_pow 2 k).symm, ← Int.natCast_mul]
  exact (Int.natCast_emod (x * 2 ^ k) 4294967296).symm
/-- n bits of x from 'low' on. -/
def bitsN (x low n : Nat) : Nat := x / 2 ^ low % 2 ^ n
/-- x, n bits of it from 'low' on turned to v's. -/
def turnN (x low n v : Nat) : Nat := 2 ^ low * (2 ^ n * (x / 2 ^ (low + n)) + v % 2 ^ n) + x % 2 ^ low
def maskN (low n : Nat) : Nat := (2 ^ n - 1) * 2 ^ low
theorem pow_split {low n : Nat} : 2 ^ (low + n) = 2 ^ low * 2 ^ n := Nat.pow_add 2 low n
theorem mask_lt {low n : Nat} (h : low + n ≤ 32) : maskN low n < 4294967296 := by
  have h1 : (2 ^ n - 1) * 2 ^ low < 2 ^ n * 2 ^ low := Nat.mul_lt_mul_of_pos_right (by have := Nat.two_pow_pos n; omega) (Nat.two_pow_pos low)
  have h2 : 2 ^ n * 2 ^ low ≤ 2 ^ 32 := by rw [← Nat.pow_add]; exact Nat.pow_le_pow_right (by omega) (by omega)
  unfold maskN
  omega
theorem mask_bit (low n j : Nat) : (maskN low n).testBit j = (decide (low ≤ j) && decide (j - low < n)) := by
  unfold maskN
  rw [Nat.testBit_mul_two_pow, Nat.testBit_two_pow_sub_one]
theorem placed_lt {low n : Nat} (v : Nat) (h : low + n ≤ 32) : v % 2 ^ n * 2 ^ low < 4294967296 := by
  have h1 : v % 2 ^ n * 2 ^ low < 2 ^ n * 2 ^ low := Nat.mul_lt_mul_of_pos_right (Nat.mod_lt _ (Nat.two_pow_pos n)) (Nat.two_pow_pos low)
  have h2 : 2 ^ n * 2 ^ low ≤ 2 ^ 32 := by rw [← Nat.pow_add]; exact Nat.pow_le_pow_right (by omega) (by omega)
  omega
theorem and_place {low n : Nat} (v : Nat) (h : low + n ≤ 32) : (v * 2 ^ low % 4294967296) &&& maskN low n = v % 2 ^ n * 2 ^ low := by
  apply Nat.eq_of_testBit_eq
  intro j
  rw [Nat.testBit_and, mask_bit, show (4294967296 : Nat) = 2 ^ 32 from rfl, Nat.testBit_mod_two_pow, Nat.testBit_mul_two_pow, Nat.testBit_mul_two_pow, Nat.testBit_mod_two_pow]
  by_cases h1 : low ≤ j
  · by_cases h2 : j - low < n
    · rw [decide_eq_true h1, decide_eq_true h2, decide_eq_true (show j < 32 by omega)]; simp
    · rw [decide_eq_true h1, decide_eq_false h2]; simp
  · rw [decide_eq_false h1]; simp
theorem turn_eq {x low n : Nat} (v : Nat) (hx : x < 4294967296) (h : low + n ≤ 32) : (x &&& (2 ^ 32 - (maskN low n + 1))) ||| (v % 2 ^ n * 2 ^ low) = turnN x low n v := by
  have hm := mask_lt h
  apply Nat.eq_of_testBit_eq
  intro j
  unfold turnN
  rw [Nat.testBit_two_pow_mul_add _ (Nat.mod_lt _ (Nat.two_pow_pos low)), Nat.testBit_two_pow_mul_add _ (Nat.mod_lt _ (Nat.two_pow_pos n)), Nat.testBit_or, Nat.testBit_and, Nat.testBit_two_pow_sub_succ (by omega), mask_bit, Nat.testBit_mul_two_pow, Nat.testBit_mod_two_pow, Nat.testBit_mod_two_pow, Nat.testBit_div_two_pow]
  by_cases h1 : j < low
  · rw [if_pos h1, decide_eq_true h1, decide_eq_false (show ¬ low ≤ j by omega), decide_eq_true (show j < 32 by omega)]; simp
  · rw [if_neg h1, decide_eq_true (show low ≤ j by omega)]
    by_cases h2 : j - low < n
    · rw [if_pos h2, decide_eq_true h2]; simp
    · rw [if_neg h2, decide_eq_false h2]
      rw [show j - low - n + (low + n) = j by omega]
      by_cases h3 : j < 32
      · rw [decide_eq_true h3]; simp
      · rw [decide_eq_false h3, Nat.testBit_lt_two_pow (Nat.lt_of_lt_of_le (show x < 2 ^ 32 by omega) (Nat.pow_le_pow_right (by omega) (show 32 ≤ j by omega)))]; simp
theorem turn_lt {x low n : Nat} (v : Nat) (hx : x < 4294967296) (h : low + n ≤ 32) : turnN x low n v < 4294967296 := by
  rw [← turn_eq v hx h]
  have h1 : x &&& (2 ^ 32 - (maskN low n + 1)) ≤ x := Nat.and_le_left
  exact Nat.or_lt_two_pow (n := 32) (by omega) (by have := placed_lt v h; omega)
/-- A byte of a word with a part turned. -/
theorem turn_byte {x v k s j : Nat} (hs : s = 1 ∨ s = 2 ∨ s = 4) (hk : k + s ≤ 4) (hj : j < 4) (hx : x < 4294967296) (hv : v < 4294967296) :
    bitsN (turnN x (8 * k) (8 * s) v) (8 * j) 8 = if k ≤ j ∧ j < k + s then v / 2 ^ (8 * (j - k)) % 256 else bitsN x (8 * j) 8 := by
  have h1 : k = 0 ∨ k = 1 ∨ k = 2 ∨ k = 3 := by omega
  have h2 : j = 0 ∨ j = 1 ∨ j = 2 ∨ j = 3 := by omega
  unfold bitsN turnN
  rcases hs with rfl | rfl | rfl <;> rcases h1 with rfl | rfl | rfl | rfl <;> (try omega) <;> rcases h2 with rfl | rfl | rfl | rfl
  all_goals
    simp only [Nat.reduceMul, Nat.reduceAdd, Nat.reducePow, Nat.reduceSub, Nat.reduceLeDiff, Nat.reduceLT, and_true, and_false, if_true, if_false, Nat.mul_zero, Nat.zero_add, Nat.pow_zero, Nat.div_one, Nat.mod_one, Nat.one_mul, Nat.add_zero, Nat.le_refl, Nat.zero_le]
    try omega
end Go.Proofs.YtncninjgfllcdaaDoor
