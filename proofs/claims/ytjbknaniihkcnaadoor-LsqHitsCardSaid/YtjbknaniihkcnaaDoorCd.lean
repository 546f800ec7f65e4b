/-
  The document's memory: Inside, Has, Store, Load, NewMemory of no words, walked; their contracts.
-/
import Derived.Test.YtjbknaniihkcnaaDoorCc
namespace Go.Proofs.YtjbknaniihkcnaaDoor
open Go Go.Vc
set_option maxRecDepth 100000
set_option linter.unusedSimpArgs false
set_option linter.unusedVariables false
def fairB (addr : Nat) (size : Int) : Bool := decide ((size = 1 ∨ size = 2 ∨ size = 4) ∧ addr % size.toNat = 0)
/-- Bytes by their places. -/
def bT (c : Nat → Nat) (n : Nat) : List (List Value) := tblOf (fun j => [.int .u8 (c j : Nat)]) n
def putC (c : Nat → Nat) (off size v j : Nat) : Nat := if off ≤ j ∧ j < off + size then v / 256 ^ (j - off) % 256 else c j
theorem bT_len (c : Nat → Nat) (n : Nat) : (bT c n).length = n := tblOf_len _ _
theorem bT_cell (c : Nat → Nat) {i n : Nat} (hi : i < n) : cellAt (bT c n) i 0 = .int .u8 (c i : Nat) := by rw [bT, tblOf_cell _ hi]; rfl
theorem toI_bT (c : Nat → Nat) {i n : Nat} (hi : i < n) : toI (cellAt (bT c n) i 0) = (c i : Nat) := by rw [bT_cell c hi]; rfl
theorem bT_set (c : Nat → Nat) {i n : Nat} (hi : i < n) (x : Nat) : (bT c n).set i (over ((bT c n).getD i []) 0 [.int .u8 (x : Nat)]) = bT (fun j => if j = i then x else c j) n := by
  rw [bT, tblOf_get _ hi, tblOf_set _ hi]
  refine tblOf_congr fun j _ => ?_
  by_cases h : j = i
  · simp [h, over]
  · simp [h]
theorem shrB {v i : Nat} (hv : v < 4294967296) (hi : i < 4) : IntKind.u8.wrap ((v : Int).fdiv (2 ^ min (IntKind.i64.wrap (8 * (i : Int))).toNat IntKind.u32.bits)) = ((v / 256 ^ i % 256 : Nat) : Int) := by
  have e : min (IntKind.i64.wrap (8 * (i : Int))).toNat IntKind.u32.bits = 8 * i := by rw [IntKind.wrap_i64]; simp only [IntKind.bits]; omega
  rw [e, Int.fdiv_eq_ediv_of_nonneg _ (Int.le_of_lt (Int.pow_pos (by decide))), IntKind.wrap_u8]
  have e2 : ((2 : Int) ^ (8 * i)) = ((256 ^ i : Nat) : Int) := by rw [Int.pow_mul]; simp
  rw [e2]
  have : (v : Int) / ((256 ^ i : Nat) : Int) = ((v / 256 ^ i : Nat) : Int) := by simp
  rw [this]
  omega
theorem putC_next (c : Nat → Nat) (off i v : Nat) : (fun j => if j = off + i then v / 256 ^ i % 256 else putC c off i v j) = putC c off (i + 1) v := by
  funext j
  unfold putC
  by_cases h : j = off + i
  · rw [if_pos h, if_pos (by omega), h, Nat.add_sub_cancel_left]
  · rw [if_neg h]
    by_cases h2 : off ≤ j ∧ j < off + i
    · rw [if_pos h2, if_pos (by omega)]
    · rw [if_neg h2, if_neg (by omega)]
theorem putC_zero (c : Nat → Nat) (off v : Nat) : putC c off 0 v = c := by
  funext j
  unfold putC
  rw [if_neg (by omega)]
/-- The number that so many bytes are, the lowest first. -/
def getN (c : Nat → Nat) (off : Nat) : Nat → Nat | 0 => 0 | k + 1 => getN c off k + c (off + k) * 256 ^ k
theorem getN_lt {c : Nat → Nat} (hc : ∀ j, c j < 256) (off : Nat) : ∀ k, getN c off k < 256 ^ k
  | 0 => by simp [getN]
  | k + 1 => by
    have h1 := getN_lt hc off k
    have h2 := hc (off + k)
    rw [getN, Nat.pow_succ]
    have : c (off + k) * 256 ^ k ≤ 255 * 256 ^ k := Nat.mul_le_mul_right _ (by omega)
    omega
def hasB (n addr : Nat) (size : Int) : Bool := fairB addr size && decide ((addr : Int) + size ≤ n)
theorem fairB_size {addr : Nat} {size : Int} (h : fairB addr size = true) : (size = 1 ∨ size = 2 ∨ size = 4) ∧ addr % size.toNat = 0 := of_decide_eq_true h
def storeC (n addr : Nat) (size : Int) (v : Nat) (c : Nat → Nat) : Nat → Nat := if hasB n addr size then putC c addr size.toNat v else c
def xHp (o : Bool) (n : Nat) (c : Nat → Nat) : List Ent := [cellsB o 59 [.slc 1 1 0 n], .row o 5 [.int .u8] (bT c n)]
theorem inside_run (M : HL) (K : SV → List Ent → HL → Prop) (n addr : Nat) (size : Int) (h3 : addr < 4294967296) (hn : n ≤ 65536)
    (hK : K (.v (.bool (hasB n addr size))) [] M) : runF G0 pf30 [.v (.int .i64 n), .v (.int .u32 addr), .v (.int .i64 size)] [] M K := by
  have ea : IntKind.i64.wrap (addr : Int) = addr := by rw [IntKind.wrap_i64]; omega
  have em : ∀ k : Nat, 0 < k → (addr : Int).tmod (k : Int) = ((addr % k : Nat) : Int) := fun k hk => by rw [Int.tmod_eq_emod_of_nonneg (by omega)]; omega
  have es : ∀ k : Nat, k ≤ 4 → IntKind.i64.wrap ((n : Int) - (k : Int)) = (n : Int) - k := fun k hk => by rw [IntKind.wrap_i64]; omega
  have eb : ∀ k : Nat, (k = 1 ∨ k = 2 ∨ k = 4) → hasB n addr (k : Nat) = (decide (addr % k = 0) && decide ((addr : Int) + k ≤ n)) := fun k hk => by
    unfold hasB fairB
    rw [Int.toNat_natCast, Bool.decide_and, decide_eq_true (by omega), Bool.true_and]
  rcases (show size = 1 ∨ size = 2 ∨ size = 4 ∨ ¬ (size = 1 ∨ size = 2 ∨ size = 4) by omega) with rfl | rfl | rfl | hs
  · have e1 := em 1 (by omega)
    have e2 := es 1 (by omega)
    rw [show (1 : Int) = ((1 : Nat) : Int) from rfl, eb 1 (by omega)] at hK
    repeat ((conv => whnf); (first | refine Cnd.yes ?_ | refine Cnd.no ?_ | refine And.intro rfl ?_ | refine And.intro (by omega) ?_ | (refine And.intro ?_ ?_; focus (simp only [IntKind.wrap_i64, IntKind.wrap_u64, IntKind.wrap_u32]; omega)) | (refine And.intro ?_ ?_; focus (simp only [zl1, zl2, zl3, zl4, zl5, zl6, zl7, zl8, zl9] <;> omega)) | (refine Cnd.tt ?_ ?_; focus (first | (apply decide_eq_true; omega) | (simp only [zq1, zq2, zq3, zq4, zq5, zq6, zq7, zq8, zq9, zq10, zq11, zq12] <;> omega) | rfl)) | (refine Cnd.ff ?_ ?_; focus (first | (apply decide_eq_false; omega) | (simp only [zq1, zq2, zq3, zq4, zq5, zq6, zq7, zq8, zq9, zq10, zq11, zq12] <;> omega) | rfl))))
    conv => whnf
    rw [ea, show (addr : Int).tmod 1 = _ from e1]
    by_cases hm : addr % 1 = 0
    · rw [decide_eq_true hm, Bool.true_and] at hK
      repeat ((conv => whnf); (first | refine Cnd.yes ?_ | refine Cnd.no ?_ | refine And.intro rfl ?_ | refine And.intro (by omega) ?_ | (refine And.intro ?_ ?_; focus (simp only [IntKind.wrap_i64, IntKind.wrap_u64, IntKind.wrap_u32]; omega)) | (refine And.intro ?_ ?_; focus (simp only [zl1, zl2, zl3, zl4, zl5, zl6, zl7, zl8, zl9] <;> omega)) | (refine Cnd.tt ?_ ?_; focus (first | (apply decide_eq_true; omega) | (simp only [zq1, zq2, zq3, zq4, zq5, zq6, zq7, zq8, zq9, zq10, zq11, zq12] <;> omega) | rfl)) | (refine Cnd.ff ?_ ?_; focus (first | (apply decide_eq_false; omega) | (simp only [zq1, zq2, zq3, zq4, zq5, zq6, zq7, zq8, zq9, zq10, zq11, zq12] <;> omega) | rfl))))
      conv => whnf
      by_cases hl : (1 : Int) ≤ n
      · repeat ((conv => whnf); (first | refine Cnd.yes ?_ | refine Cnd.no ?_ | refine And.intro rfl ?_ | refine And.intro (by omega) ?_ | (refine And.intro ?_ ?_; focus (simp only [IntKind.wrap_i64, IntKind.wrap_u64, IntKind.wrap_u32]; omega)) | (refine And.intro ?_ ?_; focus (simp only [zl1, zl2, zl3, zl4, zl5, zl6, zl7, zl8, zl9] <;> omega)) | (refine Cnd.tt ?_ ?_; focus (first | (apply decide_eq_true; omega) | (simp only [zq1, zq2, zq3, zq4, zq5, zq6, zq7, zq8, zq9, zq10, zq11, zq12] <;> omega) | rfl)) | (refine Cnd.ff ?_ ?_; focus (first | (apply decide_eq_false; omega) | (simp only [zq1, zq2, zq3, zq4, zq5, zq6, zq7, zq8, zq9, zq10, zq11, zq12] <;> omega) | rfl))))
        conv => whnf
        rw [show IntKind.i64.wrap ((n : Int) - 1) = _ from e2]
        by_cases hx : (addr : Int) + (1 : Nat) ≤ n
        · rw [decide_eq_true hx] at hK
          refine Kat2 hK rfl ?_
          rw [decide_eq_true (by omega)]
        · rw [decide_eq_false hx] at hK
          refine Kat2 hK rfl ?_
          rw [decide_eq_false (by omega)]
      · repeat ((conv => whnf); (first | refine Cnd.yes ?_ | refine Cnd.no ?_ | refine And.intro rfl ?_ | refine And.intro (by omega) ?_ | (refine And.intro ?_ ?_; focus (simp only [IntKind.wrap_i64, IntKind.wrap_u64, IntKind.wrap_u32]; omega)) | (refine And.intro ?_ ?_; focus (simp only [zl1, zl2, zl3, zl4, zl5, zl6, zl7, zl8, zl9] <;> omega)) | (refine Cnd.tt ?_ ?_; focus (first | (apply decide_eq_true; omega) | (simp only [zq1, zq2, zq3, zq4, zq5, zq6, zq7, zq8, zq9, zq10, zq11, zq12] <;> omega) | rfl)) | (refine Cnd.ff ?_ ?_; focus (first | (apply decide_eq_false; omega) | (simp only [zq1, zq2, zq3, zq4, zq5, zq6, zq7, zq8, zq9, zq10, zq11, zq12] <;> omega) | rfl))))
        conv => whnf
        rw [decide_eq_false (by omega)] at hK
        exact hK
    · exact absurd (Nat.mod_one addr) hm
  · have e1 := em 2 (by omega)
    have e2 := es 2 (by omega)
    rw [show (2 : Int) = ((2 : Nat) : Int) from rfl, eb 2 (by omega)] at hK
    repeat ((conv => whnf); (first | refine Cnd.yes ?_ | refine Cnd.no ?_ | refine And.intro rfl ?_ | refine And.intro (by omega) ?_ | (refine And.intro ?_ ?_; focus (simp only [IntKind.wrap_i64, IntKind.wrap_u64, IntKind.wrap_u32]; omega)) | (refine And.intro ?_ ?_; focus (simp only [zl1, zl2, zl3, zl4, zl5, zl6, zl7, zl8, zl9] <;> omega)) | (refine Cnd.tt ?_ ?_; focus (first | (apply decide_eq_true; omega) | (simp only [zq1, zq2, zq3, zq4, zq5, zq6, zq7, zq8, zq9, zq10, zq11, zq12] <;> omega) | rfl)) | (refine Cnd.ff ?_ ?_; focus (first | (apply decide_eq_false; omega) | (simp only [zq1, zq2, zq3, zq4, zq5, zq6, zq7, zq8, zq9, zq10, zq11, zq12] <;> omega) | rfl))))
    conv => whnf
    rw [ea, show (addr : Int).tmod 2 = _ from e1]
    by_cases hm : addr % 2 = 0
    · rw [decide_eq_true hm, Bool.true_and] at hK
      repeat ((conv => whnf); (first | refine Cnd.yes ?_ | refine Cnd.no ?_ | refine And.intro rfl ?_ | refine And.intro (by omega) ?_ | (refine And.intro ?_ ?_; focus (simp only [IntKind.wrap_i64, IntKind.wrap_u64, IntKind.wrap_u32]; omega)) | (refine And.intro ?_ ?_; focus (simp only [zl1, zl2, zl3, zl4, zl5, zl6, zl7, zl8, zl9] <;> omega)) | (refine Cnd.tt ?_ ?_; focus (first | (apply decide_eq_true; omega) | (simp only [zq1, zq2, zq3, zq4, zq5, zq6, zq7, zq8, zq9, zq10, zq11, zq12] <;> omega) | rfl)) | (refine Cnd.ff ?_ ?_; focus (first | (apply decide_eq_false; omega) | (simp only [zq1, zq2, zq3, zq4, zq5, zq6, zq7, zq8, zq9, zq10, zq11, zq12] <;> omega) | rfl))))
      conv => whnf
      by_cases hl : (2 : Int) ≤ n
      · repeat ((conv => whnf); (first | refine Cnd.yes ?_ | refine Cnd.no ?_ | refine And.intro rfl ?_ | refine And.intro (by omega) ?_ | (refine And.intro ?_ ?_; focus (simp only [IntKind.wrap_i64, IntKind.wrap_u64, IntKind.wrap_u32]; omega)) | (refine And.intro ?_ ?_; focus (simp only [zl1, zl2, zl3, zl4, zl5, zl6, zl7, zl8, zl9] <;> omega)) | (refine Cnd.tt ?_ ?_; focus (first | (apply decide_eq_true; omega) | (simp only [zq1, zq2, zq3, zq4, zq5, zq6, zq7, zq8, zq9, zq10, zq11, zq12] <;> omega) | rfl)) | (refine Cnd.ff ?_ ?_; focus (first | (apply decide_eq_false; omega) | (simp only [zq1, zq2, zq3, zq4, zq5, zq6, zq7, zq8, zq9, zq10, zq11, zq12] <;> omega) | rfl))))
        conv => whnf
        rw [show IntKind.i64.wrap ((n : Int) - 2) = _ from e2]
        by_cases hx : (addr : Int) + (2 : Nat) ≤ n
        · rw [decide_eq_true hx] at hK
          refine Kat2 hK rfl ?_
          rw [decide_eq_true (by omega)]
        · rw [decide_eq_false hx] at hK
          refine Kat2 hK rfl ?_
          rw [decide_eq_false (by omega)]
      · repeat ((conv => whnf); (first | refine Cnd.yes ?_ | refine Cnd.no ?_ | refine And.intro rfl ?_ | refine And.intro (by omega) ?_ | (refine And.intro ?_ ?_; focus (simp only [IntKind.wrap_i64, IntKind.wrap_u64, IntKind.wrap_u32]; omega)) | (refine And.intro ?_ ?_; focus (simp only [zl1, zl2, zl3, zl4, zl5, zl6, zl7, zl8, zl9] <;> omega)) | (refine Cnd.tt ?_ ?_; focus (first | (apply decide_eq_true; omega) | (simp only [zq1, zq2, zq3, zq4, zq5, zq6, zq7, zq8, zq9, zq10, zq11, zq12] <;> omega) | rfl)) | (refine Cnd.ff ?_ ?_; focus (first | (apply decide_eq_false; omega) | (simp only [zq1, zq2, zq3, zq4, zq5, zq6, zq7, zq8, zq9, zq10, zq11, zq12] <;> omega) | rfl))))
        conv => whnf
        rw [decide_eq_false (by omega)] at hK
        exact hK
    · rw [decide_eq_false hm, Bool.false_and] at hK
      repeat ((conv => whnf); (first | refine Cnd.yes ?_ | refine Cnd.no ?_ | refine And.intro rfl ?_ | refine And.intro (by omega) ?_ | (refine And.intro ?_ ?_; focus (simp only [IntKind.wrap_i64, IntKind.wrap_u64, IntKind.wrap_u32]; omega)) | (refine And.intro ?_ ?_; focus (simp only [zl1, zl2, zl3, zl4, zl5, zl6, zl7, zl8, zl9] <;> omega)) | (refine Cnd.tt ?_ ?_; focus (first | (apply decide_eq_true; omega) | (simp only [zq1, zq2, zq3, zq4, zq5, zq6, zq7, zq8, zq9, zq10, zq11, zq12] <;> omega) | rfl)) | (refine Cnd.ff ?_ ?_; focus (first | (apply decide_eq_false; omega) | (simp only [zq1, zq2, zq3, zq4, zq5, zq6, zq7, zq8, zq9, zq10, zq11, zq12] <;> omega) | rfl))))
      conv => whnf
      exact hK
  · have e1 := em 4 (by omega)
    have e2 := es 4 (by omega)
    rw [show (4 : Int) = ((4 : Nat) : Int) from rfl, eb 4 (by omega)] at hK
    repeat ((conv => whnf); (first | refine Cnd.yes ?_ | refine Cnd.no ?_ | refine And.intro rfl ?_ | refine And.intro (by omega) ?_ | (refine And.intro ?_ ?_; focus (simp only [IntKind.wrap_i64, IntKind.wrap_u64, IntKind.wrap_u32]; omega)) | (refine And.intro ?_ ?_; focus (simp only [zl1, zl2, zl3, zl4, zl5, zl6, zl7, zl8, zl9] <;> omega)) | (refine Cnd.tt ?_ ?_; focus (first | (apply decide_eq_true; omega) | (simp only [zq1, zq2, zq3, zq4, zq5, zq6, zq7, zq8, zq9, zq10, zq11, zq12] <;> omega) | rfl)) | (refine Cnd.ff ?_ ?_; focus (first | (apply decide_eq_false; omega) | (simp only [zq1, zq2, zq3, zq4, zq5, zq6, zq7, zq8, zq9, zq10, zq11, zq12] <;> omega) | rfl))))
    conv => whnf
    rw [ea, show (addr : Int).tmod 4 = _ from e1]
    by_cases hm : addr % 4 = 0
    · rw [decide_eq_true hm, Bool.true_and] at hK
      repeat ((conv => whnf); (first | refine Cnd.yes ?_ | refine Cnd.no ?_ | refine And.intro rfl ?_ | refine And.intro (by omega) ?_ | (refine And.intro ?_ ?_; focus (simp only [IntKind.wrap_i64, IntKind.wrap_u64, IntKind.wrap_u32]; omega)) | (refine And.intro ?_ ?_; focus (simp only [zl1, zl2, zl3, zl4, zl5, zl6, zl7, zl8, zl9] <;> omega)) | (refine Cnd.tt ?_ ?_; focus (first | (apply decide_eq_true; omega) | (simp only [zq1, zq2, zq3, zq4, zq5, zq6, zq7, zq8, zq9, zq10, zq11, zq12] <;> omega) | rfl)) | (refine Cnd.ff ?_ ?_; focus (first | (apply decide_eq_false; omega) | (simp only [zq1, zq2, zq3, zq4, zq5, zq6, zq7, zq8, zq9, zq10, zq11, zq12] <;> omega) | rfl))))
      conv => whnf
      by_cases hl : (4 : Int) ≤ n
      · repeat ((conv => whnf); (first | refine Cnd.yes ?_ | refine Cnd.no ?_ | refine And.intro rfl ?_ | refine And.intro (by omega) ?_ | (refine And.intro ?_ ?_; focus (simp only [IntKind.wrap_i64, IntKind.wrap_u64, IntKind.wrap_u32]; omega)) | (refine And.intro ?_ ?_; focus (simp only [zl1, zl2, zl3, zl4, zl5, zl6, zl7, zl8, zl9] <;> omega)) | (refine Cnd.tt ?_ ?_; focus (first | (apply decide_eq_true; omega) | (simp only [zq1, zq2, zq3, zq4, zq5, zq6, zq7, zq8, zq9, zq10, zq11, zq12] <;> omega) | rfl)) | (refine Cnd.ff ?_ ?_; focus (first | (apply decide_eq_false; omega) | (simp only [zq1, zq2, zq3, zq4, zq5, zq6, zq7, zq8, zq9, zq10, zq11, zq12] <;> omega) | rfl))))
        conv => whnf
        rw [show IntKind.i64.wrap ((n : Int) - 4) = _ from e2]
        by_cases hx : (addr : Int) + (4 : Nat) ≤ n
        · rw [decide_eq_true hx] at hK
          refine Kat2 hK rfl ?_
          rw [decide_eq_true (by omega)]
        · rw [decide_eq_false hx] at hK
          refine Kat2 hK rfl ?_
          rw [decide_eq_false (by omega)]
      · repeat ((conv => whnf); (first | refine Cnd.yes ?_ | refine Cnd.no ?_ | refine And.intro rfl ?_ | refine And.intro (by omega) ?_ | (refine And.intro ?_ ?_; focus (simp only [IntKind.wrap_i64, IntKind.wrap_u64, IntKind.wrap_u32]; omega)) | (refine And.intro ?_ ?_; focus (simp only [zl1, zl2, zl3, zl4, zl5, zl6, zl7, zl8, zl9] <;> omega)) | (refine Cnd.tt ?_ ?_; focus (first | (apply decide_eq_true; omega) | (simp only [zq1, zq2, zq3, zq4, zq5, zq6, zq7, zq8, zq9, zq10, zq11, zq12] <;> omega) | rfl)) | (refine Cnd.ff ?_ ?_; focus (first | (apply decide_eq_false; omega) | (simp only [zq1, zq2, zq3, zq4, zq5, zq6, zq7, zq8, zq9, zq10, zq11, zq12] <;> omega) | rfl))))
        conv => whnf
        rw [decide_eq_false (by omega)] at hK
        exact hK
    · rw [decide_eq_false hm, Bool.false_and] at hK
      repeat ((conv => whnf); (first | refine Cnd.yes ?_ | refine Cnd.no ?_ | refine And.intro rfl ?_ | refine And.intro (by omega) ?_ | (refine And.intro ?_ ?_; focus (simp only [IntKind.wrap_i64, IntKind.wrap_u64, IntKind.wrap_u32]; omega)) | (refine And.intro ?_ ?_; focus (simp only [zl1, zl2, zl3, zl4, zl5, zl6, zl7, zl8, zl9] <;> omega)) | (refine Cnd.tt ?_ ?_; focus (first | (apply decide_eq_true; omega) | (simp only [zq1, zq2, zq3, zq4, zq5, zq6, zq7, zq8, zq9, zq10, zq11, zq12] <;> omega) | rfl)) | (refine Cnd.ff ?_ ?_; focus (first | (apply decide_eq_false; omega) | (simp only [zq1, zq2, zq3, zq4, zq5, zq6, zq7, zq8, zq9, zq10, zq11, zq12] <;> omega) | rfl))))
      conv => whnf
      exact hK
  · have eb : hasB n addr size = false := by
      unfold hasB fairB
      rw [Bool.decide_and, decide_eq_false hs, Bool.false_and, Bool.false_and]
    rw [eb] at hK
    repeat ((conv => whnf); (first | refine Cnd.yes ?_ | refine Cnd.no ?_ | refine And.intro rfl ?_ | refine And.intro (by omega) ?_ | (refine And.intro ?_ ?_; focus (simp only [IntKind.wrap_i64, IntKind.wrap_u64, IntKind.wrap_u32]; omega)) | (refine And.intro ?_ ?_; focus (simp only [zl1, zl2, zl3, zl4, zl5, zl6, zl7, zl8, zl9] <;> omega)) | (refine Cnd.tt ?_ ?_; focus (first | (apply decide_eq_true; omega) | (simp only [zq1, zq2, zq3, zq4, zq5, zq6, zq7, zq8, zq9, zq10, zq11, zq12] <;> omega) | rfl)) | (refine Cnd.ff ?_ ?_; focus (first | (apply decide_eq_false; omega) | (simp only [zq1, zq2, zq3, zq4, zq5, zq6, zq7, zq8, zq9, zq10, zq11, zq12] <;> omega) | rfl))))
    conv => whnf
    exact hK
def insideS : Vc.Spec := fun args hp _ K => ∃ (n addr : Nat) (size : Int), args = [.v (.int .i64 n), .v (.int .u32 addr), .v (.int .i64 size)] ∧ hp = [] ∧ addr < 4294967296 ∧ n ≤ 65536 ∧ K (.v (.bool (hasB n addr size))) []
theorem inside_ok : SOK Tryd.prog 30 insideS := by
  refine TOK.weaken (runF_eq G0_ok mixed at30.1 at30.2 pf30_eq) fun args hp M K h => ?_
  obtain ⟨n, addr, size, rfl, rfl, h1, h2, h3⟩ := h
  exact inside_run M K n addr size h1 h2 h3
noncomputable def specsR1 : Nat → Option Vc.Trans := tget [(30, frameT insideS)]
noncomputable def GR1 : Nat → Option Vc.Trans := tabG specsR1 (tget tab) 5
theorem GR1_ok : GOK Tryd.prog GR1 := tabG_ok (GOK.cons (frame_ok inside_ok) .nil) tab_ok 5
theorem xhas_runT (M : HL) (K : SV → List Ent → HL → Prop) (n addr : Nat) (c : Nat → Nat) (size : Int) (h3 : addr < 4294967296) (hn : n ≤ 65536) (hK : K (.v (.bool (hasB n addr size))) (xHp true n c) M) :
    runF GR1 pf20 [.ptr 0 0 0 0, .v (.int .u32 addr), .v (.int .i64 size)] (xHp true n c) M K := by
  repeat ((conv => whnf); (first | refine Cnd.yes ?_ | refine Cnd.no ?_ | refine And.intro rfl ?_ | refine And.intro (by omega) ?_ | (refine And.intro ?_ ?_; focus (simp only [IntKind.wrap_i64, IntKind.wrap_u64, IntKind.wrap_u32]; omega)) | (refine And.intro ?_ ?_; focus (simp only [zl1, zl2, zl3, zl4, zl5, zl6, zl7, zl8, zl9] <;> omega)) | (refine Cnd.tt ?_ ?_; focus (first | (apply decide_eq_true; omega) | (simp only [zq1, zq2, zq3, zq4, zq5, zq6, zq7, zq8, zq9, zq10, zq11, zq12] <;> omega) | rfl)) | (refine Cnd.ff ?_ ?_; focus (first | (apply decide_eq_false; omega) | (simp only [zq1, zq2, zq3, zq4, zq5, zq6, zq7, zq8, zq9, zq10, zq11, zq12] <;> omega) | rfl))))
  conv => whnf
  refine ⟨n, addr, size, rfl, rfl, h3, hn, ?_⟩
  repeat ((conv => whnf); (first | refine Cnd.yes ?_ | refine Cnd.no ?_ | refine And.intro rfl ?_ | refine And.intro (by omega) ?_ | (refine And.intro ?_ ?_; focus (simp only [IntKind.wrap_i64, IntKind.wrap_u64, IntKind.wrap_u32]; omega)) | (refine And.intro ?_ ?_; focus (simp only [zl1, zl2, zl3, zl4, zl5, zl6, zl7, zl8, zl9] <;> omega)) | (refine Cnd.tt ?_ ?_; focus (first | (apply decide_eq_true; omega) | (simp only [zq1, zq2, zq3, zq4, zq5, zq6, zq7, zq8, zq9, zq10, zq11, zq12] <;> omega) | rfl)) | (refine Cnd.ff ?_ ?_; focus (first | (apply decide_eq_false; omega) | (simp only [zq1, zq2, zq3, zq4, zq5, zq6, zq7, zq8, zq9, zq10, zq11, zq12] <;> omega) | rfl))))
  conv => whnf
  exact hK
theorem xhas_runF (M : HL) (K : SV → List Ent → HL → Prop) (n addr : Nat) (c : Nat → Nat) (size : Int) (h3 : addr < 4294967296) (hn : n ≤ 65536) (hK : K (.v (.bool (hasB n addr size))) (xHp false n c) M) :
    runF GR1 pf20 [.ptr 0 0 0 0, .v (.int .u32 addr), .v (.int .i64 size)] (xHp false n c) M K := by
  repeat ((conv => whnf); (first | refine Cnd.yes ?_ | refine Cnd.no ?_ | refine And.intro rfl ?_ | refine And.intro (by omega) ?_ | (refine And.intro ?_ ?_; focus (simp only [IntKind.wrap_i64, IntKind.wrap_u64, IntKind.wrap_u32]; omega)) | (refine And.intro ?_ ?_; focus (simp only [zl1, zl2, zl3, zl4, zl5, zl6, zl7, zl8, zl9] <;> omega)) | (refine Cnd.tt ?_ ?_; focus (first | (apply decide_eq_true; omega) | (simp only [zq1, zq2, zq3, zq4, zq5, zq6, zq7, zq8, zq9, zq10, zq11, zq12] <;> omega) | rfl)) | (refine Cnd.ff ?_ ?_; focus (first | (apply decide_eq_false; omega) | (simp only [zq1, zq2, zq3, zq4, zq5, zq6, zq7, zq8, zq9, zq10, zq11, zq12] <;> omega) | rfl))))
  conv => whnf
  refine ⟨n, addr, size, rfl, rfl, h3, hn, ?_⟩
  repeat ((conv => whnf); (first | refine Cnd.yes ?_ | refine Cnd.no ?_ | refine And.intro rfl ?_ | refine And.intro (by omega) ?_ | (refine And.intro ?_ ?_; focus (simp only [IntKind.wrap_i64, IntKind.wrap_u64, IntKind.wrap_u32]; omega)) | (refine And.intro ?_ ?_; focus (simp only [zl1, zl2, zl3, zl4, zl5, zl6, zl7, zl8, zl9] <;> omega)) | (refine Cnd.tt ?_ ?_; focus (first | (apply decide_eq_true; omega) | (simp only [zq1, zq2, zq3, zq4, zq5, zq6, zq7, zq8, zq9, zq10, zq11, zq12] <;> omega) | rfl)) | (refine Cnd.ff ?_ ?_; focus (first | (apply decide_eq_false; omega) | (simp only [zq1, zq2, zq3, zq4, zq5, zq6, zq7, zq8, zq9, zq10, zq11, zq12] <;> omega) | rfl))))
  conv => whnf
  exact hK
def xhasS : Vc.Spec := fun args hp _ K => ∃ (o : Bool) (n addr : Nat) (c : Nat → Nat) (size : Int), args = [.ptr 0 0 0 0, .v (.int .u32 addr), .v (.int .i64 size)] ∧ hp = xHp o n c ∧ addr < 4294967296 ∧ n ≤ 65536 ∧ K (.v (.bool (hasB n addr size))) (xHp o n c)
theorem xhas_ok : SOK Tryd.prog 20 xhasS := by
  refine TOK.weaken (runF_eq GR1_ok mixed at20.1 at20.2 pf20_eq) fun args hp M K h => ?_
  obtain ⟨o, n, addr, c, size, rfl, rfl, h1, h2, h3⟩ := h
  cases o with
  | true => exact xhas_runT M K n addr c size h1 h2 h3
  | false => exact xhas_runF M K n addr c size h1 h2 h3
noncomputable def specsR2 : Nat → Option Vc.Trans := tget [(20, frameT xhasS)]
noncomputable def GR2 : Nat → Option Vc.Trans := tabG specsR2 (tget tab) 5
theorem GR2_ok : GOK Tryd.prog GR2 := tabG_ok (GOK.cons (frame_ok xhas_ok) .nil) tab_ok 5
theorem has_size {n addr : Nat} {size : Int} (h : hasB n addr size = true) : ∃ sz : Nat, size = sz ∧ (sz = 1 ∨ sz = 2 ∨ sz = 4) ∧ addr + sz ≤ n := by
  have hs := fairB_size (Bool.and_eq_true _ _ ▸ h).1
  have hl := of_decide_eq_true (Bool.and_eq_true _ _ ▸ h).2
  exact ⟨size.toNat, by omega, by omega, by omega⟩
theorem xstore_run (M : HL) (K : SV → List Ent → HL → Prop) (n addr v : Nat) (c : Nat → Nat) (size : Int) (h3 : addr < 4294967296) (hn : n ≤ 65536) (hv : v < 4294967296)
    (hK : K (.v (.bool (hasB n addr size))) (xHp true n (storeC n addr size v c)) M) : runF GR2 pf12 [.ptr 0 0 0 0, .v (.int .u32 addr), .v (.int .i64 size), .v (.int .u32 v)] (xHp true n c) M K := by
  repeat ((conv => whnf); (first | refine Cnd.yes ?_ | refine Cnd.no ?_ | refine And.intro rfl ?_ | refine And.intro (by omega) ?_ | (refine And.intro ?_ ?_; focus (simp only [IntKind.wrap_i64, IntKind.wrap_u64, IntKind.wrap_u32]; omega)) | (refine And.intro ?_ ?_; focus (simp only [zl1, zl2, zl3, zl4, zl5, zl6, zl7, zl8, zl9] <;> omega)) | (refine Cnd.tt ?_ ?_; focus (first | (apply decide_eq_true; omega) | (simp only [zq1, zq2, zq3, zq4, zq5, zq6, zq7, zq8, zq9, zq10, zq11, zq12] <;> omega) | rfl)) | (refine Cnd.ff ?_ ?_; focus (first | (apply decide_eq_false; omega) | (simp only [zq1, zq2, zq3, zq4, zq5, zq6, zq7, zq8, zq9, zq10, zq11, zq12] <;> omega) | rfl))))
  conv => whnf
  refine ⟨true, n, addr, c, size, rfl, rfl, h3, hn, ?_⟩
  unfold storeC at hK
  cases h : hasB n addr size with
  | false =>
    rw [h] at hK
    repeat ((conv => whnf); (first | refine Cnd.yes ?_ | refine Cnd.no ?_ | refine And.intro rfl ?_ | refine And.intro (by omega) ?_ | (refine And.intro ?_ ?_; focus (simp only [IntKind.wrap_i64, IntKind.wrap_u64, IntKind.wrap_u32]; omega)) | (refine And.intro ?_ ?_; focus (simp only [zl1, zl2, zl3, zl4, zl5, zl6, zl7, zl8, zl9] <;> omega)) | (refine Cnd.tt ?_ ?_; focus (first | (apply decide_eq_true; omega) | (simp only [zq1, zq2, zq3, zq4, zq5, zq6, zq7, zq8, zq9, zq10, zq11, zq12] <;> omega) | rfl)) | (refine Cnd.ff ?_ ?_; focus (first | (apply decide_eq_false; omega) | (simp only [zq1, zq2, zq3, zq4, zq5, zq6, zq7, zq8, zq9, zq10, zq11, zq12] <;> omega) | rfl))))
    conv => whnf
    exact hK
  | true =>
    rw [h, if_pos rfl] at hK
    obtain ⟨sz, rfl, hsz, hl⟩ := has_size h
    rw [Int.toNat_natCast] at hK
    repeat ((conv => whnf); (first | refine Cnd.yes ?_ | refine Cnd.no ?_ | refine And.intro rfl ?_ | refine And.intro (by omega) ?_ | (refine And.intro ?_ ?_; focus (simp only [IntKind.wrap_i64, IntKind.wrap_u64, IntKind.wrap_u32]; omega)) | (refine And.intro ?_ ?_; focus (simp only [zl1, zl2, zl3, zl4, zl5, zl6, zl7, zl8, zl9] <;> omega)) | (refine Cnd.tt ?_ ?_; focus (first | (apply decide_eq_true; omega) | (simp only [zq1, zq2, zq3, zq4, zq5, zq6, zq7, zq8, zq9, zq10, zq11, zq12] <;> omega) | rfl)) | (refine Cnd.ff ?_ ?_; focus (first | (apply decide_eq_false; omega) | (simp only [zq1, zq2, zq3, zq4, zq5, zq6, zq7, zq8, zq9, zq10, zq11, zq12] <;> omega) | rfl))))
    conv => whnf
    refine ⟨InvS 35 (fun s : Nat => sz - s) (fun s : Nat => s ≤ sz) (fun s : Nat => [(0, .ptr 0 0 0 0), (1, .v (.int .u32 addr)), (2, .v (.int .i64 sz)), (3, .v (.int .u32 v)), (9, .v (.int .i64 s))]) (fun s : Nat => xHp true n (putC c addr s v)) M, ⟨(fun s : Nat => sz - s) 0, [0, 1], tmk 35 0 ((fun s : Nat => [(0, .ptr 0 0 0 0), (1, .v (.int .u32 addr)), (2, .v (.int .i64 sz)), (3, .v (.int .u32 v)), (9, .v (.int .i64 s))]) 0), (fun s : Nat => xHp true n (putC c addr s v)) 0, ?_⟩, ?_⟩
    · repeat ((conv => whnf); (first | refine Cnd.yes ?_ | refine Cnd.no ?_ | refine And.intro rfl ?_ | refine And.intro (by omega) ?_ | (refine And.intro ?_ ?_; focus (simp only [IntKind.wrap_i64, IntKind.wrap_u64, IntKind.wrap_u32]; omega)) | (refine And.intro ?_ ?_; focus (simp only [zl1, zl2, zl3, zl4, zl5, zl6, zl7, zl8, zl9] <;> omega))))
      conv => whnf
      refine ⟨by rw [putC_zero], ?_⟩
      repeat ((conv => whnf); (first | refine Cnd.yes ?_ | refine Cnd.no ?_ | refine And.intro rfl ?_ | refine And.intro (by omega) ?_ | (refine And.intro ?_ ?_; focus (simp only [IntKind.wrap_i64, IntKind.wrap_u64, IntKind.wrap_u32]; omega)) | (refine And.intro ?_ ?_; focus (simp only [zl1, zl2, zl3, zl4, zl5, zl6, zl7, zl8, zl9] <;> omega))))
      conv => whnf
      exact ⟨0, Nat.zero_le _, rfl, rfl, (tmkK_eq _ _ _ _).mpr rfl, rfl⟩
    · rintro cnt tm hp M1 ⟨i, hC_, rfl, rfl, htm, hhp_⟩
      replace hC_ : i ≤ sz := hC_
      have hi := hC_
      replace htm : tmkK 35 0 [(0, .ptr 0 0 0 0), (1, .v (.int .u32 addr)), (2, .v (.int .i64 sz)), (3, .v (.int .u32 v)), (9, .v (.int .i64 i))] (fun l => tm = l) := htm
      conv at htm => whnf
      subst htm
      replace hhp_ : hp = xHp true n (putC c addr i v) := hhp_
      subst hhp_
      repeat ((conv => whnf); (first | refine Cnd.yes ?_ | refine Cnd.no ?_ | refine And.intro rfl ?_ | refine And.intro (by omega) ?_ | (refine And.intro ?_ ?_; focus (simp only [IntKind.wrap_i64, IntKind.wrap_u64, IntKind.wrap_u32]; omega)) | (refine And.intro ?_ ?_; focus (simp only [zl1, zl2, zl3, zl4, zl5, zl6, zl7, zl8, zl9] <;> omega)) | (refine Cnd.tt ?_ ?_; focus (first | (apply decide_eq_true; omega) | (simp only [zq1, zq2, zq3, zq4, zq5, zq6, zq7, zq8, zq9, zq10, zq11, zq12] <;> omega) | rfl)) | (refine Cnd.ff ?_ ?_; focus (first | (apply decide_eq_false; omega) | (simp only [zq1, zq2, zq3, zq4, zq5, zq6, zq7, zq8, zq9, zq10, zq11, zq12] <;> omega) | rfl))))
      conv => whnf
      refine Cnd.mk (fun hlt => ?_) fun hge => ?_
      · have hin : i < sz := by have := of_decide_eq_true hlt; omega
        have e8 : IntKind.u64.wrap (IntKind.i64.wrap (8 * (i : Int))) = IntKind.i64.wrap (8 * (i : Int)) := by rw [IntKind.wrap_i64, IntKind.wrap_u64]; omega
        have ea : IntKind.i64.wrap (IntKind.i64.wrap (addr : Int) + (i : Int)) = ((addr + i : Nat) : Int) := by rw [IntKind.wrap_i64, IntKind.wrap_i64]; omega
        have e0 : 0 ≤ IntKind.i64.wrap (8 * (i : Int)) := by rw [IntKind.wrap_i64]; omega
        repeat ((conv => whnf); (first | refine Cnd.yes ?_ | refine Cnd.no ?_ | refine And.intro rfl ?_ | refine And.intro (by omega) ?_ | (refine And.intro ?_ ?_; focus (simp only [IntKind.wrap_i64, IntKind.wrap_u64, IntKind.wrap_u32]; omega)) | (refine And.intro ?_ ?_; focus (simp only [zl1, zl2, zl3, zl4, zl5, zl6, zl7, zl8, zl9] <;> omega)) | (refine Cnd.tt ?_ ?_; focus (first | (apply decide_eq_true; omega) | (simp only [zq1, zq2, zq3, zq4, zq5, zq6, zq7, zq8, zq9, zq10, zq11, zq12] <;> omega) | rfl)) | (refine Cnd.ff ?_ ?_; focus (first | (apply decide_eq_false; omega) | (simp only [zq1, zq2, zq3, zq4, zq5, zq6, zq7, zq8, zq9, zq10, zq11, zq12] <;> omega) | rfl))))
        conv => whnf
        rw [e8]
        repeat ((conv => whnf); (first | refine Cnd.yes ?_ | refine Cnd.no ?_ | refine And.intro rfl ?_ | refine And.intro (by omega) ?_ | (refine And.intro ?_ ?_; focus (simp only [IntKind.wrap_i64, IntKind.wrap_u64, IntKind.wrap_u32]; omega)) | (refine And.intro ?_ ?_; focus (simp only [zl1, zl2, zl3, zl4, zl5, zl6, zl7, zl8, zl9] <;> omega)) | (refine Cnd.tt ?_ ?_; focus (first | (apply decide_eq_true; omega) | (simp only [zq1, zq2, zq3, zq4, zq5, zq6, zq7, zq8, zq9, zq10, zq11, zq12] <;> omega) | rfl)) | (refine Cnd.ff ?_ ?_; focus (first | (apply decide_eq_false; omega) | (simp only [zq1, zq2, zq3, zq4, zq5, zq6, zq7, zq8, zq9, zq10, zq11, zq12] <;> omega) | rfl))))
        conv => whnf
        rw [ea, shrB hv (by omega)]
        repeat ((conv => whnf); (first | refine Cnd.yes ?_ | refine Cnd.no ?_ | refine And.intro rfl ?_ | refine And.intro (by omega) ?_ | (refine And.intro ?_ ?_; focus (simp only [IntKind.wrap_i64, IntKind.wrap_u64, IntKind.wrap_u32]; omega)) | (refine And.intro ?_ ?_; focus (simp only [zl1, zl2, zl3, zl4, zl5, zl6, zl7, zl8, zl9] <;> omega)) | (refine Cnd.tt ?_ ?_; focus (first | (apply decide_eq_true; omega) | (simp only [zq1, zq2, zq3, zq4, zq5, zq6, zq7, zq8, zq9, zq10, zq11, zq12] <;> omega) | rfl)) | (refine Cnd.ff ?_ ?_; focus (first | (apply decide_eq_false; omega) | (simp only [zq1, zq2, zq3, zq4, zq5, zq6, zq7, zq8, zq9, zq10, zq11, zq12] <;> omega) | rfl))))
        conv => whnf
        refine ⟨by rw [bT_len]; omega, ?_⟩
        have es : (bT (putC c addr i v) n).set (0 + ((addr + i : Nat) : Int).toNat) (over ((bT (putC c addr i v) n).getD (0 + ((addr + i : Nat) : Int).toNat) []) 0 [.int .u8 (v / 256 ^ i % 256 : Nat)]) = bT (putC c addr (i + 1) v) n := by
          rw [Nat.zero_add, Int.toNat_natCast, bT_set _ (by omega), putC_next]
        repeat ((conv => whnf); (first | refine Cnd.yes ?_ | refine Cnd.no ?_ | refine And.intro rfl ?_ | refine And.intro (by omega) ?_ | (refine And.intro ?_ ?_; focus (simp only [IntKind.wrap_i64, IntKind.wrap_u64, IntKind.wrap_u32]; omega)) | (refine And.intro ?_ ?_; focus (simp only [zl1, zl2, zl3, zl4, zl5, zl6, zl7, zl8, zl9] <;> omega)) | (refine Cnd.tt ?_ ?_; focus (first | (apply decide_eq_true; omega) | (simp only [zq1, zq2, zq3, zq4, zq5, zq6, zq7, zq8, zq9, zq10, zq11, zq12] <;> omega) | rfl)) | (refine Cnd.ff ?_ ?_; focus (first | (apply decide_eq_false; omega) | (simp only [zq1, zq2, zq3, zq4, zq5, zq6, zq7, zq8, zq9, zq10, zq11, zq12] <;> omega) | rfl))))
        conv => whnf
        (refine ⟨(fun s : Nat => sz - s) (i + 1), [0, 1], tmk 35 0 ((fun s : Nat => [(0, .ptr 0 0 0 0), (1, .v (.int .u32 addr)), (2, .v (.int .i64 sz)), (3, .v (.int .u32 v)), (9, .v (.int .i64 s))]) (i + 1)), (fun s : Nat => xHp true n (putC c addr s v)) (i + 1), ?_, ?_⟩; focus (first | (simp only []; omega) | omega))
        repeat ((conv => whnf); (first | refine Cnd.yes ?_ | refine Cnd.no ?_ | refine And.intro rfl ?_ | refine And.intro (by omega) ?_ | (refine And.intro ?_ ?_; focus (simp only [IntKind.wrap_i64, IntKind.wrap_u64, IntKind.wrap_u32]; omega)) | (refine And.intro ?_ ?_; focus (simp only [zl1, zl2, zl3, zl4, zl5, zl6, zl7, zl8, zl9] <;> omega))))
        conv => whnf
        exact ⟨i + 1, hin, rfl, rfl, (tmkK_eq _ _ _ _).mpr rfl, rfl⟩
      · have hin : i = sz := by have := of_decide_eq_false hge; omega
        subst hin
        repeat ((conv => whnf); (first | refine Cnd.yes ?_ | refine Cnd.no ?_ | refine And.intro rfl ?_ | refine And.intro (by omega) ?_ | (refine And.intro ?_ ?_; focus (simp only [IntKind.wrap_i64, IntKind.wrap_u64, IntKind.wrap_u32]; omega)) | (refine And.intro ?_ ?_; focus (simp only [zl1, zl2, zl3, zl4, zl5, zl6, zl7, zl8, zl9] <;> omega)) | (refine Cnd.tt ?_ ?_; focus (first | (apply decide_eq_true; omega) | (simp only [zq1, zq2, zq3, zq4, zq5, zq6, zq7, zq8, zq9, zq10, zq11, zq12] <;> omega) | rfl)) | (refine Cnd.ff ?_ ?_; focus (first | (apply decide_eq_false; omega) | (simp only [zq1, zq2, zq3, zq4, zq5, zq6, zq7, zq8, zq9, zq10, zq11, zq12] <;> omega) | rfl))))
        conv => whnf
        exact hK
def xstoreS : Vc.Spec := fun args hp _ K => ∃ (n addr v : Nat) (c : Nat → Nat) (size : Int), args = [.ptr 0 0 0 0, .v (.int .u32 addr), .v (.int .i64 size), .v (.int .u32 v)] ∧ hp = xHp true n c ∧ addr < 4294967296 ∧ n ≤ 65536 ∧ v < 4294967296 ∧ K (.v (.bool (hasB n addr size))) (xHp true n (storeC n addr size v c))
theorem xstore_ok : SOK Tryd.prog 12 xstoreS := by
  refine TOK.weaken (runF_eq GR2_ok mixed at12.1 at12.2 pf12_eq) fun args hp M K h => ?_
  obtain ⟨n, addr, v, c, size, rfl, rfl, h1, h2, h3, h4⟩ := h
  exact xstore_run M K n addr v c size h1 h2 h3 h4
theorem getN_down (c : Nat → Nat) : ∀ (k off : Nat), getN c off (k + 1) = c off + 256 * getN c (off + 1) k
  | 0, off => by simp [getN]
  | k + 1, off => by
    rw [getN, getN_down c k off, getN, Nat.mul_add, Nat.add_assoc, Nat.pow_succ]
    rw [show off + 1 + k = off + (k + 1) by omega]
    congr 2
    rw [Nat.mul_comm (256 ^ k) 256, ← Nat.mul_assoc, ← Nat.mul_assoc, Nat.mul_comm (c (off + (k + 1))) 256]
theorem orD {c : Nat → Nat} (hc : ∀ j, c j < 256) {off k : Nat} (hk : k < 4) :
    IntKind.u32.wrap ((BitVec.ofInt IntKind.u32.bits (IntKind.u32.wrap (((getN c (off + 1) k : Nat) : Int) * 2 ^ min (Int.toNat 8) IntKind.u32.bits)) ||| BitVec.ofInt IntKind.u32.bits (IntKind.u32.wrap ((c off : Nat) : Int))).toNat : Int) = ((getN c off (k + 1) : Nat) : Int) := by
  have h1 := getN_lt hc (off + 1) k
  have h2 := hc off
  have hp : 256 ^ k ≤ 256 ^ 3 := Nat.pow_le_pow_right (by omega) (by omega)
  have e1 : IntKind.u32.wrap (((getN c (off + 1) k : Nat) : Int) * 2 ^ min (Int.toNat 8) IntKind.u32.bits) = ((256 * getN c (off + 1) k : Nat) : Int) := by
    rw [show (2 : Int) ^ min (Int.toNat 8) IntKind.u32.bits = 256 from rfl, IntKind.wrap_u32]; omega
  have e2 : IntKind.u32.wrap ((c off : Nat) : Int) = ((c off : Nat) : Int) := by rw [IntKind.wrap_u32]; omega
  rw [e1, e2, or32 (by omega) (by omega), getN_down]
  have := Nat.two_pow_add_eq_or_of_lt (i := 8) (b := c off) (by omega) (getN c (off + 1) k)
  rw [show (2 : Nat) ^ 8 = 256 from rfl] at this
  rw [← this, Nat.add_comm]
theorem xload_runT (M : HL) (K : SV → List Ent → HL → Prop) (n addr : Nat) (c : Nat → Nat) (size : Int) (h3 : addr < 4294967296) (hn : n ≤ 65536) (hc : ∀ j, c j < 256)
    (hK : K (.tup [.v (.int .u32 (if hasB n addr size then getN c addr size.toNat else 0 : Nat)), .v (.bool (hasB n addr size))]) (xHp true n c) M) : runF GR2 pf14 [.ptr 0 0 0 0, .v (.int .u32 addr), .v (.int .i64 size)] (xHp true n c) M K := by
  repeat ((conv => whnf); (first | refine Cnd.yes ?_ | refine Cnd.no ?_ | refine And.intro rfl ?_ | refine And.intro (by omega) ?_ | (refine And.intro ?_ ?_; focus (simp only [IntKind.wrap_i64, IntKind.wrap_u64, IntKind.wrap_u32]; omega)) | (refine And.intro ?_ ?_; focus (simp only [zl1, zl2, zl3, zl4, zl5, zl6, zl7, zl8, zl9] <;> omega)) | (refine Cnd.tt ?_ ?_; focus (first | (apply decide_eq_true; omega) | (simp only [zq1, zq2, zq3, zq4, zq5, zq6, zq7, zq8, zq9, zq10, zq11, zq12] <;> omega) | rfl)) | (refine Cnd.ff ?_ ?_; focus (first | (apply decide_eq_false; omega) | (simp only [zq1, zq2, zq3, zq4, zq5, zq6, zq7, zq8, zq9, zq10, zq11, zq12] <;> omega) | rfl))))
  conv => whnf
  refine ⟨true, n, addr, c, size, rfl, rfl, h3, hn, ?_⟩
  cases h : hasB n addr size with
  | false =>
    rw [h] at hK
    repeat ((conv => whnf); (first | refine Cnd.yes ?_ | refine Cnd.no ?_ | refine And.intro rfl ?_ | refine And.intro (by omega) ?_ | (refine And.intro ?_ ?_; focus (simp only [IntKind.wrap_i64, IntKind.wrap_u64, IntKind.wrap_u32]; omega)) | (refine And.intro ?_ ?_; focus (simp only [zl1, zl2, zl3, zl4, zl5, zl6, zl7, zl8, zl9] <;> omega)) | (refine Cnd.tt ?_ ?_; focus (first | (apply decide_eq_true; omega) | (simp only [zq1, zq2, zq3, zq4, zq5, zq6, zq7, zq8, zq9, zq10, zq11, zq12] <;> omega) | rfl)) | (refine Cnd.ff ?_ ?_; focus (first | (apply decide_eq_false; omega) | (simp only [zq1, zq2, zq3, zq4, zq5, zq6, zq7, zq8, zq9, zq10, zq11, zq12] <;> omega) | rfl))))
    conv => whnf
    exact hK
  | true =>
    rw [h, if_pos rfl] at hK
    obtain ⟨sz, rfl, hsz, hl⟩ := has_size h
    rw [Int.toNat_natCast] at hK
    have e1 : IntKind.i64.wrap ((sz : Int) - 1) = (sz : Int) - 1 := by rw [IntKind.wrap_i64]; omega
    repeat ((conv => whnf); (first | refine Cnd.yes ?_ | refine Cnd.no ?_ | refine And.intro rfl ?_ | refine And.intro (by omega) ?_ | (refine And.intro ?_ ?_; focus (simp only [IntKind.wrap_i64, IntKind.wrap_u64, IntKind.wrap_u32]; omega)) | (refine And.intro ?_ ?_; focus (simp only [zl1, zl2, zl3, zl4, zl5, zl6, zl7, zl8, zl9] <;> omega)) | (refine Cnd.tt ?_ ?_; focus (first | (apply decide_eq_true; omega) | (simp only [zq1, zq2, zq3, zq4, zq5, zq6, zq7, zq8, zq9, zq10, zq11, zq12] <;> omega) | rfl)) | (refine Cnd.ff ?_ ?_; focus (first | (apply decide_eq_false; omega) | (simp only [zq1, zq2, zq3, zq4, zq5, zq6, zq7, zq8, zq9, zq10, zq11, zq12] <;> omega) | rfl))))
    conv => whnf
    refine ⟨InvS 36 (fun s : Nat => 1 + s) (fun s : Nat => s ≤ sz) (fun s : Nat => [(0, .ptr 0 0 0 0), (1, .v (.int .u32 addr)), (2, .v (.int .i64 sz)), (8, .v (.int .u32 (getN c (addr + s) (sz - s) : Nat))), (9, .v (.int .i64 ((s : Int) - 1)))]) (fun s : Nat => xHp true n c) M, ⟨(fun s : Nat => 1 + s) sz, [0, 1], tmk 36 0 ((fun s : Nat => [(0, .ptr 0 0 0 0), (1, .v (.int .u32 addr)), (2, .v (.int .i64 sz)), (8, .v (.int .u32 (getN c (addr + s) (sz - s) : Nat))), (9, .v (.int .i64 ((s : Int) - 1)))]) sz), (fun s : Nat => xHp true n c) sz, ?_⟩, ?_⟩
    · repeat ((conv => whnf); (first | refine Cnd.yes ?_ | refine Cnd.no ?_ | refine And.intro rfl ?_ | refine And.intro (by omega) ?_ | (refine And.intro ?_ ?_; focus (simp only [IntKind.wrap_i64, IntKind.wrap_u64, IntKind.wrap_u32]; omega)) | (refine And.intro ?_ ?_; focus (simp only [zl1, zl2, zl3, zl4, zl5, zl6, zl7, zl8, zl9] <;> omega))))
      conv => whnf
      refine ⟨by rw [Nat.sub_self]; rfl, ?_⟩
      repeat ((conv => whnf); (first | refine Cnd.yes ?_ | refine Cnd.no ?_ | refine And.intro rfl ?_ | refine And.intro (by omega) ?_ | (refine And.intro ?_ ?_; focus (simp only [IntKind.wrap_i64, IntKind.wrap_u64, IntKind.wrap_u32]; omega)) | (refine And.intro ?_ ?_; focus (simp only [zl1, zl2, zl3, zl4, zl5, zl6, zl7, zl8, zl9] <;> omega))))
      conv => whnf
      exact ⟨sz, Nat.le_refl _, rfl, rfl, (tmkK_eq _ _ _ _).mpr rfl, rfl⟩
    · rintro cnt tm hp M1 ⟨r, hC_, rfl, rfl, htm, hhp_⟩
      replace hC_ : r ≤ sz := hC_
      have hr := hC_
      replace htm : tmkK 36 0 [(0, .ptr 0 0 0 0), (1, .v (.int .u32 addr)), (2, .v (.int .i64 sz)), (8, .v (.int .u32 (getN c (addr + r) (sz - r) : Nat))), (9, .v (.int .i64 ((r : Int) - 1)))] (fun l => tm = l) := htm
      conv at htm => whnf
      subst htm
      replace hhp_ : hp = xHp true n c := hhp_
      subst hhp_
      repeat ((conv => whnf); (first | refine Cnd.yes ?_ | refine Cnd.no ?_ | refine And.intro rfl ?_ | refine And.intro (by omega) ?_ | (refine And.intro ?_ ?_; focus (simp only [IntKind.wrap_i64, IntKind.wrap_u64, IntKind.wrap_u32]; omega)) | (refine And.intro ?_ ?_; focus (simp only [zl1, zl2, zl3, zl4, zl5, zl6, zl7, zl8, zl9] <;> omega)) | (refine Cnd.tt ?_ ?_; focus (first | (apply decide_eq_true; omega) | (simp only [zq1, zq2, zq3, zq4, zq5, zq6, zq7, zq8, zq9, zq10, zq11, zq12] <;> omega) | rfl)) | (refine Cnd.ff ?_ ?_; focus (first | (apply decide_eq_false; omega) | (simp only [zq1, zq2, zq3, zq4, zq5, zq6, zq7, zq8, zq9, zq10, zq11, zq12] <;> omega) | rfl))))
      conv => whnf
      refine Cnd.mk (fun hlt => ?_) fun hge => ?_
      · have hr0 : 1 ≤ r := by have := of_decide_eq_true hlt; omega
        obtain ⟨q, rfl⟩ : ∃ q, r = q + 1 := ⟨r - 1, by omega⟩
        have ea : IntKind.i64.wrap (IntKind.i64.wrap (addr : Int) + (((q + 1 : Nat) : Int) - 1)) = ((addr + q : Nat) : Int) := by rw [IntKind.wrap_i64, IntKind.wrap_i64]; omega
        have eo := orD hc (off := addr + q) (k := sz - (q + 1)) (by omega)
        have ec : toI (cellAt (bT c n) (0 + ((addr + q : Nat) : Int).toNat) 0) = (c (addr + q) : Nat) := by rw [Nat.zero_add, Int.toNat_natCast]; exact toI_bT c (by omega)
        have eq1 : IntKind.i64.wrap (((q + 1 : Nat) : Int) - 1 - 1) = (q : Int) - 1 := by rw [IntKind.wrap_i64]; omega
        repeat ((conv => whnf); (first | refine Cnd.yes ?_ | refine Cnd.no ?_ | refine And.intro rfl ?_ | refine And.intro (by omega) ?_ | (refine And.intro ?_ ?_; focus (simp only [IntKind.wrap_i64, IntKind.wrap_u64, IntKind.wrap_u32]; omega)) | (refine And.intro ?_ ?_; focus (simp only [zl1, zl2, zl3, zl4, zl5, zl6, zl7, zl8, zl9] <;> omega)) | (refine Cnd.tt ?_ ?_; focus (first | (apply decide_eq_true; omega) | (simp only [zq1, zq2, zq3, zq4, zq5, zq6, zq7, zq8, zq9, zq10, zq11, zq12] <;> omega) | rfl)) | (refine Cnd.ff ?_ ?_; focus (first | (apply decide_eq_false; omega) | (simp only [zq1, zq2, zq3, zq4, zq5, zq6, zq7, zq8, zq9, zq10, zq11, zq12] <;> omega) | rfl))))
        conv => whnf
        rw [ea]
        repeat ((conv => whnf); (first | refine Cnd.yes ?_ | refine Cnd.no ?_ | refine And.intro rfl ?_ | refine And.intro (by omega) ?_ | (refine And.intro ?_ ?_; focus (simp only [IntKind.wrap_i64, IntKind.wrap_u64, IntKind.wrap_u32]; omega)) | (refine And.intro ?_ ?_; focus (simp only [zl1, zl2, zl3, zl4, zl5, zl6, zl7, zl8, zl9] <;> omega)) | (refine Cnd.tt ?_ ?_; focus (first | (apply decide_eq_true; omega) | (simp only [zq1, zq2, zq3, zq4, zq5, zq6, zq7, zq8, zq9, zq10, zq11, zq12] <;> omega) | rfl)) | (refine Cnd.ff ?_ ?_; focus (first | (apply decide_eq_false; omega) | (simp only [zq1, zq2, zq3, zq4, zq5, zq6, zq7, zq8, zq9, zq10, zq11, zq12] <;> omega) | rfl))))
        conv => whnf
        refine ⟨by rw [bT_len]; omega, ?_⟩
        repeat ((conv => whnf); (first | refine Cnd.yes ?_ | refine Cnd.no ?_ | refine And.intro rfl ?_ | refine And.intro (by omega) ?_ | (refine And.intro ?_ ?_; focus (simp only [IntKind.wrap_i64, IntKind.wrap_u64, IntKind.wrap_u32]; omega)) | (refine And.intro ?_ ?_; focus (simp only [zl1, zl2, zl3, zl4, zl5, zl6, zl7, zl8, zl9] <;> omega)) | (refine Cnd.tt ?_ ?_; focus (first | (apply decide_eq_true; omega) | (simp only [zq1, zq2, zq3, zq4, zq5, zq6, zq7, zq8, zq9, zq10, zq11, zq12] <;> omega) | rfl)) | (refine Cnd.ff ?_ ?_; focus (first | (apply decide_eq_false; omega) | (simp only [zq1, zq2, zq3, zq4, zq5, zq6, zq7, zq8, zq9, zq10, zq11, zq12] <;> omega) | rfl))))
        conv => whnf
        rw [ec, show addr + (q + 1) = addr + q + 1 by omega, eo]
        (refine ⟨(fun s : Nat => 1 + s) (q), [0, 1], tmk 36 0 ((fun s : Nat => [(0, .ptr 0 0 0 0), (1, .v (.int .u32 addr)), (2, .v (.int .i64 sz)), (8, .v (.int .u32 (getN c (addr + s) (sz - s) : Nat))), (9, .v (.int .i64 ((s : Int) - 1)))]) (q)), (fun s : Nat => xHp true n c) (q), ?_, ?_⟩; focus (first | (simp only []; omega) | omega))
        repeat ((conv => whnf); (first | refine Cnd.yes ?_ | refine Cnd.no ?_ | refine And.intro rfl ?_ | refine And.intro (by omega) ?_ | (refine And.intro ?_ ?_; focus (simp only [IntKind.wrap_i64, IntKind.wrap_u64, IntKind.wrap_u32]; omega)) | (refine And.intro ?_ ?_; focus (simp only [zl1, zl2, zl3, zl4, zl5, zl6, zl7, zl8, zl9] <;> omega))))
        conv => whnf
        refine ⟨by rw [show sz - (q + 1) + 1 = sz - q by omega], ?_⟩
        repeat ((conv => whnf); (first | refine Cnd.yes ?_ | refine Cnd.no ?_ | refine And.intro rfl ?_ | refine And.intro (by omega) ?_ | (refine And.intro ?_ ?_; focus (simp only [IntKind.wrap_i64, IntKind.wrap_u64, IntKind.wrap_u32]; omega)) | (refine And.intro ?_ ?_; focus (simp only [zl1, zl2, zl3, zl4, zl5, zl6, zl7, zl8, zl9] <;> omega))))
        conv => whnf
        exact ⟨q, (show q ≤ sz by omega), rfl, rfl, (tmkK_eq _ _ _ _).mpr rfl, rfl⟩
      · have hin : r = 0 := by have := of_decide_eq_false hge; omega
        subst hin
        repeat ((conv => whnf); (first | refine Cnd.yes ?_ | refine Cnd.no ?_ | refine And.intro rfl ?_ | refine And.intro (by omega) ?_ | (refine And.intro ?_ ?_; focus (simp only [IntKind.wrap_i64, IntKind.wrap_u64, IntKind.wrap_u32]; omega)) | (refine And.intro ?_ ?_; focus (simp only [zl1, zl2, zl3, zl4, zl5, zl6, zl7, zl8, zl9] <;> omega)) | (refine Cnd.tt ?_ ?_; focus (first | (apply decide_eq_true; omega) | (simp only [zq1, zq2, zq3, zq4, zq5, zq6, zq7, zq8, zq9, zq10, zq11, zq12] <;> omega) | rfl)) | (refine Cnd.ff ?_ ?_; focus (first | (apply decide_eq_false; omega) | (simp only [zq1, zq2, zq3, zq4, zq5, zq6, zq7, zq8, zq9, zq10, zq11, zq12] <;> omega) | rfl))))
        conv => whnf
        exact hK
theorem xload_runF (M : HL) (K : SV → List Ent → HL → Prop) (n addr : Nat) (c : Nat → Nat) (size : Int) (h3 : addr < 4294967296) (hn : n ≤ 65536) (hc : ∀ j, c j < 256)
    (hK : K (.tup [.v (.int .u32 (if hasB n addr size then getN c addr size.toNat else 0 : Nat)), .v (.bool (hasB n addr size))]) (xHp false n c) M) : runF GR2 pf14 [.ptr 0 0 0 0, .v (.int .u32 addr), .v (.int .i64 size)] (xHp false n c) M K := by
  repeat ((conv => whnf); (first | refine Cnd.yes ?_ | refine Cnd.no ?_ | refine And.intro rfl ?_ | refine And.intro (by omega) ?_ | (refine And.intro ?_ ?_; focus (simp only [IntKind.wrap_i64, IntKind.wrap_u64, IntKind.wrap_u32]; omega)) | (refine And.intro ?_ ?_; focus (simp only [zl1, zl2, zl3, zl4, zl5, zl6, zl7, zl8, zl9] <;> omega)) | (refine Cnd.tt ?_ ?_; focus (first | (apply decide_eq_true; omega) | (simp only [zq1, zq2, zq3, zq4, zq5, zq6, zq7, zq8, zq9, zq10, zq11, zq12] <;> omega) | rfl)) | (refine Cnd.ff ?_ ?_; focus (first | (apply decide_eq_false; omega) | (simp only [zq1, zq2, zq3, zq4, zq5, zq6, zq7, zq8, zq9, zq10, zq11, zq12] <;> omega) | rfl))))
  conv => whnf
  refine ⟨false, n, addr, c, size, rfl, rfl, h3, hn, ?_⟩
  cases h : hasB n addr size with
  | false =>
    rw [h] at hK
    repeat ((conv => whnf); (first | refine Cnd.yes ?_ | refine Cnd.no ?_ | refine And.intro rfl ?_ | refine And.intro (by omega) ?_ | (refine And.intro ?_ ?_; focus (simp only [IntKind.wrap_i64, IntKind.wrap_u64, IntKind.wrap_u32]; omega)) | (refine And.intro ?_ ?_; focus (simp only [zl1, zl2, zl3, zl4, zl5, zl6, zl7, zl8, zl9] <;> omega)) | (refine Cnd.tt ?_ ?_; focus (first | (apply decide_eq_true; omega) | (simp only [zq1, zq2, zq3, zq4, zq5, zq6, zq7, zq8, zq9, zq10, zq11, zq12] <;> omega) | rfl)) | (refine Cnd.ff ?_ ?_; focus (first | (apply decide_eq_false; omega) | (simp only [zq1, zq2, zq3, zq4, zq5, zq6, zq7, zq8, zq9, zq10, zq11, zq12] <;> omega) | rfl))))
    conv => whnf
    exact hK
  | true =>
    rw [h, if_pos rfl] at hK
    obtain ⟨sz, rfl, hsz, hl⟩ := has_size h
    rw [Int.toNat_natCast] at hK
    have e1 : IntKind.i64.wrap ((sz : Int) - 1) = (sz : Int) - 1 := by rw [IntKind.wrap_i64]; omega
    repeat ((conv => whnf); (first | refine Cnd.yes ?_ | refine Cnd.no ?_ | refine And.intro rfl ?_ | refine And.intro (by omega) ?_ | (refine And.intro ?_ ?_; focus (simp only [IntKind.wrap_i64, IntKind.wrap_u64, IntKind.wrap_u32]; omega)) | (refine And.intro ?_ ?_; focus (simp only [zl1, zl2, zl3, zl4, zl5, zl6, zl7, zl8, zl9] <;> omega)) | (refine Cnd.tt ?_ ?_; focus (first | (apply decide_eq_true; omega) | (simp only [zq1, zq2, zq3, zq4, zq5, zq6, zq7, zq8, zq9, zq10, zq11, zq12] <;> omega) | rfl)) | (refine Cnd.ff ?_ ?_; focus (first | (apply decide_eq_false; omega) | (simp only [zq1, zq2, zq3, zq4, zq5, zq6, zq7, zq8, zq9, zq10, zq11, zq12] <;> omega) | rfl))))
    conv => whnf
    refine ⟨InvS 36 (fun s : Nat => 1 + s) (fun s : Nat => s ≤ sz) (fun s : Nat => [(0, .ptr 0 0 0 0), (1, .v (.int .u32 addr)), (2, .v (.int .i64 sz)), (8, .v (.int .u32 (getN c (addr + s) (sz - s) : Nat))), (9, .v (.int .i64 ((s : Int) - 1)))]) (fun s : Nat => xHp false n c) M, ⟨(fun s : Nat => 1 + s) sz, [0, 1], tmk 36 0 ((fun s : Nat => [(0, .ptr 0 0 0 0), (1, .v (.int .u32 addr)), (2, .v (.int .i64 sz)), (8, .v (.int .u32 (getN c (addr + s) (sz - s) : Nat))), (9, .v (.int .i64 ((s : Int) - 1)))]) sz), (fun s : Nat => xHp false n c) sz, ?_⟩, ?_⟩
    · repeat ((conv => whnf); (first | refine Cnd.yes ?_ | refine Cnd.no ?_ | refine And.intro rfl ?_ | refine And.intro (by omega) ?_ | (refine And.intro ?_ ?_; focus (simp only [IntKind.wrap_i64, IntKind.wrap_u64, IntKind.wrap_u32]; omega)) | (refine And.intro ?_ ?_; focus (simp only [zl1, zl2, zl3, zl4, zl5, zl6, zl7, zl8, zl9] <;> omega))))
      conv => whnf
      refine ⟨by rw [Nat.sub_self]; rfl, ?_⟩
      repeat ((conv => whnf); (first | refine Cnd.yes ?_ | refine Cnd.no ?_ | refine And.intro rfl ?_ | refine And.intro (by omega) ?_ | (refine And.intro ?_ ?_; focus (simp only [IntKind.wrap_i64, IntKind.wrap_u64, IntKind.wrap_u32]; omega)) | (refine And.intro ?_ ?_; focus (simp only [zl1, zl2, zl3, zl4, zl5, zl6, zl7, zl8, zl9] <;> omega))))
      conv => whnf
      exact ⟨sz, Nat.le_refl _, rfl, rfl, (tmkK_eq _ _ _ _).mpr rfl, rfl⟩
    · rintro cnt tm hp M1 ⟨r, hC_, rfl, rfl, htm, hhp_⟩
      replace hC_ : r ≤ sz := hC_
      have hr := hC_
      replace htm : tmkK 36 0 [(0, .ptr 0 0 0 0), (1, .v (.int .u32 addr)), (2, .v (.int .i64 sz)), (8, .v (.int .u32 (getN c (addr + r) (sz - r) : Nat))), (9, .v (.int .i64 ((r : Int) - 1)))] (fun l => tm = l) := htm
      conv at htm => whnf
      subst htm
      replace hhp_ : hp = xHp false n c := hhp_
      subst hhp_
      repeat ((conv => whnf); (first | refine Cnd.yes ?_ | refine Cnd.no ?_ | refine And.intro rfl ?_ | refine And.intro (by omega) ?_ | (refine And.intro ?_ ?_; focus (simp only [IntKind.wrap_i64, IntKind.wrap_u64, IntKind.wrap_u32]; omega)) | (refine And.intro ?_ ?_; focus (simp only [zl1, zl2, zl3, zl4, zl5, zl6, zl7, zl8, zl9] <;> omega)) | (refine Cnd.tt ?_ ?_; focus (first | (apply decide_eq_true; omega) | (simp only [zq1, zq2, zq3, zq4, zq5, zq6, zq7, zq8, zq9, zq10, zq11, zq12] <;> omega) | rfl)) | (refine Cnd.ff ?_ ?_; focus (first | (apply decide_eq_false; omega) | (simp only [zq1, zq2, zq3, zq4, zq5, zq6, zq7, zq8, zq9, zq10, zq11, zq12] <;> omega) | rfl))))
      conv => whnf
      refine Cnd.mk (fun hlt => ?_) fun hge => ?_
      · have hr0 : 1 ≤ r := by have := of_decide_eq_true hlt; omega
        obtain ⟨q, rfl⟩ : ∃ q, r = q + 1 := ⟨r - 1, by omega⟩
        have ea : IntKind.i64.wrap (IntKind.i64.wrap (addr : Int) + (((q + 1 : Nat) : Int) - 1)) = ((addr + q : Nat) : Int) := by rw [IntKind.wrap_i64, IntKind.wrap_i64]; omega
        have eo := orD hc (off := addr + q) (k := sz - (q + 1)) (by omega)
        have ec : toI (cellAt (bT c n) (0 + ((addr + q : Nat) : Int).toNat) 0) = (c (addr + q) : Nat) := by rw [Nat.zero_add, Int.toNat_natCast]; exact toI_bT c (by omega)
        have eq1 : IntKind.i64.wrap (((q + 1 : Nat) : Int) - 1 - 1) = (q : Int) - 1 := by rw [IntKind.wrap_i64]; omega
        repeat ((conv => whnf); (first | refine Cnd.yes ?_ | refine Cnd.no ?_ | refine And.intro rfl ?_ | refine And.intro (by omega) ?_ | (refine And.intro ?_ ?_; focus (simp only [IntKind.wrap_i64, IntKind.wrap_u64, IntKind.wrap_u32]; omega)) | (refine And.intro ?_ ?_; focus (simp only [zl1, zl2, zl3, zl4, zl5, zl6, zl7, zl8, zl9] <;> omega)) | (refine Cnd.tt ?_ ?_; focus (first | (apply decide_eq_true; omega) | (simp only [zq1, zq2, zq3, zq4, zq5, zq6, zq7, zq8, zq9, zq10, zq11, zq12] <;> omega) | rfl)) | (refine Cnd.ff ?_ ?_; focus (first | (apply decide_eq_false; omega) | (simp only [zq1, zq2, zq3, zq4, zq5, zq6, zq7, zq8, zq9, zq10, zq11, zq12] <;> omega) | rfl))))
        conv => whnf
        rw [ea]
        repeat ((conv => whnf); (first | refine Cnd.yes ?_ | refine Cnd.no ?_ | refine And.intro rfl ?_ | refine And.intro (by omega) ?_ | (refine And.intro ?_ ?_; focus (simp only [IntKind.wrap_i64, IntKind.wrap_u64, IntKind.wrap_u32]; omega)) | (refine And.intro ?_ ?_; focus (simp only [zl1, zl2, zl3, zl4, zl5, zl6, zl7, zl8, zl9] <;> omega)) | (refine Cnd.tt ?_ ?_; focus (first | (apply decide_eq_true; omega) | (simp only [zq1, zq2, zq3, zq4, zq5, zq6, zq7, zq8, zq9, zq10, zq11, zq12] <;> omega) | rfl)) | (refine Cnd.ff ?_ ?_; focus (first | (apply decide_eq_false; omega) | (simp only [zq1, zq2, zq3, zq4, zq5, zq6, zq7, zq8, zq9, zq10, zq11, zq12] <;> omega) | rfl))))
        conv => whnf
        refine ⟨by rw [bT_len]; omega, ?_⟩
        repeat ((conv => whnf); (first | refine Cnd.yes ?_ | refine Cnd.no ?_ | refine And.intro rfl ?_ | refine And.intro (by omega) ?_ | (refine And.intro ?_ ?_; focus (simp only [IntKind.wrap_i64, IntKind.wrap_u64, IntKind.wrap_u32]; omega)) | (refine And.intro ?_ ?_; focus (simp only [zl1, zl2, zl3, zl4, zl5, zl6, zl7, zl8, zl9] <;> omega)) | (refine Cnd.tt ?_ ?_; focus (first | (apply decide_eq_true; omega) | (simp only [zq1, zq2, zq3, zq4, zq5, zq6, zq7, zq8, zq9, zq10, zq11, zq12] <;> omega) | rfl)) | (refine Cnd.ff ?_ ?_; focus (first | (apply decide_eq_false; omega) | (simp only [zq1, zq2, zq3, zq4, zq5, zq6, zq7, zq8, zq9, zq10, zq11, zq12] <;> omega) | rfl))))
        conv => whnf
        rw [ec, show addr + (q + 1) = addr + q + 1 by omega, eo]
        (refine ⟨(fun s : Nat => 1 + s) (q), [0, 1], tmk 36 0 ((fun s : Nat => [(0, .ptr 0 0 0 0), (1, .v (.int .u32 addr)), (2, .v (.int .i64 sz)), (8, .v (.int .u32 (getN c (addr + s) (sz - s) : Nat))), (9, .v (.int .i64 ((s : Int) - 1)))]) (q)), (fun s : Nat => xHp false n c) (q), ?_, ?_⟩; focus (first | (simp only []; omega) | omega))
        repeat ((conv => whnf); (first | refine Cnd.yes ?_ | refine Cnd.no ?_ | refine And.intro rfl ?_ | refine And.intro (by omega) ?_ | (refine And.intro ?_ ?_; focus (simp only [IntKind.wrap_i64, IntKind.wrap_u64, IntKind.wrap_u32]; omega)) | (refine And.intro ?_ ?_; focus (simp only [zl1, zl2, zl3, zl4, zl5, zl6, zl7, zl8, zl9] <;> omega))))
        conv => whnf
        refine ⟨by rw [show sz - (q + 1) + 1 = sz - q by omega], ?_⟩
        repeat ((conv => whnf); (first | refine Cnd.yes ?_ | refine Cnd.no ?_ | refine And.intro rfl ?_ | refine And.intro (by omega) ?_ | (refine And.intro ?_ ?_; focus (simp only [IntKind.wrap_i64, IntKind.wrap_u64, IntKind.wrap_u32]; omega)) | (refine And.intro ?_ ?_; focus (simp only [zl1, zl2, zl3, zl4, zl5, zl6, zl7, zl8, zl9] <;> omega))))
        conv => whnf
        exact ⟨q, (show q ≤ sz by omega), rfl, rfl, (tmkK_eq _ _ _ _).mpr rfl, rfl⟩
      · have hin : r = 0 := by have := of_decide_eq_false hge; omega
        subst hin
        repeat ((conv => whnf); (first | refine Cnd.yes ?_ | refine Cnd.no ?_ | refine And.intro rfl ?_ | refine And.intro (by omega) ?_ | (refine And.intro ?_ ?_; focus (simp only [IntKind.wrap_i64, IntKind.wrap_u64, IntKind.wrap_u32]; omega)) | (refine And.intro ?_ ?_; focus (simp only [zl1, zl2, zl3, zl4, zl5, zl6, zl7, zl8, zl9] <;> omega)) | (refine Cnd.tt ?_ ?_; focus (first | (apply decide_eq_true; omega) | (simp only [zq1, zq2, zq3, zq4, zq5, zq6, zq7, zq8, zq9, zq10, zq11, zq12] <;> omega) | rfl)) | (refine Cnd.ff ?_ ?_; focus (first | (apply decide_eq_false; omega) | (simp only [zq1, zq2, zq3, zq4, zq5, zq6, zq7, zq8, zq9, zq10, zq11, zq12] <;> omega) | rfl))))
        conv => whnf
        exact hK
def xloadS : Vc.Spec := fun args hp _ K => ∃ (o : Bool) (n addr : Nat) (c : Nat → Nat) (size : Int), args = [.ptr 0 0 0 0, .v (.int .u32 addr), .v (.int .i64 size)] ∧ hp = xHp o n c ∧ addr < 4294967296 ∧ n ≤ 65536 ∧ (∀ j, c j < 256) ∧ K (.tup [.v (.int .u32 (if hasB n addr size then getN c addr size.toNat else 0 : Nat)), .v (.bool (hasB n addr size))]) (xHp o n c)
theorem xload_ok : SOK Tryd.prog 14 xloadS := by
  refine TOK.weaken (runF_eq GR2_ok mixed at14.1 at14.2 pf14_eq) fun args hp M K h => ?_
  obtain ⟨o, n, addr, c, size, rfl, rfl, h1, h2, h3, h4⟩ := h
  cases o with
  | true => exact xload_runT M K n addr c size h1 h2 h3 h4
  | false => exact xload_runF M K n addr c size h1 h2 h3 h4
theorem xnew_run (M : HL) (K : SV → List Ent → HL → Prop) (hK : K (.tup [.ptr 0 0 0 0, .v (.int .i64 0)]) (xHp true 16 fun _ => 0) M) :
    runF G0 pf7 [.v (.int .i64 16), .v (.slice none 0 0)] [] M fun v hp2 M2 => ∃ m v' hp', Wk (llen ([] : List Ent)) m [v] hp2 [v'] hp' (K v' hp' M2) := by
  repeat ((conv => whnf); (first | refine Cnd.yes ?_ | refine Cnd.no ?_ | refine And.intro rfl ?_ | refine And.intro (by omega) ?_ | (refine And.intro ?_ ?_; focus (simp only [IntKind.wrap_i64, IntKind.wrap_u64, IntKind.wrap_u32]; omega)) | (refine And.intro ?_ ?_; focus (simp only [zl1, zl2, zl3, zl4, zl5, zl6, zl7, zl8, zl9] <;> omega)) | (refine Cnd.tt ?_ ?_; focus (first | (apply decide_eq_true; omega) | (simp only [zq1, zq2, zq3, zq4, zq5, zq6, zq7, zq8, zq9, zq10, zq11, zq12] <;> omega) | rfl)) | (refine Cnd.ff ?_ ?_; focus (first | (apply decide_eq_false; omega) | (simp only [zq1, zq2, zq3, zq4, zq5, zq6, zq7, zq8, zq9, zq10, zq11, zq12] <;> omega) | rfl))))
  conv => whnf
  refine ⟨InvS 44 (fun s : Nat => 1 - s) (fun s : Nat => s ≤ 1) (fun s : Nat => [(1, .v (.slice none 0 0)), (6, .ptr 0 0 0 0), (7, .v (.int .i64 0))]) (fun s : Nat => xHp true 16 (fun _ => 0)) M, ⟨(fun s : Nat => 1 - s) 0, [1, 0], tmk 44 0 ((fun s : Nat => [(1, .v (.slice none 0 0)), (6, .ptr 0 0 0 0), (7, .v (.int .i64 0))]) 0), (fun s : Nat => xHp true 16 (fun _ => 0)) 0, ?_⟩, ?_⟩
  · repeat ((conv => whnf); (first | refine Cnd.yes ?_ | refine Cnd.no ?_ | refine And.intro rfl ?_ | refine And.intro (by omega) ?_ | (refine And.intro ?_ ?_; focus (simp only [IntKind.wrap_i64, IntKind.wrap_u64, IntKind.wrap_u32]; omega)) | (refine And.intro ?_ ?_; focus (simp only [zl1, zl2, zl3, zl4, zl5, zl6, zl7, zl8, zl9] <;> omega))))
    conv => whnf
    exact ⟨0, Nat.zero_le _, rfl, rfl, (tmkK_eq _ _ _ _).mpr rfl, rfl⟩
  · rintro cnt tm hp M1 ⟨i, hC_, rfl, rfl, htm, hhp_⟩
    replace hC_ : i ≤ 1 := hC_
    have hi := hC_
    replace htm : tmkK 44 0 [(1, .v (.slice none 0 0)), (6, .ptr 0 0 0 0), (7, .v (.int .i64 0))] (fun l => tm = l) := htm
    conv at htm => whnf
    subst htm
    replace hhp_ : hp = xHp true 16 (fun _ => 0) := hhp_
    subst hhp_
    repeat ((conv => whnf); (first | refine Cnd.yes ?_ | refine Cnd.no ?_ | refine And.intro rfl ?_ | refine And.intro (by omega) ?_ | (refine And.intro ?_ ?_; focus (simp only [IntKind.wrap_i64, IntKind.wrap_u64, IntKind.wrap_u32]; omega)) | (refine And.intro ?_ ?_; focus (simp only [zl1, zl2, zl3, zl4, zl5, zl6, zl7, zl8, zl9] <;> omega)) | (refine Cnd.tt ?_ ?_; focus (first | (apply decide_eq_true; omega) | (simp only [zq1, zq2, zq3, zq4, zq5, zq6, zq7, zq8, zq9, zq10, zq11, zq12] <;> omega) | rfl)) | (refine Cnd.ff ?_ ?_; focus (first | (apply decide_eq_false; omega) | (simp only [zq1, zq2, zq3, zq4, zq5, zq6, zq7, zq8, zq9, zq10, zq11, zq12] <;> omega) | rfl))))
    conv => whnf
    refine ⟨[0, 1], .tup [.ptr 0 0 0 0, .v (.int .i64 0)], xHp true 16 fun _ => 0, ?_⟩
    repeat ((conv => whnf); (first | refine Cnd.yes ?_ | refine Cnd.no ?_ | refine And.intro rfl ?_ | refine And.intro (by omega) ?_ | (refine And.intro ?_ ?_; focus (simp only [IntKind.wrap_i64, IntKind.wrap_u64, IntKind.wrap_u32]; omega)) | (refine And.intro ?_ ?_; focus (simp only [zl1, zl2, zl3, zl4, zl5, zl6, zl7, zl8, zl9] <;> omega))))
    conv => whnf
    exact hK
def xnewS : Vc.Spec := fun args hp _ K => args = [.v (.int .i64 16), .v (.slice none 0 0)] ∧ hp = [] ∧ K (.tup [.ptr 0 0 0 0, .v (.int .i64 0)]) (xHp true 16 fun _ => 0)
theorem xnew_ok : SOK Tryd.prog 7 xnewS := by
  refine TOK.weaken (TOK.out (runF_eq G0_ok mixed at7.1 at7.2 pf7_eq)) fun args hp M K h => ?_
  obtain ⟨rfl, rfl, h1⟩ := h
  exact xnew_run M K h1
end Go.Proofs.YtjbknaniihkcnaaDoor
