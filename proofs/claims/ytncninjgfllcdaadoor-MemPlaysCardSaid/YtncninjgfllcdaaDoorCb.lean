/-
  Bytes: fair, put, get, walked; their contracts.
-/
import Derived.Test.YtncninjgfllcdaaDoorCa
import Derived.Test.YtncninjgfllcdaaDoorVcu
namespace Go.Proofs.YtncninjgfllcdaaDoor
open Go Go.Vc
set_option maxRecDepth 100000
set_option linter.unusedSimpArgs false
set_option linter.unusedVariables false
def fairB (addr : Nat) (size : Int) : Bool := decide ((size = 1 ∨ size = 2 ∨ size = 4) ∧ addr % size.toNat = 0)
theorem fair_run (M : HL) (K : SV → List Ent → HL → Prop) (hp : List Ent) (addr : Nat) (size : Int) (h3 : addr < 4294967296)
    (hK : K (.v (.bool (fairB addr size))) hp M) : runF G0 pf34 [.v (.int .u32 addr), .v (.int .i64 size)] hp M K := by
  have hm : ∀ n : Nat, 0 < n → n < 5 → (((addr : Int).tmod (IntKind.u32.wrap (n : Int))) == 0) = decide (addr % n = 0) := by
    intro n h0 h5
    have e : IntKind.u32.wrap (n : Int) = n := by rw [IntKind.wrap_u32]; omega
    rw [e, Int.tmod_eq_emod_of_nonneg (by omega)]
    by_cases h : addr % n = 0
    · rw [decide_eq_true h]; simp only [beq_iff_eq]; omega
    · rw [decide_eq_false h]; simp only [beq_eq_false_iff_ne]; omega
  rcases (show size = 1 ∨ size = 2 ∨ size = 4 ∨ (size ≠ 1 ∧ size ≠ 2 ∧ size ≠ 4) by omega) with rfl | rfl | rfl | ⟨h1, h2, h4⟩
  · repeat ((conv => whnf); (first | refine Cnd.yes ?_ | refine Cnd.no ?_ | refine And.intro rfl ?_ | refine And.intro (by omega) ?_ | (refine And.intro ?_ ?_; focus (simp only [IntKind.wrap_i64, IntKind.wrap_u64, IntKind.wrap_u32]; omega)) | (refine And.intro ?_ ?_; focus (simp only [zl1, zl2, zl3, zl4, zl5, zl6, zl7, zl8] <;> omega))))
    conv => whnf
    rw [show (1 : Int) = ((1 : Nat) : Int) from rfl, hm 1 (by omega) (by omega)]
    rw [show decide (addr % 1 = 0) = fairB addr 1 from by simp [fairB]]
    exact hK
  · repeat ((conv => whnf); (first | refine Cnd.yes ?_ | refine Cnd.no ?_ | refine And.intro rfl ?_ | refine And.intro (by omega) ?_ | (refine And.intro ?_ ?_; focus (simp only [IntKind.wrap_i64, IntKind.wrap_u64, IntKind.wrap_u32]; omega)) | (refine And.intro ?_ ?_; focus (simp only [zl1, zl2, zl3, zl4, zl5, zl6, zl7, zl8] <;> omega))))
    conv => whnf
    rw [show (2 : Int) = ((2 : Nat) : Int) from rfl, hm 2 (by omega) (by omega)]
    rw [show decide (addr % 2 = 0) = fairB addr 2 from by simp [fairB]]
    exact hK
  · repeat ((conv => whnf); (first | refine Cnd.yes ?_ | refine Cnd.no ?_ | refine And.intro rfl ?_ | refine And.intro (by omega) ?_ | (refine And.intro ?_ ?_; focus (simp only [IntKind.wrap_i64, IntKind.wrap_u64, IntKind.wrap_u32]; omega)) | (refine And.intro ?_ ?_; focus (simp only [zl1, zl2, zl3, zl4, zl5, zl6, zl7, zl8] <;> omega))))
    conv => whnf
    rw [show (4 : Int) = ((4 : Nat) : Int) from rfl, hm 4 (by omega) (by omega)]
    rw [show decide (addr % 4 = 0) = fairB addr 4 from by simp [fairB]]
    exact hK
  · repeat ((conv => whnf); (first | refine Cnd.yes ?_ | refine Cnd.no ?_ | refine And.intro rfl ?_ | refine And.intro (by omega) ?_ | (refine And.intro ?_ ?_; focus (simp only [IntKind.wrap_i64, IntKind.wrap_u64, IntKind.wrap_u32]; omega)) | (refine And.intro ?_ ?_; focus (simp only [zl1, zl2, zl3, zl4, zl5, zl6, zl7, zl8] <;> omega))))
    conv => whnf
    refine Cnd.ff (by simpa using h1) ?_
    repeat ((conv => whnf); (first | refine Cnd.yes ?_ | refine Cnd.no ?_ | refine And.intro rfl ?_ | refine And.intro (by omega) ?_ | (refine And.intro ?_ ?_; focus (simp only [IntKind.wrap_i64, IntKind.wrap_u64, IntKind.wrap_u32]; omega)) | (refine And.intro ?_ ?_; focus (simp only [zl1, zl2, zl3, zl4, zl5, zl6, zl7, zl8] <;> omega))))
    conv => whnf
    refine Cnd.ff (by simpa using h2) ?_
    repeat ((conv => whnf); (first | refine Cnd.yes ?_ | refine Cnd.no ?_ | refine And.intro rfl ?_ | refine And.intro (by omega) ?_ | (refine And.intro ?_ ?_; focus (simp only [IntKind.wrap_i64, IntKind.wrap_u64, IntKind.wrap_u32]; omega)) | (refine And.intro ?_ ?_; focus (simp only [zl1, zl2, zl3, zl4, zl5, zl6, zl7, zl8] <;> omega))))
    conv => whnf
    refine Cnd.ff (by simpa using h4) ?_
    repeat ((conv => whnf); (first | refine Cnd.yes ?_ | refine Cnd.no ?_ | refine And.intro rfl ?_ | refine And.intro (by omega) ?_ | (refine And.intro ?_ ?_; focus (simp only [IntKind.wrap_i64, IntKind.wrap_u64, IntKind.wrap_u32]; omega)) | (refine And.intro ?_ ?_; focus (simp only [zl1, zl2, zl3, zl4, zl5, zl6, zl7, zl8] <;> omega))))
    conv => whnf
    rw [show fairB addr size = false from by simp [fairB, h1, h2, h4]] at hK
    exact hK
/-- Bytes by their places. -/
def bT (c : Nat → Nat) (n : Nat) : List (List Value) := tblOf (fun j => [.int .u8 (c j : Nat)]) n
def putC (c : Nat → Nat) (off size v j : Nat) : Nat := if off ≤ j ∧ j < off + size then v / 256 ^ (j - off) % 256 else c j
theorem bT_len (c : Nat → Nat) (n : Nat) : (bT c n).length = n := tblOf_len _ _
theorem bT_cell (c : Nat → Nat) {i n : Nat} (hi : i < n) : cellAt (bT c n) i 0 = .int .u8 (c i : Nat) := by rw [bT, tblOf_cell _ hi]; rfl
theorem toI_bT (c : Nat → Nat) {i n : Nat} (hi : i < n) : toI (cellAt (bT c n) i 0) = (c i : Nat) := by rw [bT_cell c hi]; rfl
theorem bT_set (c : Nat → Nat) {i n : Nat} (hi : i < n) (x : Nat) : (bT c n).set i (over ((bT c n).getD i []) 0 [.int .u8 (x : Nat)]) = bT (fun j => if j = i then x else c j) n := by
  rw [bT, tblOf_get _ hi, tblOf_set _ hi]
  refine tblOf_congr fun j _ => ?_
  by_cases h : j = i
  · simp [h, over]
  · simp [h]
theorem shrB {v i : Nat} (hv : v < 4294967296) (hi : i < 4) : IntKind.u8.wrap ((v : Int).fdiv (2 ^ min (IntKind.i64.wrap (8 * (i : Int))).toNat IntKind.u32.bits)) = ((v / 256 ^ i % 256 : Nat) : Int) := by
  have e : min (IntKind.i64.wrap (8 * (i : Int))).toNat IntKind.u32.bits = 8 * i := by rw [IntKind.wrap_i64]; simp only [IntKind.bits]; omega
  rw [e, Int.fdiv_eq_ediv_of_nonneg _ (Int.le_of_lt (Int.pow_pos (by decide))), IntKind.wrap_u8]
  have e2 : ((2 : Int) ^ (8 * i)) = ((256 ^ i : Nat) : Int) := by rw [Int.pow_mul]; simp
  rw [e2]
  have : (v : Int) / ((256 ^ i : Nat) : Int) = ((v / 256 ^ i : Nat) : Int) := by simp
  rw [this]
  omega
theorem putC_next (c : Nat → Nat) (off i v : Nat) : (fun j => if j = off + i then v / 256 ^ i % 256 else putC c off i v j) = putC c off (i + 1) v := by
  funext j
  unfold putC
  by_cases h : j = off + i
  · rw [if_pos h, if_pos (by omega), h, Nat.add_sub_cancel_left]
  · rw [if_neg h]
    by_cases h2 : off ≤ j ∧ j < off + i
    · rw [if_pos h2, if_pos (by omega)]
    · rw [if_neg h2, if_neg (by omega)]
theorem putC_zero (c : Nat → Nat) (off v : Nat) : putC c off 0 v = c := by
  funext j
  unfold putC
  rw [if_neg (by omega)]
theorem put_run (M : HL) (K : SV → List Ent → HL → Prop) (c : Nat → Nat) (n off len size v : Nat) (h1 : off + len ≤ n) (h2 : size ≤ len) (h4 : size ≤ 4) (hv : v < 4294967296) (hn : n ≤ 65536)
    (hK : K (.tup []) [.row true 5 [.int .u8] (bT (putC c off size v) n)] M) : runF G0 pf31 [.slc 0 1 off len, .v (.int .i64 size), .v (.int .u32 v)] [.row true 5 [.int .u8] (bT c n)] M K := by
  repeat ((conv => whnf); (first | refine Cnd.yes ?_ | refine Cnd.no ?_ | refine And.intro rfl ?_ | refine And.intro (by omega) ?_ | (refine And.intro ?_ ?_; focus (simp only [IntKind.wrap_i64, IntKind.wrap_u64, IntKind.wrap_u32]; omega)) | (refine And.intro ?_ ?_; focus (simp only [zl1, zl2, zl3, zl4, zl5, zl6, zl7, zl8] <;> omega))))
  conv => whnf
  refine ⟨fun cnt tm hp M' => ∃ i : Nat, i ≤ size ∧ cnt = size - i ∧ M' = M ∧ tmkK 20 0 [(0, .slc 0 1 off len), (2, .v (.int .u32 v)), (7, .v (.int .i64 size)), (8, .v (.int .i64 i))] (fun l => tm = l) ∧ hp = [.row true 5 [.int .u8] (bT (putC c off i v) n)],
    ⟨size, [0], tmk 20 0 [(0, .slc 0 1 off len), (2, .v (.int .u32 v)), (7, .v (.int .i64 size)), (8, .v (.int .i64 (0 : Nat)))], [.row true 5 [.int .u8] (bT (putC c off 0 v) n)], ?_⟩, ?_⟩
  · repeat ((conv => whnf); (first | refine Cnd.yes ?_ | refine Cnd.no ?_ | refine And.intro rfl ?_ | refine And.intro (by omega) ?_ | (refine And.intro ?_ ?_; focus (simp only [IntKind.wrap_i64, IntKind.wrap_u64, IntKind.wrap_u32]; omega)) | (refine And.intro ?_ ?_; focus (simp only [zl1, zl2, zl3, zl4, zl5, zl6, zl7, zl8] <;> omega))))
    conv => whnf
    refine ⟨by rw [putC_zero], ?_⟩
    repeat ((conv => whnf); (first | refine Cnd.yes ?_ | refine Cnd.no ?_ | refine And.intro rfl ?_ | refine And.intro (by omega) ?_ | (refine And.intro ?_ ?_; focus (simp only [IntKind.wrap_i64, IntKind.wrap_u64, IntKind.wrap_u32]; omega)) | (refine And.intro ?_ ?_; focus (simp only [zl1, zl2, zl3, zl4, zl5, zl6, zl7, zl8] <;> omega))))
    conv => whnf
    exact ⟨0, by omega, by omega, rfl, (tmkK_eq _ _ _ _).mpr rfl, rfl⟩
  · rintro cnt tm hp M' ⟨i, hi, rfl, rfl, htm, rfl⟩
    conv at htm => whnf
    subst htm
    repeat ((conv => whnf); (first | refine Cnd.yes ?_ | refine Cnd.no ?_ | refine And.intro rfl ?_ | refine And.intro (by omega) ?_ | (refine And.intro ?_ ?_; focus (simp only [IntKind.wrap_i64, IntKind.wrap_u64, IntKind.wrap_u32]; omega)) | (refine And.intro ?_ ?_; focus (simp only [zl1, zl2, zl3, zl4, zl5, zl6, zl7, zl8] <;> omega))))
    conv => whnf
    refine Cnd.mk (fun hlt => ?_) fun hge => ?_
    · have hin : i < size := by have := of_decide_eq_true hlt; omega
      repeat ((conv => whnf); (first | refine Cnd.yes ?_ | refine Cnd.no ?_ | refine And.intro rfl ?_ | refine And.intro (by omega) ?_ | (refine And.intro ?_ ?_; focus (simp only [IntKind.wrap_i64, IntKind.wrap_u64, IntKind.wrap_u32]; omega)) | (refine And.intro ?_ ?_; focus (simp only [zl1, zl2, zl3, zl4, zl5, zl6, zl7, zl8] <;> omega))))
      conv => whnf
      rw [shrB hv (by omega), bT_len]
      repeat ((conv => whnf); (first | refine Cnd.yes ?_ | refine Cnd.no ?_ | refine And.intro rfl ?_ | refine And.intro (by omega) ?_ | (refine And.intro ?_ ?_; focus (simp only [IntKind.wrap_i64, IntKind.wrap_u64, IntKind.wrap_u32]; omega)) | (refine And.intro ?_ ?_; focus (simp only [zl1, zl2, zl3, zl4, zl5, zl6, zl7, zl8] <;> omega))))
      conv => whnf
      rw [Int.toNat_natCast, bT_set _ (by omega), putC_next]
      refine ⟨size - (i + 1), [0], tmk 20 0 [(0, .slc 0 1 off len), (2, .v (.int .u32 v)), (7, .v (.int .i64 size)), (8, .v (.int .i64 (i + 1 : Nat)))], [.row true 5 [.int .u8] (bT (putC c off (i + 1) v) n)], by omega, ?_⟩
      repeat ((conv => whnf); (first | refine Cnd.yes ?_ | refine Cnd.no ?_ | refine And.intro rfl ?_ | refine And.intro (by omega) ?_ | (refine And.intro ?_ ?_; focus (simp only [IntKind.wrap_i64, IntKind.wrap_u64, IntKind.wrap_u32]; omega)) | (refine And.intro ?_ ?_; focus (simp only [zl1, zl2, zl3, zl4, zl5, zl6, zl7, zl8] <;> omega))))
      conv => whnf
      exact ⟨i + 1, by omega, rfl, rfl, (tmkK_eq _ _ _ _).mpr rfl, rfl⟩
    · have hin : i = size := by have := of_decide_eq_false hge; omega
      subst hin
      repeat ((conv => whnf); (first | refine Cnd.yes ?_ | refine Cnd.no ?_ | refine And.intro rfl ?_ | refine And.intro (by omega) ?_ | (refine And.intro ?_ ?_; focus (simp only [IntKind.wrap_i64, IntKind.wrap_u64, IntKind.wrap_u32]; omega)) | (refine And.intro ?_ ?_; focus (simp only [zl1, zl2, zl3, zl4, zl5, zl6, zl7, zl8] <;> omega))))
      conv => whnf
      exact hK
/-- The number that so many bytes are, the lowest first. -/
def getN (c : Nat → Nat) (off : Nat) : Nat → Nat | 0 => 0 | k + 1 => getN c off k + c (off + k) * 256 ^ k
theorem getN_lt {c : Nat → Nat} (hc : ∀ j, c j < 256) (off : Nat) : ∀ k, getN c off k < 256 ^ k
  | 0 => by simp [getN]
  | k + 1 => by
    have h1 := getN_lt hc off k
    have h2 := hc (off + k)
    rw [getN, Nat.pow_succ]
    have : c (off + k) * 256 ^ k ≤ 255 * 256 ^ k := Nat.mul_le_mul_right _ (by omega)
    omega
theorem orB {c : Nat → Nat} (hc : ∀ j, c j < 256) {off i : Nat} (hi : i < 4) :
    IntKind.u32.wrap ((BitVec.ofInt IntKind.u32.bits ((getN c off i : Nat) : Int) ||| BitVec.ofInt IntKind.u32.bits (IntKind.u32.wrap (IntKind.u32.wrap ((c (off + i) : Nat) : Int) * 2 ^ min (IntKind.i64.wrap (8 * (i : Int))).toNat IntKind.u32.bits))).toNat : Int) = ((getN c off (i + 1) : Nat) : Int) := by
  have e : min (IntKind.i64.wrap (8 * (i : Int))).toNat IntKind.u32.bits = 8 * i := by rw [IntKind.wrap_i64]; simp only [IntKind.bits]; omega
  have h2 := hc (off + i)
  have hp : 256 ^ i ≤ 256 ^ 3 := Nat.pow_le_pow_right (by omega) (by omega)
  have h1 := getN_lt hc off i
  have hm : c (off + i) * 256 ^ i ≤ 255 * 256 ^ i := Nat.mul_le_mul_right _ (by omega)
  have e0 : IntKind.u32.wrap ((c (off + i) : Nat) : Int) = ((c (off + i) : Nat) : Int) := by rw [IntKind.wrap_u32]; omega
  have e2 : ((2 : Int) ^ (8 * i)) = ((256 ^ i : Nat) : Int) := by rw [Int.pow_mul]; simp
  have e3 : IntKind.u32.wrap (((c (off + i) : Nat) : Int) * ((256 ^ i : Nat) : Int)) = ((c (off + i) * 256 ^ i : Nat) : Int) := by
    rw [← Int.natCast_mul, IntKind.wrap_u32]; omega
  rw [e, e0, e2, e3, or32 (by omega) (by omega)]
  have h3 : 256 ^ i = 2 ^ (8 * i) := by rw [Nat.pow_mul]
  rw [getN]
  have := Nat.two_pow_add_eq_or_of_lt (i := 8 * i) (b := getN c off i) (by rw [← h3]; exact h1) (c (off + i))
  rw [← h3] at this
  rw [Nat.or_comm, Nat.mul_comm, ← this, Nat.add_comm]
theorem get_run (o : Bool) (M : HL) (K : SV → List Ent → HL → Prop) (c : Nat → Nat) (n off len size : Nat) (h1 : off + len ≤ n) (h2 : size ≤ len) (h4 : size ≤ 4) (hc : ∀ j, c j < 256) (hn : n ≤ 65536)
    (hK : K (.v (.int .u32 (getN c off size : Nat))) [.row o 5 [.int .u8] (bT c n)] M) : runF G0 pf36 [.slc 0 1 off len, .v (.int .i64 size)] [.row o 5 [.int .u8] (bT c n)] M K := by
  repeat ((conv => whnf); (first | refine Cnd.yes ?_ | refine Cnd.no ?_ | refine And.intro rfl ?_ | refine And.intro (by omega) ?_ | (refine And.intro ?_ ?_; focus (simp only [IntKind.wrap_i64, IntKind.wrap_u64, IntKind.wrap_u32]; omega)) | (refine And.intro ?_ ?_; focus (simp only [zl1, zl2, zl3, zl4, zl5, zl6, zl7, zl8] <;> omega))))
  conv => whnf
  refine ⟨fun cnt tm hp M' => ∃ i : Nat, i ≤ size ∧ cnt = size - i ∧ M' = M ∧ tmkK 23 0 [(0, .slc 0 1 off len), (5, .v (.int .u32 (getN c off i : Nat))), (7, .v (.int .i64 size)), (8, .v (.int .i64 i))] (fun l => tm = l) ∧ hp = [.row o 5 [.int .u8] (bT c n)],
    ⟨size, [0], tmk 23 0 [(0, .slc 0 1 off len), (5, .v (.int .u32 (getN c off 0 : Nat))), (7, .v (.int .i64 size)), (8, .v (.int .i64 (0 : Nat)))], [.row o 5 [.int .u8] (bT c n)], ?_⟩, ?_⟩
  · repeat ((conv => whnf); (first | refine Cnd.yes ?_ | refine Cnd.no ?_ | refine And.intro rfl ?_ | refine And.intro (by omega) ?_ | (refine And.intro ?_ ?_; focus (simp only [IntKind.wrap_i64, IntKind.wrap_u64, IntKind.wrap_u32]; omega)) | (refine And.intro ?_ ?_; focus (simp only [zl1, zl2, zl3, zl4, zl5, zl6, zl7, zl8] <;> omega))))
    conv => whnf
    exact ⟨0, by omega, by omega, rfl, (tmkK_eq _ _ _ _).mpr rfl, rfl⟩
  · rintro cnt tm hp M' ⟨i, hi, rfl, rfl, htm, rfl⟩
    conv at htm => whnf
    subst htm
    repeat ((conv => whnf); (first | refine Cnd.yes ?_ | refine Cnd.no ?_ | refine And.intro rfl ?_ | refine And.intro (by omega) ?_ | (refine And.intro ?_ ?_; focus (simp only [IntKind.wrap_i64, IntKind.wrap_u64, IntKind.wrap_u32]; omega)) | (refine And.intro ?_ ?_; focus (simp only [zl1, zl2, zl3, zl4, zl5, zl6, zl7, zl8] <;> omega))))
    conv => whnf
    refine Cnd.mk (fun hlt => ?_) fun hge => ?_
    · have hin : i < size := by have := of_decide_eq_true hlt; omega
      repeat ((conv => whnf); (first | refine Cnd.yes ?_ | refine Cnd.no ?_ | refine And.intro rfl ?_ | refine And.intro (by omega) ?_ | (refine And.intro ?_ ?_; focus (simp only [IntKind.wrap_i64, IntKind.wrap_u64, IntKind.wrap_u32]; omega)) | (refine And.intro ?_ ?_; focus (simp only [zl1, zl2, zl3, zl4, zl5, zl6, zl7, zl8] <;> omega))))
      conv => whnf
      rw [bT_len]
      repeat ((conv => whnf); (first | refine Cnd.yes ?_ | refine Cnd.no ?_ | refine And.intro rfl ?_ | refine And.intro (by omega) ?_ | (refine And.intro ?_ ?_; focus (simp only [IntKind.wrap_i64, IntKind.wrap_u64, IntKind.wrap_u32]; omega)) | (refine And.intro ?_ ?_; focus (simp only [zl1, zl2, zl3, zl4, zl5, zl6, zl7, zl8] <;> omega))))
      conv => whnf
      rw [Int.toNat_natCast, toI_bT c (by omega)]
      repeat ((conv => whnf); (first | refine Cnd.yes ?_ | refine Cnd.no ?_ | refine And.intro rfl ?_ | refine And.intro (by omega) ?_ | (refine And.intro ?_ ?_; focus (simp only [IntKind.wrap_i64, IntKind.wrap_u64, IntKind.wrap_u32]; omega)) | (refine And.intro ?_ ?_; focus (simp only [zl1, zl2, zl3, zl4, zl5, zl6, zl7, zl8] <;> omega))))
      conv => whnf
      rw [orB hc (by omega)]
      refine ⟨size - (i + 1), [0], tmk 23 0 [(0, .slc 0 1 off len), (5, .v (.int .u32 (getN c off (i + 1) : Nat))), (7, .v (.int .i64 size)), (8, .v (.int .i64 (i + 1 : Nat)))], [.row o 5 [.int .u8] (bT c n)], by omega, ?_⟩
      repeat ((conv => whnf); (first | refine Cnd.yes ?_ | refine Cnd.no ?_ | refine And.intro rfl ?_ | refine And.intro (by omega) ?_ | (refine And.intro ?_ ?_; focus (simp only [IntKind.wrap_i64, IntKind.wrap_u64, IntKind.wrap_u32]; omega)) | (refine And.intro ?_ ?_; focus (simp only [zl1, zl2, zl3, zl4, zl5, zl6, zl7, zl8] <;> omega))))
      conv => whnf
      exact ⟨i + 1, by omega, rfl, rfl, (tmkK_eq _ _ _ _).mpr rfl, rfl⟩
    · have hin : i = size := by have := of_decide_eq_false hge; omega
      subst hin
      repeat ((conv => whnf); (first | refine Cnd.yes ?_ | refine Cnd.no ?_ | refine And.intro rfl ?_ | refine And.intro (by omega) ?_ | (refine And.intro ?_ ?_; focus (simp only [IntKind.wrap_i64, IntKind.wrap_u64, IntKind.wrap_u32]; omega)) | (refine And.intro ?_ ?_; focus (simp only [zl1, zl2, zl3, zl4, zl5, zl6, zl7, zl8] <;> omega))))
      conv => whnf
      exact hK

end Go.Proofs.YtncninjgfllcdaaDoor
