/-
  MemBytes, walked.
-/
import Derived.Test.YtncninjgfllcdaaDoorCc
namespace Go.Proofs.YtncninjgfllcdaaDoor
open Go Go.Vc
set_option maxRecDepth 100000
set_option linter.unusedSimpArgs false
set_option linter.unusedVariables false
theorem getN_putC (c : Nat → Nat) (off size v s : Nat) : ∀ k, s + k ≤ size → getN (putC c off size v) (off + s) k = v / 256 ^ s % 256 ^ k
  | 0, _ => by simp [getN, Nat.mod_one]
  | k + 1, h => by
    rw [getN, getN_putC c off size v s k (by omega), Nat.mod_pow_succ]
    congr 1
    rw [putC, if_pos (by omega), show off + s + k - off = s + k by omega, Nat.pow_add, ← Nat.div_div_eq_div_mul, Nat.mul_comm]
theorem putC_one (c : Nat → Nat) (a i v : Nat) : putC (putC c a i v) (a + i) 1 (v / 256 ^ i) = putC c a (i + 1) v := by
  rw [← putC_next c a i v]
  funext j
  by_cases h : j = a + i
  · rw [if_pos h, putC, if_pos (by omega), h, Nat.sub_self, Nat.pow_zero, Nat.div_one]
  · rw [if_neg h, putC, if_neg (by omega)]
theorem putC_two (c : Nat → Nat) (a v : Nat) : putC (putC c (a + 2) 2 (v / 65536)) a 2 v = putC c a 4 v := by
  funext j
  simp only [putC]
  by_cases h1 : a ≤ j ∧ j < a + 2
  · rw [if_pos h1, if_pos (by omega)]
  · rw [if_neg h1]
    by_cases h2 : a + 2 ≤ j ∧ j < a + 2 + 2
    · rw [if_pos h2, if_pos (by omega), Nat.div_div_eq_div_mul, show j - a = 2 + (j - (a + 2)) by omega, Nat.pow_add]
    · rw [if_neg h2, if_neg (by omega)]
theorem hasB_mk {n a s : Nat} (h : s = 1 ∨ s = 2 ∨ s = 4) (hd : a % s = 0) (hl : a + s ≤ n) : hasB n a s = true := by
  simp only [hasB, fairB, Bool.and_eq_true, decide_eq_true_eq]
  refine ⟨⟨by omega, by simpa using hd⟩, by omega⟩
theorem bytes_run (M : HL) (K : SV → List Ent → HL → Prop) (v q : Nat) (x : Int) (hv : v < 4294967296) (hq : q < 16) (hx : (IntKind.i64.wrap (x.tmod 16 + 16)).tmod 16 = q)
    (hK : ∀ hp, K (.v (.bool true)) hp M) : runF G4 pf4 [.v (.int .u32 v), .v (.int .i64 x)] [] M K := by
  have hx2 : IntKind.u32.wrap (IntKind.i64.wrap (4 * (IntKind.i64.wrap (x.tmod 16 + 16)).tmod 16)) = ((4 * q : Nat) : Int) := by
    rw [hx]
    have : IntKind.i64.wrap (4 * (q : Int)) = ((4 * q : Nat) : Int) := by rw [IntKind.wrap_i64]; omega
    rw [this, IntKind.wrap_u32]; omega
  have hr : (65536 : Nat) = 256 ^ 2 := by decide
  repeat ((conv => whnf); (first | refine Cnd.yes ?_ | refine Cnd.no ?_ | refine And.intro rfl ?_ | refine And.intro (by omega) ?_ | (refine And.intro ?_ ?_; focus (simp only [IntKind.wrap_i64, IntKind.wrap_u64, IntKind.wrap_u32]; omega)) | (refine And.intro ?_ ?_; focus (simp only [zl1, zl2, zl3, zl4, zl5, zl6, zl7, zl8] <;> omega))))
  conv => whnf
  rw [hx2]
  refine .inr (.inl ⟨64, rfl, rfl, by unfold okN; omega, ?_⟩)
  repeat ((conv => whnf); (first | refine Cnd.yes ?_ | refine Cnd.no ?_ | refine And.intro rfl ?_ | refine And.intro (by omega) ?_ | (refine And.intro ?_ ?_; focus (simp only [IntKind.wrap_i64, IntKind.wrap_u64, IntKind.wrap_u32]; omega)) | (refine And.intro ?_ ?_; focus (simp only [zl1, zl2, zl3, zl4, zl5, zl6, zl7, zl8] <;> omega))))
  conv => whnf
  refine ⟨fun cnt tm hp M' => ∃ i : Nat, i ≤ 4 ∧ cnt = 4 - i ∧ M' = M ∧ tmkK 119 0 [(0, .v (.int .u32 v)), (5, .v (.bool true)), (6, .v (.int .u32 (4 * q : Nat))), (7, .ptr 1 0 0 0), (9, .v (.int .u32 (i : Nat)))] (fun l => tm = l) ∧ hp = newT 0 64 (putC (fun _ => 0) (4 * q) i v),
    ⟨4, [3, 4], tmk 119 0 [(0, .v (.int .u32 v)), (5, .v (.bool true)), (6, .v (.int .u32 (4 * q : Nat))), (7, .ptr 1 0 0 0), (9, .v (.int .u32 (0 : Nat)))], newT 0 64 (putC (fun _ => 0) (4 * q) 0 v), ?_⟩, ?_⟩
  · repeat ((conv => whnf); (first | refine Cnd.yes ?_ | refine Cnd.no ?_ | refine And.intro rfl ?_ | refine And.intro (by omega) ?_ | (refine And.intro ?_ ?_; focus (simp only [IntKind.wrap_i64, IntKind.wrap_u64, IntKind.wrap_u32]; omega)) | (refine And.intro ?_ ?_; focus (simp only [zl1, zl2, zl3, zl4, zl5, zl6, zl7, zl8] <;> omega))))
    conv => whnf
    refine ⟨by rw [putC_zero]; rfl, ?_⟩
    repeat ((conv => whnf); (first | refine Cnd.yes ?_ | refine Cnd.no ?_ | refine And.intro rfl ?_ | refine And.intro (by omega) ?_ | (refine And.intro ?_ ?_; focus (simp only [IntKind.wrap_i64, IntKind.wrap_u64, IntKind.wrap_u32]; omega)) | (refine And.intro ?_ ?_; focus (simp only [zl1, zl2, zl3, zl4, zl5, zl6, zl7, zl8] <;> omega))))
    conv => whnf
    exact ⟨0, by omega, by omega, rfl, (tmkK_eq _ _ _ _).mpr rfl, rfl⟩
  · rintro cnt tm hp M' ⟨i, hi, rfl, rfl, htm, rfl⟩
    conv at htm => whnf
    subst htm
    repeat ((conv => whnf); (first | refine Cnd.yes ?_ | refine Cnd.no ?_ | refine And.intro rfl ?_ | refine And.intro (by omega) ?_ | (refine And.intro ?_ ?_; focus (simp only [IntKind.wrap_i64, IntKind.wrap_u64, IntKind.wrap_u32]; omega)) | (refine And.intro ?_ ?_; focus (simp only [zl1, zl2, zl3, zl4, zl5, zl6, zl7, zl8] <;> omega))))
    conv => whnf
    refine Cnd.mk (fun hlt => ?_) fun hge => ?_
    · have hin : i < 4 := by have := of_decide_eq_true hlt; omega
      have e1 : IntKind.u32.wrap (((4 * q : Nat) : Int) + (i : Int)) = ((4 * q + i : Nat) : Int) := by rw [IntKind.wrap_u32]; omega
      have e2 : (v : Int).fdiv (2 ^ min (IntKind.u32.wrap (8 * (i : Int))).toNat IntKind.u32.bits) = ((v / 256 ^ i : Nat) : Int) := by
        have e : min (IntKind.u32.wrap (8 * (i : Int))).toNat IntKind.u32.bits = 8 * i := by rw [IntKind.wrap_u32]; simp only [IntKind.bits]; omega
        rw [e, Int.fdiv_eq_ediv_of_nonneg _ (Int.le_of_lt (Int.pow_pos (by decide))), Int.pow_mul]
        simp
      repeat ((conv => whnf); (first | refine Cnd.yes ?_ | refine Cnd.no ?_ | refine And.intro rfl ?_ | refine And.intro (by omega) ?_ | (refine And.intro ?_ ?_; focus (simp only [IntKind.wrap_i64, IntKind.wrap_u64, IntKind.wrap_u32]; omega)) | (refine And.intro ?_ ?_; focus (simp only [zl1, zl2, zl3, zl4, zl5, zl6, zl7, zl8] <;> omega))))
      conv => whnf
      rw [e1, e2]
      refine ⟨64, 4 * q + i, v / 256 ^ i, putC (fun _ => 0) (4 * q) i v, 1, rfl, rfl, by omega, by omega, Nat.lt_of_le_of_lt (Nat.div_le_self _ _) hv, ?_⟩
      rw [storeC, show (1 : Int) = ((1 : Nat) : Int) from rfl, hasB_mk (by omega) (by omega) (by omega), if_pos rfl, Int.toNat_natCast, putC_one]
      repeat ((conv => whnf); (first | refine Cnd.yes ?_ | refine Cnd.no ?_ | refine And.intro rfl ?_ | refine And.intro (by omega) ?_ | (refine And.intro ?_ ?_; focus (simp only [IntKind.wrap_i64, IntKind.wrap_u64, IntKind.wrap_u32]; omega)) | (refine And.intro ?_ ?_; focus (simp only [zl1, zl2, zl3, zl4, zl5, zl6, zl7, zl8] <;> omega))))
      conv => whnf
      refine ⟨4 - (i + 1), [0, 1], tmk 119 0 [(0, .v (.int .u32 v)), (5, .v (.bool true)), (6, .v (.int .u32 (4 * q : Nat))), (7, .ptr 1 0 0 0), (9, .v (.int .u32 (i + 1 : Nat)))], newT 0 64 (putC (fun _ => 0) (4 * q) (i + 1) v), by omega, ?_⟩
      repeat ((conv => whnf); (first | refine Cnd.yes ?_ | refine Cnd.no ?_ | refine And.intro rfl ?_ | refine And.intro (by omega) ?_ | (refine And.intro ?_ ?_; focus (simp only [IntKind.wrap_i64, IntKind.wrap_u64, IntKind.wrap_u32]; omega)) | (refine And.intro ?_ ?_; focus (simp only [zl1, zl2, zl3, zl4, zl5, zl6, zl7, zl8] <;> omega))))
      conv => whnf
      exact ⟨i + 1, by omega, rfl, rfl, (tmkK_eq _ _ _ _).mpr rfl, rfl⟩
    · have hin : i = 4 := by have := of_decide_eq_false hge; omega
      subst hin
      have hc : ∀ j, putC (fun _ => 0) (4 * q) 4 v j < 256 := fun j => putC_lt (fun _ => by omega) ..
      repeat ((conv => whnf); (first | refine Cnd.yes ?_ | refine Cnd.no ?_ | refine And.intro rfl ?_ | refine And.intro (by omega) ?_ | (refine And.intro ?_ ?_; focus (simp only [IntKind.wrap_i64, IntKind.wrap_u64, IntKind.wrap_u32]; omega)) | (refine And.intro ?_ ?_; focus (simp only [zl1, zl2, zl3, zl4, zl5, zl6, zl7, zl8] <;> omega))))
      conv => whnf
      refine ⟨true, 64, 4 * q, putC (fun _ => 0) (4 * q) 4 v, 4, rfl, rfl, by omega, by omega, hc, ?_⟩
      have h4 : hasB 64 (4 * q) 4 = true := hasB_mk (s := 4) (by omega) (by omega) (by omega)
      rw [h4]
      repeat ((conv => whnf); (first | refine Cnd.yes ?_ | refine Cnd.no ?_ | refine And.intro rfl ?_ | refine And.intro (by omega) ?_ | (refine And.intro ?_ ?_; focus (simp only [IntKind.wrap_i64, IntKind.wrap_u64, IntKind.wrap_u32]; omega)) | (refine And.intro ?_ ?_; focus (simp only [zl1, zl2, zl3, zl4, zl5, zl6, zl7, zl8] <;> omega))))
      conv => whnf
      refine ⟨true, 64, 4 * q, putC (fun _ => 0) (4 * q) 4 v, 2, rfl, rfl, by omega, by omega, hc, ?_⟩
      have h2 : hasB 64 (4 * q) 2 = true := hasB_mk (s := 2) (by omega) (by omega) (by omega)
      rw [h2]
      repeat ((conv => whnf); (first | refine Cnd.yes ?_ | refine Cnd.no ?_ | refine And.intro rfl ?_ | refine And.intro (by omega) ?_ | (refine And.intro ?_ ?_; focus (simp only [IntKind.wrap_i64, IntKind.wrap_u64, IntKind.wrap_u32]; omega)) | (refine And.intro ?_ ?_; focus (simp only [zl1, zl2, zl3, zl4, zl5, zl6, zl7, zl8] <;> omega))))
      conv => whnf
      have e1 : IntKind.u32.wrap (((4 * q : Nat) : Int) + 2) = ((4 * q + 2 : Nat) : Int) := by rw [IntKind.wrap_u32]; omega
      rw [e1]
      refine ⟨true, 64, 4 * q + 2, putC (fun _ => 0) (4 * q) 4 v, 2, rfl, rfl, by omega, by omega, hc, ?_⟩
      have h3 : hasB 64 (4 * q + 2) 2 = true := hasB_mk (s := 2) (by omega) (by omega) (by omega)
      rw [h3]
      repeat ((conv => whnf); (first | refine Cnd.yes ?_ | refine Cnd.no ?_ | refine And.intro rfl ?_ | refine And.intro (by omega) ?_ | (refine And.intro ?_ ?_; focus (simp only [IntKind.wrap_i64, IntKind.wrap_u64, IntKind.wrap_u32]; omega)) | (refine And.intro ?_ ?_; focus (simp only [zl1, zl2, zl3, zl4, zl5, zl6, zl7, zl8] <;> omega))))
      conv => whnf
      refine .inr (.inl ⟨64, rfl, rfl, by unfold okN; omega, ?_⟩)
      repeat ((conv => whnf); (first | refine Cnd.yes ?_ | refine Cnd.no ?_ | refine And.intro rfl ?_ | refine And.intro (by omega) ?_ | (refine And.intro ?_ ?_; focus (simp only [IntKind.wrap_i64, IntKind.wrap_u64, IntKind.wrap_u32]; omega)) | (refine And.intro ?_ ?_; focus (simp only [zl1, zl2, zl3, zl4, zl5, zl6, zl7, zl8] <;> omega))))
      conv => whnf
      have e3 : (v : Int).fdiv (2 ^ min (Int.toNat 16) IntKind.u32.bits) = ((v / 65536 : Nat) : Int) := by
        have e : min (Int.toNat 16) IntKind.u32.bits = 16 := by decide
        rw [e, Int.fdiv_eq_ediv_of_nonneg _ (Int.le_of_lt (Int.pow_pos (by decide)))]
        simp
      rw [e1, e3]
      refine ⟨64, 4 * q + 2, v / 65536, fun _ => 0, 2, rfl, rfl, by omega, by omega, by omega, ?_⟩
      rw [storeC, h3]
      repeat ((conv => whnf); (first | refine Cnd.yes ?_ | refine Cnd.no ?_ | refine And.intro rfl ?_ | refine And.intro (by omega) ?_ | (refine And.intro ?_ ?_; focus (simp only [IntKind.wrap_i64, IntKind.wrap_u64, IntKind.wrap_u32]; omega)) | (refine And.intro ?_ ?_; focus (simp only [zl1, zl2, zl3, zl4, zl5, zl6, zl7, zl8] <;> omega))))
      conv => whnf
      refine ⟨64, 4 * q, v, _, 2, rfl, rfl, by omega, by omega, by omega, ?_⟩
      rw [storeC, h2, if_pos rfl, if_pos rfl]
      repeat ((conv => whnf); (first | refine Cnd.yes ?_ | refine Cnd.no ?_ | refine And.intro rfl ?_ | refine And.intro (by omega) ?_ | (refine And.intro ?_ ?_; focus (simp only [IntKind.wrap_i64, IntKind.wrap_u64, IntKind.wrap_u32]; omega)) | (refine And.intro ?_ ?_; focus (simp only [zl1, zl2, zl3, zl4, zl5, zl6, zl7, zl8] <;> omega))))
      conv => whnf
      have g4 := getN_putC (fun _ => 0) (4 * q) 4 v 0 4 (by omega)
      have g2 := getN_putC (fun _ => 0) (4 * q) 4 v 0 2 (by omega)
      have g3 := getN_putC (fun _ => 0) (4 * q) 4 v 2 2 (by omega)
      rw [Nat.add_zero, Nat.pow_zero, Nat.div_one, Nat.mod_eq_of_lt (show v < 256 ^ 4 by omega)] at g4
      rw [Nat.add_zero, Nat.pow_zero, Nat.div_one] at g2
      refine Cnd.tt (by show (((getN (putC (fun _ => 0) (4 * q) 4 v) (4 * q) 4 : Nat) : Int) == (v : Int)) = true; rw [g4]; simp) ?_
      repeat ((conv => whnf); (first | refine Cnd.yes ?_ | refine Cnd.no ?_ | refine And.intro rfl ?_ | refine And.intro (by omega) ?_ | (refine And.intro ?_ ?_; focus (simp only [IntKind.wrap_i64, IntKind.wrap_u64, IntKind.wrap_u32]; omega)) | (refine And.intro ?_ ?_; focus (simp only [zl1, zl2, zl3, zl4, zl5, zl6, zl7, zl8] <;> omega))))
      conv => whnf
      have e5 : IntKind.u32.wrap ((BitVec.ofInt IntKind.u32.bits (v : Int) &&& BitVec.ofInt IntKind.u32.bits 65535).toNat : Int) = ((v % 65536 : Nat) : Int) := and32 (b := 16) hv (by omega)
      rw [e5]
      refine Cnd.tt (by show (((getN (putC (fun _ => 0) (4 * q) 4 v) (4 * q) 2 : Nat) : Int) == ((v % 65536 : Nat) : Int)) = true; rw [g2]; simp) ?_
      repeat ((conv => whnf); (first | refine Cnd.yes ?_ | refine Cnd.no ?_ | refine And.intro rfl ?_ | refine And.intro (by omega) ?_ | (refine And.intro ?_ ?_; focus (simp only [IntKind.wrap_i64, IntKind.wrap_u64, IntKind.wrap_u32]; omega)) | (refine And.intro ?_ ?_; focus (simp only [zl1, zl2, zl3, zl4, zl5, zl6, zl7, zl8] <;> omega))))
      conv => whnf
      rw [e3]
      refine Cnd.tt (by
        show (((getN (putC (fun _ => 0) (4 * q) 4 v) (4 * q + 2) 2 : Nat) : Int) == ((v / 65536 : Nat) : Int)) = true
        rw [g3, ← hr, Nat.mod_eq_of_lt (show v / 65536 < 65536 by omega)]; simp) ?_
      repeat ((conv => whnf); (first | refine Cnd.yes ?_ | refine Cnd.no ?_ | refine And.intro rfl ?_ | refine And.intro (by omega) ?_ | (refine And.intro ?_ ?_; focus (simp only [IntKind.wrap_i64, IntKind.wrap_u64, IntKind.wrap_u32]; omega)) | (refine And.intro ?_ ?_; focus (simp only [zl1, zl2, zl3, zl4, zl5, zl6, zl7, zl8] <;> omega))))
      conv => whnf
      intro Mr hMr
      repeat ((conv => whnf); (first | refine Cnd.yes ?_ | refine Cnd.no ?_ | refine And.intro rfl ?_ | refine And.intro (by omega) ?_ | (refine And.intro ?_ ?_; focus (simp only [IntKind.wrap_i64, IntKind.wrap_u64, IntKind.wrap_u32]; omega)) | (refine And.intro ?_ ?_; focus (simp only [zl1, zl2, zl3, zl4, zl5, zl6, zl7, zl8] <;> omega))))
      conv => whnf
      refine ⟨false, false, 64, 64, putC (fun _ => 0) (4 * q) 4 v, putC (putC (fun _ => 0) (4 * q + 2) 2 (v / 65536)) (4 * q) 2 v, rfl, rfl, by omega, by omega, ?_⟩
      repeat ((conv => whnf); (first | refine Cnd.yes ?_ | refine Cnd.no ?_ | refine And.intro rfl ?_ | refine And.intro (by omega) ?_ | (refine And.intro ?_ ?_; focus (simp only [IntKind.wrap_i64, IntKind.wrap_u64, IntKind.wrap_u32]; omega)) | (refine And.intro ?_ ?_; focus (simp only [zl1, zl2, zl3, zl4, zl5, zl6, zl7, zl8] <;> omega))))
      conv => whnf
      rw [putC_two, show eqB 64 64 (putC (fun _ => 0) (4 * q) 4 v) (putC (fun _ => 0) (4 * q) 4 v) = true from decide_eq_true ⟨rfl, fun _ _ => rfl⟩]
      exact hK _
end Go.Proofs.YtncninjgfllcdaaDoor
