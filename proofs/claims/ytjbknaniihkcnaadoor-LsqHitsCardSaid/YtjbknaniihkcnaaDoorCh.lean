/-
  LsqForwards' plain law: bytes by the last store that has them.
-/
import Derived.Test.YtjbknaniihkcnaaDoorCd
namespace Go.Proofs.YtjbknaniihkcnaaDoor
open Go Go.Vc
set_option maxRecDepth 100000
set_option linter.unusedSimpArgs false
set_option linter.unusedVariables false
/-- An access. -/
structure Acc where
  st : Bool
  ad : Nat
  sz : Nat
  v : Nat
deriving Inhabited
def memF (E : Nat → Acc) : Nat → Nat → Nat
  | 0 => fun _ => 0
  | i + 1 => if (E i).st then putC (memF E i) (E i).ad (E i).sz (E i).v else memF E i
def tchF (E : Nat → Acc) : Nat → Nat → Bool
  | 0 => fun _ => false
  | i + 1 => fun b => if (E i).st = true ∧ (E i).ad ≤ b ∧ b < (E i).ad + (E i).sz then true else tchF E i b
theorem tchF_iff (E : Nat → Acc) (b : Nat) : ∀ i, tchF E i b = true ↔ ∃ j, j < i ∧ (E j).st = true ∧ (E j).ad ≤ b ∧ b < (E j).ad + (E j).sz
  | 0 => by simp [tchF]
  | i + 1 => by
    have ih := tchF_iff E b i
    show (if (E i).st = true ∧ (E i).ad ≤ b ∧ b < (E i).ad + (E i).sz then true else tchF E i b) = true ↔ _
    by_cases h : (E i).st = true ∧ (E i).ad ≤ b ∧ b < (E i).ad + (E i).sz
    · rw [if_pos h]
      exact ⟨fun _ => ⟨i, by omega, h⟩, fun _ => rfl⟩
    · rw [if_neg h, ih]
      refine ⟨fun ⟨j, h1, h2⟩ => ⟨j, by omega, h2⟩, fun ⟨j, h1, h2⟩ => ⟨j, ?_, h2⟩⟩
      rcases Nat.lt_succ_iff_lt_or_eq.1 h1 with h3 | rfl
      · exact h3
      · exact absurd h2 h
theorem memF_lt (E : Nat → Acc) : ∀ i b, memF E i b < 256
  | 0, b => by simp [memF]
  | i + 1, b => by
    have ih := memF_lt E i b
    rw [memF]
    split
    · rw [putC]
      split
      · exact Nat.mod_lt _ (by omega)
      · exact ih
    · exact ih
theorem memF_at (E : Nat → Acc) (b : Nat) : ∀ i j, j < i → (E j).st = true → (E j).ad ≤ b → b < (E j).ad + (E j).sz → (∀ k, j < k → k < i → ¬ ((E k).st = true ∧ (E k).ad ≤ b ∧ b < (E k).ad + (E k).sz)) →
    memF E i b = (E j).v / 256 ^ (b - (E j).ad) % 256
  | 0, j, h, _, _, _, _ => by omega
  | i + 1, j, h, h1, h2, h3, h4 => by
    rw [memF]
    rcases Nat.lt_succ_iff_lt_or_eq.1 h with h5 | rfl
    · have ih := memF_at E b i j h5 h1 h2 h3 fun k hk hk2 => h4 k hk (by omega)
      have h6 := h4 i h5 (by omega)
      split
      · rename_i hs
        rw [putC, if_neg (fun h => h6 ⟨hs, h⟩)]
        exact ih
      · exact ih
    · rw [if_pos h1, putC, if_pos ⟨h2, h3⟩]
theorem getN_of {c : Nat → Nat} {off d x : Nat} : ∀ n, (∀ k, k < n → c (off + k) = x / 256 ^ (d + k) % 256) → getN c off n = x / 256 ^ d % 256 ^ n
  | 0, _ => by simp [getN, Nat.mod_one]
  | n + 1, h => by
    rw [getN, getN_of n fun k hk => h k (by omega), h n (by omega), Nat.pow_add, ← Nat.div_div_eq_div_mul, Nat.pow_succ, Nat.mod_mul]
    rw [Nat.mul_comm (256 ^ n)]
/-- A load that is told whole reads what memory has. -/
theorem whole_eq (E : Nat → Acc) {i j ad sz : Nat} (hj : j < i) (h1 : (E j).st = true) (h2 : (E j).ad ≤ ad) (h3 : ad + sz ≤ (E j).ad + (E j).sz)
    (h4 : ∀ k, j < k → k < i → ¬ ((E k).st = true ∧ (E k).ad < ad + sz ∧ ad < (E k).ad + (E k).sz)) :
    getN (memF E i) ad sz = (E j).v / 2 ^ (8 * (ad - (E j).ad)) % 2 ^ (8 * sz) := by
  rw [Nat.pow_mul, Nat.pow_mul]
  refine getN_of sz fun k hk => ?_
  rw [memF_at E (ad + k) i j hj h1 (by omega) (by omega) fun k' hk1 hk2 h => h4 k' hk1 hk2 ⟨h.1, by omega, by omega⟩]
  rw [show ad + k - (E j).ad = ad - (E j).ad + k by omega]
theorem any_iff (E : Nat → Acc) {i ad sz : Nat} : (∃ k, k < sz ∧ tchF E i (ad + k) = true) ↔ ∃ j, j < i ∧ (E j).st = true ∧ 0 < sz ∧ (E j).ad < ad + sz ∧ ad < (E j).ad + (E j).sz ∧ 0 < (E j).sz := by
  constructor
  · rintro ⟨k, hk, h⟩
    obtain ⟨j, h1, h2, h3, h4⟩ := (tchF_iff E (ad + k) i).1 h
    exact ⟨j, h1, h2, by omega, by omega, by omega, by omega⟩
  · rintro ⟨j, h1, h2, h0, h3, h4, h5⟩
    by_cases h : ad ≤ (E j).ad
    · exact ⟨(E j).ad - ad, by omega, (tchF_iff E _ i).2 ⟨j, h1, h2, by omega, by omega⟩⟩
    · exact ⟨0, h0, (tchF_iff E _ i).2 ⟨j, h1, h2, by omega, by omega⟩⟩
end Go.Proofs.YtjbknaniihkcnaaDoor
