/-
  New, walked, for every seed and every bits of 1 to 10.
-/
import Derived.Test.YtmhgiffhmcigpaaDoorCa
import Derived.Test.YtmhgiffhmcigpaaDoorVcu
namespace Go.Proofs.YtmhgiffhmcigpaaDoor
open Go Go.Vc
set_option maxRecDepth 100000
set_option linter.unusedSimpArgs false
set_option linter.unusedVariables false
def fill (c : Nat → Int) (i n : Nat) : List (List Value) := (List.range n).map fun j => [.int .u8 (if j < i then c j else 0)]

theorem fill_next (c : Nat → Int) {i n : Nat} (hi : i < n) : (fill c i n).set (0 + (i : Int).toNat) (over ((fill c i n).getD (0 + (i : Int).toNat) []) 0 [Value.int .u8 (c i)]) = fill c (i + 1) n := by
  simp only [Int.toNat_natCast, Nat.zero_add]
  apply List.ext_getElem?
  intro j
  by_cases hj : i = j
  · subst hj
    rw [List.getElem?_set_self (by simpa [fill] using hi)]
    simp [fill, over, hi, List.getD]
  · rw [List.getElem?_set_ne hj]
    simp only [fill, List.getElem?_map]
    by_cases hjn : j < n
    · simp only [List.getElem?_range hjn, Option.map_some, Option.some.injEq, List.cons.injEq, Value.int.injEq, true_and, and_true]
      have : (j < i) ↔ (j < i + 1) := by omega
      simp only [this]
    · simp [List.getElem?_eq_none (show (List.range n).length ≤ j by simp; omega)]

/-- What New leaves. -/
def newHp (b : Nat) (c : Nat → Int) : List Ent := [.row true 5 [.int .u8] (fill c (2 ^ b) (2 ^ b)), .cells 62 [.v (.int .i64 b), .slc 0 1 0 (2 ^ b), .v (.int .u32 0)],
  .row true 72 [.int .u32, .int .u32, .bool] (List.replicate (2 ^ b) [.int .u32 0, .int .u32 0, .bool false]), .cells 66 [.v (.int .i64 b), .slc 2 3 0 (2 ^ b)], .cells 68 [.v (.slice none 0 0)], .cells 34 [.ptr 1 0 0 0, .ptr 3 0 0 0, .ptr 4 0 0 0]]
theorem new_run (M : HL) (K : SV → List Ent → HL → Prop) (b : Nat) (s : Int) (h1 : 1 ≤ b) (h2 : b ≤ 10) (hK : K (.tup [.ptr 5 0 0 0, .v .nilIface]) (newHp b (seedC s)) M) : runF G0 pf8 [.v (.int .i64 b), .v (.int .u32 s)] [] M K := by
  have e1 : (1 : Int) * 2 ^ (min (b : Int).toNat IntKind.i64.bits) = ((2 ^ b : Nat) : Int) := by
    have : min (b : Int).toNat IntKind.i64.bits = b := by simp [IntKind.bits]; omega
    rw [this]; simp
  have hp : 2 ^ b ≤ 2 ^ 10 := Nat.pow_le_pow_right (by omega) h2
  have e2 : IntKind.i64.wrap (1 * 2 ^ (min (b : Int).toNat IntKind.i64.bits)) = ((2 ^ b : Nat) : Int) := by
    rw [e1]; rw [IntKind.wrap_i64]; have : (0 : Int) ≤ ((2 ^ b : Nat) : Int) := Int.natCast_nonneg _; omega
  unfold newHp at hK
  generalize hn : 2 ^ b = n at e2 hp hK
  conv => whnf
  refine Cnd.ff (by simp <;> omega) ?_
  conv => whnf
  refine Cnd.no ?_
  conv => whnf
  refine Cnd.no ?_
  conv => whnf
  refine Cnd.ff (by simp <;> omega) ?_
  conv => whnf
  refine ⟨by omega, ?_⟩
  rw [e2]
  conv => whnf
  refine ⟨by omega, ?_⟩
  conv => whnf
  refine ⟨by omega, ?_⟩
  conv => whnf
  refine ⟨by omega, by omega, ?_⟩
  rw [Int.toNat_natCast]
  conv => whnf
  refine ⟨fun cnt tm hp M' => ∃ i : Nat, i ≤ n ∧ cnt = n - i ∧ M' = M ∧ tmkK 53 0 [(0, .v (.int .i64 b)), (1, .v (.int .u32 s)), (6, .ptr 1 0 0 0), (25, .v (.int .i64 n)), (26, .v (.int .i64 i))] (fun l => tm = l) ∧
    hp = [.row true 5 [.int .u8] (fill (seedC s) i n), .cells 62 [.v (.int .i64 b), .slc 0 1 0 n, .v (.int .u32 0)]],
    ⟨n, [0, 1], tmk 53 0 [(0, .v (.int .i64 b)), (1, .v (.int .u32 s)), (6, .ptr 1 0 0 0), (25, .v (.int .i64 n)), (26, .v (.int .i64 (0 : Nat)))], [.row true 5 [.int .u8] (fill (seedC s) 0 n), .cells 62 [.v (.int .i64 b), .slc 0 1 0 n, .v (.int .u32 0)]], ?_⟩, ?_⟩
  · repeat ((conv => whnf); (first | refine Cnd.yes ?_ | refine Cnd.no ?_ | refine And.intro rfl ?_ | refine And.intro (by omega) ?_ | (refine And.intro ?_ ?_; focus (simp only [IntKind.wrap_i64, IntKind.wrap_u64, IntKind.wrap_u32]; omega)) | (refine And.intro ?_ ?_; focus (simp only [zl1, zl2, zl3, zl4, zl5, zl6, zl7, zl8] <;> omega))))
    conv => whnf
    refine ⟨by simp [fill, List.map_const'], ?_⟩
    repeat ((conv => whnf); (first | refine Cnd.yes ?_ | refine Cnd.no ?_ | refine And.intro rfl ?_ | refine And.intro (by omega) ?_ | (refine And.intro ?_ ?_; focus (simp only [IntKind.wrap_i64, IntKind.wrap_u64, IntKind.wrap_u32]; omega)) | (refine And.intro ?_ ?_; focus (simp only [zl1, zl2, zl3, zl4, zl5, zl6, zl7, zl8] <;> omega))))
    conv => whnf
    exact ⟨0, by omega, by omega, rfl, (tmkK_eq _ _ _ _).mpr rfl, rfl⟩
  · rintro cnt tm hp M' ⟨i, hi, rfl, rfl, htm, rfl⟩
    conv at htm => whnf
    subst htm
    conv => whnf
    refine Cnd.mk (fun hlt => ?_) fun hge => ?_
    · have hin : i < n := by simpa using hlt
      have e3 : Int.tmod (i : Int) 16 = ((i % 16 : Nat) : Int) := by rw [Int.tmod_eq_emod_of_nonneg (by omega)]; omega
      conv => whnf
      refine ⟨by omega, ?_⟩
      conv => whnf
      intro Mr hMr
      conv => whnf
      refine Cnd.ff (by rw [e3, IntKind.wrap_i64]; simp; omega) ?_
      conv => whnf
      repeat (refine Cnd.no ?_; conv => whnf)
      refine Cnd.ff (by rw [e3, IntKind.wrap_i64]; simp; omega) ?_
      conv => whnf
      repeat (refine Cnd.no ?_; conv => whnf)
      refine ⟨by rw [e3, IntKind.wrap_i64]; omega, ?_⟩
      conv => whnf
      intro Mr2 hMr2
      conv => whnf
      refine Cnd.no ?_
      conv => whnf
      refine ⟨by decide, ?_⟩
      conv => whnf
      refine ⟨by omega, by omega, ?_⟩
      conv => whnf
      rw [seedC_eq]
      refine ⟨by simp [fill]; omega, ?_⟩
      conv => whnf
      refine ⟨n - (i + 1), [0, 1], tmk 53 0 [(0, .v (.int .i64 b)), (1, .v (.int .u32 s)), (6, .ptr 1 0 0 0), (25, .v (.int .i64 n)), (26, .v (.int .i64 (i + 1 : Nat)))], [.row true 5 [.int .u8] (fill (seedC s) (i + 1) n), .cells 62 [.v (.int .i64 b), .slc 0 1 0 n, .v (.int .u32 0)]], by omega, ?_⟩
      repeat ((conv => whnf); (first | refine Cnd.yes ?_ | refine Cnd.no ?_ | refine And.intro rfl ?_ | refine And.intro (by omega) ?_ | (refine And.intro ?_ ?_; focus (simp only [IntKind.wrap_i64, IntKind.wrap_u64, IntKind.wrap_u32]; omega)) | (refine And.intro ?_ ?_; focus (simp only [zl1, zl2, zl3, zl4, zl5, zl6, zl7, zl8] <;> omega))))
      conv => whnf
      refine ⟨fill_next _ hin, ?_⟩
      repeat ((conv => whnf); (first | refine Cnd.yes ?_ | refine Cnd.no ?_ | refine And.intro rfl ?_ | refine And.intro (by omega) ?_ | (refine And.intro ?_ ?_; focus (simp only [IntKind.wrap_i64, IntKind.wrap_u64, IntKind.wrap_u32]; omega)) | (refine And.intro ?_ ?_; focus (simp only [zl1, zl2, zl3, zl4, zl5, zl6, zl7, zl8] <;> omega))))
      conv => whnf
      exact ⟨i + 1, by omega, rfl, rfl, (tmkK_eq _ _ _ _).mpr rfl, rfl⟩
    · have hin : i = n := by simp at hge; omega
      subst hin
      conv => whnf
      refine ⟨by omega, ?_⟩
      conv => whnf
      rw [e2]
      refine ⟨by omega, by omega, by omega, by omega, ?_⟩
      rw [Int.toNat_natCast]
      conv => whnf
      exact hK
end Go.Proofs.YtmhgiffhmcigpaaDoor
