/-
  A line of a memory, walked; its contract.
-/
import Derived.Test.YtncninjgfllcdaaDoorCd
namespace Go.Proofs.YtncninjgfllcdaaDoor
open Go Go.Vc
set_option maxRecDepth 100000
set_option linter.unusedSimpArgs false
set_option linter.unusedVariables false
def wW (x : Nat) : SV := .v (.int .u32 (x : Nat))
def lnW (c : Nat → Nat) (i k : Nat) : Nat := getN c (16 * i + 4 * k) 4
def lnS (c : Nat → Nat) (i : Nat) : Nat → List SV
  | 0 => [wW 0, wW 0, wW 0, wW 0]
  | 1 => [wW (lnW c i 0), wW 0, wW 0, wW 0]
  | 2 => [wW (lnW c i 0), wW (lnW c i 1), wW 0, wW 0]
  | 3 => [wW (lnW c i 0), wW (lnW c i 1), wW (lnW c i 2), wW 0]
  | _ => [wW (lnW c i 0), wW (lnW c i 1), wW (lnW c i 2), wW (lnW c i 3)]
theorem noline_run (M : HL) (K : SV → List Ent → HL → Prop) (n : Nat) (i : Int) (c : Nat → Nat) (hn : n ≤ 65536) (hi : i < 0 ∨ (n / 16 : Nat) ≤ i) (hK : K (.tup [.agg [wW 0, wW 0, wW 0, wW 0], .v (.bool false)]) (memHp true n c) M) :
    runF G4 pf13 [.ptr 0 0 0 0, .v (.int .i64 i)] (memHp true n c) M fun v hp2 M2 => ∃ m v' hp', Wk (llen (memHp true n c)) m [v] hp2 [v'] hp' (K v' hp' M2) := by
  have e : IntKind.i64.wrap (Int.tdiv n 16) = (n / 16 : Nat) := by rw [Int.tdiv_eq_ediv_of_nonneg (by omega), IntKind.wrap_i64]; omega
  repeat ((conv => whnf); (first | refine Cnd.yes ?_ | refine Cnd.no ?_ | refine And.intro rfl ?_ | refine And.intro (by omega) ?_ | (refine And.intro ?_ ?_; focus (simp only [IntKind.wrap_i64, IntKind.wrap_u64, IntKind.wrap_u32]; omega)) | (refine And.intro ?_ ?_; focus (simp only [zl1, zl2, zl3, zl4, zl5, zl6, zl7, zl8] <;> omega))))
  conv => whnf
  by_cases h0 : i < 0
  · refine Cnd.tt (decide_eq_true h0) ?_
    repeat ((conv => whnf); (first | refine Cnd.yes ?_ | refine Cnd.no ?_ | refine And.intro rfl ?_ | refine And.intro (by omega) ?_ | (refine And.intro ?_ ?_; focus (simp only [IntKind.wrap_i64, IntKind.wrap_u64, IntKind.wrap_u32]; omega)) | (refine And.intro ?_ ?_; focus (simp only [zl1, zl2, zl3, zl4, zl5, zl6, zl7, zl8] <;> omega))))
    conv => whnf
    refine ⟨[0, 1], .tup [.agg [wW 0, wW 0, wW 0, wW 0], .v (.bool false)], memHp true n c, ?_⟩
    repeat ((conv => whnf); (first | refine Cnd.yes ?_ | refine Cnd.no ?_ | refine And.intro rfl ?_ | refine And.intro (by omega) ?_ | (refine And.intro ?_ ?_; focus (simp only [IntKind.wrap_i64, IntKind.wrap_u64, IntKind.wrap_u32]; omega)) | (refine And.intro ?_ ?_; focus (simp only [zl1, zl2, zl3, zl4, zl5, zl6, zl7, zl8] <;> omega))))
    conv => whnf
    exact hK
  · refine Cnd.ff (decide_eq_false h0) ?_
    repeat ((conv => whnf); (first | refine Cnd.yes ?_ | refine Cnd.no ?_ | refine And.intro rfl ?_ | refine And.intro (by omega) ?_ | (refine And.intro ?_ ?_; focus (simp only [IntKind.wrap_i64, IntKind.wrap_u64, IntKind.wrap_u32]; omega)) | (refine And.intro ?_ ?_; focus (simp only [zl1, zl2, zl3, zl4, zl5, zl6, zl7, zl8] <;> omega))))
    conv => whnf
    rw [e]
    refine Cnd.tt (decide_eq_true (by omega)) ?_
    repeat ((conv => whnf); (first | refine Cnd.yes ?_ | refine Cnd.no ?_ | refine And.intro rfl ?_ | refine And.intro (by omega) ?_ | (refine And.intro ?_ ?_; focus (simp only [IntKind.wrap_i64, IntKind.wrap_u64, IntKind.wrap_u32]; omega)) | (refine And.intro ?_ ?_; focus (simp only [zl1, zl2, zl3, zl4, zl5, zl6, zl7, zl8] <;> omega))))
    conv => whnf
    refine ⟨[0, 1], .tup [.agg [wW 0, wW 0, wW 0, wW 0], .v (.bool false)], memHp true n c, ?_⟩
    repeat ((conv => whnf); (first | refine Cnd.yes ?_ | refine Cnd.no ?_ | refine And.intro rfl ?_ | refine And.intro (by omega) ?_ | (refine And.intro ?_ ?_; focus (simp only [IntKind.wrap_i64, IntKind.wrap_u64, IntKind.wrap_u32]; omega)) | (refine And.intro ?_ ?_; focus (simp only [zl1, zl2, zl3, zl4, zl5, zl6, zl7, zl8] <;> omega))))
    conv => whnf
    exact hK
def lineI (M : HL) (n i : Nat) (c : Nat → Nat) : Nat → List SV → List Ent → HL → Prop := fun cnt tm hp M' => ∃ k : Nat, k ≤ 4 ∧ cnt = 4 - k ∧ M' = M ∧ tmkK 35 0 [(0, .ptr 0 0 0 0), (1, .v (.int .i64 i)), (4, .ptr 2 0 0 0), (6, .ptr 3 0 0 0), (17, .v (.int .i64 k))] (fun l => tm = l) ∧ hp = memHp true n c ++ [.cells 34 [wW 0, wW 0, wW 0, wW 0], .cells 34 (lnS c i k)]
set_option maxHeartbeats 4000000 in
theorem line_run (M : HL) (K : SV → List Ent → HL → Prop) (n i : Nat) (c : Nat → Nat) (hn : n ≤ 65536) (hi : i < n / 16) (hc : ∀ j, c j < 256) (hK : K (.tup [.agg [wW (lnW c i 0), wW (lnW c i 1), wW (lnW c i 2), wW (lnW c i 3)], .v (.bool true)]) (memHp true n c) M) :
    runF G4 pf13 [.ptr 0 0 0 0, .v (.int .i64 i)] (memHp true n c) M fun v hp2 M2 => ∃ m v' hp', Wk (llen (memHp true n c)) m [v] hp2 [v'] hp' (K v' hp' M2) := by
  have e : IntKind.i64.wrap (Int.tdiv n 16) = (n / 16 : Nat) := by rw [Int.tdiv_eq_ediv_of_nonneg (by omega), IntKind.wrap_i64]; omega
  repeat ((conv => whnf); (first | refine Cnd.yes ?_ | refine Cnd.no ?_ | refine And.intro rfl ?_ | refine And.intro (by omega) ?_ | (refine And.intro ?_ ?_; focus (simp only [IntKind.wrap_i64, IntKind.wrap_u64, IntKind.wrap_u32]; omega)) | (refine And.intro ?_ ?_; focus (simp only [zl1, zl2, zl3, zl4, zl5, zl6, zl7, zl8] <;> omega))))
  conv => whnf
  rw [e]
  clear e
  refine Cnd.ff (decide_eq_false (by omega)) ?_
  repeat ((conv => whnf); (first | refine Cnd.yes ?_ | refine Cnd.no ?_ | refine And.intro rfl ?_ | refine And.intro (by omega) ?_ | (refine And.intro ?_ ?_; focus (simp only [IntKind.wrap_i64, IntKind.wrap_u64, IntKind.wrap_u32]; omega)) | (refine And.intro ?_ ?_; focus (simp only [zl1, zl2, zl3, zl4, zl5, zl6, zl7, zl8] <;> omega))))
  conv => whnf
  obtain ⟨I, hI⟩ : ∃ I, I = lineI M n i c := ⟨_, rfl⟩
  refine ⟨I,
    ⟨4, [0, 1, 2, 3], tmk 35 0 [(0, .ptr 0 0 0 0), (1, .v (.int .i64 i)), (4, .ptr 2 0 0 0), (6, .ptr 3 0 0 0), (17, .v (.int .i64 (0 : Nat)))], memHp true n c ++ [.cells 34 [wW 0, wW 0, wW 0, wW 0], .cells 34 (lnS c i 0)], ?_⟩, ?_⟩
  · repeat ((conv => whnf); (first | refine Cnd.yes ?_ | refine Cnd.no ?_ | refine And.intro rfl ?_ | refine And.intro (by omega) ?_ | (refine And.intro ?_ ?_; focus (simp only [IntKind.wrap_i64, IntKind.wrap_u64, IntKind.wrap_u32]; omega)) | (refine And.intro ?_ ?_; focus (simp only [zl1, zl2, zl3, zl4, zl5, zl6, zl7, zl8] <;> omega))))
    conv => whnf
    rw [hI]
    exact (show lineI M n i c _ _ _ _ from ⟨0, by omega, by omega, rfl, (tmkK_eq _ _ _ _).mpr rfl, rfl⟩)
  · intro cnt tm hp M' hII
    have hII2 : lineI M n i c cnt tm hp M' := by rw [← hI]; exact hII
    clear hII
    obtain ⟨k, hk, rfl, rfl, htm, rfl⟩ := hII2
    conv at htm => whnf
    subst htm
    have e2 : IntKind.i64.wrap (IntKind.i64.wrap ((i : Int) * 16) + IntKind.i64.wrap ((k : Int) * 4)) = ((16 * i + 4 * k : Nat) : Int) := by simp only [IntKind.wrap_i64]; omega
    by_cases h4 : k = 4
    · subst h4
      clear e2
      repeat ((conv => whnf); (first | refine Cnd.yes ?_ | refine Cnd.no ?_ | refine And.intro rfl ?_ | refine And.intro (by omega) ?_ | (refine And.intro ?_ ?_; focus (simp only [IntKind.wrap_i64, IntKind.wrap_u64, IntKind.wrap_u32]; omega)) | (refine And.intro ?_ ?_; focus (simp only [zl1, zl2, zl3, zl4, zl5, zl6, zl7, zl8] <;> omega))))
      conv => whnf
      refine ⟨[0, 1], .tup [.agg [wW (lnW c i 0), wW (lnW c i 1), wW (lnW c i 2), wW (lnW c i 3)], .v (.bool true)], memHp true n c, ?_⟩
      repeat ((conv => whnf); (first | refine Cnd.yes ?_ | refine Cnd.no ?_ | refine And.intro rfl ?_ | refine And.intro (by omega) ?_ | (refine And.intro ?_ ?_; focus (simp only [IntKind.wrap_i64, IntKind.wrap_u64, IntKind.wrap_u32]; omega)) | (refine And.intro ?_ ?_; focus (simp only [zl1, zl2, zl3, zl4, zl5, zl6, zl7, zl8] <;> omega))))
      conv => whnf
      exact hK
    · repeat ((conv => whnf); (first | refine Cnd.yes ?_ | refine Cnd.no ?_ | refine And.intro rfl ?_ | refine And.intro (by omega) ?_ | (refine And.intro ?_ ?_; focus (simp only [IntKind.wrap_i64, IntKind.wrap_u64, IntKind.wrap_u32]; omega)) | (refine And.intro ?_ ?_; focus (simp only [zl1, zl2, zl3, zl4, zl5, zl6, zl7, zl8] <;> omega))))
      conv => whnf
      refine Cnd.tt (decide_eq_true (by omega)) ?_
      repeat ((conv => whnf); (first | refine Cnd.yes ?_ | refine Cnd.no ?_ | refine And.intro rfl ?_ | refine And.intro (by omega) ?_ | (refine And.intro ?_ ?_; focus (simp only [IntKind.wrap_i64, IntKind.wrap_u64, IntKind.wrap_u32]; omega)) | (refine And.intro ?_ ?_; focus (simp only [zl1, zl2, zl3, zl4, zl5, zl6, zl7, zl8] <;> omega))))
      conv => whnf
      rw [e2]
      clear e2
      repeat ((conv => whnf); (first | refine Cnd.yes ?_ | refine Cnd.no ?_ | refine And.intro rfl ?_ | refine And.intro (by omega) ?_ | (refine And.intro ?_ ?_; focus (simp only [IntKind.wrap_i64, IntKind.wrap_u64, IntKind.wrap_u32]; omega)) | (refine And.intro ?_ ?_; focus (simp only [zl1, zl2, zl3, zl4, zl5, zl6, zl7, zl8] <;> omega))))
      conv => whnf
      rw [Nat.zero_add, Int.toNat_natCast, Int.toNat_natCast]
      refine ⟨true, n, 16 * i + 4 * k, n - (16 * i + 4 * k), 4, c, rfl, rfl, by omega, by omega, by omega, hc, by omega, ?_⟩
      have hw : getN c (16 * i + 4 * k) 4 = lnW c i k := rfl
      generalize getN c (16 * i + 4 * k) 4 = w at hw
      generalize 16 * i + 4 * k = q
      repeat ((conv => whnf); (first | refine Cnd.yes ?_ | refine Cnd.no ?_ | refine And.intro rfl ?_ | refine And.intro (by omega) ?_ | (refine And.intro ?_ ?_; focus (simp only [IntKind.wrap_i64, IntKind.wrap_u64, IntKind.wrap_u32]; omega)) | (refine And.intro ?_ ?_; focus (simp only [zl1, zl2, zl3, zl4, zl5, zl6, zl7, zl8] <;> omega))))
      conv => whnf
      have hk4 : k = 0 ∨ k = 1 ∨ k = 2 ∨ k = 3 := by omega
      rcases hk4 with h | h | h | h
      · rw [show lnS c i k = lnS c i 0 from by rw [h]]
        refine ⟨0, by omega, by omega, ?_⟩
        repeat ((conv => whnf); (first | refine Cnd.yes ?_ | refine Cnd.no ?_ | refine And.intro rfl ?_ | refine And.intro (by omega) ?_ | (refine And.intro ?_ ?_; focus (simp only [IntKind.wrap_i64, IntKind.wrap_u64, IntKind.wrap_u32]; omega)) | (refine And.intro ?_ ?_; focus (simp only [zl1, zl2, zl3, zl4, zl5, zl6, zl7, zl8] <;> omega))))
        conv => whnf
        refine ⟨4 - (k + 1), [0, 1, 2, 3], tmk 35 0 [(0, .ptr 0 0 0 0), (1, .v (.int .i64 i)), (4, .ptr 2 0 0 0), (6, .ptr 3 0 0 0), (17, .v (.int .i64 (k + 1 : Nat)))], [.cells 64 [.slc 1 1 0 n], .row true 5 [.int .u8] (bT c n), .cells 34 [wW 0, wW 0, wW 0, wW 0], .cells 34 [wW w, wW 0, wW 0, wW 0]], by omega, ?_⟩
        iterate 4 ((conv => whnf); (refine And.intro rfl ?_))
        refine (show ∀ KK : Prop, KK → sleL [0, 1, 2, 3] _ _ KK from fun KK hKK => ?_) _ ?_
        · repeat ((conv => whnf); (first | refine Cnd.yes ?_ | refine Cnd.no ?_ | refine And.intro rfl ?_ | refine And.intro (by omega) ?_ | (refine And.intro ?_ ?_; focus (simp only [IntKind.wrap_i64, IntKind.wrap_u64, IntKind.wrap_u32]; omega)) | (refine And.intro ?_ ?_; focus (simp only [zl1, zl2, zl3, zl4, zl5, zl6, zl7, zl8] <;> omega))))
          conv => whnf
          exact hKK
        repeat ((conv => whnf); (first | refine Cnd.yes ?_ | refine Cnd.no ?_ | refine And.intro rfl ?_ | refine And.intro (by omega) ?_ | (refine And.intro ?_ ?_; focus (simp only [IntKind.wrap_i64, IntKind.wrap_u64, IntKind.wrap_u32]; omega)) | (refine And.intro ?_ ?_; focus (simp only [zl1, zl2, zl3, zl4, zl5, zl6, zl7, zl8] <;> omega))))
        conv => whnf
        rw [hI]
        exact (show lineI M' n i c _ _ _ _ from ⟨k + 1, by omega, rfl, rfl, (tmkK_eq _ _ _ _).mpr rfl, by rw [h, hw, h]; rfl⟩)
      · rw [show lnS c i k = lnS c i 1 from by rw [h]]
        refine ⟨1, by omega, by omega, ?_⟩
        repeat ((conv => whnf); (first | refine Cnd.yes ?_ | refine Cnd.no ?_ | refine And.intro rfl ?_ | refine And.intro (by omega) ?_ | (refine And.intro ?_ ?_; focus (simp only [IntKind.wrap_i64, IntKind.wrap_u64, IntKind.wrap_u32]; omega)) | (refine And.intro ?_ ?_; focus (simp only [zl1, zl2, zl3, zl4, zl5, zl6, zl7, zl8] <;> omega))))
        conv => whnf
        refine ⟨4 - (k + 1), [0, 1, 2, 3], tmk 35 0 [(0, .ptr 0 0 0 0), (1, .v (.int .i64 i)), (4, .ptr 2 0 0 0), (6, .ptr 3 0 0 0), (17, .v (.int .i64 (k + 1 : Nat)))], [.cells 64 [.slc 1 1 0 n], .row true 5 [.int .u8] (bT c n), .cells 34 [wW 0, wW 0, wW 0, wW 0], .cells 34 [wW (lnW c i 0), wW w, wW 0, wW 0]], by omega, ?_⟩
        iterate 4 ((conv => whnf); (refine And.intro rfl ?_))
        refine (show ∀ KK : Prop, KK → sleL [0, 1, 2, 3] _ _ KK from fun KK hKK => ?_) _ ?_
        · repeat ((conv => whnf); (first | refine Cnd.yes ?_ | refine Cnd.no ?_ | refine And.intro rfl ?_ | refine And.intro (by omega) ?_ | (refine And.intro ?_ ?_; focus (simp only [IntKind.wrap_i64, IntKind.wrap_u64, IntKind.wrap_u32]; omega)) | (refine And.intro ?_ ?_; focus (simp only [zl1, zl2, zl3, zl4, zl5, zl6, zl7, zl8] <;> omega))))
          conv => whnf
          exact hKK
        repeat ((conv => whnf); (first | refine Cnd.yes ?_ | refine Cnd.no ?_ | refine And.intro rfl ?_ | refine And.intro (by omega) ?_ | (refine And.intro ?_ ?_; focus (simp only [IntKind.wrap_i64, IntKind.wrap_u64, IntKind.wrap_u32]; omega)) | (refine And.intro ?_ ?_; focus (simp only [zl1, zl2, zl3, zl4, zl5, zl6, zl7, zl8] <;> omega))))
        conv => whnf
        rw [hI]
        exact (show lineI M' n i c _ _ _ _ from ⟨k + 1, by omega, rfl, rfl, (tmkK_eq _ _ _ _).mpr rfl, by rw [h, hw, h]; rfl⟩)
      · rw [show lnS c i k = lnS c i 2 from by rw [h]]
        refine ⟨2, by omega, by omega, ?_⟩
        repeat ((conv => whnf); (first | refine Cnd.yes ?_ | refine Cnd.no ?_ | refine And.intro rfl ?_ | refine And.intro (by omega) ?_ | (refine And.intro ?_ ?_; focus (simp only [IntKind.wrap_i64, IntKind.wrap_u64, IntKind.wrap_u32]; omega)) | (refine And.intro ?_ ?_; focus (simp only [zl1, zl2, zl3, zl4, zl5, zl6, zl7, zl8] <;> omega))))
        conv => whnf
        refine ⟨4 - (k + 1), [0, 1, 2, 3], tmk 35 0 [(0, .ptr 0 0 0 0), (1, .v (.int .i64 i)), (4, .ptr 2 0 0 0), (6, .ptr 3 0 0 0), (17, .v (.int .i64 (k + 1 : Nat)))], [.cells 64 [.slc 1 1 0 n], .row true 5 [.int .u8] (bT c n), .cells 34 [wW 0, wW 0, wW 0, wW 0], .cells 34 [wW (lnW c i 0), wW (lnW c i 1), wW w, wW 0]], by omega, ?_⟩
        iterate 4 ((conv => whnf); (refine And.intro rfl ?_))
        refine (show ∀ KK : Prop, KK → sleL [0, 1, 2, 3] _ _ KK from fun KK hKK => ?_) _ ?_
        · repeat ((conv => whnf); (first | refine Cnd.yes ?_ | refine Cnd.no ?_ | refine And.intro rfl ?_ | refine And.intro (by omega) ?_ | (refine And.intro ?_ ?_; focus (simp only [IntKind.wrap_i64, IntKind.wrap_u64, IntKind.wrap_u32]; omega)) | (refine And.intro ?_ ?_; focus (simp only [zl1, zl2, zl3, zl4, zl5, zl6, zl7, zl8] <;> omega))))
          conv => whnf
          exact hKK
        repeat ((conv => whnf); (first | refine Cnd.yes ?_ | refine Cnd.no ?_ | refine And.intro rfl ?_ | refine And.intro (by omega) ?_ | (refine And.intro ?_ ?_; focus (simp only [IntKind.wrap_i64, IntKind.wrap_u64, IntKind.wrap_u32]; omega)) | (refine And.intro ?_ ?_; focus (simp only [zl1, zl2, zl3, zl4, zl5, zl6, zl7, zl8] <;> omega))))
        conv => whnf
        rw [hI]
        exact (show lineI M' n i c _ _ _ _ from ⟨k + 1, by omega, rfl, rfl, (tmkK_eq _ _ _ _).mpr rfl, by rw [h, hw, h]; rfl⟩)
      · rw [show lnS c i k = lnS c i 3 from by rw [h]]
        refine ⟨3, by omega, by omega, ?_⟩
        repeat ((conv => whnf); (first | refine Cnd.yes ?_ | refine Cnd.no ?_ | refine And.intro rfl ?_ | refine And.intro (by omega) ?_ | (refine And.intro ?_ ?_; focus (simp only [IntKind.wrap_i64, IntKind.wrap_u64, IntKind.wrap_u32]; omega)) | (refine And.intro ?_ ?_; focus (simp only [zl1, zl2, zl3, zl4, zl5, zl6, zl7, zl8] <;> omega))))
        conv => whnf
        refine ⟨4 - (k + 1), [0, 1, 2, 3], tmk 35 0 [(0, .ptr 0 0 0 0), (1, .v (.int .i64 i)), (4, .ptr 2 0 0 0), (6, .ptr 3 0 0 0), (17, .v (.int .i64 (k + 1 : Nat)))], [.cells 64 [.slc 1 1 0 n], .row true 5 [.int .u8] (bT c n), .cells 34 [wW 0, wW 0, wW 0, wW 0], .cells 34 [wW (lnW c i 0), wW (lnW c i 1), wW (lnW c i 2), wW w]], by omega, ?_⟩
        iterate 4 ((conv => whnf); (refine And.intro rfl ?_))
        refine (show ∀ KK : Prop, KK → sleL [0, 1, 2, 3] _ _ KK from fun KK hKK => ?_) _ ?_
        · repeat ((conv => whnf); (first | refine Cnd.yes ?_ | refine Cnd.no ?_ | refine And.intro rfl ?_ | refine And.intro (by omega) ?_ | (refine And.intro ?_ ?_; focus (simp only [IntKind.wrap_i64, IntKind.wrap_u64, IntKind.wrap_u32]; omega)) | (refine And.intro ?_ ?_; focus (simp only [zl1, zl2, zl3, zl4, zl5, zl6, zl7, zl8] <;> omega))))
          conv => whnf
          exact hKK
        repeat ((conv => whnf); (first | refine Cnd.yes ?_ | refine Cnd.no ?_ | refine And.intro rfl ?_ | refine And.intro (by omega) ?_ | (refine And.intro ?_ ?_; focus (simp only [IntKind.wrap_i64, IntKind.wrap_u64, IntKind.wrap_u32]; omega)) | (refine And.intro ?_ ?_; focus (simp only [zl1, zl2, zl3, zl4, zl5, zl6, zl7, zl8] <;> omega))))
        conv => whnf
        rw [hI]
        exact (show lineI M' n i c _ _ _ _ from ⟨k + 1, by omega, rfl, rfl, (tmkK_eq _ _ _ _).mpr rfl, by rw [h, hw, h]; rfl⟩)
def lineS : Vc.Spec := fun args hp _ K => (∃ (n : Nat) (i : Int) (c : Nat → Nat), args = [.ptr 0 0 0 0, .v (.int .i64 i)] ∧ hp = memHp true n c ∧ n ≤ 65536 ∧ (i < 0 ∨ (n / 16 : Nat) ≤ i) ∧ K (.tup [.agg [wW 0, wW 0, wW 0, wW 0], .v (.bool false)]) (memHp true n c)) ∨
  (∃ (n i : Nat) (c : Nat → Nat), args = [.ptr 0 0 0 0, .v (.int .i64 i)] ∧ hp = memHp true n c ∧ n ≤ 65536 ∧ i < n / 16 ∧ (∀ j, c j < 256) ∧ K (.tup [.agg [wW (lnW c i 0), wW (lnW c i 1), wW (lnW c i 2), wW (lnW c i 3)], .v (.bool true)]) (memHp true n c))
theorem line_ok : SOK Tryd.prog 13 lineS := by
  refine TOK.weaken (TOK.out (runF_eq G4_ok mixed at13.1 at13.2 pf13_eq)) fun args hp M K h => ?_
  rcases h with ⟨n, i, c, rfl, rfl, h1, h2, h3⟩ | ⟨n, i, c, rfl, rfl, h1, h2, h3, h4⟩
  · exact noline_run M K n i c h1 h2 h3
  · exact line_run M K n i c h1 h2 h3 h4
end Go.Proofs.YtncninjgfllcdaaDoor
