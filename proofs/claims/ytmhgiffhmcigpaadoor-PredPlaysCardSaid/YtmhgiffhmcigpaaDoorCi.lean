import Derived.Test.YtmhgiffhmcigpaaDoorCh
namespace Go.Proofs.YtmhgiffhmcigpaaDoor
open Go Go.Vc
set_option maxRecDepth 100000
set_option linter.unusedSimpArgs false
set_option linter.unusedVariables false
def hist (b : Nat) (tk : Bool) : Nat → Nat | 0 => 0 | i + 1 => learnH b (hist b tk i) tk
def cnts (b pc : Nat) (tk : Bool) (c : Nat → Int) : Nat → Nat → Int | 0 => c | i + 1 => learnC b (hist b tk i) pc tk (cnts b pc tk c i)
theorem cnts_range {b pc : Nat} {tk : Bool} {c : Nat → Int} (hc : ∀ i, 0 ≤ c i ∧ c i ≤ 3) : ∀ n i, 0 ≤ cnts b pc tk c n i ∧ cnts b pc tk c n i ≤ 3
  | 0 => hc
  | n + 1 => learnC_range (cnts_range hc n)
theorem hist_lt {b : Nat} {tk : Bool} (hb : 1 ≤ b) : ∀ n, hist b tk n < 2 ^ b
  | 0 => Nat.pow_pos (by omega)
  | _ + 1 => learnH_lt hb
theorem learnH_eq {b h : Nat} {tk : Bool} (hb : 1 ≤ b) : learnH b h tk = 2 * (h % 2 ^ (b - 1)) + (if tk then 1 else 0) := by
  obtain ⟨k, rfl⟩ : ∃ k, b = k + 1 := ⟨b - 1, by omega⟩
  unfold learnH
  rw [Nat.pow_succ', Nat.mul_mod_mul_left, Nat.add_sub_cancel]
  have := Nat.two_pow_add_eq_or_of_lt (i := 1) (b := if tk = true then 1 else 0) (by split <;> omega) (h % 2 ^ k)
  rw [Nat.pow_one] at this
  rw [this]
theorem hist_false {b : Nat} : ∀ n, hist b false n = 0
  | 0 => rfl
  | n + 1 => by simp [hist, learnH, hist_false n]
theorem hist_low {b : Nat} (hb : 1 ≤ b) : ∀ n, n ≤ b → hist b true n = 2 ^ n - 1
  | 0, _ => rfl
  | n + 1, h => by
    rw [hist, learnH_eq hb, hist_low hb n (by omega), if_pos rfl]
    have h1 : 2 ^ n ≤ 2 ^ (b - 1) := Nat.pow_le_pow_right (by omega) (by omega)
    have h2 : 0 < 2 ^ n := Nat.pow_pos (by omega)
    rw [Nat.mod_eq_of_lt (by omega), Nat.pow_succ]
    omega
theorem hist_true {b : Nat} (hb : 1 ≤ b) : ∀ n, b ≤ n → hist b true n = 2 ^ b - 1
  | 0, h => by omega
  | n + 1, h => by
    by_cases hn : n + 1 = b
    · rw [hist_low hb _ (by omega), hn]
    · rw [hist, learnH_eq hb, hist_true hb n (by omega), if_pos rfl]
      obtain ⟨k, rfl⟩ : ∃ k, b = k + 1 := ⟨b - 1, by omega⟩
      have h2 : 0 < 2 ^ k := Nat.pow_pos (by omega)
      rw [Nat.add_sub_cancel, Nat.pow_succ]
      have : (2 ^ k * 2 - 1) % 2 ^ k = 2 ^ k - 1 := by
        rw [show 2 ^ k * 2 - 1 = (2 ^ k - 1) + 2 ^ k * 1 from by omega, Nat.add_mul_mod_self_left, Nat.mod_eq_of_lt (by omega)]
      omega
theorem cnts_true {b pc : Nat} {c : Nat → Int} (hb : 1 ≤ b) (hc : ∀ i, 0 ≤ c i ∧ c i ≤ 3) : cnts b pc true c (b + 4) (atI b pc (hist b true (b + 4))) ≥ 2 := by
  have step : ∀ n, b ≤ n → ∀ j, j ≤ cnts b pc true c n (atI b pc (2 ^ b - 1)) → (j + 1 ≤ 3 → j + 1 ≤ cnts b pc true c (n + 1) (atI b pc (2 ^ b - 1))) := by
    intro n hn j hj h3
    simp only [cnts, learnC, hist_true hb n hn, if_true]
    omega
  rw [hist_true hb _ (by omega)]
  have h0 := (cnts_range (b := b) (pc := pc) (tk := true) hc b (atI b pc (2 ^ b - 1))).1
  have h1 := step b (by omega) 0 h0 (by omega)
  have h2 := step (b + 1) (by omega) 1 h1 (by omega)
  have h3 := step (b + 1 + 1) (by omega) 1 (by omega) (by omega)
  have h4 := step (b + 1 + 1 + 1) (by omega) 1 (by omega) (by omega)
  exact h4
theorem cnts_false {b pc : Nat} {c : Nat → Int} (hb : 1 ≤ b) (hc : ∀ i, 0 ≤ c i ∧ c i ≤ 3) : ¬ cnts b pc false c (b + 4) (atI b pc (hist b false (b + 4))) ≥ 2 := by
  rw [hist_false]
  have step : ∀ n, cnts b pc false c n (atI b pc 0) ≤ max (3 - (n : Int)) 0 := by
    intro n
    induction n with
    | zero => have := hc (atI b pc 0); simp only [cnts]; omega
    | succ n ih =>
      have := cnts_range (b := b) (pc := pc) (tk := false) hc n (atI b pc 0)
      simp only [cnts, learnC, hist_false, if_true]
      rw [if_neg (by decide)]
      split <;> omega
  have := step (b + 4)
  omega
def lHp (m pc : Nat) (tk : Bool) (s : Int) (i : Nat) : List Ent := [.row true 5 [.int .u8] (fill (cnts m pc tk (seedC s) i) (2 ^ m) (2 ^ m)), .cells 62 [.v (.int .i64 m), .slc 0 1 0 (2 ^ m), .v (.int .u32 (hist m tk i))],
  .row true 72 [.int .u32, .int .u32, .bool] (List.replicate (2 ^ m) [.int .u32 0, .int .u32 0, .bool false]), .cells 66 [.v (.int .i64 m), .slc 2 3 0 (2 ^ m)], .cells 68 [.v (.slice none 0 0)], .cells 34 [.ptr 1 0 0 0, .ptr 3 0 0 0, .ptr 4 0 0 0]]
theorem learns_run (M : HL) (K : SV → List Ent → HL → Prop) (m : Nat) (s : Int) (pc : Nat) (tk : Bool) (x : Int) (h3 : pc < 4294967296)
    (hm : 1 ≤ m ∧ m ≤ 10) (hx : Int.tmod (IntKind.i64.wrap (Int.tmod x 10 + 10)) 10 + 1 = m)
    (hK : ∀ hp, K (.v (.bool true)) hp M) : runF G3 pf3 [.v (.int .i64 x), .v (.int .u32 s), .v (.int .u32 pc), .v (.bool tk)] [] M K := by
  repeat ((conv => whnf); (first | refine Cnd.yes ?_ | refine Cnd.no ?_ | refine And.intro rfl ?_ | refine And.intro (by omega) ?_ | (refine And.intro ?_ ?_; focus (simp only [IntKind.wrap_i64, IntKind.wrap_u64, IntKind.wrap_u32]; omega)) | (refine And.intro ?_ ?_; focus (simp only [zl1, zl2, zl3, zl4, zl5, zl6, zl7, zl8] <;> omega))))
  conv => whnf
  have hx' : IntKind.i64.wrap ((IntKind.i64.wrap (x.tmod 10 + 10)).tmod 10 + 1) = m := by
    rw [hx, IntKind.wrap_i64]; omega
  rw [hx']
  rw [Int.toNat_natCast]
  repeat ((conv => whnf); (first | refine Cnd.yes ?_ | refine Cnd.no ?_ | refine And.intro rfl ?_ | refine And.intro (by omega) ?_ | (refine And.intro ?_ ?_; focus (simp only [IntKind.wrap_i64, IntKind.wrap_u64, IntKind.wrap_u32]; omega)) | (refine And.intro ?_ ?_; focus (simp only [zl1, zl2, zl3, zl4, zl5, zl6, zl7, zl8] <;> omega))))
  conv => whnf
  refine ⟨fun cnt tm hp M' => ∃ i : Nat, i ≤ m + 4 ∧ cnt = m + 4 - i ∧ M' = M ∧ tmkK 72 0 [(0, .v (.int .i64 m)), (2, .v (.int .u32 pc)), (3, .v (.bool tk)), (9, .v (.bool true)), (10, .ptr 5 0 0 0), (12, .v (.int .i64 i))] (fun l => tm = l) ∧ hp = lHp m pc tk s i,
    ⟨m + 4, [6, 7, 8, 9, 10, 11], tmk 72 0 [(0, .v (.int .i64 m)), (2, .v (.int .u32 pc)), (3, .v (.bool tk)), (9, .v (.bool true)), (10, .ptr 5 0 0 0), (12, .v (.int .i64 (0 : Nat)))], lHp m pc tk s 0, ?_⟩, ?_⟩
  · repeat ((conv => whnf); (first | refine Cnd.yes ?_ | refine Cnd.no ?_ | refine And.intro rfl ?_ | refine And.intro (by omega) ?_ | (refine And.intro ?_ ?_; focus (simp only [IntKind.wrap_i64, IntKind.wrap_u64, IntKind.wrap_u32]; omega)) | (refine And.intro ?_ ?_; focus (simp only [zl1, zl2, zl3, zl4, zl5, zl6, zl7, zl8] <;> omega))))
    conv => whnf
    exact ⟨0, by omega, by omega, rfl, (tmkK_eq _ _ _ _).mpr rfl, rfl⟩
  · rintro cnt tm hp M' ⟨i, hi, rfl, rfl, htm, rfl⟩
    conv at htm => whnf
    subst htm
    repeat ((conv => whnf); (first | refine Cnd.yes ?_ | refine Cnd.no ?_ | refine And.intro rfl ?_ | refine And.intro (by omega) ?_ | (refine And.intro ?_ ?_; focus (simp only [IntKind.wrap_i64, IntKind.wrap_u64, IntKind.wrap_u32]; omega)) | (refine And.intro ?_ ?_; focus (simp only [zl1, zl2, zl3, zl4, zl5, zl6, zl7, zl8] <;> omega))))
    conv => whnf
    have e3 : IntKind.i64.wrap ((m : Int) + 4) = m + 4 := by rw [IntKind.wrap_i64]; omega
    rw [e3]
    refine Cnd.mk (fun hlt => ?_) fun hge => ?_
    · have hin : i < m + 4 := by have := of_decide_eq_true hlt; omega
      repeat ((conv => whnf); (first | refine Cnd.yes ?_ | refine Cnd.no ?_ | refine And.intro rfl ?_ | refine And.intro (by omega) ?_ | (refine And.intro ?_ ?_; focus (simp only [IntKind.wrap_i64, IntKind.wrap_u64, IntKind.wrap_u32]; omega)) | (refine And.intro ?_ ?_; focus (simp only [zl1, zl2, zl3, zl4, zl5, zl6, zl7, zl8] <;> omega))))
      conv => whnf
      refine ⟨m, hist m tk i, pc, tk, cnts m pc tk (seedC s) i, rfl, rfl, by omega, hist_lt (by omega) i, h3, cnts_range (seedC_range s) i, ?_⟩
      repeat ((conv => whnf); (first | refine Cnd.yes ?_ | refine Cnd.no ?_ | refine And.intro rfl ?_ | refine And.intro (by omega) ?_ | (refine And.intro ?_ ?_; focus (simp only [IntKind.wrap_i64, IntKind.wrap_u64, IntKind.wrap_u32]; omega)) | (refine And.intro ?_ ?_; focus (simp only [zl1, zl2, zl3, zl4, zl5, zl6, zl7, zl8] <;> omega))))
      conv => whnf
      refine ⟨m + 4 - (i + 1), [0, 1, 2, 3, 4, 5], tmk 72 0 [(0, .v (.int .i64 m)), (2, .v (.int .u32 pc)), (3, .v (.bool tk)), (9, .v (.bool true)), (10, .ptr 5 0 0 0), (12, .v (.int .i64 (i + 1 : Nat)))], lHp m pc tk s (i + 1), by omega, ?_⟩
      repeat ((conv => whnf); (first | refine Cnd.yes ?_ | refine Cnd.no ?_ | refine And.intro rfl ?_ | refine And.intro (by omega) ?_ | (refine And.intro ?_ ?_; focus (simp only [IntKind.wrap_i64, IntKind.wrap_u64, IntKind.wrap_u32]; omega)) | (refine And.intro ?_ ?_; focus (simp only [zl1, zl2, zl3, zl4, zl5, zl6, zl7, zl8] <;> omega))))
      conv => whnf
      exact ⟨i + 1, by omega, rfl, rfl, (tmkK_eq _ _ _ _).mpr rfl, rfl⟩
    · have hin : i = m + 4 := by have := of_decide_eq_false hge; omega
      subst hin
      repeat ((conv => whnf); (first | refine Cnd.yes ?_ | refine Cnd.no ?_ | refine And.intro rfl ?_ | refine And.intro (by omega) ?_ | (refine And.intro ?_ ?_; focus (simp only [IntKind.wrap_i64, IntKind.wrap_u64, IntKind.wrap_u32]; omega)) | (refine And.intro ?_ ?_; focus (simp only [zl1, zl2, zl3, zl4, zl5, zl6, zl7, zl8] <;> omega))))
      conv => whnf
      refine Cnd.mk (fun htk => ?_) fun htk => ?_
      · subst htk
        repeat ((conv => whnf); (first | refine Cnd.yes ?_ | refine Cnd.no ?_ | refine And.intro rfl ?_ | refine And.intro (by omega) ?_ | (refine And.intro ?_ ?_; focus (simp only [IntKind.wrap_i64, IntKind.wrap_u64, IntKind.wrap_u32]; omega)) | (refine And.intro ?_ ?_; focus (simp only [zl1, zl2, zl3, zl4, zl5, zl6, zl7, zl8] <;> omega))))
        conv => whnf
        have e6 : IntKind.u64.wrap ((m : Nat) : Int) = ((m : Nat) : Int) := by rw [IntKind.wrap_u64]; omega
        rw [e6]
        have e5 : IntKind.u32.wrap (IntKind.u32.wrap (1 * 2 ^ min ((m : Int)).toNat IntKind.u32.bits) - 1) = ((2 ^ m - 1 : Nat) : Int) := by
          rw [shl32 (by omega), IntKind.wrap_u32]
          have := Nat.pow_le_pow_right (n := 2) (by omega) hm.2
          have := Nat.pow_pos (n := m) (show 0 < 2 by omega)
          omega
        rw [e5]
        refine ⟨true, m, hist m true (m + 4), pc, cnts m pc true (seedC s) (m + 4), rfl, rfl, by omega, hist_lt (by omega) _, h3, ?_⟩
        repeat ((conv => whnf); (first | refine Cnd.yes ?_ | refine Cnd.no ?_ | refine And.intro rfl ?_ | refine And.intro (by omega) ?_ | (refine And.intro ?_ ?_; focus (simp only [IntKind.wrap_i64, IntKind.wrap_u64, IntKind.wrap_u32]; omega)) | (refine And.intro ?_ ?_; focus (simp only [zl1, zl2, zl3, zl4, zl5, zl6, zl7, zl8] <;> omega))))
        conv => whnf
        refine Cnd.tt (by rw [decide_eq_true (cnts_true hm.1 (seedC_range s))]; rfl) ?_
        repeat ((conv => whnf); (first | refine Cnd.yes ?_ | refine Cnd.no ?_ | refine And.intro rfl ?_ | refine And.intro (by omega) ?_ | (refine And.intro ?_ ?_; focus (simp only [IntKind.wrap_i64, IntKind.wrap_u64, IntKind.wrap_u32]; omega)) | (refine And.intro ?_ ?_; focus (simp only [zl1, zl2, zl3, zl4, zl5, zl6, zl7, zl8] <;> omega))))
        conv => whnf
        rw [hist_true hm.1 (m + 4) (by omega), show ((((2 ^ m - 1 : Nat) : Int) == ((2 ^ m - 1 : Nat) : Int))) = true from by simp]
        exact hK _
      · subst htk
        repeat ((conv => whnf); (first | refine Cnd.yes ?_ | refine Cnd.no ?_ | refine And.intro rfl ?_ | refine And.intro (by omega) ?_ | (refine And.intro ?_ ?_; focus (simp only [IntKind.wrap_i64, IntKind.wrap_u64, IntKind.wrap_u32]; omega)) | (refine And.intro ?_ ?_; focus (simp only [zl1, zl2, zl3, zl4, zl5, zl6, zl7, zl8] <;> omega))))
        conv => whnf
        refine ⟨true, m, hist m false (m + 4), pc, cnts m pc false (seedC s) (m + 4), rfl, rfl, by omega, hist_lt (by omega) _, h3, ?_⟩
        repeat ((conv => whnf); (first | refine Cnd.yes ?_ | refine Cnd.no ?_ | refine And.intro rfl ?_ | refine And.intro (by omega) ?_ | (refine And.intro ?_ ?_; focus (simp only [IntKind.wrap_i64, IntKind.wrap_u64, IntKind.wrap_u32]; omega)) | (refine And.intro ?_ ?_; focus (simp only [zl1, zl2, zl3, zl4, zl5, zl6, zl7, zl8] <;> omega))))
        conv => whnf
        refine Cnd.tt (by rw [decide_eq_false (cnts_false hm.1 (seedC_range s))]; rfl) ?_
        repeat ((conv => whnf); (first | refine Cnd.yes ?_ | refine Cnd.no ?_ | refine And.intro rfl ?_ | refine And.intro (by omega) ?_ | (refine And.intro ?_ ?_; focus (simp only [IntKind.wrap_i64, IntKind.wrap_u64, IntKind.wrap_u32]; omega)) | (refine And.intro ?_ ?_; focus (simp only [zl1, zl2, zl3, zl4, zl5, zl6, zl7, zl8] <;> omega))))
        conv => whnf
        rw [hist_false]
        exact hK _
end Go.Proofs.YtmhgiffhmcigpaaDoor
