/-
  A line is set: walked; its contract; in plain numbers what a line then is.
-/
import Derived.Test.YtncninjgfllcdaaDoorCk
namespace Go.Proofs.YtncninjgfllcdaaDoor
open Go Go.Vc
set_option maxRecDepth 100000
set_option linter.unusedSimpArgs false
set_option linter.unusedVariables false
def setC (c : Nat → Nat) (i : Nat) (ws : Nat → Nat) : Nat → Nat → Nat
  | 0 => c
  | k + 1 => putC (setC c i ws k) (16 * i + 4 * k) 4 (ws k)
theorem setline_run (M : HL) (K : SV → List Ent → HL → Prop) (n i : Nat) (c ws : Nat → Nat) (hn : n ≤ 65536) (hi : i < n / 16) (hw : ∀ k, ws k < 4294967296) (hK : K (.v (.bool true)) (memHp true n (setC c i ws 4)) M) :
    runF G4 pf26 [.ptr 0 0 0 0, .v (.int .i64 i), lnV ws] (memHp true n c) M fun v hp2 M2 => ∃ m v' hp', Wk (llen (memHp true n c)) m [v] hp2 [v'] hp' (K v' hp' M2) := by
  have e : IntKind.i64.wrap (Int.tdiv n 16) = (n / 16 : Nat) := by rw [Int.tdiv_eq_ediv_of_nonneg (by omega), IntKind.wrap_i64]; omega
  repeat ((conv => whnf); (first | refine Cnd.yes ?_ | refine Cnd.no ?_ | refine And.intro rfl ?_ | refine And.intro (by omega) ?_ | (refine And.intro ?_ ?_; focus (simp only [IntKind.wrap_i64, IntKind.wrap_u64, IntKind.wrap_u32]; omega)) | (refine And.intro ?_ ?_; focus (simp only [zl1, zl2, zl3, zl4, zl5, zl6, zl7, zl8] <;> omega))))
  conv => whnf
  rw [e]
  clear e
  refine Cnd.ff (decide_eq_false (by omega)) ?_
  repeat ((conv => whnf); (first | refine Cnd.yes ?_ | refine Cnd.no ?_ | refine And.intro rfl ?_ | refine And.intro (by omega) ?_ | (refine And.intro ?_ ?_; focus (simp only [IntKind.wrap_i64, IntKind.wrap_u64, IntKind.wrap_u32]; omega)) | (refine And.intro ?_ ?_; focus (simp only [zl1, zl2, zl3, zl4, zl5, zl6, zl7, zl8] <;> omega))))
  conv => whnf
  refine ⟨InvS 35 (fun s : Nat => 4 - s) (fun s : Nat => s ≤ 4) (fun s : Nat => [(0, .ptr 0 0 0 0), (1, .v (.int .i64 i)), (17, lnV ws), (18, .v (.int .i64 s))]) (fun s : Nat => memHp true n (setC c i ws s)) M, ⟨(fun s : Nat => 4 - s) 0, [0, 1], tmk 35 0 ((fun s : Nat => [(0, .ptr 0 0 0 0), (1, .v (.int .i64 i)), (17, lnV ws), (18, .v (.int .i64 s))]) 0), (fun s : Nat => memHp true n (setC c i ws s)) 0, ?_⟩, ?_⟩
  · repeat ((conv => whnf); (first | refine Cnd.yes ?_ | refine Cnd.no ?_ | refine And.intro rfl ?_ | refine And.intro (by omega) ?_ | (refine And.intro ?_ ?_; focus (simp only [IntKind.wrap_i64, IntKind.wrap_u64, IntKind.wrap_u32]; omega)) | (refine And.intro ?_ ?_; focus (simp only [zl1, zl2, zl3, zl4, zl5, zl6, zl7, zl8] <;> omega))))
    conv => whnf
    exact ⟨0, by omega, rfl, rfl, (tmkK_eq _ _ _ _).mpr rfl, rfl⟩
  · rintro cnt tm hp M1 ⟨k, hk, rfl, rfl, htm, rfl⟩
    conv at htm => whnf
    subst htm
    have e2 : IntKind.i64.wrap (IntKind.i64.wrap ((i : Int) * 16) + IntKind.i64.wrap ((k : Int) * 4)) = ((16 * i + 4 * k : Nat) : Int) := by simp only [IntKind.wrap_i64]; omega
    repeat ((conv => whnf); (first | refine Cnd.yes ?_ | refine Cnd.no ?_ | refine And.intro rfl ?_ | refine And.intro (by omega) ?_ | (refine And.intro ?_ ?_; focus (simp only [IntKind.wrap_i64, IntKind.wrap_u64, IntKind.wrap_u32]; omega)) | (refine And.intro ?_ ?_; focus (simp only [zl1, zl2, zl3, zl4, zl5, zl6, zl7, zl8] <;> omega))))
    conv => whnf
    refine Cnd.mk (fun hlt => ?_) fun hge => ?_
    · have hk : k < 4 := by have := of_decide_eq_true hlt; omega
      repeat ((conv => whnf); (first | refine Cnd.yes ?_ | refine Cnd.no ?_ | refine And.intro rfl ?_ | refine And.intro (by omega) ?_ | (refine And.intro ?_ ?_; focus (simp only [IntKind.wrap_i64, IntKind.wrap_u64, IntKind.wrap_u32]; omega)) | (refine And.intro ?_ ?_; focus (simp only [zl1, zl2, zl3, zl4, zl5, zl6, zl7, zl8] <;> omega))))
      conv => whnf
      have hk4 : k = 0 ∨ k = 1 ∨ k = 2 ∨ k = 3 := by omega
      rcases hk4 with rfl | rfl | rfl | rfl
      all_goals
        first
          | refine ⟨0, rfl, by omega, ?_⟩
          | refine ⟨1, rfl, by omega, ?_⟩
          | refine ⟨2, rfl, by omega, ?_⟩
          | refine ⟨3, rfl, by omega, ?_⟩
        repeat ((conv => whnf); (first | refine Cnd.yes ?_ | refine Cnd.no ?_ | refine And.intro rfl ?_ | refine And.intro (by omega) ?_ | (refine And.intro ?_ ?_; focus (simp only [IntKind.wrap_i64, IntKind.wrap_u64, IntKind.wrap_u32]; omega)) | (refine And.intro ?_ ?_; focus (simp only [zl1, zl2, zl3, zl4, zl5, zl6, zl7, zl8] <;> omega))))
        conv => whnf
        rw [e2]
        repeat ((conv => whnf); (first | refine Cnd.yes ?_ | refine Cnd.no ?_ | refine And.intro rfl ?_ | refine And.intro (by omega) ?_ | (refine And.intro ?_ ?_; focus (simp only [IntKind.wrap_i64, IntKind.wrap_u64, IntKind.wrap_u32]; omega)) | (refine And.intro ?_ ?_; focus (simp only [zl1, zl2, zl3, zl4, zl5, zl6, zl7, zl8] <;> omega))))
        conv => whnf
        rw [Nat.zero_add, Int.toNat_natCast, Int.toNat_natCast]
        first
          | refine ⟨n, 16 * i + 4 * 0, n - (16 * i + 4 * 0), 4, ws 0, setC c i ws 0, rfl, rfl, by omega, by omega, by omega, hw 0, by omega, ?_⟩
          | refine ⟨n, 16 * i + 4 * 1, n - (16 * i + 4 * 1), 4, ws 1, setC c i ws 1, rfl, rfl, by omega, by omega, by omega, hw 1, by omega, ?_⟩
          | refine ⟨n, 16 * i + 4 * 2, n - (16 * i + 4 * 2), 4, ws 2, setC c i ws 2, rfl, rfl, by omega, by omega, by omega, hw 2, by omega, ?_⟩
          | refine ⟨n, 16 * i + 4 * 3, n - (16 * i + 4 * 3), 4, ws 3, setC c i ws 3, rfl, rfl, by omega, by omega, by omega, hw 3, by omega, ?_⟩
        repeat ((conv => whnf); (first | refine Cnd.yes ?_ | refine Cnd.no ?_ | refine And.intro rfl ?_ | refine And.intro (by omega) ?_ | (refine And.intro ?_ ?_; focus (simp only [IntKind.wrap_i64, IntKind.wrap_u64, IntKind.wrap_u32]; omega)) | (refine And.intro ?_ ?_; focus (simp only [zl1, zl2, zl3, zl4, zl5, zl6, zl7, zl8] <;> omega))))
        conv => whnf
        first
          | (refine ⟨(fun s : Nat => 4 - s) (1), [0, 1], tmk 35 0 ((fun s : Nat => [(0, .ptr 0 0 0 0), (1, .v (.int .i64 i)), (17, lnV ws), (18, .v (.int .i64 s))]) (1)), (fun s : Nat => memHp true n (setC c i ws s)) (1), ?_, ?_⟩; focus (first | (simp only []; omega) | omega))
          | (refine ⟨(fun s : Nat => 4 - s) (2), [0, 1], tmk 35 0 ((fun s : Nat => [(0, .ptr 0 0 0 0), (1, .v (.int .i64 i)), (17, lnV ws), (18, .v (.int .i64 s))]) (2)), (fun s : Nat => memHp true n (setC c i ws s)) (2), ?_, ?_⟩; focus (first | (simp only []; omega) | omega))
          | (refine ⟨(fun s : Nat => 4 - s) (3), [0, 1], tmk 35 0 ((fun s : Nat => [(0, .ptr 0 0 0 0), (1, .v (.int .i64 i)), (17, lnV ws), (18, .v (.int .i64 s))]) (3)), (fun s : Nat => memHp true n (setC c i ws s)) (3), ?_, ?_⟩; focus (first | (simp only []; omega) | omega))
          | (refine ⟨(fun s : Nat => 4 - s) (4), [0, 1], tmk 35 0 ((fun s : Nat => [(0, .ptr 0 0 0 0), (1, .v (.int .i64 i)), (17, lnV ws), (18, .v (.int .i64 s))]) (4)), (fun s : Nat => memHp true n (setC c i ws s)) (4), ?_, ?_⟩; focus (first | (simp only []; omega) | omega))
        repeat ((conv => whnf); (first | refine Cnd.yes ?_ | refine Cnd.no ?_ | refine And.intro rfl ?_ | refine And.intro (by omega) ?_ | (refine And.intro ?_ ?_; focus (simp only [IntKind.wrap_i64, IntKind.wrap_u64, IntKind.wrap_u32]; omega)) | (refine And.intro ?_ ?_; focus (simp only [zl1, zl2, zl3, zl4, zl5, zl6, zl7, zl8] <;> omega))))
        conv => whnf
        first
          | exact ⟨1, (show 1 ≤ 4 by omega), rfl, rfl, (tmkK_eq _ _ _ _).mpr rfl, rfl⟩
          | exact ⟨2, (show 2 ≤ 4 by omega), rfl, rfl, (tmkK_eq _ _ _ _).mpr rfl, rfl⟩
          | exact ⟨3, (show 3 ≤ 4 by omega), rfl, rfl, (tmkK_eq _ _ _ _).mpr rfl, rfl⟩
          | exact ⟨4, (show 4 ≤ 4 by omega), rfl, rfl, (tmkK_eq _ _ _ _).mpr rfl, rfl⟩
    · have hin : k = 4 := by have := of_decide_eq_false hge; omega
      subst hin
      repeat ((conv => whnf); (first | refine Cnd.yes ?_ | refine Cnd.no ?_ | refine And.intro rfl ?_ | refine And.intro (by omega) ?_ | (refine And.intro ?_ ?_; focus (simp only [IntKind.wrap_i64, IntKind.wrap_u64, IntKind.wrap_u32]; omega)) | (refine And.intro ?_ ?_; focus (simp only [zl1, zl2, zl3, zl4, zl5, zl6, zl7, zl8] <;> omega))))
      conv => whnf
      refine ⟨[0, 1], .v (.bool true), memHp true n (setC c i ws 4), ?_⟩
      repeat ((conv => whnf); (first | refine Cnd.yes ?_ | refine Cnd.no ?_ | refine And.intro rfl ?_ | refine And.intro (by omega) ?_ | (refine And.intro ?_ ?_; focus (simp only [IntKind.wrap_i64, IntKind.wrap_u64, IntKind.wrap_u32]; omega)) | (refine And.intro ?_ ?_; focus (simp only [zl1, zl2, zl3, zl4, zl5, zl6, zl7, zl8] <;> omega))))
      conv => whnf
      exact hK
def setlineS : Vc.Spec := fun args hp _ K => ∃ (n i : Nat) (c ws : Nat → Nat), args = [.ptr 0 0 0 0, .v (.int .i64 i), lnV ws] ∧ hp = memHp true n c ∧ n ≤ 65536 ∧ i < n / 16 ∧ (∀ k, ws k < 4294967296) ∧ K (.v (.bool true)) (memHp true n (setC c i ws 4))
theorem setline_ok : SOK Tryd.prog 26 setlineS := by
  refine TOK.weaken (TOK.out (runF_eq G4_ok mixed at26.1 at26.2 pf26_eq)) fun args hp M K h => ?_
  obtain ⟨n, i, c, ws, rfl, rfl, h1, h2, h3, h4⟩ := h
  exact setline_run M K n i c ws h1 h2 h3 h4
theorem setC_lt {c : Nat → Nat} (hc : ∀ j, c j < 256) (i : Nat) (ws : Nat → Nat) : ∀ k j, setC c i ws k j < 256
  | 0, j => hc j
  | k + 1, j => putC_lt (setC_lt hc i ws k) ..
theorem getN4 (c : Nat → Nat) (off : Nat) : getN c off 4 = c off + c (off + 1) * 256 + c (off + 2) * 65536 + c (off + 3) * 16777216 := by
  simp [getN]
theorem lnW_put {c : Nat → Nat} (hc : ∀ j, c j < 256) {a s : Nat} (v : Nat) (hs : s = 1 ∨ s = 2 ∨ s = 4) (h : a % 4 + s ≤ 4) {k : Nat} (hk : k < 4) :
    lnW (putC c a s v) (a / 16) k = if k = a / 4 % 4 then turnN (lnW c (a / 16) k) (8 * (a % 4)) (8 * s) v else lnW c (a / 16) k := by
  unfold lnW
  rw [getN4, getN4]
  by_cases hp : k = a / 4 % 4
  · rw [if_pos hp]
    have ha : 16 * (a / 16) + 4 * k = a - a % 4 := by omega
    rw [ha]
    have h0 := hc (a - a % 4)
    have h1 := hc (a - a % 4 + 1)
    have h2 := hc (a - a % 4 + 2)
    have h3 := hc (a - a % 4 + 3)
    generalize hr : a % 4 = r at *
    have hle : r ≤ a := by omega
    generalize hb : a - r = b at *
    obtain rfl : a = b + r := by omega
    have hr4 : r = 0 ∨ r = 1 ∨ r = 2 ∨ r = 3 := by omega
    generalize e0 : c b = c0 at *
    generalize e1 : c (b + 1) = c1 at *
    generalize e2 : c (b + 2) = c2 at *
    generalize e3 : c (b + 3) = c3 at *
    unfold turnN putC
    rcases hs with rfl | rfl | rfl <;> rcases hr4 with rfl | rfl | rfl | rfl <;> (try omega)
    all_goals
      simp only [Nat.reduceMul, Nat.reduceAdd, Nat.reducePow, Nat.mul_zero, Nat.zero_add, Nat.pow_zero, Nat.mod_one, Nat.one_mul, Nat.add_zero]
      repeat' split
      all_goals first
        | omega
        | (simp only [e0, e1, e2, e3, Nat.sub_self, Nat.add_sub_cancel_left, Nat.pow_zero, Nat.div_one, Nat.reduceSub, Nat.reducePow, Nat.add_sub_add_left]; omega)
  · rw [if_neg hp]
    unfold putC
    rw [if_neg (by omega), if_neg (by omega), if_neg (by omega), if_neg (by omega)]
theorem part_get {c : Nat → Nat} (hc : ∀ j, c j < 256) {a s : Nat} (hs : s = 1 ∨ s = 2 ∨ s = 4) (h : a % 4 + s ≤ 4) : bitsN (lnW c (a / 16) (a / 4 % 4)) (8 * (a % 4)) (8 * s) = getN c a s := by
  unfold lnW
  rw [getN4]
  have ha : 16 * (a / 16) + 4 * (a / 4 % 4) = a - a % 4 := by omega
  rw [ha]
  have h0 := hc (a - a % 4)
  have h1 := hc (a - a % 4 + 1)
  have h2 := hc (a - a % 4 + 2)
  have h3 := hc (a - a % 4 + 3)
  generalize hr : a % 4 = r at *
  generalize hb : a - r = b at *
  obtain rfl : a = b + r := by omega
  have hr4 : r = 0 ∨ r = 1 ∨ r = 2 ∨ r = 3 := by omega
  unfold bitsN
  rcases hs with rfl | rfl | rfl <;> rcases hr4 with rfl | rfl | rfl | rfl <;> (try omega)
  all_goals
    simp only [getN, Nat.reduceMul, Nat.reduceAdd, Nat.reducePow, Nat.mul_zero, Nat.zero_add, Nat.pow_zero, Nat.div_one, Nat.mul_one, Nat.add_zero, Nat.add_assoc]
    omega
theorem clear_low : ∀ x, x < 256 → (x &&& (2 ^ 32 - (0 + 1)) = x) ∧ (x &&& (2 ^ 32 - (1 + 1)) = x / 2 * 2) ∧ (x &&& (2 ^ 32 - (3 + 1)) = x / 4 * 4) := by decide +kernel
end Go.Proofs.YtncninjgfllcdaaDoor
