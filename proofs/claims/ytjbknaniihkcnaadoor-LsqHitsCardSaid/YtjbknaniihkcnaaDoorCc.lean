/-
  The queue: Bits, Ahead, walked (a range over slices.Backward); their contracts.
-/
import Derived.Test.YtjbknaniihkcnaaDoorCb
namespace Go.Proofs.YtjbknaniihkcnaaDoor
open Go Go.Vc
set_option maxRecDepth 100000
set_option linter.unusedSimpArgs false
set_option linter.unusedVariables false
set_option maxHeartbeats 4000000
theorem and32 {x n : Nat} (hx : x < 4294967296) (hn : n ≤ 32) : IntKind.u32.wrap ((BitVec.ofInt IntKind.u32.bits (x : Int) &&& BitVec.ofInt IntKind.u32.bits ((2 ^ n - 1 : Nat) : Int)).toNat : Int) = ((x % 2 ^ n : Nat) : Int) := by
  have h1 : 2 ^ n ≤ 2 ^ 32 := Nat.pow_le_pow_right (by omega) hn
  rw [BitVec.toNat_and, ofInt32 hx, ofInt32 (by omega), Nat.and_two_pow_sub_one_eq_mod, IntKind.wrap_u32]
  have h2 : x % 2 ^ n ≤ x := Nat.mod_le _ _
  omega
theorem shr32 {x low : Nat} (hl : low < 32) : ((x : Int).fdiv (2 ^ min ((low : Int)).toNat IntKind.u32.bits)) = ((x / 2 ^ low : Nat) : Int) := by
  have e : min ((low : Int)).toNat IntKind.u32.bits = low := by simp only [IntKind.bits]; omega
  rw [e, Int.fdiv_eq_ediv_of_nonneg _ (Int.le_of_lt (Int.pow_pos (by decide)))]
  simp
theorem bits_run (M : HL) (K : SV → List Ent → HL → Prop) (x low n : Nat) (hx : x < 4294967296) (hl : low < 32) (hn : n = 8 ∨ n = 16 ∨ n = 32) (hK : K (.v (.int .u32 (x / 2 ^ low % 2 ^ n : Nat))) [] M) :
    runF G0 pf24 [.v (.int .u32 x), .v (.int .i64 low), .v (.int .i64 n)] [] M K := by
  have h2 : x / 2 ^ low ≤ x := Nat.div_le_self _ _
  have e1 := shr32 (x := x) hl
  rcases hn with rfl | rfl | rfl
  · have e2 := and32 (x := x / 2 ^ low) (n := 8) (by omega) (by omega)
    repeat ((conv => whnf); (first | refine Cnd.yes ?_ | refine Cnd.no ?_ | refine And.intro rfl ?_ | refine And.intro (by omega) ?_ | (refine And.intro ?_ ?_; focus (simp only [IntKind.wrap_i64, IntKind.wrap_u64, IntKind.wrap_u32]; omega)) | (refine And.intro ?_ ?_; focus (simp only [zl1, zl2, zl3, zl4, zl5, zl6, zl7, zl8, zl9] <;> omega)) | (refine Cnd.tt ?_ ?_; focus (first | (apply decide_eq_true; omega) | (simp only [zq1, zq2, zq3, zq4, zq5, zq6, zq7, zq8, zq9, zq10, zq11, zq12] <;> omega) | rfl)) | (refine Cnd.ff ?_ ?_; focus (first | (apply decide_eq_false; omega) | (simp only [zq1, zq2, zq3, zq4, zq5, zq6, zq7, zq8, zq9, zq10, zq11, zq12] <;> omega) | rfl))))
    conv => whnf
    intro Mr hMr
    repeat ((conv => whnf); (first | refine Cnd.yes ?_ | refine Cnd.no ?_ | refine And.intro rfl ?_ | refine And.intro (by omega) ?_ | (refine And.intro ?_ ?_; focus (simp only [IntKind.wrap_i64, IntKind.wrap_u64, IntKind.wrap_u32]; omega)) | (refine And.intro ?_ ?_; focus (simp only [zl1, zl2, zl3, zl4, zl5, zl6, zl7, zl8, zl9] <;> omega)) | (refine Cnd.tt ?_ ?_; focus (first | (apply decide_eq_true; omega) | (simp only [zq1, zq2, zq3, zq4, zq5, zq6, zq7, zq8, zq9, zq10, zq11, zq12] <;> omega) | rfl)) | (refine Cnd.ff ?_ ?_; focus (first | (apply decide_eq_false; omega) | (simp only [zq1, zq2, zq3, zq4, zq5, zq6, zq7, zq8, zq9, zq10, zq11, zq12] <;> omega) | rfl))))
    conv => whnf
    exact Kat2 hK rfl (by rw [e1, ← e2]; rfl)
  · have e2 := and32 (x := x / 2 ^ low) (n := 16) (by omega) (by omega)
    repeat ((conv => whnf); (first | refine Cnd.yes ?_ | refine Cnd.no ?_ | refine And.intro rfl ?_ | refine And.intro (by omega) ?_ | (refine And.intro ?_ ?_; focus (simp only [IntKind.wrap_i64, IntKind.wrap_u64, IntKind.wrap_u32]; omega)) | (refine And.intro ?_ ?_; focus (simp only [zl1, zl2, zl3, zl4, zl5, zl6, zl7, zl8, zl9] <;> omega)) | (refine Cnd.tt ?_ ?_; focus (first | (apply decide_eq_true; omega) | (simp only [zq1, zq2, zq3, zq4, zq5, zq6, zq7, zq8, zq9, zq10, zq11, zq12] <;> omega) | rfl)) | (refine Cnd.ff ?_ ?_; focus (first | (apply decide_eq_false; omega) | (simp only [zq1, zq2, zq3, zq4, zq5, zq6, zq7, zq8, zq9, zq10, zq11, zq12] <;> omega) | rfl))))
    conv => whnf
    intro Mr hMr
    repeat ((conv => whnf); (first | refine Cnd.yes ?_ | refine Cnd.no ?_ | refine And.intro rfl ?_ | refine And.intro (by omega) ?_ | (refine And.intro ?_ ?_; focus (simp only [IntKind.wrap_i64, IntKind.wrap_u64, IntKind.wrap_u32]; omega)) | (refine And.intro ?_ ?_; focus (simp only [zl1, zl2, zl3, zl4, zl5, zl6, zl7, zl8, zl9] <;> omega)) | (refine Cnd.tt ?_ ?_; focus (first | (apply decide_eq_true; omega) | (simp only [zq1, zq2, zq3, zq4, zq5, zq6, zq7, zq8, zq9, zq10, zq11, zq12] <;> omega) | rfl)) | (refine Cnd.ff ?_ ?_; focus (first | (apply decide_eq_false; omega) | (simp only [zq1, zq2, zq3, zq4, zq5, zq6, zq7, zq8, zq9, zq10, zq11, zq12] <;> omega) | rfl))))
    conv => whnf
    exact Kat2 hK rfl (by rw [e1, ← e2]; rfl)
  · have e2 := and32 (x := x / 2 ^ low) (n := 32) (by omega) (by omega)
    repeat ((conv => whnf); (first | refine Cnd.yes ?_ | refine Cnd.no ?_ | refine And.intro rfl ?_ | refine And.intro (by omega) ?_ | (refine And.intro ?_ ?_; focus (simp only [IntKind.wrap_i64, IntKind.wrap_u64, IntKind.wrap_u32]; omega)) | (refine And.intro ?_ ?_; focus (simp only [zl1, zl2, zl3, zl4, zl5, zl6, zl7, zl8, zl9] <;> omega)) | (refine Cnd.tt ?_ ?_; focus (first | (apply decide_eq_true; omega) | (simp only [zq1, zq2, zq3, zq4, zq5, zq6, zq7, zq8, zq9, zq10, zq11, zq12] <;> omega) | rfl)) | (refine Cnd.ff ?_ ?_; focus (first | (apply decide_eq_false; omega) | (simp only [zq1, zq2, zq3, zq4, zq5, zq6, zq7, zq8, zq9, zq10, zq11, zq12] <;> omega) | rfl))))
    conv => whnf
    intro Mr hMr
    repeat ((conv => whnf); (first | refine Cnd.yes ?_ | refine Cnd.no ?_ | refine And.intro rfl ?_ | refine And.intro (by omega) ?_ | (refine And.intro ?_ ?_; focus (simp only [IntKind.wrap_i64, IntKind.wrap_u64, IntKind.wrap_u32]; omega)) | (refine And.intro ?_ ?_; focus (simp only [zl1, zl2, zl3, zl4, zl5, zl6, zl7, zl8, zl9] <;> omega)) | (refine Cnd.tt ?_ ?_; focus (first | (apply decide_eq_true; omega) | (simp only [zq1, zq2, zq3, zq4, zq5, zq6, zq7, zq8, zq9, zq10, zq11, zq12] <;> omega) | rfl)) | (refine Cnd.ff ?_ ?_; focus (first | (apply decide_eq_false; omega) | (simp only [zq1, zq2, zq3, zq4, zq5, zq6, zq7, zq8, zq9, zq10, zq11, zq12] <;> omega) | rfl))))
    conv => whnf
    exact Kat2 hK rfl (by rw [e1, ← e2]; rfl)
def bitsS : Vc.Spec := fun args hp _ K => ∃ x low n : Nat, args = [.v (.int .u32 x), .v (.int .i64 low), .v (.int .i64 n)] ∧ hp = [] ∧ x < 4294967296 ∧ low < 32 ∧ (n = 8 ∨ n = 16 ∨ n = 32) ∧ K (.v (.int .u32 (x / 2 ^ low % 2 ^ n : Nat))) []
theorem bits_ok : SOK Tryd.prog 24 bitsS := by
  refine TOK.weaken (runF_eq G0_ok mixed at24.1 at24.2 pf24_eq) fun args hp M K h => ?_
  obtain ⟨x, low, n, rfl, rfl, h1, h2, h3, h4⟩ := h
  exact bits_run M K x low n h1 h2 h3 h4
/-- Does a store have a byte of a load's? -/
def hit (y x : Q7) : Prop := y.st = true ∧ y.ad < x.ad + x.sz ∧ x.ad < y.ad + y.sz
/-- What stands ahead of a load. -/
def AheadOK (P : List Q7) (x : Q7) (k v id : Int) : Prop :=
  (k = 0 ∧ v = 0 ∧ id = -1 ∧ ∀ j, j < P.length → ¬ hit (P.getD j default) x) ∨
  ∃ j, j < P.length ∧ hit (P.getD j default) x ∧ (∀ i, j < i → i < P.length → ¬ hit (P.getD i default) x) ∧ id = (P.getD j default).id ∧
    ((k = 2 ∧ v = 0 ∧ ¬ ((P.getD j default).ad ≤ x.ad ∧ x.ad + x.sz ≤ (P.getD j default).ad + (P.getD j default).sz ∧ (P.getD j default).kn = true)) ∨
     (k = 1 ∧ ((P.getD j default).ad ≤ x.ad ∧ x.ad + x.sz ≤ (P.getD j default).ad + (P.getD j default).sz ∧ (P.getD j default).kn = true) ∧ v = (((P.getD j default).v.toNat / 2 ^ (8 * (x.ad - (P.getD j default).ad).toNat) % 2 ^ (8 * x.sz.toNat) : Nat) : Int)))
def Fit7 (x : Q7) : Prop := 0 ≤ x.ad ∧ x.ad < 4294967296 ∧ (x.sz = 1 ∨ x.sz = 2 ∨ x.sz = 4) ∧ 0 ≤ x.v ∧ x.v < 4294967296
noncomputable def specsC : Nat → Option Vc.Trans := tget [(21, frameT loadS), (24, frameT bitsS)]
noncomputable def GC : Nat → Option Vc.Trans := tabG specsC (tget tab) 5
theorem GC_ok : GOK Tryd.prog GC := tabG_ok (GOK.cons (frame_ok load_ok) (GOK.cons (frame_ok bits_ok) .nil)) tab_ok 5
theorem back31 : IsBack Tryd.prog 31 (some 7) := IsBack.of at31 pf31_eq rfl
theorem back13 : ∀ g s, lookB g (bkOf (pl13 999999)) = some s → IsBack Tryd.prog g s := by
  intro g s h
  by_cases hg : g = 31
  · subst hg
    have : s = some 7 := by
      have h2 : lookB 31 (bkOf (pl13 999999)) = some (some 7) := rfl
      rw [h2] at h
      cases h
      rfl
    rw [this]
    exact back31
  · exfalso
    have h2 : bkOf (pl13 999999) = [(31, some 7)] := rfl
    rw [h2] at h
    unfold lookB at h
    split at h
    · rename_i hb; exact hg (Nat.eq_of_beq_eq_true hb)
    · cases h
theorem ahead_run (M : HL) (K : SV → List Ent → HL → Prop) (n id : Int) (P : List Q7) (x : Q7) (R : List (List Value)) (len : Nat) (hl : P.length < len) (hl2 : len ≤ P.length + 1 + R.length) (hl3 : len ≤ 1000) (hx : x.id = id) (hP : ∀ y ∈ P, y.id ≠ id)
    (hs : x.st = false) (hp : x.pl = true) (hfx : Fit7 x) (hfP : ∀ y ∈ P, Fit7 y) (hpl : ∀ y ∈ P, y.st = true → y.pl = true)
    (hK : ∀ k v i, AheadOK P x k v i → K (.tup [.v (.int .i64 k), .v (.int .u32 v), .v (.int .i64 i)]) (q1Hp true n len P x R) M) :
    runF GC pf13 [.ptr 0 0 0 0, .v (.int .i64 id)] (q1Hp true n len P x R) M fun v hp2 M2 => ∃ m v' hp', Wk (llen (q1Hp true n len P x R)) m [v] hp2 [v'] hp' (K v' hp' M2) := by
  have hll : (P.map qrow ++ qrow x :: R).length = P.length + 1 + R.length := by simp; omega
  repeat ((conv => whnf); (first | refine Cnd.yes ?_ | refine Cnd.no ?_ | refine And.intro rfl ?_ | refine And.intro (by omega) ?_ | (refine And.intro ?_ ?_; focus (simp only [IntKind.wrap_i64, IntKind.wrap_u64, IntKind.wrap_u32]; omega)) | (refine And.intro ?_ ?_; focus (simp only [zl1, zl2, zl3, zl4, zl5, zl6, zl7, zl8, zl9] <;> omega)) | (refine Cnd.tt ?_ ?_; focus (first | (apply decide_eq_true; omega) | (simp only [zq1, zq2, zq3, zq4, zq5, zq6, zq7, zq8, zq9, zq10, zq11, zq12] <;> omega) | rfl)) | (refine Cnd.ff ?_ ?_; focus (first | (apply decide_eq_false; omega) | (simp only [zq1, zq2, zq3, zq4, zq5, zq6, zq7, zq8, zq9, zq10, zq11, zq12] <;> omega) | rfl))))
  conv => whnf
  refine ⟨n, id, P, x, R, len, rfl, rfl, hl, hl2, hl3, hx, hP, hs, hp, ?_⟩
  repeat ((conv => whnf); (first | refine Cnd.yes ?_ | refine Cnd.no ?_ | refine And.intro rfl ?_ | refine And.intro (by omega) ?_ | (refine And.intro ?_ ?_; focus (simp only [IntKind.wrap_i64, IntKind.wrap_u64, IntKind.wrap_u32]; omega)) | (refine And.intro ?_ ?_; focus (simp only [zl1, zl2, zl3, zl4, zl5, zl6, zl7, zl8, zl9] <;> omega)) | (refine Cnd.tt ?_ ?_; focus (first | (apply decide_eq_true; omega) | (simp only [zq1, zq2, zq3, zq4, zq5, zq6, zq7, zq8, zq9, zq10, zq11, zq12] <;> omega) | rfl)) | (refine Cnd.ff ?_ ?_; focus (first | (apply decide_eq_false; omega) | (simp only [zq1, zq2, zq3, zq4, zq5, zq6, zq7, zq8, zq9, zq10, zq11, zq12] <;> omega) | rfl))))
  conv => whnf
  refine ⟨InvS 112 (fun s : Nat => P.length - s) (fun s : Nat => s ≤ P.length) (fun s : Nat => [(2, .ptr 2 0 0 0), (4, .ptr 3 0 0 0), (5, .ptr 4 0 0 0), (6, .ptr 5 0 0 0), (7, .ptr 6 0 0 0), (26, .slc 1 7 0 P.length), (27, .v (.int .i64 P.length)), (28, .v (.int .i64 s))]) (fun s : Nat => q1Hp true n len P x R ++ [.cells 24 [.ptr 0 0 0 0], .cells 3 [.v (.int .i64 0)], .cells 35 [.v (.int .u32 0)], .cells 3 [.v (.int .i64 0)], .cells 3 [.v (.int .i64 P.length)]]) M, ⟨(fun s : Nat => P.length - s) 0, [0, 1, 2, 3, 4, 5, 6], tmk 112 0 ((fun s : Nat => [(2, .ptr 2 0 0 0), (4, .ptr 3 0 0 0), (5, .ptr 4 0 0 0), (6, .ptr 5 0 0 0), (7, .ptr 6 0 0 0), (26, .slc 1 7 0 P.length), (27, .v (.int .i64 P.length)), (28, .v (.int .i64 s))]) 0), (fun s : Nat => q1Hp true n len P x R ++ [.cells 24 [.ptr 0 0 0 0], .cells 3 [.v (.int .i64 0)], .cells 35 [.v (.int .u32 0)], .cells 3 [.v (.int .i64 0)], .cells 3 [.v (.int .i64 P.length)]]) 0, ?_⟩, ?_⟩
  · repeat ((conv => whnf); (first | refine Cnd.yes ?_ | refine Cnd.no ?_ | refine And.intro rfl ?_ | refine And.intro (by omega) ?_ | (refine And.intro ?_ ?_; focus (simp only [IntKind.wrap_i64, IntKind.wrap_u64, IntKind.wrap_u32]; omega)) | (refine And.intro ?_ ?_; focus (simp only [zl1, zl2, zl3, zl4, zl5, zl6, zl7, zl8, zl9] <;> omega))))
    conv => whnf
    exact ⟨0, Nat.zero_le _, rfl, rfl, (tmkK_eq _ _ _ _).mpr rfl, rfl⟩
  · rintro cnt tm hp M1 ⟨i, hC_, rfl, rfl, htm, hhp_⟩
    replace hC_ : i ≤ P.length := hC_
    have hi := hC_
    replace htm : tmkK 112 0 [(2, .ptr 2 0 0 0), (4, .ptr 3 0 0 0), (5, .ptr 4 0 0 0), (6, .ptr 5 0 0 0), (7, .ptr 6 0 0 0), (26, .slc 1 7 0 P.length), (27, .v (.int .i64 P.length)), (28, .v (.int .i64 i))] (fun l => tm = l) := htm
    conv at htm => whnf
    subst htm
    replace hhp_ : hp = q1Hp true n len P x R ++ [.cells 24 [.ptr 0 0 0 0], .cells 3 [.v (.int .i64 0)], .cells 35 [.v (.int .u32 0)], .cells 3 [.v (.int .i64 0)], .cells 3 [.v (.int .i64 P.length)]] := hhp_
    subst hhp_
    repeat ((conv => whnf); (first | refine Cnd.yes ?_ | refine Cnd.no ?_ | refine And.intro rfl ?_ | refine And.intro (by omega) ?_ | (refine And.intro ?_ ?_; focus (simp only [IntKind.wrap_i64, IntKind.wrap_u64, IntKind.wrap_u32]; omega)) | (refine And.intro ?_ ?_; focus (simp only [zl1, zl2, zl3, zl4, zl5, zl6, zl7, zl8, zl9] <;> omega)) | (refine Cnd.tt ?_ ?_; focus (first | (apply decide_eq_true; omega) | (simp only [zq1, zq2, zq3, zq4, zq5, zq6, zq7, zq8, zq9, zq10, zq11, zq12] <;> omega) | rfl)) | (refine Cnd.ff ?_ ?_; focus (first | (apply decide_eq_false; omega) | (simp only [zq1, zq2, zq3, zq4, zq5, zq6, zq7, zq8, zq9, zq10, zq11, zq12] <;> omega) | rfl))))
    conv => whnf
    refine Cnd.mk (fun hlt => ?_) fun hge => ?_
    · have hin : i < P.length := by have := of_decide_eq_true hlt; omega
      obtain ⟨y, hy⟩ : ∃ y, y = P.getD i default := ⟨_, rfl⟩
      have hpy := hpl (P.getD i default) (by simp [List.getD, hin])
      have c : ∀ k, cellAt (P.map qrow ++ qrow x :: R) (0 + (i : Int).toNat) k = (qrow (P.getD i default)).getD k undef := fun k => by
        rw [Nat.zero_add, Int.toNat_natCast]
        exact cellL P (qrow x :: R) hin k
      rw [← hy] at c hpy
      obtain ⟨yid, yst, ypl, ykn, yad, ysz, yv⟩ := y
      repeat ((conv => whnf); (first | refine Cnd.yes ?_ | refine Cnd.no ?_ | refine And.intro rfl ?_ | refine And.intro (by omega) ?_ | (refine And.intro ?_ ?_; focus (simp only [IntKind.wrap_i64, IntKind.wrap_u64, IntKind.wrap_u32]; omega)) | (refine And.intro ?_ ?_; focus (simp only [zl1, zl2, zl3, zl4, zl5, zl6, zl7, zl8, zl9] <;> omega)) | (refine Cnd.tt ?_ ?_; focus (first | (apply decide_eq_true; omega) | (simp only [zq1, zq2, zq3, zq4, zq5, zq6, zq7, zq8, zq9, zq10, zq11, zq12] <;> omega) | rfl)) | (refine Cnd.ff ?_ ?_; focus (first | (apply decide_eq_false; omega) | (simp only [zq1, zq2, zq3, zq4, zq5, zq6, zq7, zq8, zq9, zq10, zq11, zq12] <;> omega) | rfl))))
      conv => whnf
      rw [c (0 + 1)]
      cases yst with
      | false =>
        repeat ((conv => whnf); (first | refine Cnd.yes ?_ | refine Cnd.no ?_ | refine And.intro rfl ?_ | refine And.intro (by omega) ?_ | (refine And.intro ?_ ?_; focus (simp only [IntKind.wrap_i64, IntKind.wrap_u64, IntKind.wrap_u32]; omega)) | (refine And.intro ?_ ?_; focus (simp only [zl1, zl2, zl3, zl4, zl5, zl6, zl7, zl8, zl9] <;> omega)) | (refine Cnd.tt ?_ ?_; focus (first | (apply decide_eq_true; omega) | (simp only [zq1, zq2, zq3, zq4, zq5, zq6, zq7, zq8, zq9, zq10, zq11, zq12] <;> omega) | rfl)) | (refine Cnd.ff ?_ ?_; focus (first | (apply decide_eq_false; omega) | (simp only [zq1, zq2, zq3, zq4, zq5, zq6, zq7, zq8, zq9, zq10, zq11, zq12] <;> omega) | rfl))))
        conv => whnf
        (refine ⟨(fun s : Nat => P.length - s) (i + 1), [0, 1, 2, 3, 4, 5, 6], tmk 112 0 ((fun s : Nat => [(2, .ptr 2 0 0 0), (4, .ptr 3 0 0 0), (5, .ptr 4 0 0 0), (6, .ptr 5 0 0 0), (7, .ptr 6 0 0 0), (26, .slc 1 7 0 P.length), (27, .v (.int .i64 P.length)), (28, .v (.int .i64 s))]) (i + 1)), (fun s : Nat => q1Hp true n len P x R ++ [.cells 24 [.ptr 0 0 0 0], .cells 3 [.v (.int .i64 0)], .cells 35 [.v (.int .u32 0)], .cells 3 [.v (.int .i64 0)], .cells 3 [.v (.int .i64 P.length)]]) (i + 1), ?_, ?_⟩; focus (first | (simp only []; omega) | omega))
        repeat ((conv => whnf); (first | refine Cnd.yes ?_ | refine Cnd.no ?_ | refine And.intro rfl ?_ | refine And.intro (by omega) ?_ | (refine And.intro ?_ ?_; focus (simp only [IntKind.wrap_i64, IntKind.wrap_u64, IntKind.wrap_u32]; omega)) | (refine And.intro ?_ ?_; focus (simp only [zl1, zl2, zl3, zl4, zl5, zl6, zl7, zl8, zl9] <;> omega))))
        conv => whnf
        exact ⟨i + 1, hin, rfl, rfl, (tmkK_eq _ _ _ _).mpr rfl, rfl⟩
      | true =>
        obtain rfl : ypl = true := hpy rfl
        repeat ((conv => whnf); (first | refine Cnd.yes ?_ | refine Cnd.no ?_ | refine And.intro rfl ?_ | refine And.intro (by omega) ?_ | (refine And.intro ?_ ?_; focus (simp only [IntKind.wrap_i64, IntKind.wrap_u64, IntKind.wrap_u32]; omega)) | (refine And.intro ?_ ?_; focus (simp only [zl1, zl2, zl3, zl4, zl5, zl6, zl7, zl8, zl9] <;> omega)) | (refine Cnd.tt ?_ ?_; focus (first | (apply decide_eq_true; omega) | (simp only [zq1, zq2, zq3, zq4, zq5, zq6, zq7, zq8, zq9, zq10, zq11, zq12] <;> omega) | rfl)) | (refine Cnd.ff ?_ ?_; focus (first | (apply decide_eq_false; omega) | (simp only [zq1, zq2, zq3, zq4, zq5, zq6, zq7, zq8, zq9, zq10, zq11, zq12] <;> omega) | rfl))))
        conv => whnf
        rw [c (0 + 2)]
        repeat ((conv => whnf); (first | refine Cnd.yes ?_ | refine Cnd.no ?_ | refine And.intro rfl ?_ | refine And.intro (by omega) ?_ | (refine And.intro ?_ ?_; focus (simp only [IntKind.wrap_i64, IntKind.wrap_u64, IntKind.wrap_u32]; omega)) | (refine And.intro ?_ ?_; focus (simp only [zl1, zl2, zl3, zl4, zl5, zl6, zl7, zl8, zl9] <;> omega)) | (refine Cnd.tt ?_ ?_; focus (first | (apply decide_eq_true; omega) | (simp only [zq1, zq2, zq3, zq4, zq5, zq6, zq7, zq8, zq9, zq10, zq11, zq12] <;> omega) | rfl)) | (refine Cnd.ff ?_ ?_; focus (first | (apply decide_eq_false; omega) | (simp only [zq1, zq2, zq3, zq4, zq5, zq6, zq7, zq8, zq9, zq10, zq11, zq12] <;> omega) | rfl))))
        conv => whnf
        (refine ⟨(fun s : Nat => P.length - s) (i + 1), [0, 1, 2, 3, 4, 5, 6], tmk 112 0 ((fun s : Nat => [(2, .ptr 2 0 0 0), (4, .ptr 3 0 0 0), (5, .ptr 4 0 0 0), (6, .ptr 5 0 0 0), (7, .ptr 6 0 0 0), (26, .slc 1 7 0 P.length), (27, .v (.int .i64 P.length)), (28, .v (.int .i64 s))]) (i + 1)), (fun s : Nat => q1Hp true n len P x R ++ [.cells 24 [.ptr 0 0 0 0], .cells 3 [.v (.int .i64 0)], .cells 35 [.v (.int .u32 0)], .cells 3 [.v (.int .i64 0)], .cells 3 [.v (.int .i64 P.length)]]) (i + 1), ?_, ?_⟩; focus (first | (simp only []; omega) | omega))
        repeat ((conv => whnf); (first | refine Cnd.yes ?_ | refine Cnd.no ?_ | refine And.intro rfl ?_ | refine And.intro (by omega) ?_ | (refine And.intro ?_ ?_; focus (simp only [IntKind.wrap_i64, IntKind.wrap_u64, IntKind.wrap_u32]; omega)) | (refine And.intro ?_ ?_; focus (simp only [zl1, zl2, zl3, zl4, zl5, zl6, zl7, zl8, zl9] <;> omega))))
        conv => whnf
        exact ⟨i + 1, hin, rfl, rfl, (tmkK_eq _ _ _ _).mpr rfl, rfl⟩
    · obtain rfl : i = P.length := by have := of_decide_eq_false hge; omega
      repeat ((conv => whnf); (first | refine Cnd.yes ?_ | refine Cnd.no ?_ | refine And.intro rfl ?_ | refine And.intro (by omega) ?_ | (refine And.intro ?_ ?_; focus (simp only [IntKind.wrap_i64, IntKind.wrap_u64, IntKind.wrap_u32]; omega)) | (refine And.intro ?_ ?_; focus (simp only [zl1, zl2, zl3, zl4, zl5, zl6, zl7, zl8, zl9] <;> omega)) | (refine Cnd.tt ?_ ?_; focus (first | (apply decide_eq_true; omega) | (simp only [zq1, zq2, zq3, zq4, zq5, zq6, zq7, zq8, zq9, zq10, zq11, zq12] <;> omega) | rfl)) | (refine Cnd.ff ?_ ?_; focus (first | (apply decide_eq_false; omega) | (simp only [zq1, zq2, zq3, zq4, zq5, zq6, zq7, zq8, zq9, zq10, zq11, zq12] <;> omega) | rfl))))
      conv => whnf
      have c2 : ∀ k, cellAt (P.map qrow ++ qrow x :: R) (0 + (P.length : Int).toNat) k = (qrow x).getD k undef := fun k => cellM (P.map qrow) (qrow x) R k (by simp)
      have efrom : IntKind.u64.wrap x.ad = x.ad := by rw [IntKind.wrap_u64]; have := hfx.1; have := hfx.2.1; omega
      have eto : IntKind.u64.wrap (IntKind.u64.wrap x.ad + IntKind.u64.wrap x.sz) = x.ad + x.sz := by simp only [IntKind.wrap_u64]; have := hfx.1; have := hfx.2.1; have := hfx.2.2.1; omega
      refine ⟨InvC 112 (fun s : Unit => True) (fun s : Unit => [(2, .ptr 2 0 0 0), (4, .ptr 3 0 0 0), (5, .ptr 4 0 0 0), (6, .ptr 5 0 0 0), (7, .ptr 6 0 0 0), (10, .ptr 7 0 0 0), (11, .ptr 8 0 0 0)]) (fun s : Unit => q1Hp true n len P x R ++ [.cells 24 [.ptr 0 0 0 0], .cells 3 [.v (.int .i64 0)], .cells 35 [.v (.int .u32 0)], .cells 3 [.v (.int .i64 0)], .cells 3 [.v (.int .i64 P.length)], .cells 63 [.v (.int .u64 x.ad)], .cells 63 [.v (.int .u64 (x.ad + x.sz))]]) M1, ?_, ?_⟩
      · repeat ((conv => whnf); (first | refine Cnd.yes ?_ | refine Cnd.no ?_ | refine And.intro rfl ?_ | refine And.intro (by omega) ?_ | (refine And.intro ?_ ?_; focus (simp only [IntKind.wrap_i64, IntKind.wrap_u64, IntKind.wrap_u32]; omega)) | (refine And.intro ?_ ?_; focus (simp only [zl1, zl2, zl3, zl4, zl5, zl6, zl7, zl8, zl9] <;> omega)) | (refine Cnd.tt ?_ ?_; focus (first | (apply decide_eq_true; omega) | (simp only [zq1, zq2, zq3, zq4, zq5, zq6, zq7, zq8, zq9, zq10, zq11, zq12] <;> omega) | rfl)) | (refine Cnd.ff ?_ ?_; focus (first | (apply decide_eq_false; omega) | (simp only [zq1, zq2, zq3, zq4, zq5, zq6, zq7, zq8, zq9, zq10, zq11, zq12] <;> omega) | rfl))))
        conv => whnf
        all_goals (first | (refine And.intro ?_ ?_) | (intro Mr hMr) | skip)
        all_goals
          repeat ((conv => whnf); (first | refine Cnd.yes ?_ | refine Cnd.no ?_ | refine And.intro rfl ?_ | refine And.intro (by omega) ?_ | (refine And.intro ?_ ?_; focus (simp only [IntKind.wrap_i64, IntKind.wrap_u64, IntKind.wrap_u32]; omega)) | (refine And.intro ?_ ?_; focus (simp only [zl1, zl2, zl3, zl4, zl5, zl6, zl7, zl8, zl9] <;> omega)) | (refine Cnd.tt ?_ ?_; focus (first | (apply decide_eq_true; omega) | (simp only [zq1, zq2, zq3, zq4, zq5, zq6, zq7, zq8, zq9, zq10, zq11, zq12] <;> omega) | rfl)) | (refine Cnd.ff ?_ ?_; focus (first | (apply decide_eq_false; omega) | (simp only [zq1, zq2, zq3, zq4, zq5, zq6, zq7, zq8, zq9, zq10, zq11, zq12] <;> omega) | rfl))))
          conv => whnf
        all_goals (first | (refine And.intro ?_ ?_) | (intro Mr hMr) | skip)
        all_goals
          repeat ((conv => whnf); (first | refine Cnd.yes ?_ | refine Cnd.no ?_ | refine And.intro rfl ?_ | refine And.intro (by omega) ?_ | (refine And.intro ?_ ?_; focus (simp only [IntKind.wrap_i64, IntKind.wrap_u64, IntKind.wrap_u32]; omega)) | (refine And.intro ?_ ?_; focus (simp only [zl1, zl2, zl3, zl4, zl5, zl6, zl7, zl8, zl9] <;> omega)) | (refine Cnd.tt ?_ ?_; focus (first | (apply decide_eq_true; omega) | (simp only [zq1, zq2, zq3, zq4, zq5, zq6, zq7, zq8, zq9, zq10, zq11, zq12] <;> omega) | rfl)) | (refine Cnd.ff ?_ ?_; focus (first | (apply decide_eq_false; omega) | (simp only [zq1, zq2, zq3, zq4, zq5, zq6, zq7, zq8, zq9, zq10, zq11, zq12] <;> omega) | rfl))))
          conv => whnf
        all_goals (first | (refine And.intro ?_ ?_) | (intro Mr hMr) | skip)
        all_goals
          repeat ((conv => whnf); (first | refine Cnd.yes ?_ | refine Cnd.no ?_ | refine And.intro rfl ?_ | refine And.intro (by omega) ?_ | (refine And.intro ?_ ?_; focus (simp only [IntKind.wrap_i64, IntKind.wrap_u64, IntKind.wrap_u32]; omega)) | (refine And.intro ?_ ?_; focus (simp only [zl1, zl2, zl3, zl4, zl5, zl6, zl7, zl8, zl9] <;> omega)) | (refine Cnd.tt ?_ ?_; focus (first | (apply decide_eq_true; omega) | (simp only [zq1, zq2, zq3, zq4, zq5, zq6, zq7, zq8, zq9, zq10, zq11, zq12] <;> omega) | rfl)) | (refine Cnd.ff ?_ ?_; focus (first | (apply decide_eq_false; omega) | (simp only [zq1, zq2, zq3, zq4, zq5, zq6, zq7, zq8, zq9, zq10, zq11, zq12] <;> omega) | rfl))))
          conv => whnf
        all_goals (first | (refine And.intro ?_ ?_) | (intro Mr hMr) | skip)
        all_goals
          repeat ((conv => whnf); (first | refine Cnd.yes ?_ | refine Cnd.no ?_ | refine And.intro rfl ?_ | refine And.intro (by omega) ?_ | (refine And.intro ?_ ?_; focus (simp only [IntKind.wrap_i64, IntKind.wrap_u64, IntKind.wrap_u32]; omega)) | (refine And.intro ?_ ?_; focus (simp only [zl1, zl2, zl3, zl4, zl5, zl6, zl7, zl8, zl9] <;> omega)) | (refine Cnd.tt ?_ ?_; focus (first | (apply decide_eq_true; omega) | (simp only [zq1, zq2, zq3, zq4, zq5, zq6, zq7, zq8, zq9, zq10, zq11, zq12] <;> omega) | rfl)) | (refine Cnd.ff ?_ ?_; focus (first | (apply decide_eq_false; omega) | (simp only [zq1, zq2, zq3, zq4, zq5, zq6, zq7, zq8, zq9, zq10, zq11, zq12] <;> omega) | rfl))))
          conv => whnf
        all_goals (first | (refine And.intro ?_ ?_) | (intro Mr hMr) | skip)
        all_goals
          repeat ((conv => whnf); (first | refine Cnd.yes ?_ | refine Cnd.no ?_ | refine And.intro rfl ?_ | refine And.intro (by omega) ?_ | (refine And.intro ?_ ?_; focus (simp only [IntKind.wrap_i64, IntKind.wrap_u64, IntKind.wrap_u32]; omega)) | (refine And.intro ?_ ?_; focus (simp only [zl1, zl2, zl3, zl4, zl5, zl6, zl7, zl8, zl9] <;> omega)) | (refine Cnd.tt ?_ ?_; focus (first | (apply decide_eq_true; omega) | (simp only [zq1, zq2, zq3, zq4, zq5, zq6, zq7, zq8, zq9, zq10, zq11, zq12] <;> omega) | rfl)) | (refine Cnd.ff ?_ ?_; focus (first | (apply decide_eq_false; omega) | (simp only [zq1, zq2, zq3, zq4, zq5, zq6, zq7, zq8, zq9, zq10, zq11, zq12] <;> omega) | rfl))))
          conv => whnf
        all_goals (first | (refine And.intro ?_ ?_) | (intro Mr hMr) | skip)
        all_goals
          repeat ((conv => whnf); (first | refine Cnd.yes ?_ | refine Cnd.no ?_ | refine And.intro rfl ?_ | refine And.intro (by omega) ?_ | (refine And.intro ?_ ?_; focus (simp only [IntKind.wrap_i64, IntKind.wrap_u64, IntKind.wrap_u32]; omega)) | (refine And.intro ?_ ?_; focus (simp only [zl1, zl2, zl3, zl4, zl5, zl6, zl7, zl8, zl9] <;> omega)) | (refine Cnd.tt ?_ ?_; focus (first | (apply decide_eq_true; omega) | (simp only [zq1, zq2, zq3, zq4, zq5, zq6, zq7, zq8, zq9, zq10, zq11, zq12] <;> omega) | rfl)) | (refine Cnd.ff ?_ ?_; focus (first | (apply decide_eq_false; omega) | (simp only [zq1, zq2, zq3, zq4, zq5, zq6, zq7, zq8, zq9, zq10, zq11, zq12] <;> omega) | rfl))))
          conv => whnf
        all_goals (first | (refine And.intro ?_ ?_) | (intro Mr hMr) | skip)
        all_goals
          repeat ((conv => whnf); (first | refine Cnd.yes ?_ | refine Cnd.no ?_ | refine And.intro rfl ?_ | refine And.intro (by omega) ?_ | (refine And.intro ?_ ?_; focus (simp only [IntKind.wrap_i64, IntKind.wrap_u64, IntKind.wrap_u32]; omega)) | (refine And.intro ?_ ?_; focus (simp only [zl1, zl2, zl3, zl4, zl5, zl6, zl7, zl8, zl9] <;> omega)) | (refine Cnd.tt ?_ ?_; focus (first | (apply decide_eq_true; omega) | (simp only [zq1, zq2, zq3, zq4, zq5, zq6, zq7, zq8, zq9, zq10, zq11, zq12] <;> omega) | rfl)) | (refine Cnd.ff ?_ ?_; focus (first | (apply decide_eq_false; omega) | (simp only [zq1, zq2, zq3, zq4, zq5, zq6, zq7, zq8, zq9, zq10, zq11, zq12] <;> omega) | rfl))))
          conv => whnf
        all_goals (first | (refine And.intro ?_ ?_) | (intro Mr hMr) | skip)
        all_goals
          repeat ((conv => whnf); (first | refine Cnd.yes ?_ | refine Cnd.no ?_ | refine And.intro rfl ?_ | refine And.intro (by omega) ?_ | (refine And.intro ?_ ?_; focus (simp only [IntKind.wrap_i64, IntKind.wrap_u64, IntKind.wrap_u32]; omega)) | (refine And.intro ?_ ?_; focus (simp only [zl1, zl2, zl3, zl4, zl5, zl6, zl7, zl8, zl9] <;> omega)) | (refine Cnd.tt ?_ ?_; focus (first | (apply decide_eq_true; omega) | (simp only [zq1, zq2, zq3, zq4, zq5, zq6, zq7, zq8, zq9, zq10, zq11, zq12] <;> omega) | rfl)) | (refine Cnd.ff ?_ ?_; focus (first | (apply decide_eq_false; omega) | (simp only [zq1, zq2, zq3, zq4, zq5, zq6, zq7, zq8, zq9, zq10, zq11, zq12] <;> omega) | rfl))))
          conv => whnf
        all_goals (first | (refine And.intro ?_ ?_) | (intro Mr hMr) | skip)
        all_goals
          repeat ((conv => whnf); (first | refine Cnd.yes ?_ | refine Cnd.no ?_ | refine And.intro rfl ?_ | refine And.intro (by omega) ?_ | (refine And.intro ?_ ?_; focus (simp only [IntKind.wrap_i64, IntKind.wrap_u64, IntKind.wrap_u32]; omega)) | (refine And.intro ?_ ?_; focus (simp only [zl1, zl2, zl3, zl4, zl5, zl6, zl7, zl8, zl9] <;> omega)) | (refine Cnd.tt ?_ ?_; focus (first | (apply decide_eq_true; omega) | (simp only [zq1, zq2, zq3, zq4, zq5, zq6, zq7, zq8, zq9, zq10, zq11, zq12] <;> omega) | rfl)) | (refine Cnd.ff ?_ ?_; focus (first | (apply decide_eq_false; omega) | (simp only [zq1, zq2, zq3, zq4, zq5, zq6, zq7, zq8, zq9, zq10, zq11, zq12] <;> omega) | rfl))))
          conv => whnf
        ·
          refine ⟨[0, 1, 2, 3, 4, 5, 6, 8, 9], tmk 112 0 ((fun s : Unit => [(2, .ptr 2 0 0 0), (4, .ptr 3 0 0 0), (5, .ptr 4 0 0 0), (6, .ptr 5 0 0 0), (7, .ptr 6 0 0 0), (10, .ptr 7 0 0 0), (11, .ptr 8 0 0 0)]) (())), (fun s : Unit => q1Hp true n len P x R ++ [.cells 24 [.ptr 0 0 0 0], .cells 3 [.v (.int .i64 0)], .cells 35 [.v (.int .u32 0)], .cells 3 [.v (.int .i64 0)], .cells 3 [.v (.int .i64 P.length)], .cells 63 [.v (.int .u64 x.ad)], .cells 63 [.v (.int .u64 (x.ad + x.sz))]]) (()), ?_⟩
          repeat ((conv => whnf); (first | refine Cnd.yes ?_ | refine Cnd.no ?_ | refine And.intro rfl ?_ | refine And.intro (by omega) ?_ | (refine And.intro ?_ ?_; focus (simp only [IntKind.wrap_i64, IntKind.wrap_u64, IntKind.wrap_u32]; omega)) | (refine And.intro ?_ ?_; focus (simp only [zl1, zl2, zl3, zl4, zl5, zl6, zl7, zl8, zl9] <;> omega))))
          conv => whnf
          refine ⟨by simp only [c2]; exact efrom, ?_⟩
          repeat ((conv => whnf); (first | refine Cnd.yes ?_ | refine Cnd.no ?_ | refine And.intro rfl ?_ | refine And.intro (by omega) ?_ | (refine And.intro ?_ ?_; focus (simp only [IntKind.wrap_i64, IntKind.wrap_u64, IntKind.wrap_u32]; omega)) | (refine And.intro ?_ ?_; focus (simp only [zl1, zl2, zl3, zl4, zl5, zl6, zl7, zl8, zl9] <;> omega))))
          conv => whnf
          refine ⟨by simp only [c2]; exact eto, ?_⟩
          repeat ((conv => whnf); (first | refine Cnd.yes ?_ | refine Cnd.no ?_ | refine And.intro rfl ?_ | refine And.intro (by omega) ?_ | (refine And.intro ?_ ?_; focus (simp only [IntKind.wrap_i64, IntKind.wrap_u64, IntKind.wrap_u32]; omega)) | (refine And.intro ?_ ?_; focus (simp only [zl1, zl2, zl3, zl4, zl5, zl6, zl7, zl8, zl9] <;> omega))))
          conv => whnf
          exact ⟨(), trivial, rfl, (tmkK_eq _ _ _ _).mpr rfl, rfl⟩
        ·
          refine ⟨[0, 1, 2, 3, 4, 5, 6, 9, 8], tmk 112 0 ((fun s : Unit => [(2, .ptr 2 0 0 0), (4, .ptr 3 0 0 0), (5, .ptr 4 0 0 0), (6, .ptr 5 0 0 0), (7, .ptr 6 0 0 0), (10, .ptr 7 0 0 0), (11, .ptr 8 0 0 0)]) (())), (fun s : Unit => q1Hp true n len P x R ++ [.cells 24 [.ptr 0 0 0 0], .cells 3 [.v (.int .i64 0)], .cells 35 [.v (.int .u32 0)], .cells 3 [.v (.int .i64 0)], .cells 3 [.v (.int .i64 P.length)], .cells 63 [.v (.int .u64 x.ad)], .cells 63 [.v (.int .u64 (x.ad + x.sz))]]) (()), ?_⟩
          repeat ((conv => whnf); (first | refine Cnd.yes ?_ | refine Cnd.no ?_ | refine And.intro rfl ?_ | refine And.intro (by omega) ?_ | (refine And.intro ?_ ?_; focus (simp only [IntKind.wrap_i64, IntKind.wrap_u64, IntKind.wrap_u32]; omega)) | (refine And.intro ?_ ?_; focus (simp only [zl1, zl2, zl3, zl4, zl5, zl6, zl7, zl8, zl9] <;> omega))))
          conv => whnf
          refine ⟨by simp only [c2]; exact efrom, ?_⟩
          repeat ((conv => whnf); (first | refine Cnd.yes ?_ | refine Cnd.no ?_ | refine And.intro rfl ?_ | refine And.intro (by omega) ?_ | (refine And.intro ?_ ?_; focus (simp only [IntKind.wrap_i64, IntKind.wrap_u64, IntKind.wrap_u32]; omega)) | (refine And.intro ?_ ?_; focus (simp only [zl1, zl2, zl3, zl4, zl5, zl6, zl7, zl8, zl9] <;> omega))))
          conv => whnf
          refine ⟨by simp only [c2]; exact eto, ?_⟩
          repeat ((conv => whnf); (first | refine Cnd.yes ?_ | refine Cnd.no ?_ | refine And.intro rfl ?_ | refine And.intro (by omega) ?_ | (refine And.intro ?_ ?_; focus (simp only [IntKind.wrap_i64, IntKind.wrap_u64, IntKind.wrap_u32]; omega)) | (refine And.intro ?_ ?_; focus (simp only [zl1, zl2, zl3, zl4, zl5, zl6, zl7, zl8, zl9] <;> omega))))
          conv => whnf
          exact ⟨(), trivial, rfl, (tmkK_eq _ _ _ _).mpr rfl, rfl⟩
        ·
          refine ⟨[0, 1, 2, 3, 4, 5, 6, 7, 9], tmk 112 0 ((fun s : Unit => [(2, .ptr 2 0 0 0), (4, .ptr 3 0 0 0), (5, .ptr 4 0 0 0), (6, .ptr 5 0 0 0), (7, .ptr 6 0 0 0), (10, .ptr 7 0 0 0), (11, .ptr 8 0 0 0)]) (())), (fun s : Unit => q1Hp true n len P x R ++ [.cells 24 [.ptr 0 0 0 0], .cells 3 [.v (.int .i64 0)], .cells 35 [.v (.int .u32 0)], .cells 3 [.v (.int .i64 0)], .cells 3 [.v (.int .i64 P.length)], .cells 63 [.v (.int .u64 x.ad)], .cells 63 [.v (.int .u64 (x.ad + x.sz))]]) (()), ?_⟩
          repeat ((conv => whnf); (first | refine Cnd.yes ?_ | refine Cnd.no ?_ | refine And.intro rfl ?_ | refine And.intro (by omega) ?_ | (refine And.intro ?_ ?_; focus (simp only [IntKind.wrap_i64, IntKind.wrap_u64, IntKind.wrap_u32]; omega)) | (refine And.intro ?_ ?_; focus (simp only [zl1, zl2, zl3, zl4, zl5, zl6, zl7, zl8, zl9] <;> omega))))
          conv => whnf
          refine ⟨by simp only [c2]; exact efrom, ?_⟩
          repeat ((conv => whnf); (first | refine Cnd.yes ?_ | refine Cnd.no ?_ | refine And.intro rfl ?_ | refine And.intro (by omega) ?_ | (refine And.intro ?_ ?_; focus (simp only [IntKind.wrap_i64, IntKind.wrap_u64, IntKind.wrap_u32]; omega)) | (refine And.intro ?_ ?_; focus (simp only [zl1, zl2, zl3, zl4, zl5, zl6, zl7, zl8, zl9] <;> omega))))
          conv => whnf
          refine ⟨by simp only [c2]; exact eto, ?_⟩
          repeat ((conv => whnf); (first | refine Cnd.yes ?_ | refine Cnd.no ?_ | refine And.intro rfl ?_ | refine And.intro (by omega) ?_ | (refine And.intro ?_ ?_; focus (simp only [IntKind.wrap_i64, IntKind.wrap_u64, IntKind.wrap_u32]; omega)) | (refine And.intro ?_ ?_; focus (simp only [zl1, zl2, zl3, zl4, zl5, zl6, zl7, zl8, zl9] <;> omega))))
          conv => whnf
          exact ⟨(), trivial, rfl, (tmkK_eq _ _ _ _).mpr rfl, rfl⟩
        ·
          refine ⟨[0, 1, 2, 3, 4, 5, 6, 7, 8], tmk 112 0 ((fun s : Unit => [(2, .ptr 2 0 0 0), (4, .ptr 3 0 0 0), (5, .ptr 4 0 0 0), (6, .ptr 5 0 0 0), (7, .ptr 6 0 0 0), (10, .ptr 7 0 0 0), (11, .ptr 8 0 0 0)]) (())), (fun s : Unit => q1Hp true n len P x R ++ [.cells 24 [.ptr 0 0 0 0], .cells 3 [.v (.int .i64 0)], .cells 35 [.v (.int .u32 0)], .cells 3 [.v (.int .i64 0)], .cells 3 [.v (.int .i64 P.length)], .cells 63 [.v (.int .u64 x.ad)], .cells 63 [.v (.int .u64 (x.ad + x.sz))]]) (()), ?_⟩
          repeat ((conv => whnf); (first | refine Cnd.yes ?_ | refine Cnd.no ?_ | refine And.intro rfl ?_ | refine And.intro (by omega) ?_ | (refine And.intro ?_ ?_; focus (simp only [IntKind.wrap_i64, IntKind.wrap_u64, IntKind.wrap_u32]; omega)) | (refine And.intro ?_ ?_; focus (simp only [zl1, zl2, zl3, zl4, zl5, zl6, zl7, zl8, zl9] <;> omega))))
          conv => whnf
          refine ⟨by simp only [c2]; exact efrom, ?_⟩
          repeat ((conv => whnf); (first | refine Cnd.yes ?_ | refine Cnd.no ?_ | refine And.intro rfl ?_ | refine And.intro (by omega) ?_ | (refine And.intro ?_ ?_; focus (simp only [IntKind.wrap_i64, IntKind.wrap_u64, IntKind.wrap_u32]; omega)) | (refine And.intro ?_ ?_; focus (simp only [zl1, zl2, zl3, zl4, zl5, zl6, zl7, zl8, zl9] <;> omega))))
          conv => whnf
          refine ⟨by simp only [c2]; exact eto, ?_⟩
          repeat ((conv => whnf); (first | refine Cnd.yes ?_ | refine Cnd.no ?_ | refine And.intro rfl ?_ | refine And.intro (by omega) ?_ | (refine And.intro ?_ ?_; focus (simp only [IntKind.wrap_i64, IntKind.wrap_u64, IntKind.wrap_u32]; omega)) | (refine And.intro ?_ ?_; focus (simp only [zl1, zl2, zl3, zl4, zl5, zl6, zl7, zl8, zl9] <;> omega))))
          conv => whnf
          exact ⟨(), trivial, rfl, (tmkK_eq _ _ _ _).mpr rfl, rfl⟩
        ·
          refine ⟨[0, 1, 2, 3, 4, 5, 6, 9, 7], tmk 112 0 ((fun s : Unit => [(2, .ptr 2 0 0 0), (4, .ptr 3 0 0 0), (5, .ptr 4 0 0 0), (6, .ptr 5 0 0 0), (7, .ptr 6 0 0 0), (10, .ptr 7 0 0 0), (11, .ptr 8 0 0 0)]) (())), (fun s : Unit => q1Hp true n len P x R ++ [.cells 24 [.ptr 0 0 0 0], .cells 3 [.v (.int .i64 0)], .cells 35 [.v (.int .u32 0)], .cells 3 [.v (.int .i64 0)], .cells 3 [.v (.int .i64 P.length)], .cells 63 [.v (.int .u64 x.ad)], .cells 63 [.v (.int .u64 (x.ad + x.sz))]]) (()), ?_⟩
          repeat ((conv => whnf); (first | refine Cnd.yes ?_ | refine Cnd.no ?_ | refine And.intro rfl ?_ | refine And.intro (by omega) ?_ | (refine And.intro ?_ ?_; focus (simp only [IntKind.wrap_i64, IntKind.wrap_u64, IntKind.wrap_u32]; omega)) | (refine And.intro ?_ ?_; focus (simp only [zl1, zl2, zl3, zl4, zl5, zl6, zl7, zl8, zl9] <;> omega))))
          conv => whnf
          refine ⟨by simp only [c2]; exact efrom, ?_⟩
          repeat ((conv => whnf); (first | refine Cnd.yes ?_ | refine Cnd.no ?_ | refine And.intro rfl ?_ | refine And.intro (by omega) ?_ | (refine And.intro ?_ ?_; focus (simp only [IntKind.wrap_i64, IntKind.wrap_u64, IntKind.wrap_u32]; omega)) | (refine And.intro ?_ ?_; focus (simp only [zl1, zl2, zl3, zl4, zl5, zl6, zl7, zl8, zl9] <;> omega))))
          conv => whnf
          refine ⟨by simp only [c2]; exact eto, ?_⟩
          repeat ((conv => whnf); (first | refine Cnd.yes ?_ | refine Cnd.no ?_ | refine And.intro rfl ?_ | refine And.intro (by omega) ?_ | (refine And.intro ?_ ?_; focus (simp only [IntKind.wrap_i64, IntKind.wrap_u64, IntKind.wrap_u32]; omega)) | (refine And.intro ?_ ?_; focus (simp only [zl1, zl2, zl3, zl4, zl5, zl6, zl7, zl8, zl9] <;> omega))))
          conv => whnf
          exact ⟨(), trivial, rfl, (tmkK_eq _ _ _ _).mpr rfl, rfl⟩
        ·
          refine ⟨[0, 1, 2, 3, 4, 5, 6, 8, 7], tmk 112 0 ((fun s : Unit => [(2, .ptr 2 0 0 0), (4, .ptr 3 0 0 0), (5, .ptr 4 0 0 0), (6, .ptr 5 0 0 0), (7, .ptr 6 0 0 0), (10, .ptr 7 0 0 0), (11, .ptr 8 0 0 0)]) (())), (fun s : Unit => q1Hp true n len P x R ++ [.cells 24 [.ptr 0 0 0 0], .cells 3 [.v (.int .i64 0)], .cells 35 [.v (.int .u32 0)], .cells 3 [.v (.int .i64 0)], .cells 3 [.v (.int .i64 P.length)], .cells 63 [.v (.int .u64 x.ad)], .cells 63 [.v (.int .u64 (x.ad + x.sz))]]) (()), ?_⟩
          repeat ((conv => whnf); (first | refine Cnd.yes ?_ | refine Cnd.no ?_ | refine And.intro rfl ?_ | refine And.intro (by omega) ?_ | (refine And.intro ?_ ?_; focus (simp only [IntKind.wrap_i64, IntKind.wrap_u64, IntKind.wrap_u32]; omega)) | (refine And.intro ?_ ?_; focus (simp only [zl1, zl2, zl3, zl4, zl5, zl6, zl7, zl8, zl9] <;> omega))))
          conv => whnf
          refine ⟨by simp only [c2]; exact efrom, ?_⟩
          repeat ((conv => whnf); (first | refine Cnd.yes ?_ | refine Cnd.no ?_ | refine And.intro rfl ?_ | refine And.intro (by omega) ?_ | (refine And.intro ?_ ?_; focus (simp only [IntKind.wrap_i64, IntKind.wrap_u64, IntKind.wrap_u32]; omega)) | (refine And.intro ?_ ?_; focus (simp only [zl1, zl2, zl3, zl4, zl5, zl6, zl7, zl8, zl9] <;> omega))))
          conv => whnf
          refine ⟨by simp only [c2]; exact eto, ?_⟩
          repeat ((conv => whnf); (first | refine Cnd.yes ?_ | refine Cnd.no ?_ | refine And.intro rfl ?_ | refine And.intro (by omega) ?_ | (refine And.intro ?_ ?_; focus (simp only [IntKind.wrap_i64, IntKind.wrap_u64, IntKind.wrap_u32]; omega)) | (refine And.intro ?_ ?_; focus (simp only [zl1, zl2, zl3, zl4, zl5, zl6, zl7, zl8, zl9] <;> omega))))
          conv => whnf
          exact ⟨(), trivial, rfl, (tmkK_eq _ _ _ _).mpr rfl, rfl⟩
      · rintro tm hp M1 ⟨u, hC_, rfl, htm, hhp_⟩
        replace hC_ : True := hC_
        have hC := hC_
        replace htm : tmkK 112 0 [(2, .ptr 2 0 0 0), (4, .ptr 3 0 0 0), (5, .ptr 4 0 0 0), (6, .ptr 5 0 0 0), (7, .ptr 6 0 0 0), (10, .ptr 7 0 0 0), (11, .ptr 8 0 0 0)] (fun l => tm = l) := htm
        conv at htm => whnf
        subst htm
        replace hhp_ : hp = q1Hp true n len P x R ++ [.cells 24 [.ptr 0 0 0 0], .cells 3 [.v (.int .i64 0)], .cells 35 [.v (.int .u32 0)], .cells 3 [.v (.int .i64 0)], .cells 3 [.v (.int .i64 P.length)], .cells 63 [.v (.int .u64 x.ad)], .cells 63 [.v (.int .u64 (x.ad + x.sz))]] := hhp_
        subst hhp_
        repeat ((conv => whnf); (first | refine Cnd.yes ?_ | refine Cnd.no ?_ | refine And.intro rfl ?_ | refine And.intro (by omega) ?_ | (refine And.intro ?_ ?_; focus (simp only [IntKind.wrap_i64, IntKind.wrap_u64, IntKind.wrap_u32]; omega)) | (refine And.intro ?_ ?_; focus (simp only [zl1, zl2, zl3, zl4, zl5, zl6, zl7, zl8, zl9] <;> omega)) | (refine Cnd.tt ?_ ?_; focus (first | (apply decide_eq_true; omega) | (simp only [zq1, zq2, zq3, zq4, zq5, zq6, zq7, zq8, zq9, zq10, zq11, zq12] <;> omega) | rfl)) | (refine Cnd.ff ?_ ?_; focus (first | (apply decide_eq_false; omega) | (simp only [zq1, zq2, zq3, zq4, zq5, zq6, zq7, zq8, zq9, zq10, zq11, zq12] <;> omega) | rfl))))
        conv => whnf
        intro Mr hMr
        repeat ((conv => whnf); (first | refine Cnd.yes ?_ | refine Cnd.no ?_ | refine And.intro rfl ?_ | refine And.intro (by omega) ?_ | (refine And.intro ?_ ?_; focus (simp only [IntKind.wrap_i64, IntKind.wrap_u64, IntKind.wrap_u32]; omega)) | (refine And.intro ?_ ?_; focus (simp only [zl1, zl2, zl3, zl4, zl5, zl6, zl7, zl8, zl9] <;> omega)) | (refine Cnd.tt ?_ ?_; focus (first | (apply decide_eq_true; omega) | (simp only [zq1, zq2, zq3, zq4, zq5, zq6, zq7, zq8, zq9, zq10, zq11, zq12] <;> omega) | rfl)) | (refine Cnd.ff ?_ ?_; focus (first | (apply decide_eq_false; omega) | (simp only [zq1, zq2, zq3, zq4, zq5, zq6, zq7, zq8, zq9, zq10, zq11, zq12] <;> omega) | rfl))))
        conv => whnf
        refine ⟨fun c tm hp M' => c ≤ P.length ∧ (∀ j, c ≤ j → j < P.length → ¬ hit (P.getD j default) x) ∧ M' = M1 ∧ tmkK 112 0 [(2, .ptr 2 0 0 0), (4, .ptr 3 0 0 0), (5, .ptr 4 0 0 0), (6, .ptr 5 0 0 0), (7, .ptr 6 0 0 0), (10, .ptr 7 0 0 0), (11, .ptr 8 0 0 0)] (fun l => tm = l) ∧ hp = q1Hp true n len P x R ++ [.cells 24 [.ptr 0 0 0 0], .cells 3 [.v (.int .i64 0)], .cells 35 [.v (.int .u32 0)], .cells 3 [.v (.int .i64 0)], .cells 3 [.v (.int .i64 P.length)], .cells 63 [.v (.int .u64 x.ad)], .cells 63 [.v (.int .u64 (x.ad + x.sz))]],
          54, 1, 7, _, _, true, 61, _, _, 58, 59, rfl, rfl, (show 1 < 2 by omega), rfl, rfl, (by omega), ⟨[0, 1, 2, 3, 4, 5, 6, 7, 8], tmk 112 0 [(2, .ptr 2 0 0 0), (4, .ptr 3 0 0 0), (5, .ptr 4 0 0 0), (6, .ptr 5 0 0 0), (7, .ptr 6 0 0 0), (10, .ptr 7 0 0 0), (11, .ptr 8 0 0 0)], q1Hp true n len P x R ++ [.cells 24 [.ptr 0 0 0 0], .cells 3 [.v (.int .i64 0)], .cells 35 [.v (.int .u32 0)], .cells 3 [.v (.int .i64 0)], .cells 3 [.v (.int .i64 P.length)], .cells 63 [.v (.int .u64 x.ad)], .cells 63 [.v (.int .u64 (x.ad + x.sz))]], ?_⟩, fun c hc tm1 hp1 M2 hI => ?_, fun tm1 hp1 M2 hI => ?_⟩
        · repeat ((conv => whnf); (first | refine Cnd.yes ?_ | refine Cnd.no ?_ | refine And.intro rfl ?_ | refine And.intro (by omega) ?_ | (refine And.intro ?_ ?_; focus (simp only [IntKind.wrap_i64, IntKind.wrap_u64, IntKind.wrap_u32]; omega)) | (refine And.intro ?_ ?_; focus (simp only [zl1, zl2, zl3, zl4, zl5, zl6, zl7, zl8, zl9] <;> omega))))
          conv => whnf
        · obtain ⟨hc1, hno, rfl, htm, rfl⟩ := hI
          conv at htm => whnf
          subst htm
          have hin : c < P.length := by omega
          obtain ⟨y, hy⟩ : ∃ y, y = P.getD c default := ⟨_, rfl⟩
          have hfy := hfP (P.getD c default) (by simp [List.getD, hin])
          have cc : ∀ k, cellAt (P.map qrow ++ qrow x :: R) (0 + ((0 : Nat) : Int).toNat + c) k = (qrow (P.getD c default)).getD k undef := fun k => by
            rw [show 0 + ((0 : Nat) : Int).toNat + c = c by simp]
            exact cellL P (qrow x :: R) hin k
          rw [← hy] at cc hfy
          obtain ⟨yid, yst, ypl, ykn, yad, ysz, yv⟩ := y
          have e1 : toB (cellAt (P.map qrow ++ qrow x :: R) (0 + ((0 : Nat) : Int).toNat + c) (0 + 1)) = yst := by rw [cc]; rfl
          have e4 : toI (cellAt (P.map qrow ++ qrow x :: R) (0 + ((0 : Nat) : Int).toNat + c) (0 + 1 + 1 + 1 + 1)) = yad := by rw [cc]; rfl
          have e5 : toI (cellAt (P.map qrow ++ qrow x :: R) (0 + ((0 : Nat) : Int).toNat + c) (0 + 1 + 1 + 1 + 1 + 1)) = ysz := by rw [cc]; rfl
          have eya : IntKind.u64.wrap yad = yad := by rw [IntKind.wrap_u64]; have := hfy.1; have := hfy.2.1; simp only at *; omega
          have eyb : IntKind.u64.wrap (IntKind.u64.wrap yad + IntKind.u64.wrap ysz) = yad + ysz := by simp only [IntKind.wrap_u64]; have := hfy.1; have := hfy.2.1; have := hfy.2.2.1; simp only at *; omega
          refine ⟨rfl, ?_⟩
          repeat ((conv => whnf); (first | refine Cnd.yes ?_ | refine Cnd.no ?_ | refine And.intro rfl ?_ | refine And.intro (by omega) ?_ | (refine And.intro ?_ ?_; focus (simp only [IntKind.wrap_i64, IntKind.wrap_u64, IntKind.wrap_u32]; omega)) | (refine And.intro ?_ ?_; focus (simp only [zl1, zl2, zl3, zl4, zl5, zl6, zl7, zl8, zl9] <;> omega)) | (refine Cnd.tt ?_ ?_; focus (first | (apply decide_eq_true; omega) | (simp only [zq1, zq2, zq3, zq4, zq5, zq6, zq7, zq8, zq9, zq10, zq11, zq12] <;> omega) | rfl)) | (refine Cnd.ff ?_ ?_; focus (first | (apply decide_eq_false; omega) | (simp only [zq1, zq2, zq3, zq4, zq5, zq6, zq7, zq8, zq9, zq10, zq11, zq12] <;> omega) | rfl))))
          conv => whnf
          rw [e1, e4, e5, eyb, eya]
          by_cases hh : hit ⟨yid, yst, ypl, ykn, yad, ysz, yv⟩ x
          · have hh0 := hh
            obtain ⟨h1, h2, h3⟩ := hh0
            simp only at h1 h2 h3
            subst h1
            have e0 : toI (cellAt (P.map qrow ++ qrow x :: R) (0 + ((0 : Nat) : Int).toNat + c) (0 + 0)) = yid := by rw [cc]; rfl
            have e3 : toB (cellAt (P.map qrow ++ qrow x :: R) (0 + ((0 : Nat) : Int).toNat + c) (0 + 3)) = ykn := by rw [cc]; rfl
            have e6 : toI (cellAt (P.map qrow ++ qrow x :: R) (0 + ((0 : Nat) : Int).toNat + c) (0 + 6)) = yv := by rw [cc]; rfl
            have hno2 : ∀ i, c < i → i < P.length → ¬ hit (P.getD i default) x := fun i h1 h2 => hno i h1 h2
            by_cases h4 : yad > x.ad
            ·
              repeat ((conv => whnf); (first | refine Cnd.yes ?_ | refine Cnd.no ?_ | refine And.intro rfl ?_ | refine And.intro (by omega) ?_ | (refine And.intro ?_ ?_; focus (simp only [IntKind.wrap_i64, IntKind.wrap_u64, IntKind.wrap_u32]; omega)) | (refine And.intro ?_ ?_; focus (simp only [zl1, zl2, zl3, zl4, zl5, zl6, zl7, zl8, zl9] <;> omega)) | (refine Cnd.tt ?_ ?_; focus (first | (apply decide_eq_true; omega) | (simp only [zq1, zq2, zq3, zq4, zq5, zq6, zq7, zq8, zq9, zq10, zq11, zq12] <;> omega) | rfl)) | (refine Cnd.ff ?_ ?_; focus (first | (apply decide_eq_false; omega) | (simp only [zq1, zq2, zq3, zq4, zq5, zq6, zq7, zq8, zq9, zq10, zq11, zq12] <;> omega) | rfl))))
              conv => whnf
              first | rw [e3] | skip
              repeat ((conv => whnf); (first | refine Cnd.yes ?_ | refine Cnd.no ?_ | refine And.intro rfl ?_ | refine And.intro (by omega) ?_ | (refine And.intro ?_ ?_; focus (simp only [IntKind.wrap_i64, IntKind.wrap_u64, IntKind.wrap_u32]; omega)) | (refine And.intro ?_ ?_; focus (simp only [zl1, zl2, zl3, zl4, zl5, zl6, zl7, zl8, zl9] <;> omega)) | (refine Cnd.tt ?_ ?_; focus (first | (apply decide_eq_true; omega) | (simp only [zq1, zq2, zq3, zq4, zq5, zq6, zq7, zq8, zq9, zq10, zq11, zq12] <;> omega) | rfl)) | (refine Cnd.ff ?_ ?_; focus (first | (apply decide_eq_false; omega) | (simp only [zq1, zq2, zq3, zq4, zq5, zq6, zq7, zq8, zq9, zq10, zq11, zq12] <;> omega) | rfl))))
              conv => whnf
              refine ⟨[0, 1], .tup [.v (.int .i64 2), .v (.int .u32 0), .v (.int .i64 yid)], q1Hp true n len P x R, ?_⟩
              repeat ((conv => whnf); (first | refine Cnd.yes ?_ | refine Cnd.no ?_ | refine And.intro rfl ?_ | refine And.intro (by omega) ?_ | (refine And.intro ?_ ?_; focus (simp only [IntKind.wrap_i64, IntKind.wrap_u64, IntKind.wrap_u32]; omega)) | (refine And.intro ?_ ?_; focus (simp only [zl1, zl2, zl3, zl4, zl5, zl6, zl7, zl8, zl9] <;> omega))))
              conv => whnf
              exact hK _ _ _ (.inr ⟨c, hin, by rw [← hy]; exact hh, hno2, by rw [← hy], .inl ⟨rfl, rfl, by rw [← hy]; exact (fun h => by have := h.1; simp only at this; omega)⟩⟩)
            · by_cases h5 : yad + ysz < x.ad + x.sz
              ·
                repeat ((conv => whnf); (first | refine Cnd.yes ?_ | refine Cnd.no ?_ | refine And.intro rfl ?_ | refine And.intro (by omega) ?_ | (refine And.intro ?_ ?_; focus (simp only [IntKind.wrap_i64, IntKind.wrap_u64, IntKind.wrap_u32]; omega)) | (refine And.intro ?_ ?_; focus (simp only [zl1, zl2, zl3, zl4, zl5, zl6, zl7, zl8, zl9] <;> omega)) | (refine Cnd.tt ?_ ?_; focus (first | (apply decide_eq_true; omega) | (simp only [zq1, zq2, zq3, zq4, zq5, zq6, zq7, zq8, zq9, zq10, zq11, zq12] <;> omega) | rfl)) | (refine Cnd.ff ?_ ?_; focus (first | (apply decide_eq_false; omega) | (simp only [zq1, zq2, zq3, zq4, zq5, zq6, zq7, zq8, zq9, zq10, zq11, zq12] <;> omega) | rfl))))
                conv => whnf
                first | rw [e3] | skip
                repeat ((conv => whnf); (first | refine Cnd.yes ?_ | refine Cnd.no ?_ | refine And.intro rfl ?_ | refine And.intro (by omega) ?_ | (refine And.intro ?_ ?_; focus (simp only [IntKind.wrap_i64, IntKind.wrap_u64, IntKind.wrap_u32]; omega)) | (refine And.intro ?_ ?_; focus (simp only [zl1, zl2, zl3, zl4, zl5, zl6, zl7, zl8, zl9] <;> omega)) | (refine Cnd.tt ?_ ?_; focus (first | (apply decide_eq_true; omega) | (simp only [zq1, zq2, zq3, zq4, zq5, zq6, zq7, zq8, zq9, zq10, zq11, zq12] <;> omega) | rfl)) | (refine Cnd.ff ?_ ?_; focus (first | (apply decide_eq_false; omega) | (simp only [zq1, zq2, zq3, zq4, zq5, zq6, zq7, zq8, zq9, zq10, zq11, zq12] <;> omega) | rfl))))
                conv => whnf
                refine ⟨[0, 1], .tup [.v (.int .i64 2), .v (.int .u32 0), .v (.int .i64 yid)], q1Hp true n len P x R, ?_⟩
                repeat ((conv => whnf); (first | refine Cnd.yes ?_ | refine Cnd.no ?_ | refine And.intro rfl ?_ | refine And.intro (by omega) ?_ | (refine And.intro ?_ ?_; focus (simp only [IntKind.wrap_i64, IntKind.wrap_u64, IntKind.wrap_u32]; omega)) | (refine And.intro ?_ ?_; focus (simp only [zl1, zl2, zl3, zl4, zl5, zl6, zl7, zl8, zl9] <;> omega))))
                conv => whnf
                exact hK _ _ _ (.inr ⟨c, hin, by rw [← hy]; exact hh, hno2, by rw [← hy], .inl ⟨rfl, rfl, by rw [← hy]; exact (fun h => by have := h.2.1; simp only at this; omega)⟩⟩)
              · cases ykn with
                | false =>
                  repeat ((conv => whnf); (first | refine Cnd.yes ?_ | refine Cnd.no ?_ | refine And.intro rfl ?_ | refine And.intro (by omega) ?_ | (refine And.intro ?_ ?_; focus (simp only [IntKind.wrap_i64, IntKind.wrap_u64, IntKind.wrap_u32]; omega)) | (refine And.intro ?_ ?_; focus (simp only [zl1, zl2, zl3, zl4, zl5, zl6, zl7, zl8, zl9] <;> omega)) | (refine Cnd.tt ?_ ?_; focus (first | (apply decide_eq_true; omega) | (simp only [zq1, zq2, zq3, zq4, zq5, zq6, zq7, zq8, zq9, zq10, zq11, zq12] <;> omega) | rfl)) | (refine Cnd.ff ?_ ?_; focus (first | (apply decide_eq_false; omega) | (simp only [zq1, zq2, zq3, zq4, zq5, zq6, zq7, zq8, zq9, zq10, zq11, zq12] <;> omega) | rfl))))
                  conv => whnf
                  first | rw [e3] | skip
                  repeat ((conv => whnf); (first | refine Cnd.yes ?_ | refine Cnd.no ?_ | refine And.intro rfl ?_ | refine And.intro (by omega) ?_ | (refine And.intro ?_ ?_; focus (simp only [IntKind.wrap_i64, IntKind.wrap_u64, IntKind.wrap_u32]; omega)) | (refine And.intro ?_ ?_; focus (simp only [zl1, zl2, zl3, zl4, zl5, zl6, zl7, zl8, zl9] <;> omega)) | (refine Cnd.tt ?_ ?_; focus (first | (apply decide_eq_true; omega) | (simp only [zq1, zq2, zq3, zq4, zq5, zq6, zq7, zq8, zq9, zq10, zq11, zq12] <;> omega) | rfl)) | (refine Cnd.ff ?_ ?_; focus (first | (apply decide_eq_false; omega) | (simp only [zq1, zq2, zq3, zq4, zq5, zq6, zq7, zq8, zq9, zq10, zq11, zq12] <;> omega) | rfl))))
                  conv => whnf
                  refine ⟨[0, 1], .tup [.v (.int .i64 2), .v (.int .u32 0), .v (.int .i64 yid)], q1Hp true n len P x R, ?_⟩
                  repeat ((conv => whnf); (first | refine Cnd.yes ?_ | refine Cnd.no ?_ | refine And.intro rfl ?_ | refine And.intro (by omega) ?_ | (refine And.intro ?_ ?_; focus (simp only [IntKind.wrap_i64, IntKind.wrap_u64, IntKind.wrap_u32]; omega)) | (refine And.intro ?_ ?_; focus (simp only [zl1, zl2, zl3, zl4, zl5, zl6, zl7, zl8, zl9] <;> omega))))
                  conv => whnf
                  exact hK _ _ _ (.inr ⟨c, hin, by rw [← hy]; exact hh, hno2, by rw [← hy], .inl ⟨rfl, rfl, by rw [← hy]; exact (fun h => by cases h.2.2)⟩⟩)
                | true =>
                  repeat ((conv => whnf); (first | refine Cnd.yes ?_ | refine Cnd.no ?_ | refine And.intro rfl ?_ | refine And.intro (by omega) ?_ | (refine And.intro ?_ ?_; focus (simp only [IntKind.wrap_i64, IntKind.wrap_u64, IntKind.wrap_u32]; omega)) | (refine And.intro ?_ ?_; focus (simp only [zl1, zl2, zl3, zl4, zl5, zl6, zl7, zl8, zl9] <;> omega)) | (refine Cnd.tt ?_ ?_; focus (first | (apply decide_eq_true; omega) | (simp only [zq1, zq2, zq3, zq4, zq5, zq6, zq7, zq8, zq9, zq10, zq11, zq12] <;> omega) | rfl)) | (refine Cnd.ff ?_ ?_; focus (first | (apply decide_eq_false; omega) | (simp only [zq1, zq2, zq3, zq4, zq5, zq6, zq7, zq8, zq9, zq10, zq11, zq12] <;> omega) | rfl))))
                  conv => whnf
                  rw [e3]
                  repeat ((conv => whnf); (first | refine Cnd.yes ?_ | refine Cnd.no ?_ | refine And.intro rfl ?_ | refine And.intro (by omega) ?_ | (refine And.intro ?_ ?_; focus (simp only [IntKind.wrap_i64, IntKind.wrap_u64, IntKind.wrap_u32]; omega)) | (refine And.intro ?_ ?_; focus (simp only [zl1, zl2, zl3, zl4, zl5, zl6, zl7, zl8, zl9] <;> omega)) | (refine Cnd.tt ?_ ?_; focus (first | (apply decide_eq_true; omega) | (simp only [zq1, zq2, zq3, zq4, zq5, zq6, zq7, zq8, zq9, zq10, zq11, zq12] <;> omega) | rfl)) | (refine Cnd.ff ?_ ?_; focus (first | (apply decide_eq_false; omega) | (simp only [zq1, zq2, zq3, zq4, zq5, zq6, zq7, zq8, zq9, zq10, zq11, zq12] <;> omega) | rfl))))
                  conv => whnf
                  intro Mr2 hMr2
                  repeat ((conv => whnf); (first | refine Cnd.yes ?_ | refine Cnd.no ?_ | refine And.intro rfl ?_ | refine And.intro (by omega) ?_ | (refine And.intro ?_ ?_; focus (simp only [IntKind.wrap_i64, IntKind.wrap_u64, IntKind.wrap_u32]; omega)) | (refine And.intro ?_ ?_; focus (simp only [zl1, zl2, zl3, zl4, zl5, zl6, zl7, zl8, zl9] <;> omega)) | (refine Cnd.tt ?_ ?_; focus (first | (apply decide_eq_true; omega) | (simp only [zq1, zq2, zq3, zq4, zq5, zq6, zq7, zq8, zq9, zq10, zq11, zq12] <;> omega) | rfl)) | (refine Cnd.ff ?_ ?_; focus (first | (apply decide_eq_false; omega) | (simp only [zq1, zq2, zq3, zq4, zq5, zq6, zq7, zq8, zq9, zq10, zq11, zq12] <;> omega) | rfl))))
                  conv => whnf
                  obtain ⟨x0, x1, x2, _, _⟩ := hfx
                  obtain ⟨y0, y1, y2, y3, y4⟩ := hfy
                  simp only at y0 y1 y2 y3 y4
                  have a1 : toI (cellAt (P.map qrow ++ qrow x :: R) (0 + ((0 : Nat) : Int).toNat + c) (0 + 1 + 1 + 1 + 1 + 1 + 1)) = ((yv.toNat : Nat) : Int) := by rw [cc]; show yv = _; omega
                  have a2 : IntKind.i64.wrap (8 * IntKind.i64.wrap (IntKind.u64.wrap (x.ad - yad))) = ((8 * (x.ad - yad).toNat : Nat) : Int) := by simp only [IntKind.wrap_i64, IntKind.wrap_u64]; omega
                  have a3 : IntKind.i64.wrap (8 * toI (cellAt (P.map qrow ++ qrow x :: R) (0 + (P.length : Int).toNat) (0 + 5))) = ((8 * x.sz.toNat : Nat) : Int) := by
                    rw [c2]
                    show IntKind.i64.wrap (8 * x.sz) = _
                    rw [IntKind.wrap_i64]
                    omega
                  refine ⟨yv.toNat, 8 * (x.ad - yad).toNat, 8 * x.sz.toNat, by rw [a1, a2, a3], rfl, by omega, by omega, by omega, ?_⟩
                  repeat ((conv => whnf); (first | refine Cnd.yes ?_ | refine Cnd.no ?_ | refine And.intro rfl ?_ | refine And.intro (by omega) ?_ | (refine And.intro ?_ ?_; focus (simp only [IntKind.wrap_i64, IntKind.wrap_u64, IntKind.wrap_u32]; omega)) | (refine And.intro ?_ ?_; focus (simp only [zl1, zl2, zl3, zl4, zl5, zl6, zl7, zl8, zl9] <;> omega)) | (refine Cnd.tt ?_ ?_; focus (first | (apply decide_eq_true; omega) | (simp only [zq1, zq2, zq3, zq4, zq5, zq6, zq7, zq8, zq9, zq10, zq11, zq12] <;> omega) | rfl)) | (refine Cnd.ff ?_ ?_; focus (first | (apply decide_eq_false; omega) | (simp only [zq1, zq2, zq3, zq4, zq5, zq6, zq7, zq8, zq9, zq10, zq11, zq12] <;> omega) | rfl))))
                  conv => whnf
                  refine ⟨[0, 1], .tup [.v (.int .i64 1), .v (.int .u32 (yv.toNat / 2 ^ (8 * (x.ad - yad).toNat) % 2 ^ (8 * x.sz.toNat) : Nat)), .v (.int .i64 yid)], q1Hp true n len P x R, ?_⟩
                  repeat ((conv => whnf); (first | refine Cnd.yes ?_ | refine Cnd.no ?_ | refine And.intro rfl ?_ | refine And.intro (by omega) ?_ | (refine And.intro ?_ ?_; focus (simp only [IntKind.wrap_i64, IntKind.wrap_u64, IntKind.wrap_u32]; omega)) | (refine And.intro ?_ ?_; focus (simp only [zl1, zl2, zl3, zl4, zl5, zl6, zl7, zl8, zl9] <;> omega))))
                  conv => whnf
                  exact hK _ _ _ (.inr ⟨c, hin, by rw [← hy]; exact hh, hno2, by rw [← hy], .inr ⟨rfl, by rw [← hy]; exact ⟨by show yad ≤ _; omega, by show _ ≤ yad + ysz; omega, rfl⟩, by rw [← hy]⟩⟩)
          · have hno' : ∀ j, c ≤ j → j < P.length → ¬ hit (P.getD j default) x := fun j h1 h2 => by
              rcases Nat.lt_or_eq_of_le h1 with h3 | rfl
              · exact hno j h3 h2
              · rw [← hy]; exact hh
            cases yst with
            | false =>
              repeat ((conv => whnf); (first | refine Cnd.yes ?_ | refine Cnd.no ?_ | refine And.intro rfl ?_ | refine And.intro (by omega) ?_ | (refine And.intro ?_ ?_; focus (simp only [IntKind.wrap_i64, IntKind.wrap_u64, IntKind.wrap_u32]; omega)) | (refine And.intro ?_ ?_; focus (simp only [zl1, zl2, zl3, zl4, zl5, zl6, zl7, zl8, zl9] <;> omega)) | (refine Cnd.tt ?_ ?_; focus (first | (apply decide_eq_true; omega) | (simp only [zq1, zq2, zq3, zq4, zq5, zq6, zq7, zq8, zq9, zq10, zq11, zq12] <;> omega) | rfl)) | (refine Cnd.ff ?_ ?_; focus (first | (apply decide_eq_false; omega) | (simp only [zq1, zq2, zq3, zq4, zq5, zq6, zq7, zq8, zq9, zq10, zq11, zq12] <;> omega) | rfl))))
              conv => whnf
              refine ⟨[0, 1, 2, 3, 4, 5, 6, 7, 8], tmk 112 0 [(2, .ptr 2 0 0 0), (4, .ptr 3 0 0 0), (5, .ptr 4 0 0 0), (6, .ptr 5 0 0 0), (7, .ptr 6 0 0 0), (10, .ptr 7 0 0 0), (11, .ptr 8 0 0 0)], q1Hp true n len P x R ++ [.cells 24 [.ptr 0 0 0 0], .cells 3 [.v (.int .i64 0)], .cells 35 [.v (.int .u32 0)], .cells 3 [.v (.int .i64 0)], .cells 3 [.v (.int .i64 P.length)], .cells 63 [.v (.int .u64 x.ad)], .cells 63 [.v (.int .u64 (x.ad + x.sz))]], ?_⟩
              repeat ((conv => whnf); (first | refine Cnd.yes ?_ | refine Cnd.no ?_ | refine And.intro rfl ?_ | refine And.intro (by omega) ?_ | (refine And.intro ?_ ?_; focus (simp only [IntKind.wrap_i64, IntKind.wrap_u64, IntKind.wrap_u32]; omega)) | (refine And.intro ?_ ?_; focus (simp only [zl1, zl2, zl3, zl4, zl5, zl6, zl7, zl8, zl9] <;> omega))))
              conv => whnf
            | true =>
              by_cases h4 : x.ad + x.sz ≤ yad
              · repeat ((conv => whnf); (first | refine Cnd.yes ?_ | refine Cnd.no ?_ | refine And.intro rfl ?_ | refine And.intro (by omega) ?_ | (refine And.intro ?_ ?_; focus (simp only [IntKind.wrap_i64, IntKind.wrap_u64, IntKind.wrap_u32]; omega)) | (refine And.intro ?_ ?_; focus (simp only [zl1, zl2, zl3, zl4, zl5, zl6, zl7, zl8, zl9] <;> omega)) | (refine Cnd.tt ?_ ?_; focus (first | (apply decide_eq_true; omega) | (simp only [zq1, zq2, zq3, zq4, zq5, zq6, zq7, zq8, zq9, zq10, zq11, zq12] <;> omega) | rfl)) | (refine Cnd.ff ?_ ?_; focus (first | (apply decide_eq_false; omega) | (simp only [zq1, zq2, zq3, zq4, zq5, zq6, zq7, zq8, zq9, zq10, zq11, zq12] <;> omega) | rfl))))
                conv => whnf
                refine ⟨[0, 1, 2, 3, 4, 5, 6, 7, 8], tmk 112 0 [(2, .ptr 2 0 0 0), (4, .ptr 3 0 0 0), (5, .ptr 4 0 0 0), (6, .ptr 5 0 0 0), (7, .ptr 6 0 0 0), (10, .ptr 7 0 0 0), (11, .ptr 8 0 0 0)], q1Hp true n len P x R ++ [.cells 24 [.ptr 0 0 0 0], .cells 3 [.v (.int .i64 0)], .cells 35 [.v (.int .u32 0)], .cells 3 [.v (.int .i64 0)], .cells 3 [.v (.int .i64 P.length)], .cells 63 [.v (.int .u64 x.ad)], .cells 63 [.v (.int .u64 (x.ad + x.sz))]], ?_⟩
                repeat ((conv => whnf); (first | refine Cnd.yes ?_ | refine Cnd.no ?_ | refine And.intro rfl ?_ | refine And.intro (by omega) ?_ | (refine And.intro ?_ ?_; focus (simp only [IntKind.wrap_i64, IntKind.wrap_u64, IntKind.wrap_u32]; omega)) | (refine And.intro ?_ ?_; focus (simp only [zl1, zl2, zl3, zl4, zl5, zl6, zl7, zl8, zl9] <;> omega))))
                conv => whnf
              · have h5 : yad + ysz ≤ x.ad := by
                  by_cases h5 : yad + ysz ≤ x.ad
                  · exact h5
                  · exact absurd ⟨rfl, by show yad < _; omega, by show _ < yad + ysz; omega⟩ hh
                repeat ((conv => whnf); (first | refine Cnd.yes ?_ | refine Cnd.no ?_ | refine And.intro rfl ?_ | refine And.intro (by omega) ?_ | (refine And.intro ?_ ?_; focus (simp only [IntKind.wrap_i64, IntKind.wrap_u64, IntKind.wrap_u32]; omega)) | (refine And.intro ?_ ?_; focus (simp only [zl1, zl2, zl3, zl4, zl5, zl6, zl7, zl8, zl9] <;> omega)) | (refine Cnd.tt ?_ ?_; focus (first | (apply decide_eq_true; omega) | (simp only [zq1, zq2, zq3, zq4, zq5, zq6, zq7, zq8, zq9, zq10, zq11, zq12] <;> omega) | rfl)) | (refine Cnd.ff ?_ ?_; focus (first | (apply decide_eq_false; omega) | (simp only [zq1, zq2, zq3, zq4, zq5, zq6, zq7, zq8, zq9, zq10, zq11, zq12] <;> omega) | rfl))))
                conv => whnf
                refine ⟨[0, 1, 2, 3, 4, 5, 6, 7, 8], tmk 112 0 [(2, .ptr 2 0 0 0), (4, .ptr 3 0 0 0), (5, .ptr 4 0 0 0), (6, .ptr 5 0 0 0), (7, .ptr 6 0 0 0), (10, .ptr 7 0 0 0), (11, .ptr 8 0 0 0)], q1Hp true n len P x R ++ [.cells 24 [.ptr 0 0 0 0], .cells 3 [.v (.int .i64 0)], .cells 35 [.v (.int .u32 0)], .cells 3 [.v (.int .i64 0)], .cells 3 [.v (.int .i64 P.length)], .cells 63 [.v (.int .u64 x.ad)], .cells 63 [.v (.int .u64 (x.ad + x.sz))]], ?_⟩
                repeat ((conv => whnf); (first | refine Cnd.yes ?_ | refine Cnd.no ?_ | refine And.intro rfl ?_ | refine And.intro (by omega) ?_ | (refine And.intro ?_ ?_; focus (simp only [IntKind.wrap_i64, IntKind.wrap_u64, IntKind.wrap_u32]; omega)) | (refine And.intro ?_ ?_; focus (simp only [zl1, zl2, zl3, zl4, zl5, zl6, zl7, zl8, zl9] <;> omega))))
                conv => whnf
        · obtain ⟨hc1, hno, rfl, htm, rfl⟩ := hI
          conv at htm => whnf
          subst htm
          repeat ((conv => whnf); (first | refine Cnd.yes ?_ | refine Cnd.no ?_ | refine And.intro rfl ?_ | refine And.intro (by omega) ?_ | (refine And.intro ?_ ?_; focus (simp only [IntKind.wrap_i64, IntKind.wrap_u64, IntKind.wrap_u32]; omega)) | (refine And.intro ?_ ?_; focus (simp only [zl1, zl2, zl3, zl4, zl5, zl6, zl7, zl8, zl9] <;> omega)) | (refine Cnd.tt ?_ ?_; focus (first | (apply decide_eq_true; omega) | (simp only [zq1, zq2, zq3, zq4, zq5, zq6, zq7, zq8, zq9, zq10, zq11, zq12] <;> omega) | rfl)) | (refine Cnd.ff ?_ ?_; focus (first | (apply decide_eq_false; omega) | (simp only [zq1, zq2, zq3, zq4, zq5, zq6, zq7, zq8, zq9, zq10, zq11, zq12] <;> omega) | rfl))))
          conv => whnf
          refine ⟨[0, 1], .tup [.v (.int .i64 0), .v (.int .u32 0), .v (.int .i64 (-1))], q1Hp true n len P x R, ?_⟩
          repeat ((conv => whnf); (first | refine Cnd.yes ?_ | refine Cnd.no ?_ | refine And.intro rfl ?_ | refine And.intro (by omega) ?_ | (refine And.intro ?_ ?_; focus (simp only [IntKind.wrap_i64, IntKind.wrap_u64, IntKind.wrap_u32]; omega)) | (refine And.intro ?_ ?_; focus (simp only [zl1, zl2, zl3, zl4, zl5, zl6, zl7, zl8, zl9] <;> omega))))
          conv => whnf
          exact hK _ _ _ (.inl ⟨rfl, rfl, rfl, fun j hj => hno j (Nat.zero_le _) hj⟩)
def aheadS : Vc.Spec := fun args hp _ K => ∃ (n id : Int) (P : List Q7) (x : Q7) (R : List (List Value)) (len : Nat), args = [.ptr 0 0 0 0, .v (.int .i64 id)] ∧ hp = q1Hp true n len P x R ∧ P.length < len ∧ len ≤ P.length + 1 + R.length ∧ len ≤ 1000 ∧ x.id = id ∧ (∀ y ∈ P, y.id ≠ id) ∧
  x.st = false ∧ x.pl = true ∧ Fit7 x ∧ (∀ y ∈ P, Fit7 y) ∧ (∀ y ∈ P, y.st = true → y.pl = true) ∧ ∀ k v i, AheadOK P x k v i → K (.tup [.v (.int .i64 k), .v (.int .u32 v), .v (.int .i64 i)]) (q1Hp true n len P x R)
theorem ahead_ok : SOK Tryd.prog 13 aheadS := by
  refine TOK.weaken (TOK.out (runF_eqB GC_ok mixed at13.1 at13.2 pf13_eq back13)) fun args hp M K h => ?_
  obtain ⟨n, id, P, x, R, len, rfl, rfl, h1, h2, h3, h4, h5, h6, h7, h8, h9, h10, h11⟩ := h
  exact ahead_run M K n id P x R len h1 h2 h3 h4 h5 h6 h7 h8 h9 h10 h11
end Go.Proofs.YtjbknaniihkcnaaDoor
