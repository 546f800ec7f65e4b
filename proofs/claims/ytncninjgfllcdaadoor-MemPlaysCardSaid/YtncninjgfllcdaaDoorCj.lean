/-
  Parts of a line: Bits, Place, fits, Part, With of the program and of the document, SameLine, LineOf; walked; their contracts.
-/
import Derived.Test.YtncninjgfllcdaaDoorCi
namespace Go.Proofs.YtncninjgfllcdaaDoor
open Go Go.Vc
set_option maxRecDepth 100000
set_option linter.unusedSimpArgs false
set_option linter.unusedVariables false
theorem u64w {n : Nat} (h : n < 1000) : IntKind.u64.wrap (n : Int) = n := by rw [IntKind.wrap_u64]; omega
theorem pow32 {n : Nat} (h : n < 32) : 2 ^ n < 4294967296 := by
  have : 2 ^ n < 2 ^ 32 := Nat.pow_lt_pow_right (by omega) h
  omega
theorem bits_lt {x low n : Nat} (hx : x < 4294967296) : bitsN x low n < 4294967296 := by
  unfold bitsN
  have h1 : x / 2 ^ low % 2 ^ n ≤ x / 2 ^ low := Nat.mod_le _ _
  have h2 : x / 2 ^ low ≤ x := Nat.div_le_self _ _
  omega
theorem sub1w {n : Nat} (h : n < 32) : IntKind.u32.wrap (((1 * 2 ^ n % 4294967296 : Nat) : Int) - 1) = ((2 ^ n - 1 : Nat) : Int) := by
  have h1 := pow32 h
  have h2 := Nat.two_pow_pos n
  rw [Nat.one_mul, Nat.mod_eq_of_lt h1, IntKind.wrap_u32]
  omega
theorem bits_run (M : HL) (K : SV → List Ent → HL → Prop) (hp : List Ent) (x low n : Nat) (hx : x < 4294967296) (hl : low ≤ 31) (hn : 1 ≤ n ∧ n ≤ 32) (hf : n = 32 → low = 0) (hK : K (.v (.int .u32 (bitsN x low n : Nat))) hp M) :
    runF G0 pf39 [.v (.int .u32 x), .v (.int .i64 low), .v (.int .i64 n)] hp M K := by
  repeat ((conv => whnf); (first | refine Cnd.yes ?_ | refine Cnd.no ?_ | refine And.intro rfl ?_ | refine And.intro (by omega) ?_ | (refine And.intro ?_ ?_; focus (simp only [IntKind.wrap_i64, IntKind.wrap_u64, IntKind.wrap_u32]; omega)) | (refine And.intro ?_ ?_; focus (simp only [zl1, zl2, zl3, zl4, zl5, zl6, zl7, zl8] <;> omega))))
  conv => whnf
  refine Cnd.ff (decide_eq_false (by omega)) ?_
  repeat ((conv => whnf); (first | refine Cnd.yes ?_ | refine Cnd.no ?_ | refine And.intro rfl ?_ | refine And.intro (by omega) ?_ | (refine And.intro ?_ ?_; focus (simp only [IntKind.wrap_i64, IntKind.wrap_u64, IntKind.wrap_u32]; omega)) | (refine And.intro ?_ ?_; focus (simp only [zl1, zl2, zl3, zl4, zl5, zl6, zl7, zl8] <;> omega))))
  conv => whnf
  refine Cnd.ff (decide_eq_false (by omega)) ?_
  repeat ((conv => whnf); (first | refine Cnd.yes ?_ | refine Cnd.no ?_ | refine And.intro rfl ?_ | refine And.intro (by omega) ?_ | (refine And.intro ?_ ?_; focus (simp only [IntKind.wrap_i64, IntKind.wrap_u64, IntKind.wrap_u32]; omega)) | (refine And.intro ?_ ?_; focus (simp only [zl1, zl2, zl3, zl4, zl5, zl6, zl7, zl8] <;> omega))))
  conv => whnf
  rw [u64w (n := low) (by omega)]
  repeat ((conv => whnf); (first | refine Cnd.yes ?_ | refine Cnd.no ?_ | refine And.intro rfl ?_ | refine And.intro (by omega) ?_ | (refine And.intro ?_ ?_; focus (simp only [IntKind.wrap_i64, IntKind.wrap_u64, IntKind.wrap_u32]; omega)) | (refine And.intro ?_ ?_; focus (simp only [zl1, zl2, zl3, zl4, zl5, zl6, zl7, zl8] <;> omega))))
  conv => whnf
  rw [shr32 x low (by omega)]
  by_cases h : n = 32
  · refine Cnd.tt (decide_eq_true (by omega)) ?_
    repeat ((conv => whnf); (first | refine Cnd.yes ?_ | refine Cnd.no ?_ | refine And.intro rfl ?_ | refine And.intro (by omega) ?_ | (refine And.intro ?_ ?_; focus (simp only [IntKind.wrap_i64, IntKind.wrap_u64, IntKind.wrap_u32]; omega)) | (refine And.intro ?_ ?_; focus (simp only [zl1, zl2, zl3, zl4, zl5, zl6, zl7, zl8] <;> omega))))
    conv => whnf
    have := hf h
    subst h
    subst this
    rw [show bitsN x 0 32 = x / 2 ^ 0 from by unfold bitsN; rw [Nat.pow_zero, Nat.div_one, Nat.mod_eq_of_lt (show x < 2 ^ 32 from hx)]] at hK
    exact hK
  · refine Cnd.ff (decide_eq_false (by omega)) ?_
    repeat ((conv => whnf); (first | refine Cnd.yes ?_ | refine Cnd.no ?_ | refine And.intro rfl ?_ | refine And.intro (by omega) ?_ | (refine And.intro ?_ ?_; focus (simp only [IntKind.wrap_i64, IntKind.wrap_u64, IntKind.wrap_u32]; omega)) | (refine And.intro ?_ ?_; focus (simp only [zl1, zl2, zl3, zl4, zl5, zl6, zl7, zl8] <;> omega))))
    conv => whnf
    rw [u64w (n := n) (by omega)]
    repeat ((conv => whnf); (first | refine Cnd.yes ?_ | refine Cnd.no ?_ | refine And.intro rfl ?_ | refine And.intro (by omega) ?_ | (refine And.intro ?_ ?_; focus (simp only [IntKind.wrap_i64, IntKind.wrap_u64, IntKind.wrap_u32]; omega)) | (refine And.intro ?_ ?_; focus (simp only [zl1, zl2, zl3, zl4, zl5, zl6, zl7, zl8] <;> omega))))
    conv => whnf
    rw [show (1 : Int) = ((1 : Nat) : Int) from rfl, shl32 1 n (by omega), show ((1 : Nat) : Int) = 1 from rfl, sub1w (by omega)]
    have h1 := pow32 (show n < 32 by omega)
    have h2 : x / 2 ^ low ≤ x := Nat.div_le_self _ _
    rw [and32 (by omega) (by omega), Nat.and_two_pow_sub_one_eq_mod]
    exact hK
def bitsS : Vc.Spec := fun args hp _ K => ∃ (x low n : Nat), args = [.v (.int .u32 x), .v (.int .i64 low), .v (.int .i64 n)] ∧ x < 4294967296 ∧ low ≤ 31 ∧ (1 ≤ n ∧ n ≤ 32) ∧ (n = 32 → low = 0) ∧ K (.v (.int .u32 (bitsN x low n : Nat))) hp
theorem bits_ok : SOK Tryd.prog 39 bitsS := by
  refine TOK.weaken (runF_eq G0_ok mixed at39.1 at39.2 pf39_eq) fun args hp M K h => ?_
  obtain ⟨x, low, n, rfl, h1, h2, h3, h4, h5⟩ := h
  exact bits_run M K hp x low n h1 h2 h3 h4 h5
noncomputable def specs6 : Nat → Option Vc.Trans := tget [(39, frameT bitsS), (34, frameT fairS)]
noncomputable def G6 : Nat → Option Vc.Trans := tabG specs6 (tget tab) 5
theorem G6_ok : GOK Tryd.prog G6 := tabG_ok (GOK.cons (frame_ok bits_ok) (GOK.cons (frame_ok fair_ok) .nil)) tab_ok 5
theorem place_run (M : HL) (K : SV → List Ent → HL → Prop) (x low n : Nat) (hx : x < 4294967296) (hl : low ≤ 31) (hn : 1 ≤ n ∧ n ≤ 32) (hf : low + n ≤ 32) (hK : K (.v (.int .u32 (x % 2 ^ n * 2 ^ low : Nat))) [] M) :
    runF G6 pf40 [.v (.int .u32 x), .v (.int .i64 low), .v (.int .i64 n)] [] M K := by
  repeat ((conv => whnf); (first | refine Cnd.yes ?_ | refine Cnd.no ?_ | refine And.intro rfl ?_ | refine And.intro (by omega) ?_ | (refine And.intro ?_ ?_; focus (simp only [IntKind.wrap_i64, IntKind.wrap_u64, IntKind.wrap_u32]; omega)) | (refine And.intro ?_ ?_; focus (simp only [zl1, zl2, zl3, zl4, zl5, zl6, zl7, zl8] <;> omega))))
  conv => whnf
  refine Cnd.ff (decide_eq_false (by omega)) ?_
  repeat ((conv => whnf); (first | refine Cnd.yes ?_ | refine Cnd.no ?_ | refine And.intro rfl ?_ | refine And.intro (by omega) ?_ | (refine And.intro ?_ ?_; focus (simp only [IntKind.wrap_i64, IntKind.wrap_u64, IntKind.wrap_u32]; omega)) | (refine And.intro ?_ ?_; focus (simp only [zl1, zl2, zl3, zl4, zl5, zl6, zl7, zl8] <;> omega))))
  conv => whnf
  refine Cnd.ff (decide_eq_false (by omega)) ?_
  repeat ((conv => whnf); (first | refine Cnd.yes ?_ | refine Cnd.no ?_ | refine And.intro rfl ?_ | refine And.intro (by omega) ?_ | (refine And.intro ?_ ?_; focus (simp only [IntKind.wrap_i64, IntKind.wrap_u64, IntKind.wrap_u32]; omega)) | (refine And.intro ?_ ?_; focus (simp only [zl1, zl2, zl3, zl4, zl5, zl6, zl7, zl8] <;> omega))))
  conv => whnf
  refine ⟨x, 0, n, rfl, hx, by omega, hn, by omega, ?_⟩
  repeat ((conv => whnf); (first | refine Cnd.yes ?_ | refine Cnd.no ?_ | refine And.intro rfl ?_ | refine And.intro (by omega) ?_ | (refine And.intro ?_ ?_; focus (simp only [IntKind.wrap_i64, IntKind.wrap_u64, IntKind.wrap_u32]; omega)) | (refine And.intro ?_ ?_; focus (simp only [zl1, zl2, zl3, zl4, zl5, zl6, zl7, zl8] <;> omega))))
  conv => whnf
  rw [u64w (n := low) (by omega)]
  repeat ((conv => whnf); (first | refine Cnd.yes ?_ | refine Cnd.no ?_ | refine And.intro rfl ?_ | refine And.intro (by omega) ?_ | (refine And.intro ?_ ?_; focus (simp only [IntKind.wrap_i64, IntKind.wrap_u64, IntKind.wrap_u32]; omega)) | (refine And.intro ?_ ?_; focus (simp only [zl1, zl2, zl3, zl4, zl5, zl6, zl7, zl8] <;> omega))))
  conv => whnf
  rw [shl32 _ low (by omega)]
  have e : bitsN x 0 n = x % 2 ^ n := by unfold bitsN; rw [Nat.pow_zero, Nat.div_one]
  rw [e, Nat.mod_eq_of_lt (placed_lt x hf)]
  exact hK
def placeS : Vc.Spec := fun args hp _ K => ∃ (x low n : Nat), args = [.v (.int .u32 x), .v (.int .i64 low), .v (.int .i64 n)] ∧ hp = [] ∧ x < 4294967296 ∧ low ≤ 31 ∧ (1 ≤ n ∧ n ≤ 32) ∧ low + n ≤ 32 ∧ K (.v (.int .u32 (x % 2 ^ n * 2 ^ low : Nat))) []
theorem place_ok : SOK Tryd.prog 40 placeS := by
  refine TOK.weaken (runF_eq G6_ok mixed at40.1 at40.2 pf40_eq) fun args hp M K h => ?_
  obtain ⟨x, low, n, rfl, rfl, h1, h2, h3, h4, h5⟩ := h
  exact place_run M K x low n h1 h2 h3 h4 h5
theorem fits_run (M : HL) (K : SV → List Ent → HL → Prop) (addr : Nat) (size : Int) (h3 : addr < 4294967296)
    (hK : K (.v (.bool (fairB addr size))) [] M) : runF G0 pf38 [.v (.int .u32 addr), .v (.int .i64 size)] [] M K := by
  have hw : IntKind.i64.wrap (addr : Int) = addr := by rw [IntKind.wrap_i64]; omega
  have hm : ∀ n : Nat, 0 < n → n < 5 → (((addr : Int).tmod (n : Int)) == 0) = decide (addr % n = 0) := by
    intro n h0 h5
    rw [Int.tmod_eq_emod_of_nonneg (by omega), ← Int.natCast_emod]
    by_cases h : addr % n = 0
    · rw [decide_eq_true h]; simp only [beq_iff_eq]; omega
    · rw [decide_eq_false h]; simp only [beq_eq_false_iff_ne]; omega
  rcases (show size = 1 ∨ size = 2 ∨ size = 4 ∨ (size ≠ 1 ∧ size ≠ 2 ∧ size ≠ 4) by omega) with rfl | rfl | rfl | ⟨h1, h2, h4⟩
  · repeat ((conv => whnf); (first | refine Cnd.yes ?_ | refine Cnd.no ?_ | refine And.intro rfl ?_ | refine And.intro (by omega) ?_ | (refine And.intro ?_ ?_; focus (simp only [IntKind.wrap_i64, IntKind.wrap_u64, IntKind.wrap_u32]; omega)) | (refine And.intro ?_ ?_; focus (simp only [zl1, zl2, zl3, zl4, zl5, zl6, zl7, zl8] <;> omega))))
    conv => whnf
    rw [hw, show (1 : Int) = ((1 : Nat) : Int) from rfl, hm 1 (by omega) (by omega)]
    rw [show decide (addr % 1 = 0) = fairB addr 1 from by simp [fairB]]
    exact hK
  · repeat ((conv => whnf); (first | refine Cnd.yes ?_ | refine Cnd.no ?_ | refine And.intro rfl ?_ | refine And.intro (by omega) ?_ | (refine And.intro ?_ ?_; focus (simp only [IntKind.wrap_i64, IntKind.wrap_u64, IntKind.wrap_u32]; omega)) | (refine And.intro ?_ ?_; focus (simp only [zl1, zl2, zl3, zl4, zl5, zl6, zl7, zl8] <;> omega))))
    conv => whnf
    rw [hw, show (2 : Int) = ((2 : Nat) : Int) from rfl, hm 2 (by omega) (by omega)]
    rw [show decide (addr % 2 = 0) = fairB addr 2 from by simp [fairB]]
    exact hK
  · repeat ((conv => whnf); (first | refine Cnd.yes ?_ | refine Cnd.no ?_ | refine And.intro rfl ?_ | refine And.intro (by omega) ?_ | (refine And.intro ?_ ?_; focus (simp only [IntKind.wrap_i64, IntKind.wrap_u64, IntKind.wrap_u32]; omega)) | (refine And.intro ?_ ?_; focus (simp only [zl1, zl2, zl3, zl4, zl5, zl6, zl7, zl8] <;> omega))))
    conv => whnf
    rw [hw, show (4 : Int) = ((4 : Nat) : Int) from rfl, hm 4 (by omega) (by omega)]
    rw [show decide (addr % 4 = 0) = fairB addr 4 from by simp [fairB]]
    exact hK
  · repeat ((conv => whnf); (first | refine Cnd.yes ?_ | refine Cnd.no ?_ | refine And.intro rfl ?_ | refine And.intro (by omega) ?_ | (refine And.intro ?_ ?_; focus (simp only [IntKind.wrap_i64, IntKind.wrap_u64, IntKind.wrap_u32]; omega)) | (refine And.intro ?_ ?_; focus (simp only [zl1, zl2, zl3, zl4, zl5, zl6, zl7, zl8] <;> omega))))
    conv => whnf
    refine Cnd.ff (by simpa using h1) ?_
    repeat ((conv => whnf); (first | refine Cnd.yes ?_ | refine Cnd.no ?_ | refine And.intro rfl ?_ | refine And.intro (by omega) ?_ | (refine And.intro ?_ ?_; focus (simp only [IntKind.wrap_i64, IntKind.wrap_u64, IntKind.wrap_u32]; omega)) | (refine And.intro ?_ ?_; focus (simp only [zl1, zl2, zl3, zl4, zl5, zl6, zl7, zl8] <;> omega))))
    conv => whnf
    refine Cnd.ff (by simpa using h2) ?_
    repeat ((conv => whnf); (first | refine Cnd.yes ?_ | refine Cnd.no ?_ | refine And.intro rfl ?_ | refine And.intro (by omega) ?_ | (refine And.intro ?_ ?_; focus (simp only [IntKind.wrap_i64, IntKind.wrap_u64, IntKind.wrap_u32]; omega)) | (refine And.intro ?_ ?_; focus (simp only [zl1, zl2, zl3, zl4, zl5, zl6, zl7, zl8] <;> omega))))
    conv => whnf
    refine Cnd.ff (by simpa using h4) ?_
    repeat ((conv => whnf); (first | refine Cnd.yes ?_ | refine Cnd.no ?_ | refine And.intro rfl ?_ | refine And.intro (by omega) ?_ | (refine And.intro ?_ ?_; focus (simp only [IntKind.wrap_i64, IntKind.wrap_u64, IntKind.wrap_u32]; omega)) | (refine And.intro ?_ ?_; focus (simp only [zl1, zl2, zl3, zl4, zl5, zl6, zl7, zl8] <;> omega))))
    conv => whnf
    rw [show fairB addr size = false from by simp [fairB, h1, h2, h4]] at hK
    exact hK
def fitsS : Vc.Spec := fun args hp _ K => ∃ (addr : Nat) (size : Int), args = [.v (.int .u32 addr), .v (.int .i64 size)] ∧ hp = [] ∧ addr < 4294967296 ∧ K (.v (.bool (fairB addr size))) []
theorem fits_ok : SOK Tryd.prog 38 fitsS := by
  refine TOK.weaken (runF_eq G0_ok mixed at38.1 at38.2 pf38_eq) fun args hp M K h => ?_
  obtain ⟨addr, size, rfl, rfl, h1, h2⟩ := h
  exact fits_run M K addr size h1 h2
noncomputable def specs7 : Nat → Option Vc.Trans := tget [(39, frameT bitsS), (34, frameT fairS), (38, frameT fitsS), (40, frameT placeS)]
noncomputable def G7 : Nat → Option Vc.Trans := tabG specs7 (tget tab) 5
theorem G7_ok : GOK Tryd.prog G7 := tabG_ok (GOK.cons (frame_ok bits_ok) (GOK.cons (frame_ok fair_ok) (GOK.cons (frame_ok fits_ok) (GOK.cons (frame_ok place_ok) .nil)))) tab_ok 5
def lnV (c : Nat → Nat) : SV := .agg [wW (c 0), wW (c 1), wW (c 2), wW (c 3)]
def lnC (c : Nat → Nat) : List SV := [wW (c 0), wW (c 1), wW (c 2), wW (c 3)]
def partN (c : Nat → Nat) (addr : Nat) (size : Int) : Nat := if fairB addr size then bitsN (c (addr / 4 % 4)) (8 * (addr % 4)) (8 * size.toNat) else 0
def withL (c : Nat → Nat) (addr : Nat) (size : Int) (v : Nat) (q : Nat) : Nat := if fairB addr size ∧ q = addr / 4 % 4 then turnN (c q) (8 * (addr % 4)) (8 * size.toNat) v else c q
theorem fair_cases {addr : Nat} {size : Int} (h : fairB addr size = true) : (size = 1 ∨ size = 2 ∨ size = 4) ∧ addr % 4 + size.toNat ≤ 4 ∧ (size = 4 → addr % 4 = 0) ∧ (addr : Nat) % size.toNat = 0 := by
  unfold fairB at h
  have := of_decide_eq_true h
  obtain ⟨h1, h2⟩ := this
  rcases h1 with rfl | rfl | rfl
  · exact ⟨by omega, by have e : Int.toNat 1 = 1 := rfl; rw [e]; omega, by omega, h2⟩
  · exact ⟨by omega, by have e : Int.toNat 2 = 2 := rfl; rw [e] at h2 ⊢; omega, by omega, h2⟩
  · exact ⟨by omega, by have e : Int.toNat 4 = 4 := rfl; rw [e] at h2 ⊢; omega, by intro _; have e : Int.toNat 4 = 4 := rfl; rw [e] at h2; omega, h2⟩
theorem nopart_run (M : HL) (K : SV → List Ent → HL → Prop) (c : Nat → Nat) (addr : Nat) (size : Int) (ha : addr < 4294967296) (hf : fairB addr size = false) (hK : K (.v (.int .u32 0)) [] M) :
    runF G6 pf17 [lnV c, .v (.int .u32 addr), .v (.int .i64 size)] [] M fun v hp2 M2 => ∃ m v' hp', Wk (llen ([] : List Ent)) m [v] hp2 [v'] hp' (K v' hp' M2) := by
  repeat ((conv => whnf); (first | refine Cnd.yes ?_ | refine Cnd.no ?_ | refine And.intro rfl ?_ | refine And.intro (by omega) ?_ | (refine And.intro ?_ ?_; focus (simp only [IntKind.wrap_i64, IntKind.wrap_u64, IntKind.wrap_u32]; omega)) | (refine And.intro ?_ ?_; focus (simp only [zl1, zl2, zl3, zl4, zl5, zl6, zl7, zl8] <;> omega))))
  conv => whnf
  refine ⟨addr, size, rfl, ha, ?_⟩
  rw [hf]
  repeat ((conv => whnf); (first | refine Cnd.yes ?_ | refine Cnd.no ?_ | refine And.intro rfl ?_ | refine And.intro (by omega) ?_ | (refine And.intro ?_ ?_; focus (simp only [IntKind.wrap_i64, IntKind.wrap_u64, IntKind.wrap_u32]; omega)) | (refine And.intro ?_ ?_; focus (simp only [zl1, zl2, zl3, zl4, zl5, zl6, zl7, zl8] <;> omega))))
  conv => whnf
  refine ⟨[], .v (.int .u32 0), [], ?_⟩
  repeat ((conv => whnf); (first | refine Cnd.yes ?_ | refine Cnd.no ?_ | refine And.intro rfl ?_ | refine And.intro (by omega) ?_ | (refine And.intro ?_ ?_; focus (simp only [IntKind.wrap_i64, IntKind.wrap_u64, IntKind.wrap_u32]; omega)) | (refine And.intro ?_ ?_; focus (simp only [zl1, zl2, zl3, zl4, zl5, zl6, zl7, zl8] <;> omega))))
  conv => whnf
  exact hK
theorem drop0 {K : SV → List Ent → HL → Prop} {M : HL} {n : Int} {hp2 : List Ent} (hK : K (.v (.int .u32 n)) [] M) : ∃ m v' hp', Wk (llen ([] : List Ent)) m [.v (.int .u32 n)] hp2 [v'] hp' (K v' hp' M) := by
  refine ⟨[], .v (.int .u32 n), [], ?_⟩
  repeat ((conv => whnf); (first | refine Cnd.yes ?_ | refine Cnd.no ?_ | refine And.intro rfl ?_ | refine And.intro (by omega) ?_ | (refine And.intro ?_ ?_; focus (simp only [IntKind.wrap_i64, IntKind.wrap_u64, IntKind.wrap_u32]; omega)) | (refine And.intro ?_ ?_; focus (simp only [zl1, zl2, zl3, zl4, zl5, zl6, zl7, zl8] <;> omega))))
  conv => whnf
  exact hK
theorem part_lt {x k : Nat} {size : Int} (hx : x < 4294967296) (hk : k ≤ 32) (hs : size = 1 ∨ size = 2 ∨ size = 4) (h : decide (size < 4) = true) :
    IntKind.u32.wrap (BitVec.ofInt IntKind.u32.bits ((x : Int).fdiv (2 ^ min ((k : Int)).toNat IntKind.u32.bits)) &&& BitVec.ofInt IntKind.u32.bits (IntKind.u32.wrap (IntKind.u32.wrap (1 * 2 ^ min (IntKind.i64.wrap (8 * size)).toNat IntKind.u32.bits) - 1))).toNat = ((bitsN x k (8 * size.toNat) : Nat) : Int) := by
  rw [shr32 x k hk]
  have hxl : x / 2 ^ k ≤ x := Nat.div_le_self _ _
  rcases hs with rfl | rfl | rfl
  · rw [show IntKind.u32.wrap (IntKind.u32.wrap (1 * 2 ^ min (IntKind.i64.wrap (8 * 1)).toNat IntKind.u32.bits) - 1) = ((2 ^ 8 - 1 : Nat) : Int) from by decide, and32 (by omega) (by omega), Nat.and_two_pow_sub_one_eq_mod]
    rfl
  · rw [show IntKind.u32.wrap (IntKind.u32.wrap (1 * 2 ^ min (IntKind.i64.wrap (8 * 2)).toNat IntKind.u32.bits) - 1) = ((2 ^ 16 - 1 : Nat) : Int) from by decide, and32 (by omega) (by omega), Nat.and_two_pow_sub_one_eq_mod]
    rfl
  · cases h
theorem part_ge {x k : Nat} {size : Int} (hx : x < 4294967296) (hk : k ≤ 32) (hs : size = 1 ∨ size = 2 ∨ size = 4) (h : decide (size < 4) = false) :
    (x : Int).fdiv (2 ^ min ((k : Int)).toNat IntKind.u32.bits) = ((bitsN x k (8 * size.toNat) : Nat) : Int) := by
  rw [shr32 x k hk]
  have hxl : x / 2 ^ k ≤ x := Nat.div_le_self _ _
  rcases hs with rfl | rfl | rfl
  · cases h
  · cases h
  · have : bitsN x k (8 * (4 : Int).toNat) = x / 2 ^ k := by
      unfold bitsN
      exact Nat.mod_eq_of_lt (show x / 2 ^ k < 2 ^ 32 by omega)
    rw [this]
theorem e16 {addr : Nat} : (addr : Int).tmod 16 = ((addr % 16 : Nat) : Int) := by rw [Int.tmod_eq_emod_of_nonneg (by omega)]; omega
set_option maxHeartbeats 2000000 in
theorem part_run (M : HL) (K : SV → List Ent → HL → Prop) (c : Nat → Nat) (addr : Nat) (size : Int) (hc : ∀ i, c i < 4294967296) (ha : addr < 4294967296) (hf : fairB addr size = true) (hK : K (.v (.int .u32 (bitsN (c (addr / 4 % 4)) (8 * (addr % 4)) (8 * size.toNat) : Nat))) [] M) :
    runF G6 pf17 [lnV c, .v (.int .u32 addr), .v (.int .i64 size)] [] M fun v hp2 M2 => ∃ m v' hp', Wk (llen ([] : List Ent)) m [v] hp2 [v'] hp' (K v' hp' M2) := by
  obtain ⟨hs, h2, h4, _⟩ := fair_cases hf
  have e2 : IntKind.u32.wrap (((addr : Int).tmod 16).tdiv 4) = ((addr / 4 % 4 : Nat) : Int) := by rw [e16, Int.tdiv_eq_ediv_of_nonneg (by omega), IntKind.wrap_u32]; omega
  have e3 : IntKind.u32.wrap (8 * ((addr : Int).tmod 16).tmod 4) = ((8 * (addr % 4) : Nat) : Int) := by rw [e16, Int.tmod_eq_emod_of_nonneg (by omega), IntKind.wrap_u32]; omega
  have h1 : addr / 4 % 4 = 0 ∨ addr / 4 % 4 = 1 ∨ addr / 4 % 4 = 2 ∨ addr / 4 % 4 = 3 := by omega
  repeat ((conv => whnf); (first | refine Cnd.yes ?_ | refine Cnd.no ?_ | refine And.intro rfl ?_ | refine And.intro (by omega) ?_ | (refine And.intro ?_ ?_; focus (simp only [IntKind.wrap_i64, IntKind.wrap_u64, IntKind.wrap_u32]; omega)) | (refine And.intro ?_ ?_; focus (simp only [zl1, zl2, zl3, zl4, zl5, zl6, zl7, zl8] <;> omega))))
  conv => whnf
  refine ⟨addr, size, rfl, ha, ?_⟩
  rw [hf]
  repeat ((conv => whnf); (first | refine Cnd.yes ?_ | refine Cnd.no ?_ | refine And.intro rfl ?_ | refine And.intro (by omega) ?_ | (refine And.intro ?_ ?_; focus (simp only [IntKind.wrap_i64, IntKind.wrap_u64, IntKind.wrap_u32]; omega)) | (refine And.intro ?_ ?_; focus (simp only [zl1, zl2, zl3, zl4, zl5, zl6, zl7, zl8] <;> omega))))
  conv => whnf
  rw [e2]
  rcases h1 with h1 | h1 | h1 | h1
  all_goals
    rw [h1] at hK ⊢
    first
      | refine ⟨0, rfl, by omega, ?_⟩
      | refine ⟨1, rfl, by omega, ?_⟩
      | refine ⟨2, rfl, by omega, ?_⟩
      | refine ⟨3, rfl, by omega, ?_⟩
    repeat ((conv => whnf); (first | refine Cnd.yes ?_ | refine Cnd.no ?_ | refine And.intro rfl ?_ | refine And.intro (by omega) ?_ | (refine And.intro ?_ ?_; focus (simp only [IntKind.wrap_i64, IntKind.wrap_u64, IntKind.wrap_u32]; omega)) | (refine And.intro ?_ ?_; focus (simp only [zl1, zl2, zl3, zl4, zl5, zl6, zl7, zl8] <;> omega))))
    conv => whnf
    rw [e3]
    refine Cnd.mk (fun h => ?_) fun h => ?_
    · repeat ((conv => whnf); (first | refine Cnd.yes ?_ | refine Cnd.no ?_ | refine And.intro rfl ?_ | refine And.intro (by omega) ?_ | (refine And.intro ?_ ?_; focus (simp only [IntKind.wrap_i64, IntKind.wrap_u64, IntKind.wrap_u32]; omega)) | (refine And.intro ?_ ?_; focus (simp only [zl1, zl2, zl3, zl4, zl5, zl6, zl7, zl8] <;> omega))))
      conv => whnf
      rw [part_lt (hc _) (by omega) hs h]
      exact drop0 hK
    · repeat ((conv => whnf); (first | refine Cnd.yes ?_ | refine Cnd.no ?_ | refine And.intro rfl ?_ | refine And.intro (by omega) ?_ | (refine And.intro ?_ ?_; focus (simp only [IntKind.wrap_i64, IntKind.wrap_u64, IntKind.wrap_u32]; omega)) | (refine And.intro ?_ ?_; focus (simp only [zl1, zl2, zl3, zl4, zl5, zl6, zl7, zl8] <;> omega))))
      conv => whnf
      rw [part_ge (hc _) (by omega) hs h]
      exact drop0 hK
theorem rnopart_run (M : HL) (K : SV → List Ent → HL → Prop) (c : Nat → Nat) (addr : Nat) (size : Int) (ha : addr < 4294967296) (hf : fairB addr size = false) (hK : K (.v (.int .u32 0)) [] M) :
    runF G7 pf19 [lnV c, .v (.int .u32 addr), .v (.int .i64 size)] [] M fun v hp2 M2 => ∃ m v' hp', Wk (llen ([] : List Ent)) m [v] hp2 [v'] hp' (K v' hp' M2) := by
  repeat ((conv => whnf); (first | refine Cnd.yes ?_ | refine Cnd.no ?_ | refine And.intro rfl ?_ | refine And.intro (by omega) ?_ | (refine And.intro ?_ ?_; focus (simp only [IntKind.wrap_i64, IntKind.wrap_u64, IntKind.wrap_u32]; omega)) | (refine And.intro ?_ ?_; focus (simp only [zl1, zl2, zl3, zl4, zl5, zl6, zl7, zl8] <;> omega))))
  conv => whnf
  refine ⟨addr, size, rfl, rfl, ha, ?_⟩
  rw [hf]
  repeat ((conv => whnf); (first | refine Cnd.yes ?_ | refine Cnd.no ?_ | refine And.intro rfl ?_ | refine And.intro (by omega) ?_ | (refine And.intro ?_ ?_; focus (simp only [IntKind.wrap_i64, IntKind.wrap_u64, IntKind.wrap_u32]; omega)) | (refine And.intro ?_ ?_; focus (simp only [zl1, zl2, zl3, zl4, zl5, zl6, zl7, zl8] <;> omega))))
  conv => whnf
  refine ⟨[], .v (.int .u32 0), [], ?_⟩
  repeat ((conv => whnf); (first | refine Cnd.yes ?_ | refine Cnd.no ?_ | refine And.intro rfl ?_ | refine And.intro (by omega) ?_ | (refine And.intro ?_ ?_; focus (simp only [IntKind.wrap_i64, IntKind.wrap_u64, IntKind.wrap_u32]; omega)) | (refine And.intro ?_ ?_; focus (simp only [zl1, zl2, zl3, zl4, zl5, zl6, zl7, zl8] <;> omega))))
  conv => whnf
  exact hK
set_option maxHeartbeats 2000000 in
theorem rpart_run (M : HL) (K : SV → List Ent → HL → Prop) (c : Nat → Nat) (addr : Nat) (size : Int) (hc : ∀ i, c i < 4294967296) (ha : addr < 4294967296) (hf : fairB addr size = true) (hK : K (.v (.int .u32 (bitsN (c (addr / 4 % 4)) (8 * (addr % 4)) (8 * size.toNat) : Nat))) [] M) :
    runF G7 pf19 [lnV c, .v (.int .u32 addr), .v (.int .i64 size)] [] M fun v hp2 M2 => ∃ m v' hp', Wk (llen ([] : List Ent)) m [v] hp2 [v'] hp' (K v' hp' M2) := by
  obtain ⟨hs, h2, h4, _⟩ := fair_cases hf
  have e0 : (IntKind.i64.wrap (addr : Int)).tmod 16 = ((addr % 16 : Nat) : Int) := by rw [show IntKind.i64.wrap (addr : Int) = addr from by rw [IntKind.wrap_i64]; omega, e16]
  have e2 : IntKind.i64.wrap (((IntKind.i64.wrap (addr : Int)).tmod 16).tdiv 4) = ((addr / 4 % 4 : Nat) : Int) := by rw [e0, Int.tdiv_eq_ediv_of_nonneg (by omega), IntKind.wrap_i64]; omega
  have e3 : IntKind.i64.wrap (8 * ((IntKind.i64.wrap (addr : Int)).tmod 16).tmod 4) = ((8 * (addr % 4) : Nat) : Int) := by rw [e0, Int.tmod_eq_emod_of_nonneg (by omega), IntKind.wrap_i64]; omega
  have e4 : IntKind.i64.wrap (8 * size) = ((8 * size.toNat : Nat) : Int) := by rcases hs with rfl | rfl | rfl <;> decide
  have h1 : addr / 4 % 4 = 0 ∨ addr / 4 % 4 = 1 ∨ addr / 4 % 4 = 2 ∨ addr / 4 % 4 = 3 := by omega
  repeat ((conv => whnf); (first | refine Cnd.yes ?_ | refine Cnd.no ?_ | refine And.intro rfl ?_ | refine And.intro (by omega) ?_ | (refine And.intro ?_ ?_; focus (simp only [IntKind.wrap_i64, IntKind.wrap_u64, IntKind.wrap_u32]; omega)) | (refine And.intro ?_ ?_; focus (simp only [zl1, zl2, zl3, zl4, zl5, zl6, zl7, zl8] <;> omega))))
  conv => whnf
  refine ⟨addr, size, rfl, rfl, ha, ?_⟩
  rw [hf]
  repeat ((conv => whnf); (first | refine Cnd.yes ?_ | refine Cnd.no ?_ | refine And.intro rfl ?_ | refine And.intro (by omega) ?_ | (refine And.intro ?_ ?_; focus (simp only [IntKind.wrap_i64, IntKind.wrap_u64, IntKind.wrap_u32]; omega)) | (refine And.intro ?_ ?_; focus (simp only [zl1, zl2, zl3, zl4, zl5, zl6, zl7, zl8] <;> omega))))
  conv => whnf
  rw [e2]
  rcases h1 with h1 | h1 | h1 | h1
  all_goals
    rw [h1] at hK ⊢
    first
      | refine ⟨0, rfl, by omega, ?_⟩
      | refine ⟨1, rfl, by omega, ?_⟩
      | refine ⟨2, rfl, by omega, ?_⟩
      | refine ⟨3, rfl, by omega, ?_⟩
    repeat ((conv => whnf); (first | refine Cnd.yes ?_ | refine Cnd.no ?_ | refine And.intro rfl ?_ | refine And.intro (by omega) ?_ | (refine And.intro ?_ ?_; focus (simp only [IntKind.wrap_i64, IntKind.wrap_u64, IntKind.wrap_u32]; omega)) | (refine And.intro ?_ ?_; focus (simp only [zl1, zl2, zl3, zl4, zl5, zl6, zl7, zl8] <;> omega))))
    conv => whnf
    rw [e3, e4]
    refine ⟨_, 8 * (addr % 4), 8 * size.toNat, rfl, hc _, by omega, by rcases hs with rfl | rfl | rfl <;> decide, fun h8 => by rw [h4 (by omega)], ?_⟩
    repeat ((conv => whnf); (first | refine Cnd.yes ?_ | refine Cnd.no ?_ | refine And.intro rfl ?_ | refine And.intro (by omega) ?_ | (refine And.intro ?_ ?_; focus (simp only [IntKind.wrap_i64, IntKind.wrap_u64, IntKind.wrap_u32]; omega)) | (refine And.intro ?_ ?_; focus (simp only [zl1, zl2, zl3, zl4, zl5, zl6, zl7, zl8] <;> omega))))
    conv => whnf
    exact drop0 hK
end Go.Proofs.YtncninjgfllcdaaDoor
