/-
  A line with a part turned, by the program and by the document; SameLine, LineOf; walked; their contracts.
-/
import Derived.Test.YtncninjgfllcdaaDoorCj
namespace Go.Proofs.YtncninjgfllcdaaDoor
open Go Go.Vc
set_option maxRecDepth 100000
set_option linter.unusedSimpArgs false
set_option linter.unusedVariables false
def partS : Vc.Spec := fun args hp _ K => ∃ (c : Nat → Nat) (addr : Nat) (size : Int), args = [lnV c, .v (.int .u32 addr), .v (.int .i64 size)] ∧ hp = [] ∧ (∀ i, c i < 4294967296) ∧ addr < 4294967296 ∧ K (.v (.int .u32 (partN c addr size : Nat))) []
theorem part_ok : SOK Tryd.prog 17 partS := by
  refine TOK.weaken (TOK.out (runF_eq G6_ok mixed at17.1 at17.2 pf17_eq)) fun args hp M K h => ?_
  obtain ⟨c, addr, size, rfl, rfl, h1, h2, h3⟩ := h
  unfold partN at h3
  cases hf : fairB addr size with
  | true => rw [hf, if_pos rfl] at h3; exact part_run M K c addr size h1 h2 hf h3
  | false => rw [hf, if_neg (by decide)] at h3; exact nopart_run M K c addr size h2 hf h3
theorem rpart_ok : SOK Tryd.prog 19 partS := by
  refine TOK.weaken (TOK.out (runF_eq G7_ok mixed at19.1 at19.2 pf19_eq)) fun args hp M K h => ?_
  obtain ⟨c, addr, size, rfl, rfl, h1, h2, h3⟩ := h
  unfold partN at h3
  cases hf : fairB addr size with
  | true => rw [hf, if_pos rfl] at h3; exact rpart_run M K c addr size h1 h2 hf h3
  | false => rw [hf, if_neg (by decide)] at h3; exact rnopart_run M K c addr size h2 hf h3
theorem dropL {K : SV → List Ent → HL → Prop} {M : HL} {a b c d : Int} {hp2 : List Ent} (hK : K (.agg [.v (.int .u32 a), .v (.int .u32 b), .v (.int .u32 c), .v (.int .u32 d)]) [] M) :
    ∃ m v' hp', Wk (llen ([] : List Ent)) m [.agg [.v (.int .u32 a), .v (.int .u32 b), .v (.int .u32 c), .v (.int .u32 d)]] hp2 [v'] hp' (K v' hp' M) := by
  refine ⟨[], .agg [.v (.int .u32 a), .v (.int .u32 b), .v (.int .u32 c), .v (.int .u32 d)], [], ?_⟩
  repeat ((conv => whnf); (first | refine Cnd.yes ?_ | refine Cnd.no ?_ | refine And.intro rfl ?_ | refine And.intro (by omega) ?_ | (refine And.intro ?_ ?_; focus (simp only [IntKind.wrap_i64, IntKind.wrap_u64, IntKind.wrap_u32]; omega)) | (refine And.intro ?_ ?_; focus (simp only [zl1, zl2, zl3, zl4, zl5, zl6, zl7, zl8] <;> omega))))
  conv => whnf
  exact hK
theorem keep_lt {k : Nat} {size : Int} (hk : k + 8 * size.toNat ≤ 32) (hs : size = 1 ∨ size = 2 ∨ size = 4) (h : decide (size < 4) = true) :
    IntKind.u32.wrap (IntKind.u32.wrap (IntKind.u32.wrap (1 * 2 ^ min (IntKind.i64.wrap (8 * size)).toNat IntKind.u32.bits) - 1) * 2 ^ min ((k : Int)).toNat IntKind.u32.bits) = ((maskN k (8 * size.toNat) : Nat) : Int) := by
  rcases hs with rfl | rfl | rfl
  · rw [show IntKind.u32.wrap (IntKind.u32.wrap (1 * 2 ^ min (IntKind.i64.wrap (8 * 1)).toNat IntKind.u32.bits) - 1) = ((2 ^ 8 - 1 : Nat) : Int) from by decide, shl32 _ k (by omega)]
    have := mask_lt hk
    rw [show (8 * (1 : Int).toNat) = 8 from rfl] at this ⊢
    rw [show (2 ^ 8 - 1) * 2 ^ k = maskN k 8 from rfl, Nat.mod_eq_of_lt this]
  · rw [show IntKind.u32.wrap (IntKind.u32.wrap (1 * 2 ^ min (IntKind.i64.wrap (8 * 2)).toNat IntKind.u32.bits) - 1) = ((2 ^ 16 - 1 : Nat) : Int) from by decide, shl32 _ k (by omega)]
    have := mask_lt hk
    rw [show (8 * (2 : Int).toNat) = 16 from rfl] at this ⊢
    rw [show (2 ^ 16 - 1) * 2 ^ k = maskN k 16 from rfl, Nat.mod_eq_of_lt this]
  · cases h
theorem turn_val {x v low n : Nat} (hx : x < 4294967296) (hv : v < 4294967296) (h : low + n ≤ 32) :
    IntKind.u32.wrap (BitVec.ofInt IntKind.u32.bits (IntKind.u32.wrap (BitVec.ofInt IntKind.u32.bits (x : Int) &&& ~~~ BitVec.ofInt IntKind.u32.bits ((maskN low n : Nat) : Int)).toNat) |||
      BitVec.ofInt IntKind.u32.bits (IntKind.u32.wrap (BitVec.ofInt IntKind.u32.bits (IntKind.u32.wrap ((v : Int) * 2 ^ min ((low : Int)).toNat IntKind.u32.bits)) &&& BitVec.ofInt IntKind.u32.bits ((maskN low n : Nat) : Int)).toNat)).toNat = ((turnN x low n v : Nat) : Int) := by
  have _ := hv
  have hm := mask_lt h
  have h1 : x &&& (2 ^ 32 - (maskN low n + 1)) ≤ x := Nat.and_le_left
  rw [andn32 hx hm, shl32 v low (by omega), and32 (Nat.mod_lt _ (by omega)) hm, and_place v h, or32 (by omega) (placed_lt v h), turn_eq v hx h]
theorem turn_val2 {x v low n : Nat} (hx : x < 4294967296) (h : low + n ≤ 32) :
    IntKind.u32.wrap (BitVec.ofInt IntKind.u32.bits (IntKind.u32.wrap (BitVec.ofInt IntKind.u32.bits (x : Int) &&& ~~~ BitVec.ofInt IntKind.u32.bits ((maskN low n : Nat) : Int)).toNat) |||
      BitVec.ofInt IntKind.u32.bits ((v % 2 ^ n * 2 ^ low : Nat) : Int)).toNat = ((turnN x low n v : Nat) : Int) := by
  have hm := mask_lt h
  have h1 : x &&& (2 ^ 32 - (maskN low n + 1)) ≤ x := Nat.and_le_left
  rw [andn32 hx hm, or32 (by omega) (placed_lt v h), turn_eq v hx h]
theorem withL_no {c : Nat → Nat} {addr : Nat} {size : Int} {v : Nat} (hf : fairB addr size = false) : withL c addr size v = c := by
  funext q
  unfold withL
  rw [if_neg (fun h => by rw [hf] at h; exact absurd h.1 (by decide))]
theorem nowith_run (M : HL) (K : SV → List Ent → HL → Prop) (c : Nat → Nat) (addr : Nat) (size : Int) (v : Nat) (ha : addr < 4294967296) (hf : fairB addr size = false) (hK : K (lnV (withL c addr size v)) [] M) :
    runF G6 pf18 [lnV c, .v (.int .u32 addr), .v (.int .i64 size), .v (.int .u32 v)] [] M fun v hp2 M2 => ∃ m v' hp', Wk (llen ([] : List Ent)) m [v] hp2 [v'] hp' (K v' hp' M2) := by
  rw [withL_no hf] at hK
  repeat ((conv => whnf); (first | refine Cnd.yes ?_ | refine Cnd.no ?_ | refine And.intro rfl ?_ | refine And.intro (by omega) ?_ | (refine And.intro ?_ ?_; focus (simp only [IntKind.wrap_i64, IntKind.wrap_u64, IntKind.wrap_u32]; omega)) | (refine And.intro ?_ ?_; focus (simp only [zl1, zl2, zl3, zl4, zl5, zl6, zl7, zl8] <;> omega))))
  conv => whnf
  refine ⟨addr, size, rfl, ha, ?_⟩
  rw [hf]
  repeat ((conv => whnf); (first | refine Cnd.yes ?_ | refine Cnd.no ?_ | refine And.intro rfl ?_ | refine And.intro (by omega) ?_ | (refine And.intro ?_ ?_; focus (simp only [IntKind.wrap_i64, IntKind.wrap_u64, IntKind.wrap_u32]; omega)) | (refine And.intro ?_ ?_; focus (simp only [zl1, zl2, zl3, zl4, zl5, zl6, zl7, zl8] <;> omega))))
  conv => whnf
  exact dropL hK
set_option maxHeartbeats 4000000 in
theorem with_run (M : HL) (K : SV → List Ent → HL → Prop) (c : Nat → Nat) (addr : Nat) (size : Int) (v : Nat) (hc : ∀ i, c i < 4294967296) (hv : v < 4294967296) (ha : addr < 4294967296) (hf : fairB addr size = true) (hK : K (lnV (withL c addr size v)) [] M) :
    runF G6 pf18 [lnV c, .v (.int .u32 addr), .v (.int .i64 size), .v (.int .u32 v)] [] M fun v hp2 M2 => ∃ m v' hp', Wk (llen ([] : List Ent)) m [v] hp2 [v'] hp' (K v' hp' M2) := by
  obtain ⟨hs, h2, h4, _⟩ := fair_cases hf
  have hlow : 8 * (addr % 4) + 8 * size.toNat ≤ 32 := by omega
  have e2 : IntKind.u32.wrap (((addr : Int).tmod 16).tdiv 4) = ((addr / 4 % 4 : Nat) : Int) := by rw [e16, Int.tdiv_eq_ediv_of_nonneg (by omega), IntKind.wrap_u32]; omega
  have e3 : IntKind.u32.wrap (8 * ((addr : Int).tmod 16).tmod 4) = ((8 * (addr % 4) : Nat) : Int) := by rw [e16, Int.tmod_eq_emod_of_nonneg (by omega), IntKind.wrap_u32]; omega
  have h1 : addr / 4 % 4 = 0 ∨ addr / 4 % 4 = 1 ∨ addr / 4 % 4 = 2 ∨ addr / 4 % 4 = 3 := by omega
  repeat ((conv => whnf); (first | refine Cnd.yes ?_ | refine Cnd.no ?_ | refine And.intro rfl ?_ | refine And.intro (by omega) ?_ | (refine And.intro ?_ ?_; focus (simp only [IntKind.wrap_i64, IntKind.wrap_u64, IntKind.wrap_u32]; omega)) | (refine And.intro ?_ ?_; focus (simp only [zl1, zl2, zl3, zl4, zl5, zl6, zl7, zl8] <;> omega))))
  conv => whnf
  refine ⟨addr, size, rfl, ha, ?_⟩
  rw [hf]
  repeat ((conv => whnf); (first | refine Cnd.yes ?_ | refine Cnd.no ?_ | refine And.intro rfl ?_ | refine And.intro (by omega) ?_ | (refine And.intro ?_ ?_; focus (simp only [IntKind.wrap_i64, IntKind.wrap_u64, IntKind.wrap_u32]; omega)) | (refine And.intro ?_ ?_; focus (simp only [zl1, zl2, zl3, zl4, zl5, zl6, zl7, zl8] <;> omega))))
  conv => whnf
  rw [e3]
  have h4' : decide (size < 4) = false → (4294967295 : Int) = ((maskN (8 * (addr % 4)) (8 * size.toNat) : Nat) : Int) := fun h => by
    rcases hs with rfl | rfl | rfl
    · cases h
    · cases h
    · rw [h4 rfl]; rfl
  have hfin : ∀ q, addr / 4 % 4 = q → lnV (withL c addr size v) = .agg [wW (if q = 0 then turnN (c 0) (8 * (addr % 4)) (8 * size.toNat) v else c 0), wW (if q = 1 then turnN (c 1) (8 * (addr % 4)) (8 * size.toNat) v else c 1),
      wW (if q = 2 then turnN (c 2) (8 * (addr % 4)) (8 * size.toNat) v else c 2), wW (if q = 3 then turnN (c 3) (8 * (addr % 4)) (8 * size.toNat) v else c 3)] := fun q hq => by
    simp only [lnV, withL, hf, hq, true_and, eq_comm (a := q)]
  refine Cnd.mk (fun h => ?_) fun h => ?_
  · repeat ((conv => whnf); (first | refine Cnd.yes ?_ | refine Cnd.no ?_ | refine And.intro rfl ?_ | refine And.intro (by omega) ?_ | (refine And.intro ?_ ?_; focus (simp only [IntKind.wrap_i64, IntKind.wrap_u64, IntKind.wrap_u32]; omega)) | (refine And.intro ?_ ?_; focus (simp only [zl1, zl2, zl3, zl4, zl5, zl6, zl7, zl8] <;> omega))))
    conv => whnf
    rw [e2, keep_lt hlow hs h]
    rcases h1 with h1 | h1 | h1 | h1
    all_goals
      rw [hfin _ h1] at hK
      rw [h1]
      first
        | refine ⟨0, rfl, by omega, ?_⟩
        | refine ⟨1, rfl, by omega, ?_⟩
        | refine ⟨2, rfl, by omega, ?_⟩
        | refine ⟨3, rfl, by omega, ?_⟩
      repeat ((conv => whnf); (first | refine Cnd.yes ?_ | refine Cnd.no ?_ | refine And.intro rfl ?_ | refine And.intro (by omega) ?_ | (refine And.intro ?_ ?_; focus (simp only [IntKind.wrap_i64, IntKind.wrap_u64, IntKind.wrap_u32]; omega)) | (refine And.intro ?_ ?_; focus (simp only [zl1, zl2, zl3, zl4, zl5, zl6, zl7, zl8] <;> omega))))
      conv => whnf
      first
        | refine ⟨0, rfl, by omega, ?_⟩
        | refine ⟨1, rfl, by omega, ?_⟩
        | refine ⟨2, rfl, by omega, ?_⟩
        | refine ⟨3, rfl, by omega, ?_⟩
      repeat ((conv => whnf); (first | refine Cnd.yes ?_ | refine Cnd.no ?_ | refine And.intro rfl ?_ | refine And.intro (by omega) ?_ | (refine And.intro ?_ ?_; focus (simp only [IntKind.wrap_i64, IntKind.wrap_u64, IntKind.wrap_u32]; omega)) | (refine And.intro ?_ ?_; focus (simp only [zl1, zl2, zl3, zl4, zl5, zl6, zl7, zl8] <;> omega))))
      conv => whnf
      rw [turn_val (hc _) hv hlow]
      exact dropL hK
  · repeat ((conv => whnf); (first | refine Cnd.yes ?_ | refine Cnd.no ?_ | refine And.intro rfl ?_ | refine And.intro (by omega) ?_ | (refine And.intro ?_ ?_; focus (simp only [IntKind.wrap_i64, IntKind.wrap_u64, IntKind.wrap_u32]; omega)) | (refine And.intro ?_ ?_; focus (simp only [zl1, zl2, zl3, zl4, zl5, zl6, zl7, zl8] <;> omega))))
    conv => whnf
    rw [e2, h4' h]
    rcases h1 with h1 | h1 | h1 | h1
    all_goals
      rw [hfin _ h1] at hK
      rw [h1]
      first
        | refine ⟨0, rfl, by omega, ?_⟩
        | refine ⟨1, rfl, by omega, ?_⟩
        | refine ⟨2, rfl, by omega, ?_⟩
        | refine ⟨3, rfl, by omega, ?_⟩
      repeat ((conv => whnf); (first | refine Cnd.yes ?_ | refine Cnd.no ?_ | refine And.intro rfl ?_ | refine And.intro (by omega) ?_ | (refine And.intro ?_ ?_; focus (simp only [IntKind.wrap_i64, IntKind.wrap_u64, IntKind.wrap_u32]; omega)) | (refine And.intro ?_ ?_; focus (simp only [zl1, zl2, zl3, zl4, zl5, zl6, zl7, zl8] <;> omega))))
      conv => whnf
      first
        | refine ⟨0, rfl, by omega, ?_⟩
        | refine ⟨1, rfl, by omega, ?_⟩
        | refine ⟨2, rfl, by omega, ?_⟩
        | refine ⟨3, rfl, by omega, ?_⟩
      repeat ((conv => whnf); (first | refine Cnd.yes ?_ | refine Cnd.no ?_ | refine And.intro rfl ?_ | refine And.intro (by omega) ?_ | (refine And.intro ?_ ?_; focus (simp only [IntKind.wrap_i64, IntKind.wrap_u64, IntKind.wrap_u32]; omega)) | (refine And.intro ?_ ?_; focus (simp only [zl1, zl2, zl3, zl4, zl5, zl6, zl7, zl8] <;> omega))))
      conv => whnf
      rw [turn_val (hc _) hv hlow]
      exact dropL hK
def withS : Vc.Spec := fun args hp _ K => ∃ (c : Nat → Nat) (addr : Nat) (size : Int) (v : Nat), args = [lnV c, .v (.int .u32 addr), .v (.int .i64 size), .v (.int .u32 v)] ∧ hp = [] ∧ (∀ i, c i < 4294967296) ∧ v < 4294967296 ∧ addr < 4294967296 ∧ K (lnV (withL c addr size v)) []
theorem with_ok : SOK Tryd.prog 18 withS := by
  refine TOK.weaken (TOK.out (runF_eq G6_ok mixed at18.1 at18.2 pf18_eq)) fun args hp M K h => ?_
  obtain ⟨c, addr, size, v, rfl, rfl, h1, h2, h3, h4⟩ := h
  cases hf : fairB addr size with
  | true => exact with_run M K c addr size v h1 h2 h3 hf h4
  | false => exact nowith_run M K c addr size v h3 hf h4
theorem rnowith_run (M : HL) (K : SV → List Ent → HL → Prop) (c : Nat → Nat) (addr : Nat) (size : Int) (v : Nat) (ha : addr < 4294967296) (hf : fairB addr size = false) (hK : K (lnV (withL c addr size v)) [] M) :
    runF G7 pf21 [lnV c, .v (.int .u32 addr), .v (.int .i64 size), .v (.int .u32 v)] [] M fun v hp2 M2 => ∃ m v' hp', Wk (llen ([] : List Ent)) m [v] hp2 [v'] hp' (K v' hp' M2) := by
  rw [withL_no hf] at hK
  repeat ((conv => whnf); (first | refine Cnd.yes ?_ | refine Cnd.no ?_ | refine And.intro rfl ?_ | refine And.intro (by omega) ?_ | (refine And.intro ?_ ?_; focus (simp only [IntKind.wrap_i64, IntKind.wrap_u64, IntKind.wrap_u32]; omega)) | (refine And.intro ?_ ?_; focus (simp only [zl1, zl2, zl3, zl4, zl5, zl6, zl7, zl8] <;> omega))))
  conv => whnf
  refine ⟨addr, size, rfl, rfl, ha, ?_⟩
  rw [hf]
  repeat ((conv => whnf); (first | refine Cnd.yes ?_ | refine Cnd.no ?_ | refine And.intro rfl ?_ | refine And.intro (by omega) ?_ | (refine And.intro ?_ ?_; focus (simp only [IntKind.wrap_i64, IntKind.wrap_u64, IntKind.wrap_u32]; omega)) | (refine And.intro ?_ ?_; focus (simp only [zl1, zl2, zl3, zl4, zl5, zl6, zl7, zl8] <;> omega))))
  conv => whnf
  exact dropL hK
set_option maxHeartbeats 4000000 in
theorem rwith_run (M : HL) (K : SV → List Ent → HL → Prop) (c : Nat → Nat) (addr : Nat) (size : Int) (v : Nat) (hc : ∀ i, c i < 4294967296) (hv : v < 4294967296) (ha : addr < 4294967296) (hf : fairB addr size = true) (hK : K (lnV (withL c addr size v)) [] M) :
    runF G7 pf21 [lnV c, .v (.int .u32 addr), .v (.int .i64 size), .v (.int .u32 v)] [] M fun v hp2 M2 => ∃ m v' hp', Wk (llen ([] : List Ent)) m [v] hp2 [v'] hp' (K v' hp' M2) := by
  obtain ⟨hs, h2, h4, _⟩ := fair_cases hf
  have hlow : 8 * (addr % 4) + 8 * size.toNat ≤ 32 := by omega
  have e0 : (IntKind.i64.wrap (addr : Int)).tmod 16 = ((addr % 16 : Nat) : Int) := by rw [show IntKind.i64.wrap (addr : Int) = addr from by rw [IntKind.wrap_i64]; omega, e16]
  have e2 : IntKind.i64.wrap (((IntKind.i64.wrap (addr : Int)).tmod 16).tdiv 4) = ((addr / 4 % 4 : Nat) : Int) := by rw [e0, Int.tdiv_eq_ediv_of_nonneg (by omega), IntKind.wrap_i64]; omega
  have e3 : IntKind.i64.wrap (8 * ((IntKind.i64.wrap (addr : Int)).tmod 16).tmod 4) = ((8 * (addr % 4) : Nat) : Int) := by rw [e0, Int.tmod_eq_emod_of_nonneg (by omega), IntKind.wrap_i64]; omega
  have e4 : IntKind.i64.wrap (8 * size) = ((8 * size.toNat : Nat) : Int) := by rcases hs with rfl | rfl | rfl <;> decide
  have e5 : 4294967295 % 2 ^ (8 * size.toNat) * 2 ^ (8 * (addr % 4)) = maskN (8 * (addr % 4)) (8 * size.toNat) := by
    unfold maskN
    congr 1
    rcases hs with rfl | rfl | rfl <;> rfl
  have h1 : addr / 4 % 4 = 0 ∨ addr / 4 % 4 = 1 ∨ addr / 4 % 4 = 2 ∨ addr / 4 % 4 = 3 := by omega
  have hfin : ∀ q, addr / 4 % 4 = q → lnV (withL c addr size v) = .agg [wW (if q = 0 then turnN (c 0) (8 * (addr % 4)) (8 * size.toNat) v else c 0), wW (if q = 1 then turnN (c 1) (8 * (addr % 4)) (8 * size.toNat) v else c 1),
      wW (if q = 2 then turnN (c 2) (8 * (addr % 4)) (8 * size.toNat) v else c 2), wW (if q = 3 then turnN (c 3) (8 * (addr % 4)) (8 * size.toNat) v else c 3)] := fun q hq => by
    simp only [lnV, withL, hf, hq, true_and, eq_comm (a := q)]
  repeat ((conv => whnf); (first | refine Cnd.yes ?_ | refine Cnd.no ?_ | refine And.intro rfl ?_ | refine And.intro (by omega) ?_ | (refine And.intro ?_ ?_; focus (simp only [IntKind.wrap_i64, IntKind.wrap_u64, IntKind.wrap_u32]; omega)) | (refine And.intro ?_ ?_; focus (simp only [zl1, zl2, zl3, zl4, zl5, zl6, zl7, zl8] <;> omega))))
  conv => whnf
  refine ⟨addr, size, rfl, rfl, ha, ?_⟩
  rw [hf]
  repeat ((conv => whnf); (first | refine Cnd.yes ?_ | refine Cnd.no ?_ | refine And.intro rfl ?_ | refine And.intro (by omega) ?_ | (refine And.intro ?_ ?_; focus (simp only [IntKind.wrap_i64, IntKind.wrap_u64, IntKind.wrap_u32]; omega)) | (refine And.intro ?_ ?_; focus (simp only [zl1, zl2, zl3, zl4, zl5, zl6, zl7, zl8] <;> omega))))
  conv => whnf
  rw [e3, e4]
  refine ⟨4294967295, 8 * (addr % 4), 8 * size.toNat, rfl, rfl, by omega, by omega, by rcases hs with rfl | rfl | rfl <;> decide, hlow, ?_⟩
  rw [e5]
  repeat ((conv => whnf); (first | refine Cnd.yes ?_ | refine Cnd.no ?_ | refine And.intro rfl ?_ | refine And.intro (by omega) ?_ | (refine And.intro ?_ ?_; focus (simp only [IntKind.wrap_i64, IntKind.wrap_u64, IntKind.wrap_u32]; omega)) | (refine And.intro ?_ ?_; focus (simp only [zl1, zl2, zl3, zl4, zl5, zl6, zl7, zl8] <;> omega))))
  conv => whnf
  rw [e2]
  rcases h1 with h1 | h1 | h1 | h1
  all_goals
    rw [hfin _ h1] at hK
    rw [h1]
    first
      | refine ⟨0, rfl, by omega, ?_⟩
      | refine ⟨1, rfl, by omega, ?_⟩
      | refine ⟨2, rfl, by omega, ?_⟩
      | refine ⟨3, rfl, by omega, ?_⟩
    repeat ((conv => whnf); (first | refine Cnd.yes ?_ | refine Cnd.no ?_ | refine And.intro rfl ?_ | refine And.intro (by omega) ?_ | (refine And.intro ?_ ?_; focus (simp only [IntKind.wrap_i64, IntKind.wrap_u64, IntKind.wrap_u32]; omega)) | (refine And.intro ?_ ?_; focus (simp only [zl1, zl2, zl3, zl4, zl5, zl6, zl7, zl8] <;> omega))))
    conv => whnf
    intro Mr hMr
    repeat ((conv => whnf); (first | refine Cnd.yes ?_ | refine Cnd.no ?_ | refine And.intro rfl ?_ | refine And.intro (by omega) ?_ | (refine And.intro ?_ ?_; focus (simp only [IntKind.wrap_i64, IntKind.wrap_u64, IntKind.wrap_u32]; omega)) | (refine And.intro ?_ ?_; focus (simp only [zl1, zl2, zl3, zl4, zl5, zl6, zl7, zl8] <;> omega))))
    conv => whnf
    rw [e3, e4]
    refine ⟨v, 8 * (addr % 4), 8 * size.toNat, rfl, rfl, hv, by omega, by rcases hs with rfl | rfl | rfl <;> decide, hlow, ?_⟩
    repeat ((conv => whnf); (first | refine Cnd.yes ?_ | refine Cnd.no ?_ | refine And.intro rfl ?_ | refine And.intro (by omega) ?_ | (refine And.intro ?_ ?_; focus (simp only [IntKind.wrap_i64, IntKind.wrap_u64, IntKind.wrap_u32]; omega)) | (refine And.intro ?_ ?_; focus (simp only [zl1, zl2, zl3, zl4, zl5, zl6, zl7, zl8] <;> omega))))
    conv => whnf
    first
      | refine ⟨0, rfl, by omega, ?_⟩
      | refine ⟨1, rfl, by omega, ?_⟩
      | refine ⟨2, rfl, by omega, ?_⟩
      | refine ⟨3, rfl, by omega, ?_⟩
    repeat ((conv => whnf); (first | refine Cnd.yes ?_ | refine Cnd.no ?_ | refine And.intro rfl ?_ | refine And.intro (by omega) ?_ | (refine And.intro ?_ ?_; focus (simp only [IntKind.wrap_i64, IntKind.wrap_u64, IntKind.wrap_u32]; omega)) | (refine And.intro ?_ ?_; focus (simp only [zl1, zl2, zl3, zl4, zl5, zl6, zl7, zl8] <;> omega))))
    conv => whnf
    rw [turn_val2 (hc _) hlow]
    exact dropL hK
theorem rwith_ok : SOK Tryd.prog 21 withS := by
  refine TOK.weaken (TOK.out (runF_eq G7_ok mixed at21.1 at21.2 pf21_eq)) fun args hp M K h => ?_
  obtain ⟨c, addr, size, v, rfl, rfl, h1, h2, h3, h4⟩ := h
  cases hf : fairB addr size with
  | true => exact rwith_run M K c addr size v h1 h2 h3 hf h4
  | false => exact rnowith_run M K c addr size v h3 hf h4
theorem sameline_run (M : HL) (K : SV → List Ent → HL → Prop) (c : Nat → Nat) (hK : K (.v (.bool true)) [] M) :
    runF G0 pf20 [lnV c, lnV c] [] M fun v hp2 M2 => ∃ m v' hp', Wk (llen ([] : List Ent)) m [v] hp2 [v'] hp' (K v' hp' M2) := by
  have e : ∀ x : Nat, ((x : Int) == x) = true := fun x => by simp
  repeat ((conv => whnf); (first | refine Cnd.yes ?_ | refine Cnd.no ?_ | refine And.intro rfl ?_ | refine And.intro (by omega) ?_ | (refine And.intro ?_ ?_; focus (simp only [IntKind.wrap_i64, IntKind.wrap_u64, IntKind.wrap_u32]; omega)) | (refine And.intro ?_ ?_; focus (simp only [zl1, zl2, zl3, zl4, zl5, zl6, zl7, zl8] <;> omega))))
  conv => whnf
  refine ⟨0, rfl, by omega, ?_⟩
  repeat ((conv => whnf); (first | refine Cnd.yes ?_ | refine Cnd.no ?_ | refine And.intro rfl ?_ | refine And.intro (by omega) ?_ | (refine And.intro ?_ ?_; focus (simp only [IntKind.wrap_i64, IntKind.wrap_u64, IntKind.wrap_u32]; omega)) | (refine And.intro ?_ ?_; focus (simp only [zl1, zl2, zl3, zl4, zl5, zl6, zl7, zl8] <;> omega))))
  conv => whnf
  refine ⟨0, rfl, by omega, ?_⟩
  repeat ((conv => whnf); (first | refine Cnd.yes ?_ | refine Cnd.no ?_ | refine And.intro rfl ?_ | refine And.intro (by omega) ?_ | (refine And.intro ?_ ?_; focus (simp only [IntKind.wrap_i64, IntKind.wrap_u64, IntKind.wrap_u32]; omega)) | (refine And.intro ?_ ?_; focus (simp only [zl1, zl2, zl3, zl4, zl5, zl6, zl7, zl8] <;> omega))))
  conv => whnf
  rw [e]
  repeat ((conv => whnf); (first | refine Cnd.yes ?_ | refine Cnd.no ?_ | refine And.intro rfl ?_ | refine And.intro (by omega) ?_ | (refine And.intro ?_ ?_; focus (simp only [IntKind.wrap_i64, IntKind.wrap_u64, IntKind.wrap_u32]; omega)) | (refine And.intro ?_ ?_; focus (simp only [zl1, zl2, zl3, zl4, zl5, zl6, zl7, zl8] <;> omega))))
  conv => whnf
  refine ⟨1, rfl, by omega, ?_⟩
  repeat ((conv => whnf); (first | refine Cnd.yes ?_ | refine Cnd.no ?_ | refine And.intro rfl ?_ | refine And.intro (by omega) ?_ | (refine And.intro ?_ ?_; focus (simp only [IntKind.wrap_i64, IntKind.wrap_u64, IntKind.wrap_u32]; omega)) | (refine And.intro ?_ ?_; focus (simp only [zl1, zl2, zl3, zl4, zl5, zl6, zl7, zl8] <;> omega))))
  conv => whnf
  refine ⟨1, rfl, by omega, ?_⟩
  repeat ((conv => whnf); (first | refine Cnd.yes ?_ | refine Cnd.no ?_ | refine And.intro rfl ?_ | refine And.intro (by omega) ?_ | (refine And.intro ?_ ?_; focus (simp only [IntKind.wrap_i64, IntKind.wrap_u64, IntKind.wrap_u32]; omega)) | (refine And.intro ?_ ?_; focus (simp only [zl1, zl2, zl3, zl4, zl5, zl6, zl7, zl8] <;> omega))))
  conv => whnf
  rw [e]
  repeat ((conv => whnf); (first | refine Cnd.yes ?_ | refine Cnd.no ?_ | refine And.intro rfl ?_ | refine And.intro (by omega) ?_ | (refine And.intro ?_ ?_; focus (simp only [IntKind.wrap_i64, IntKind.wrap_u64, IntKind.wrap_u32]; omega)) | (refine And.intro ?_ ?_; focus (simp only [zl1, zl2, zl3, zl4, zl5, zl6, zl7, zl8] <;> omega))))
  conv => whnf
  refine ⟨2, rfl, by omega, ?_⟩
  repeat ((conv => whnf); (first | refine Cnd.yes ?_ | refine Cnd.no ?_ | refine And.intro rfl ?_ | refine And.intro (by omega) ?_ | (refine And.intro ?_ ?_; focus (simp only [IntKind.wrap_i64, IntKind.wrap_u64, IntKind.wrap_u32]; omega)) | (refine And.intro ?_ ?_; focus (simp only [zl1, zl2, zl3, zl4, zl5, zl6, zl7, zl8] <;> omega))))
  conv => whnf
  refine ⟨2, rfl, by omega, ?_⟩
  repeat ((conv => whnf); (first | refine Cnd.yes ?_ | refine Cnd.no ?_ | refine And.intro rfl ?_ | refine And.intro (by omega) ?_ | (refine And.intro ?_ ?_; focus (simp only [IntKind.wrap_i64, IntKind.wrap_u64, IntKind.wrap_u32]; omega)) | (refine And.intro ?_ ?_; focus (simp only [zl1, zl2, zl3, zl4, zl5, zl6, zl7, zl8] <;> omega))))
  conv => whnf
  rw [e]
  repeat ((conv => whnf); (first | refine Cnd.yes ?_ | refine Cnd.no ?_ | refine And.intro rfl ?_ | refine And.intro (by omega) ?_ | (refine And.intro ?_ ?_; focus (simp only [IntKind.wrap_i64, IntKind.wrap_u64, IntKind.wrap_u32]; omega)) | (refine And.intro ?_ ?_; focus (simp only [zl1, zl2, zl3, zl4, zl5, zl6, zl7, zl8] <;> omega))))
  conv => whnf
  refine ⟨3, rfl, by omega, ?_⟩
  repeat ((conv => whnf); (first | refine Cnd.yes ?_ | refine Cnd.no ?_ | refine And.intro rfl ?_ | refine And.intro (by omega) ?_ | (refine And.intro ?_ ?_; focus (simp only [IntKind.wrap_i64, IntKind.wrap_u64, IntKind.wrap_u32]; omega)) | (refine And.intro ?_ ?_; focus (simp only [zl1, zl2, zl3, zl4, zl5, zl6, zl7, zl8] <;> omega))))
  conv => whnf
  refine ⟨3, rfl, by omega, ?_⟩
  repeat ((conv => whnf); (first | refine Cnd.yes ?_ | refine Cnd.no ?_ | refine And.intro rfl ?_ | refine And.intro (by omega) ?_ | (refine And.intro ?_ ?_; focus (simp only [IntKind.wrap_i64, IntKind.wrap_u64, IntKind.wrap_u32]; omega)) | (refine And.intro ?_ ?_; focus (simp only [zl1, zl2, zl3, zl4, zl5, zl6, zl7, zl8] <;> omega))))
  conv => whnf
  rw [e]
  repeat ((conv => whnf); (first | refine Cnd.yes ?_ | refine Cnd.no ?_ | refine And.intro rfl ?_ | refine And.intro (by omega) ?_ | (refine And.intro ?_ ?_; focus (simp only [IntKind.wrap_i64, IntKind.wrap_u64, IntKind.wrap_u32]; omega)) | (refine And.intro ?_ ?_; focus (simp only [zl1, zl2, zl3, zl4, zl5, zl6, zl7, zl8] <;> omega))))
  conv => whnf
  refine ⟨[], .v (.bool true), [], ?_⟩
  repeat ((conv => whnf); (first | refine Cnd.yes ?_ | refine Cnd.no ?_ | refine And.intro rfl ?_ | refine And.intro (by omega) ?_ | (refine And.intro ?_ ?_; focus (simp only [IntKind.wrap_i64, IntKind.wrap_u64, IntKind.wrap_u32]; omega)) | (refine And.intro ?_ ?_; focus (simp only [zl1, zl2, zl3, zl4, zl5, zl6, zl7, zl8] <;> omega))))
  conv => whnf
  exact hK
def samelineS : Vc.Spec := fun args hp _ K => ∃ c : Nat → Nat, args = [lnV c, lnV c] ∧ hp = [] ∧ K (.v (.bool true)) []
theorem sameline_ok : SOK Tryd.prog 20 samelineS := by
  refine TOK.weaken (TOK.out (runF_eq G0_ok mixed at20.1 at20.2 pf20_eq)) fun args hp M K h => ?_
  obtain ⟨c, rfl, rfl, h1⟩ := h
  exact sameline_run M K c h1
end Go.Proofs.YtncninjgfllcdaaDoor
