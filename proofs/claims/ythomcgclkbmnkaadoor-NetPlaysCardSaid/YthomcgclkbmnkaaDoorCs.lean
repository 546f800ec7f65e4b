/-
  Which error it is: Alike by a walk of its own; Is, walked.
-/
import Derived.Test.YthomcgclkbmnkaaDoorCa
import Derived.Test.YthomcgclkbmnkaaDoorVcu
import Derived.WalkKit
import Derived.LaidEql
import Derived.LaidEqlPtr
namespace Go.Proofs.YthomcgclkbmnkaaDoor
open Go Go.Vc Go.RowKit
set_option maxRecDepth 100000
set_option linter.unusedSimpArgs false
set_option linter.unusedVariables false
set_option maxHeartbeats 4000000
theorem Tryd.compES : (Tryd.prog.info? 95).map (·.comparable) = some true := by kernel_rfl
theorem Tryd.sizeES : (Tryd.prog.info? 111).map (·.size) = some 1 := by kernel_rfl
theorem alike_same (a : Addr) (w : World) : Calls Tryd.prog 48 #[.iface 95 (.pointer (some a)), .iface 95 (.pointer (some a))] w fun e w' => e = .returned (.bool true) ∧ w' = w := by
  obtain ⟨i, hi, hcmp⟩ := Option.map_eq_some_iff.1 Tryd.compES
  obtain ⟨j, hj, _⟩ := Option.map_eq_some_iff.1 Tryd.sizeES
  go_enter Tryd.func48, Tryd.ntmps48
  go_wp2
  rw [run_eql_iface_ptr_same w a Tryd.underlying25 Tryd.underlying95 hi hcmp hj]
  go_wp2
  go_ret
  exact ⟨rfl, rfl⟩
theorem alike_other (a b : Addr) (w : World) {ca cb : Array Value} {ta tb : TypeId} (hne : a ≠ b) (ha : w.heap[a.block]? = some (.cells ca ta (0, 0))) (hb : w.heap[b.block]? = some (.cells cb tb (0, 0))) :
    Calls Tryd.prog 48 #[.iface 95 (.pointer (some a)), .iface 95 (.pointer (some b))] w fun e w' => e = .returned (.bool false) ∧ w' = w := by
  obtain ⟨i, hi, hcmp⟩ := Option.map_eq_some_iff.1 Tryd.compES
  obtain ⟨j, hj, hjs⟩ := Option.map_eq_some_iff.1 Tryd.sizeES
  go_enter Tryd.func48, Tryd.ntmps48
  go_wp2
  rw [run_eql_iface_ptr_other w Tryd.underlying25 Tryd.underlying95 hi hcmp hj (by rw [hjs]; decide) hne ha hb]
  go_wp2
  go_ret
  exact ⟨rfl, rfl⟩
def alikeS : Vc.Spec := fun args hp M K => ∃ a b : Addr, args = [.v (.iface 95 (.pointer (some a))), .v (.iface 95 (.pointer (some b)))] ∧ (∃ c t, M a.block = some (.cells c t (0, 0))) ∧ (∃ c t, M b.block = some (.cells c t (0, 0))) ∧ K (.v (.bool (decide (a = b)))) hp
theorem alike_ok : SOK Tryd.prog 48 alikeS := by
  refine ⟨⟨_, at48.1, by kernel_rfl, at48.2⟩, ?_⟩
  rintro args hp M K ⟨a, b, rfl, ⟨ca, ta, ha⟩, ⟨cb, tb, hb⟩, hK⟩ ρ F w vs H hD
  obtain ⟨v1, v2, rfl⟩ : ∃ v1 v2, vs = [v1, v2] := by
    have := hD.length
    match vs, this with
    | [x, y], _ => exact ⟨x, y, rfl⟩
  simp only [DenL, Den, and_true] at hD
  obtain ⟨rfl, rfl⟩ := hD
  by_cases h : a = b
  · subst h
    rw [decide_eq_true rfl] at hK
    refine (alike_same a w).mono ?_
    rintro e w' ⟨rfl, rfl⟩
    exact ⟨_, rfl, _, ρ, hp, M, F, hK, Nat.le_refl _, Ext.refl _ _, H, Gr.refl _ _, Same.refl _, rfl⟩
  · rw [decide_eq_false h] at hK
    refine (alike_other a b w h (H.frm _ _ (H.sub _ _ ha)) (H.frm _ _ (H.sub _ _ hb))).mono ?_
    rintro e w' ⟨rfl, rfl⟩
    exact ⟨_, rfl, _, ρ, hp, M, F, hK, Nat.le_refl _, Ext.refl _ _, H, Gr.refl _ _, Same.refl _, rfl⟩
/-- The listed errors: where each variable points. -/
structure Sents (M : HL) (ad : Nat → Addr) : Prop where
  g : ∀ i, i < 11 → mcell M ⟨i, 0, none⟩ = some (.iface 95 (.pointer (some (ad i))))
  b : ∀ i, i < 11 → ∃ c t, M (ad i).block = some (.cells c t (0, 0))
  inj : ∀ i j, i < 11 → j < 11 → ad i = ad j → i = j
theorem Sents.mono {M Mr : HL} {ad : Nat → Addr} (h : Sents M ad) (hM : FLe M Mr) : Sents Mr ad := by
  refine ⟨fun i hi => ?_, fun i hi => ?_, h.inj⟩
  · have := h.g i hi
    unfold mcell at this ⊢
    cases hm : M i with
    | none => simp [hm] at this
    | some o => simp only [hm] at this; simp only [hM _ _ hm]; exact this
  · obtain ⟨c, t, hc⟩ := h.b i hi
    exact ⟨c, t, hM _ _ hc⟩
/-- The variable of the error that stands at that place of the list. -/
def gl (p : Nat) : Nat := [4, 1, 2, 5, 6, 0, 3, 7, 8, 9, 10].getD p 0
theorem gl_inj : ∀ p, p < 11 → ∀ q, q < 11 → gl p = gl q → p = q := by decide
theorem gl_lt : ∀ p, p < 11 → gl p < 11 := by decide
noncomputable def specsE : Nat → Option Vc.Trans := tget [(48, frameT alikeS)]
noncomputable def GE : Nat → Option Vc.Trans := tabG specsE (tget tab) 6
theorem GE_ok : GOK Tryd.prog GE := tabG_ok (GOK.cons (frame_ok alike_ok) .nil) tab_ok 6
def eRows (ad : Nat → Addr) : List (List Value) := [[.iface 95 (.pointer (some (ad 4)))], [.iface 95 (.pointer (some (ad 1)))], [.iface 95 (.pointer (some (ad 2)))], [.iface 95 (.pointer (some (ad 5)))], [.iface 95 (.pointer (some (ad 6)))], [.iface 95 (.pointer (some (ad 0)))], [.iface 95 (.pointer (some (ad 3)))], [.iface 95 (.pointer (some (ad 7)))], [.iface 95 (.pointer (some (ad 8)))], [.iface 95 (.pointer (some (ad 9)))], [.iface 95 (.pointer (some (ad 10)))]]
theorem eRows_at (ad : Nat → Addr) {i : Nat} (hi : i < 11) : cellAt (eRows ad) (0 + (i : Int).toNat) 0 = .iface 95 (.pointer (some (ad (gl i)))) := by
  rcases (show i = 0 ∨ i = 1 ∨ i = 2 ∨ i = 3 ∨ i = 4 ∨ i = 5 ∨ i = 6 ∨ i = 7 ∨ i = 8 ∨ i = 9 ∨ i = 10 by omega) with h | h | h | h | h | h | h | h | h | h | h <;> subst h <;> rfl
set_option maxHeartbeats 4000000 in
theorem sent_run (M : HL) (K : SV → List Ent → HL → Prop) (ad : Nat → Addr) (hS : Sents M ad) (p : Nat) (hp : p < 11) (hK : K (.v (.int .i64 (101 + p : Nat))) [] M) :
    runF GE pf46 [.v (.iface 95 (.pointer (some (ad (gl p)))))] [] M fun v hp2 M2 => ∃ m v' hp', Wk (llen ([] : List Ent)) m [v] hp2 [v'] hp' (K v' hp' M2) := by
  repeat ((conv => whnf); (first | refine Cnd.yes ?_ | refine Cnd.no ?_ | refine And.intro rfl ?_ | refine And.intro (by omega) ?_ | (refine And.intro ?_ ?_; focus (simp only [IntKind.wrap_i64, IntKind.wrap_u64, IntKind.wrap_u32]; omega)) | (refine And.intro ?_ ?_; focus (simp only [zl1, zl2, zl3, zl4, zl5, zl6, zl7, zl8, zl9] <;> omega)) | refine Alt.std ?_))
  conv => whnf
  refine ⟨_, hS.g 4 (by omega), ?_⟩
  repeat ((conv => whnf); (first | refine Cnd.yes ?_ | refine Cnd.no ?_ | refine And.intro rfl ?_ | refine And.intro (by omega) ?_ | (refine And.intro ?_ ?_; focus (simp only [IntKind.wrap_i64, IntKind.wrap_u64, IntKind.wrap_u32]; omega)) | (refine And.intro ?_ ?_; focus (simp only [zl1, zl2, zl3, zl4, zl5, zl6, zl7, zl8, zl9] <;> omega)) | refine Alt.std ?_))
  conv => whnf
  refine ⟨_, hS.g 1 (by omega), ?_⟩
  repeat ((conv => whnf); (first | refine Cnd.yes ?_ | refine Cnd.no ?_ | refine And.intro rfl ?_ | refine And.intro (by omega) ?_ | (refine And.intro ?_ ?_; focus (simp only [IntKind.wrap_i64, IntKind.wrap_u64, IntKind.wrap_u32]; omega)) | (refine And.intro ?_ ?_; focus (simp only [zl1, zl2, zl3, zl4, zl5, zl6, zl7, zl8, zl9] <;> omega)) | refine Alt.std ?_))
  conv => whnf
  refine ⟨_, hS.g 2 (by omega), ?_⟩
  repeat ((conv => whnf); (first | refine Cnd.yes ?_ | refine Cnd.no ?_ | refine And.intro rfl ?_ | refine And.intro (by omega) ?_ | (refine And.intro ?_ ?_; focus (simp only [IntKind.wrap_i64, IntKind.wrap_u64, IntKind.wrap_u32]; omega)) | (refine And.intro ?_ ?_; focus (simp only [zl1, zl2, zl3, zl4, zl5, zl6, zl7, zl8, zl9] <;> omega)) | refine Alt.std ?_))
  conv => whnf
  refine ⟨_, hS.g 5 (by omega), ?_⟩
  repeat ((conv => whnf); (first | refine Cnd.yes ?_ | refine Cnd.no ?_ | refine And.intro rfl ?_ | refine And.intro (by omega) ?_ | (refine And.intro ?_ ?_; focus (simp only [IntKind.wrap_i64, IntKind.wrap_u64, IntKind.wrap_u32]; omega)) | (refine And.intro ?_ ?_; focus (simp only [zl1, zl2, zl3, zl4, zl5, zl6, zl7, zl8, zl9] <;> omega)) | refine Alt.std ?_))
  conv => whnf
  refine ⟨_, hS.g 6 (by omega), ?_⟩
  repeat ((conv => whnf); (first | refine Cnd.yes ?_ | refine Cnd.no ?_ | refine And.intro rfl ?_ | refine And.intro (by omega) ?_ | (refine And.intro ?_ ?_; focus (simp only [IntKind.wrap_i64, IntKind.wrap_u64, IntKind.wrap_u32]; omega)) | (refine And.intro ?_ ?_; focus (simp only [zl1, zl2, zl3, zl4, zl5, zl6, zl7, zl8, zl9] <;> omega)) | refine Alt.std ?_))
  conv => whnf
  refine ⟨_, hS.g 0 (by omega), ?_⟩
  repeat ((conv => whnf); (first | refine Cnd.yes ?_ | refine Cnd.no ?_ | refine And.intro rfl ?_ | refine And.intro (by omega) ?_ | (refine And.intro ?_ ?_; focus (simp only [IntKind.wrap_i64, IntKind.wrap_u64, IntKind.wrap_u32]; omega)) | (refine And.intro ?_ ?_; focus (simp only [zl1, zl2, zl3, zl4, zl5, zl6, zl7, zl8, zl9] <;> omega)) | refine Alt.std ?_))
  conv => whnf
  refine ⟨_, hS.g 3 (by omega), ?_⟩
  repeat ((conv => whnf); (first | refine Cnd.yes ?_ | refine Cnd.no ?_ | refine And.intro rfl ?_ | refine And.intro (by omega) ?_ | (refine And.intro ?_ ?_; focus (simp only [IntKind.wrap_i64, IntKind.wrap_u64, IntKind.wrap_u32]; omega)) | (refine And.intro ?_ ?_; focus (simp only [zl1, zl2, zl3, zl4, zl5, zl6, zl7, zl8, zl9] <;> omega)) | refine Alt.std ?_))
  conv => whnf
  refine ⟨_, hS.g 7 (by omega), ?_⟩
  repeat ((conv => whnf); (first | refine Cnd.yes ?_ | refine Cnd.no ?_ | refine And.intro rfl ?_ | refine And.intro (by omega) ?_ | (refine And.intro ?_ ?_; focus (simp only [IntKind.wrap_i64, IntKind.wrap_u64, IntKind.wrap_u32]; omega)) | (refine And.intro ?_ ?_; focus (simp only [zl1, zl2, zl3, zl4, zl5, zl6, zl7, zl8, zl9] <;> omega)) | refine Alt.std ?_))
  conv => whnf
  refine ⟨_, hS.g 8 (by omega), ?_⟩
  repeat ((conv => whnf); (first | refine Cnd.yes ?_ | refine Cnd.no ?_ | refine And.intro rfl ?_ | refine And.intro (by omega) ?_ | (refine And.intro ?_ ?_; focus (simp only [IntKind.wrap_i64, IntKind.wrap_u64, IntKind.wrap_u32]; omega)) | (refine And.intro ?_ ?_; focus (simp only [zl1, zl2, zl3, zl4, zl5, zl6, zl7, zl8, zl9] <;> omega)) | refine Alt.std ?_))
  conv => whnf
  refine ⟨_, hS.g 9 (by omega), ?_⟩
  repeat ((conv => whnf); (first | refine Cnd.yes ?_ | refine Cnd.no ?_ | refine And.intro rfl ?_ | refine And.intro (by omega) ?_ | (refine And.intro ?_ ?_; focus (simp only [IntKind.wrap_i64, IntKind.wrap_u64, IntKind.wrap_u32]; omega)) | (refine And.intro ?_ ?_; focus (simp only [zl1, zl2, zl3, zl4, zl5, zl6, zl7, zl8, zl9] <;> omega)) | refine Alt.std ?_))
  conv => whnf
  refine ⟨_, hS.g 10 (by omega), ?_⟩
  repeat ((conv => whnf); (first | refine Cnd.yes ?_ | refine Cnd.no ?_ | refine And.intro rfl ?_ | refine And.intro (by omega) ?_ | (refine And.intro ?_ ?_; focus (simp only [IntKind.wrap_i64, IntKind.wrap_u64, IntKind.wrap_u32]; omega)) | (refine And.intro ?_ ?_; focus (simp only [zl1, zl2, zl3, zl4, zl5, zl6, zl7, zl8, zl9] <;> omega)) | refine Alt.std ?_))
  conv => whnf
  refine ⟨fun cnt tm hp M' => ∃ i, i ≤ p ∧ cnt = 11 - i ∧ M' = M ∧ tmkK 20 0 [(0, .v (.iface 95 (.pointer (some (ad (gl p)))))), (3, .slc 0 1 0 11), (4, .v (.int .i64 (i : Nat)))] (fun l => tm = l) ∧ hp = [.row true 25 [.raw] (eRows ad)],
    ⟨11, [0], tmk 20 0 [(0, .v (.iface 95 (.pointer (some (ad (gl p)))))), (3, .slc 0 1 0 11), (4, .v (.int .i64 (0 : Nat)))], [.row true 25 [.raw] (eRows ad)], ?_⟩, ?_⟩
  · repeat ((conv => whnf); (first | refine Cnd.yes ?_ | refine Cnd.no ?_ | refine And.intro rfl ?_ | refine And.intro (by omega) ?_ | (refine And.intro ?_ ?_; focus (simp only [IntKind.wrap_i64, IntKind.wrap_u64, IntKind.wrap_u32]; omega)) | (refine And.intro ?_ ?_; focus (simp only [zl1, zl2, zl3, zl4, zl5, zl6, zl7, zl8, zl9] <;> omega)) | refine Alt.std ?_))
    conv => whnf
    exact ⟨0, by omega, by omega, rfl, (tmkK_eq _ _ _ _).mpr rfl, rfl⟩
  · rintro cnt tm hp M' ⟨i, hi, rfl, rfl, htm, rfl⟩
    conv at htm => whnf
    subst htm
    repeat ((conv => whnf); (first | refine Cnd.yes ?_ | refine Cnd.no ?_ | refine And.intro rfl ?_ | refine And.intro (by omega) ?_ | (refine And.intro ?_ ?_; focus (simp only [IntKind.wrap_i64, IntKind.wrap_u64, IntKind.wrap_u32]; omega)) | (refine And.intro ?_ ?_; focus (simp only [zl1, zl2, zl3, zl4, zl5, zl6, zl7, zl8, zl9] <;> omega)) | refine Alt.std ?_))
    conv => whnf
    refine Cnd.tt (decide_eq_true (by omega)) ?_
    repeat ((conv => whnf); (first | refine Cnd.yes ?_ | refine Cnd.no ?_ | refine And.intro rfl ?_ | refine And.intro (by omega) ?_ | (refine And.intro ?_ ?_; focus (simp only [IntKind.wrap_i64, IntKind.wrap_u64, IntKind.wrap_u32]; omega)) | (refine And.intro ?_ ?_; focus (simp only [zl1, zl2, zl3, zl4, zl5, zl6, zl7, zl8, zl9] <;> omega)) | refine Alt.std ?_))
    conv => whnf
    refine ⟨by show 0 + (i : Int).toNat < 11; omega, ?_⟩
    repeat ((conv => whnf); (first | refine Cnd.yes ?_ | refine Cnd.no ?_ | refine And.intro rfl ?_ | refine And.intro (by omega) ?_ | (refine And.intro ?_ ?_; focus (simp only [IntKind.wrap_i64, IntKind.wrap_u64, IntKind.wrap_u32]; omega)) | (refine And.intro ?_ ?_; focus (simp only [zl1, zl2, zl3, zl4, zl5, zl6, zl7, zl8, zl9] <;> omega)) | refine Alt.std ?_))
    conv => whnf
    rw [eRows_at ad (by omega)]
    rintro _ rfl _
    repeat ((conv => whnf); (first | refine Cnd.yes ?_ | refine Cnd.no ?_ | refine And.intro rfl ?_ | refine And.intro (by omega) ?_ | (refine And.intro ?_ ?_; focus (simp only [IntKind.wrap_i64, IntKind.wrap_u64, IntKind.wrap_u32]; omega)) | (refine And.intro ?_ ?_; focus (simp only [zl1, zl2, zl3, zl4, zl5, zl6, zl7, zl8, zl9] <;> omega)) | refine Alt.std ?_))
    conv => whnf
    refine ⟨ad (gl p), ad (gl i), rfl, hS.b _ (gl_lt p hp), hS.b _ (gl_lt i (by omega)), ?_⟩
    by_cases hpi : i = p
    · subst hpi
      rw [decide_eq_true rfl]
      repeat ((conv => whnf); (first | refine Cnd.yes ?_ | refine Cnd.no ?_ | refine And.intro rfl ?_ | refine And.intro (by omega) ?_ | (refine And.intro ?_ ?_; focus (simp only [IntKind.wrap_i64, IntKind.wrap_u64, IntKind.wrap_u32]; omega)) | (refine And.intro ?_ ?_; focus (simp only [zl1, zl2, zl3, zl4, zl5, zl6, zl7, zl8, zl9] <;> omega)) | refine Alt.std ?_))
      conv => whnf
      have e : IntKind.i64.wrap (101 + (i : Int)) = ((101 + i : Nat) : Int) := by rw [IntKind.wrap_i64]; omega
      rw [e]
      refine ⟨[], .v (.int .i64 (101 + i : Nat)), [], ?_⟩
      repeat ((conv => whnf); (first | refine Cnd.yes ?_ | refine Cnd.no ?_ | refine And.intro rfl ?_ | refine And.intro (by omega) ?_ | (refine And.intro ?_ ?_; focus (simp only [IntKind.wrap_i64, IntKind.wrap_u64, IntKind.wrap_u32]; omega)) | (refine And.intro ?_ ?_; focus (simp only [zl1, zl2, zl3, zl4, zl5, zl6, zl7, zl8, zl9] <;> omega)) | refine Alt.std ?_))
      conv => whnf
      exact hK
    · rw [decide_eq_false fun h => hpi (gl_inj p hp i (by omega) (hS.inj _ _ (gl_lt p hp) (gl_lt i (by omega)) h)).symm]
      repeat ((conv => whnf); (first | refine Cnd.yes ?_ | refine Cnd.no ?_ | refine And.intro rfl ?_ | refine And.intro (by omega) ?_ | (refine And.intro ?_ ?_; focus (simp only [IntKind.wrap_i64, IntKind.wrap_u64, IntKind.wrap_u32]; omega)) | (refine And.intro ?_ ?_; focus (simp only [zl1, zl2, zl3, zl4, zl5, zl6, zl7, zl8, zl9] <;> omega)) | refine Alt.std ?_))
      conv => whnf
      refine ⟨11 - (i + 1), [0], tmk 20 0 [(0, .v (.iface 95 (.pointer (some (ad (gl p)))))), (3, .slc 0 1 0 11), (4, .v (.int .i64 (i + 1 : Nat)))], [.row true 25 [.raw] (eRows ad)], by omega, ?_⟩
      repeat ((conv => whnf); (first | refine Cnd.yes ?_ | refine Cnd.no ?_ | refine And.intro rfl ?_ | refine And.intro (by omega) ?_ | (refine And.intro ?_ ?_; focus (simp only [IntKind.wrap_i64, IntKind.wrap_u64, IntKind.wrap_u32]; omega)) | (refine And.intro ?_ ?_; focus (simp only [zl1, zl2, zl3, zl4, zl5, zl6, zl7, zl8, zl9] <;> omega)) | refine Alt.std ?_))
      conv => whnf
      exact ⟨i + 1, by omega, rfl, rfl, (tmkK_eq _ _ _ _).mpr rfl, rfl⟩
def sentS : Vc.Spec := fun args hp M K => ∃ (ad : Nat → Addr) (p : Nat), Sents M ad ∧ p < 11 ∧ args = [.v (.iface 95 (.pointer (some (ad (gl p)))))] ∧ hp = [] ∧ K (.v (.int .i64 (101 + p : Nat))) []
theorem sent_ok : SOK Tryd.prog 46 sentS := by
  refine TOK.weaken (TOK.out (runF_eq GE_ok mixed at46.1 at46.2 pf46_eq)) fun args hp M K h => ?_
  obtain ⟨ad, p, hS, hp, rfl, rfl, h⟩ := h
  exact sent_run M K ad hS p hp h
theorem sameNil_run (M : HL) (K : SV → List Ent → HL → Prop) (hK : K (.v (.bool true)) [] M) : runF G0 pf41 [.v (.slice none 0 0), .v (.slice none 0 0)] [] M K := by
  repeat ((conv => whnf); (first | refine Cnd.yes ?_ | refine Cnd.no ?_ | refine And.intro rfl ?_ | refine And.intro (by omega) ?_ | (refine And.intro ?_ ?_; focus (simp only [IntKind.wrap_i64, IntKind.wrap_u64, IntKind.wrap_u32]; omega)) | (refine And.intro ?_ ?_; focus (simp only [zl1, zl2, zl3, zl4, zl5, zl6, zl7, zl8, zl9] <;> omega)) | refine Alt.std ?_))
  conv => whnf
  refine ⟨fun cnt tm hp M' => cnt = 0 ∧ M' = M ∧ tmkK 29 0 [(0, .v (.slice none 0 0)), (1, .v (.slice none 0 0)), (5, .v (.int .i64 0))] (fun l => tm = l) ∧ hp = [], ⟨0, [], tmk 29 0 [(0, .v (.slice none 0 0)), (1, .v (.slice none 0 0)), (5, .v (.int .i64 0))], [], ?_⟩, ?_⟩
  · repeat ((conv => whnf); (first | refine Cnd.yes ?_ | refine Cnd.no ?_ | refine And.intro rfl ?_ | refine And.intro (by omega) ?_ | (refine And.intro ?_ ?_; focus (simp only [IntKind.wrap_i64, IntKind.wrap_u64, IntKind.wrap_u32]; omega)) | (refine And.intro ?_ ?_; focus (simp only [zl1, zl2, zl3, zl4, zl5, zl6, zl7, zl8, zl9] <;> omega)) | refine Alt.std ?_))
    conv => whnf
  · rintro cnt tm hp M' ⟨rfl, rfl, htm, rfl⟩
    conv at htm => whnf
    subst htm
    repeat ((conv => whnf); (first | refine Cnd.yes ?_ | refine Cnd.no ?_ | refine And.intro rfl ?_ | refine And.intro (by omega) ?_ | (refine And.intro ?_ ?_; focus (simp only [IntKind.wrap_i64, IntKind.wrap_u64, IntKind.wrap_u32]; omega)) | (refine And.intro ?_ ?_; focus (simp only [zl1, zl2, zl3, zl4, zl5, zl6, zl7, zl8, zl9] <;> omega)) | refine Alt.std ?_))
    conv => whnf
    exact hK
theorem same_run (o o2 : Bool) (e e2 : TypeId) (M : HL) (K : SV → List Ent → HL → Prop) (a b : List Int) (ha : a.length ≤ 1000000) (hb : b.length ≤ 1000000)
    (hK : K (.v (.bool (decide (a = b)))) [.row o e [.int .i64] (a.map irow), .row o2 e2 [.int .i64] (b.map irow)] M) :
    runF G0 pf41 [.slc 0 1 0 a.length, .slc 1 1 0 b.length] [.row o e [.int .i64] (a.map irow), .row o2 e2 [.int .i64] (b.map irow)] M K := by
  repeat ((conv => whnf); (first | refine Cnd.yes ?_ | refine Cnd.no ?_ | refine And.intro rfl ?_ | refine And.intro (by omega) ?_ | (refine And.intro ?_ ?_; focus (simp only [IntKind.wrap_i64, IntKind.wrap_u64, IntKind.wrap_u32]; omega)) | (refine And.intro ?_ ?_; focus (simp only [zl1, zl2, zl3, zl4, zl5, zl6, zl7, zl8, zl9] <;> omega)) | refine Alt.std ?_))
  conv => whnf
  by_cases hl : a.length = b.length
  · refine Cnd.ff (by rw [hl]; simp) ?_
    repeat ((conv => whnf); (first | refine Cnd.yes ?_ | refine Cnd.no ?_ | refine And.intro rfl ?_ | refine And.intro (by omega) ?_ | (refine And.intro ?_ ?_; focus (simp only [IntKind.wrap_i64, IntKind.wrap_u64, IntKind.wrap_u32]; omega)) | (refine And.intro ?_ ?_; focus (simp only [zl1, zl2, zl3, zl4, zl5, zl6, zl7, zl8, zl9] <;> omega)) | refine Alt.std ?_))
    conv => whnf
    refine ⟨fun cnt tm hp M' => ∃ i, i ≤ a.length ∧ (∀ j, j < i → a.getD j 0 = b.getD j 0) ∧ cnt = a.length - i ∧ M' = M ∧ tmkK 29 0 [(0, .slc 0 1 0 a.length), (1, .slc 1 1 0 b.length), (5, .v (.int .i64 (i : Nat)))] (fun l => tm = l) ∧ hp = [.row o e [.int .i64] (a.map irow), .row o2 e2 [.int .i64] (b.map irow)],
      ⟨a.length, [0, 1], tmk 29 0 [(0, .slc 0 1 0 a.length), (1, .slc 1 1 0 b.length), (5, .v (.int .i64 (0 : Nat)))], [.row o e [.int .i64] (a.map irow), .row o2 e2 [.int .i64] (b.map irow)], ?_⟩, ?_⟩
    · repeat ((conv => whnf); (first | refine Cnd.yes ?_ | refine Cnd.no ?_ | refine And.intro rfl ?_ | refine And.intro (by omega) ?_ | (refine And.intro ?_ ?_; focus (simp only [IntKind.wrap_i64, IntKind.wrap_u64, IntKind.wrap_u32]; omega)) | (refine And.intro ?_ ?_; focus (simp only [zl1, zl2, zl3, zl4, zl5, zl6, zl7, zl8, zl9] <;> omega)) | refine Alt.std ?_))
      conv => whnf
      exact ⟨0, by omega, fun j hj => by omega, by omega, rfl, (tmkK_eq _ _ _ _).mpr rfl, rfl⟩
    · rintro cnt tm hp M' ⟨i, hi, hall, rfl, rfl, htm, rfl⟩
      conv at htm => whnf
      subst htm
      repeat ((conv => whnf); (first | refine Cnd.yes ?_ | refine Cnd.no ?_ | refine And.intro rfl ?_ | refine And.intro (by omega) ?_ | (refine And.intro ?_ ?_; focus (simp only [IntKind.wrap_i64, IntKind.wrap_u64, IntKind.wrap_u32]; omega)) | (refine And.intro ?_ ?_; focus (simp only [zl1, zl2, zl3, zl4, zl5, zl6, zl7, zl8, zl9] <;> omega)) | refine Alt.std ?_))
      conv => whnf
      refine Cnd.mk (fun hlt => ?_) fun hge => ?_
      · have hin : i < a.length := by have := of_decide_eq_true hlt; omega
        repeat ((conv => whnf); (first | refine Cnd.yes ?_ | refine Cnd.no ?_ | refine And.intro rfl ?_ | refine And.intro (by omega) ?_ | (refine And.intro ?_ ?_; focus (simp only [IntKind.wrap_i64, IntKind.wrap_u64, IntKind.wrap_u32]; omega)) | (refine And.intro ?_ ?_; focus (simp only [zl1, zl2, zl3, zl4, zl5, zl6, zl7, zl8, zl9] <;> omega)) | refine Alt.std ?_))
        conv => whnf
        rw [toI_i hin, toI_i (by omega)]
        by_cases hv : a.getD i 0 = b.getD i 0
        · rw [hv]
          rw [show (b.getD i 0 == b.getD i 0) = true from by simp]
          repeat ((conv => whnf); (first | refine Cnd.yes ?_ | refine Cnd.no ?_ | refine And.intro rfl ?_ | refine And.intro (by omega) ?_ | (refine And.intro ?_ ?_; focus (simp only [IntKind.wrap_i64, IntKind.wrap_u64, IntKind.wrap_u32]; omega)) | (refine And.intro ?_ ?_; focus (simp only [zl1, zl2, zl3, zl4, zl5, zl6, zl7, zl8, zl9] <;> omega)) | refine Alt.std ?_))
          conv => whnf
          refine ⟨a.length - (i + 1), [0, 1], tmk 29 0 [(0, .slc 0 1 0 a.length), (1, .slc 1 1 0 b.length), (5, .v (.int .i64 (i + 1 : Nat)))], [.row o e [.int .i64] (a.map irow), .row o2 e2 [.int .i64] (b.map irow)], by omega, ?_⟩
          repeat ((conv => whnf); (first | refine Cnd.yes ?_ | refine Cnd.no ?_ | refine And.intro rfl ?_ | refine And.intro (by omega) ?_ | (refine And.intro ?_ ?_; focus (simp only [IntKind.wrap_i64, IntKind.wrap_u64, IntKind.wrap_u32]; omega)) | (refine And.intro ?_ ?_; focus (simp only [zl1, zl2, zl3, zl4, zl5, zl6, zl7, zl8, zl9] <;> omega)) | refine Alt.std ?_))
          conv => whnf
          exact ⟨i + 1, by omega, fun j hj => by
            by_cases h : j = i
            · rw [h]; exact hv
            · exact hall j (by omega), rfl, rfl, (tmkK_eq _ _ _ _).mpr rfl, rfl⟩
        · rw [show (a.getD i 0 == b.getD i 0) = false from by simpa using hv]
          repeat ((conv => whnf); (first | refine Cnd.yes ?_ | refine Cnd.no ?_ | refine And.intro rfl ?_ | refine And.intro (by omega) ?_ | (refine And.intro ?_ ?_; focus (simp only [IntKind.wrap_i64, IntKind.wrap_u64, IntKind.wrap_u32]; omega)) | (refine And.intro ?_ ?_; focus (simp only [zl1, zl2, zl3, zl4, zl5, zl6, zl7, zl8, zl9] <;> omega)) | refine Alt.std ?_))
          conv => whnf
          rw [decide_eq_false (fun h => hv (by rw [h]))] at hK
          exact hK
      · have hin : i = a.length := by have := of_decide_eq_false hge; omega
        subst hin
        repeat ((conv => whnf); (first | refine Cnd.yes ?_ | refine Cnd.no ?_ | refine And.intro rfl ?_ | refine And.intro (by omega) ?_ | (refine And.intro ?_ ?_; focus (simp only [IntKind.wrap_i64, IntKind.wrap_u64, IntKind.wrap_u32]; omega)) | (refine And.intro ?_ ?_; focus (simp only [zl1, zl2, zl3, zl4, zl5, zl6, zl7, zl8, zl9] <;> omega)) | refine Alt.std ?_))
        conv => whnf
        have he : a = b := by
          refine List.ext_getElem hl fun j h1 h2 => ?_
          have := hall j h1
          simpa [List.getD, List.getElem?_eq_getElem h1, List.getElem?_eq_getElem h2] using this
        rw [decide_eq_true he] at hK
        exact hK
  · refine Cnd.tt (by simp only [bne_iff_ne]; omega) ?_
    repeat ((conv => whnf); (first | refine Cnd.yes ?_ | refine Cnd.no ?_ | refine And.intro rfl ?_ | refine And.intro (by omega) ?_ | (refine And.intro ?_ ?_; focus (simp only [IntKind.wrap_i64, IntKind.wrap_u64, IntKind.wrap_u32]; omega)) | (refine And.intro ?_ ?_; focus (simp only [zl1, zl2, zl3, zl4, zl5, zl6, zl7, zl8, zl9] <;> omega)) | refine Alt.std ?_))
    conv => whnf
    rw [decide_eq_false (fun h => hl (by rw [h]))] at hK
    exact hK
def sameS : Vc.Spec := fun args hp _ K => (args = [.v (.slice none 0 0), .v (.slice none 0 0)] ∧ hp = [] ∧ K (.v (.bool true)) []) ∨
  (∃ (o o2 : Bool) (e e2 : TypeId) (a b : List Int), args = [.slc 0 1 0 a.length, .slc 1 1 0 b.length] ∧ hp = [.row o e [.int .i64] (a.map irow), .row o2 e2 [.int .i64] (b.map irow)] ∧ a.length ≤ 1000000 ∧ b.length ≤ 1000000 ∧ K (.v (.bool (decide (a = b)))) hp)
theorem same_ok : SOK Tryd.prog 41 sameS := by
  refine TOK.weaken (runF_eq G0_ok mixed at41.1 at41.2 pf41_eq) fun args hp M K h => ?_
  rcases h with ⟨rfl, rfl, h⟩ | ⟨o, o2, e, e2, a, b, rfl, rfl, h1, h2, h3⟩
  · exact sameNil_run M K h
  · exact same_run o o2 e e2 M K a b h1 h2 h3
noncomputable def specsF : Nat → Option Vc.Trans := tget [(48, frameT alikeS), (46, frameT sentS), (41, frameT sameS)]
noncomputable def GF : Nat → Option Vc.Trans := tabG specsF (tget tab) 8
theorem GF_ok : GOK Tryd.prog GF := tabG_ok (GOK.cons (frame_ok alike_ok) (GOK.cons (frame_ok sent_ok) (GOK.cons (frame_ok same_ok) .nil))) tab_ok 8
set_option maxHeartbeats 4000000 in
theorem is_run (M : HL) (K : SV → List Ent → HL → Prop) (ad : Nat → Addr) (hS : Sents M ad) (p : Nat) (hp : p < 11) (c : Int) (hK : K (.v (.bool (((101 + p : Nat) : Int) == c))) [] M) :
    runF GF pf19 [.v (.iface 95 (.pointer (some (ad (gl p))))), .v (.int .i64 c)] [] M fun v hp2 M2 => ∃ m v' hp', Wk (llen ([] : List Ent)) m [v] hp2 [v'] hp' (K v' hp' M2) := by
  repeat ((conv => whnf); (first | refine Cnd.yes ?_ | refine Cnd.no ?_ | refine And.intro rfl ?_ | refine And.intro (by omega) ?_ | (refine And.intro ?_ ?_; focus (simp only [IntKind.wrap_i64, IntKind.wrap_u64, IntKind.wrap_u32]; omega)) | (refine And.intro ?_ ?_; focus (simp only [zl1, zl2, zl3, zl4, zl5, zl6, zl7, zl8, zl9] <;> omega)) | refine Alt.std ?_))
  conv => whnf
  refine ⟨ad, p, hS, hp, rfl, rfl, ?_⟩
  repeat ((conv => whnf); (first | refine Cnd.yes ?_ | refine Cnd.no ?_ | refine And.intro rfl ?_ | refine And.intro (by omega) ?_ | (refine And.intro ?_ ?_; focus (simp only [IntKind.wrap_i64, IntKind.wrap_u64, IntKind.wrap_u32]; omega)) | (refine And.intro ?_ ?_; focus (simp only [zl1, zl2, zl3, zl4, zl5, zl6, zl7, zl8, zl9] <;> omega)) | refine Alt.std ?_))
  conv => whnf
  refine .inl ⟨rfl, rfl, ?_⟩
  repeat ((conv => whnf); (first | refine Cnd.yes ?_ | refine Cnd.no ?_ | refine And.intro rfl ?_ | refine And.intro (by omega) ?_ | (refine And.intro ?_ ?_; focus (simp only [IntKind.wrap_i64, IntKind.wrap_u64, IntKind.wrap_u32]; omega)) | (refine And.intro ?_ ?_; focus (simp only [zl1, zl2, zl3, zl4, zl5, zl6, zl7, zl8, zl9] <;> omega)) | refine Alt.std ?_))
  conv => whnf
  cases h : (((101 + p : Nat) : Int) == c) with
  | true =>
    refine Cnd.yes ?_
    repeat ((conv => whnf); (first | refine Cnd.yes ?_ | refine Cnd.no ?_ | refine And.intro rfl ?_ | refine And.intro (by omega) ?_ | (refine And.intro ?_ ?_; focus (simp only [IntKind.wrap_i64, IntKind.wrap_u64, IntKind.wrap_u32]; omega)) | (refine And.intro ?_ ?_; focus (simp only [zl1, zl2, zl3, zl4, zl5, zl6, zl7, zl8, zl9] <;> omega)) | refine Alt.std ?_))
    conv => whnf
    rw [h] at hK
    refine ⟨[], .v (.bool true), [], ?_⟩
    repeat ((conv => whnf); (first | refine Cnd.yes ?_ | refine Cnd.no ?_ | refine And.intro rfl ?_ | refine And.intro (by omega) ?_ | (refine And.intro ?_ ?_; focus (simp only [IntKind.wrap_i64, IntKind.wrap_u64, IntKind.wrap_u32]; omega)) | (refine And.intro ?_ ?_; focus (simp only [zl1, zl2, zl3, zl4, zl5, zl6, zl7, zl8, zl9] <;> omega)) | refine Alt.std ?_))
    conv => whnf
    exact hK
  | false =>
    refine Cnd.no ?_
    repeat ((conv => whnf); (first | refine Cnd.yes ?_ | refine Cnd.no ?_ | refine And.intro rfl ?_ | refine And.intro (by omega) ?_ | (refine And.intro ?_ ?_; focus (simp only [IntKind.wrap_i64, IntKind.wrap_u64, IntKind.wrap_u32]; omega)) | (refine And.intro ?_ ?_; focus (simp only [zl1, zl2, zl3, zl4, zl5, zl6, zl7, zl8, zl9] <;> omega)) | refine Alt.std ?_))
    conv => whnf
    rw [h] at hK
    refine ⟨[], .v (.bool false), [], ?_⟩
    repeat ((conv => whnf); (first | refine Cnd.yes ?_ | refine Cnd.no ?_ | refine And.intro rfl ?_ | refine And.intro (by omega) ?_ | (refine And.intro ?_ ?_; focus (simp only [IntKind.wrap_i64, IntKind.wrap_u64, IntKind.wrap_u32]; omega)) | (refine And.intro ?_ ?_; focus (simp only [zl1, zl2, zl3, zl4, zl5, zl6, zl7, zl8, zl9] <;> omega)) | refine Alt.std ?_))
    conv => whnf
    exact hK
theorem isnil_run (M : HL) (K : SV → List Ent → HL → Prop) (c : Int) (hK : K (.v (.bool ((0 : Int) == c))) [] M) :
    runF GF pf19 [.v .nilIface, .v (.int .i64 c)] [] M fun v hp2 M2 => ∃ m v' hp', Wk (llen ([] : List Ent)) m [v] hp2 [v'] hp' (K v' hp' M2) := by
  repeat ((conv => whnf); (first | refine Cnd.yes ?_ | refine Cnd.no ?_ | refine And.intro rfl ?_ | refine And.intro (by omega) ?_ | (refine And.intro ?_ ?_; focus (simp only [IntKind.wrap_i64, IntKind.wrap_u64, IntKind.wrap_u32]; omega)) | (refine And.intro ?_ ?_; focus (simp only [zl1, zl2, zl3, zl4, zl5, zl6, zl7, zl8, zl9] <;> omega)) | refine Alt.std ?_))
  conv => whnf
  refine .inl ⟨rfl, rfl, ?_⟩
  repeat ((conv => whnf); (first | refine Cnd.yes ?_ | refine Cnd.no ?_ | refine And.intro rfl ?_ | refine And.intro (by omega) ?_ | (refine And.intro ?_ ?_; focus (simp only [IntKind.wrap_i64, IntKind.wrap_u64, IntKind.wrap_u32]; omega)) | (refine And.intro ?_ ?_; focus (simp only [zl1, zl2, zl3, zl4, zl5, zl6, zl7, zl8, zl9] <;> omega)) | refine Alt.std ?_))
  conv => whnf
  cases h : ((0 : Int) == c) with
  | true =>
    refine Cnd.yes ?_
    repeat ((conv => whnf); (first | refine Cnd.yes ?_ | refine Cnd.no ?_ | refine And.intro rfl ?_ | refine And.intro (by omega) ?_ | (refine And.intro ?_ ?_; focus (simp only [IntKind.wrap_i64, IntKind.wrap_u64, IntKind.wrap_u32]; omega)) | (refine And.intro ?_ ?_; focus (simp only [zl1, zl2, zl3, zl4, zl5, zl6, zl7, zl8, zl9] <;> omega)) | refine Alt.std ?_))
    conv => whnf
    rw [h] at hK
    refine ⟨[], .v (.bool true), [], ?_⟩
    repeat ((conv => whnf); (first | refine Cnd.yes ?_ | refine Cnd.no ?_ | refine And.intro rfl ?_ | refine And.intro (by omega) ?_ | (refine And.intro ?_ ?_; focus (simp only [IntKind.wrap_i64, IntKind.wrap_u64, IntKind.wrap_u32]; omega)) | (refine And.intro ?_ ?_; focus (simp only [zl1, zl2, zl3, zl4, zl5, zl6, zl7, zl8, zl9] <;> omega)) | refine Alt.std ?_))
    conv => whnf
    exact hK
  | false =>
    refine Cnd.no ?_
    repeat ((conv => whnf); (first | refine Cnd.yes ?_ | refine Cnd.no ?_ | refine And.intro rfl ?_ | refine And.intro (by omega) ?_ | (refine And.intro ?_ ?_; focus (simp only [IntKind.wrap_i64, IntKind.wrap_u64, IntKind.wrap_u32]; omega)) | (refine And.intro ?_ ?_; focus (simp only [zl1, zl2, zl3, zl4, zl5, zl6, zl7, zl8, zl9] <;> omega)) | refine Alt.std ?_))
    conv => whnf
    rw [h] at hK
    refine ⟨[], .v (.bool false), [], ?_⟩
    repeat ((conv => whnf); (first | refine Cnd.yes ?_ | refine Cnd.no ?_ | refine And.intro rfl ?_ | refine And.intro (by omega) ?_ | (refine And.intro ?_ ?_; focus (simp only [IntKind.wrap_i64, IntKind.wrap_u64, IntKind.wrap_u32]; omega)) | (refine And.intro ?_ ?_; focus (simp only [zl1, zl2, zl3, zl4, zl5, zl6, zl7, zl8, zl9] <;> omega)) | refine Alt.std ?_))
    conv => whnf
    exact hK
def isS : Vc.Spec := fun args hp M K => (∃ (ad : Nat → Addr) (p : Nat) (c : Int), Sents M ad ∧ p < 11 ∧ args = [.v (.iface 95 (.pointer (some (ad (gl p))))), .v (.int .i64 c)] ∧ hp = [] ∧ K (.v (.bool (((101 + p : Nat) : Int) == c))) []) ∨
  (∃ c : Int, args = [.v .nilIface, .v (.int .i64 c)] ∧ hp = [] ∧ K (.v (.bool ((0 : Int) == c))) [])
theorem is_ok : SOK Tryd.prog 19 isS := by
  refine TOK.weaken (TOK.out (runF_eq GF_ok mixed at19.1 at19.2 pf19_eq)) fun args hp M K h => ?_
  rcases h with ⟨ad, p, c, hS, hp, rfl, rfl, h⟩ | ⟨c, rfl, rfl, h⟩
  · exact is_run M K ad hS p hp c h
  · exact isnil_run M K c h
theorem fsent_run (M : HL) (K : SV → List Ent → HL → Prop) (ad : Nat → Addr) (hS : Sents M ad) (p : Nat) (hp : p < 11) (n : Int) (hn : n ≠ 0) (hK : K (.agg [.v (.int .i64 (101 + p : Nat)), .v (.slice none 0 0)]) [] M) :
    runF GF pf40 [.v (.iface 95 (.pointer (some (ad (gl p))))), .v (.int .i64 n)] [] M fun v hp2 M2 => ∃ m v' hp', Wk (llen ([] : List Ent)) m [v] hp2 [v'] hp' (K v' hp' M2) := by
  repeat ((conv => whnf); (first | refine Cnd.yes ?_ | refine Cnd.no ?_ | refine And.intro rfl ?_ | refine And.intro (by omega) ?_ | (refine And.intro ?_ ?_; focus (simp only [IntKind.wrap_i64, IntKind.wrap_u64, IntKind.wrap_u32]; omega)) | (refine And.intro ?_ ?_; focus (simp only [zl1, zl2, zl3, zl4, zl5, zl6, zl7, zl8, zl9] <;> omega)) | refine Alt.std ?_))
  conv => whnf
  refine Cnd.ff (by simpa using hn) ?_
  repeat ((conv => whnf); (first | refine Cnd.yes ?_ | refine Cnd.no ?_ | refine And.intro rfl ?_ | refine And.intro (by omega) ?_ | (refine And.intro ?_ ?_; focus (simp only [IntKind.wrap_i64, IntKind.wrap_u64, IntKind.wrap_u32]; omega)) | (refine And.intro ?_ ?_; focus (simp only [zl1, zl2, zl3, zl4, zl5, zl6, zl7, zl8, zl9] <;> omega)) | refine Alt.std ?_))
  conv => whnf
  refine ⟨ad, p, hS, hp, rfl, rfl, ?_⟩
  repeat ((conv => whnf); (first | refine Cnd.yes ?_ | refine Cnd.no ?_ | refine And.intro rfl ?_ | refine And.intro (by omega) ?_ | (refine And.intro ?_ ?_; focus (simp only [IntKind.wrap_i64, IntKind.wrap_u64, IntKind.wrap_u32]; omega)) | (refine And.intro ?_ ?_; focus (simp only [zl1, zl2, zl3, zl4, zl5, zl6, zl7, zl8, zl9] <;> omega)) | refine Alt.std ?_))
  conv => whnf
  refine ⟨[], .agg [.v (.int .i64 (101 + p : Nat)), .v (.slice none 0 0)], [], ?_⟩
  repeat ((conv => whnf); (first | refine Cnd.yes ?_ | refine Cnd.no ?_ | refine And.intro rfl ?_ | refine And.intro (by omega) ?_ | (refine And.intro ?_ ?_; focus (simp only [IntKind.wrap_i64, IntKind.wrap_u64, IntKind.wrap_u32]; omega)) | (refine And.intro ?_ ?_; focus (simp only [zl1, zl2, zl3, zl4, zl5, zl6, zl7, zl8, zl9] <;> omega)) | refine Alt.std ?_))
  conv => whnf
  exact hK
def fsentS : Vc.Spec := fun args hp M K => ∃ (ad : Nat → Addr) (p : Nat) (n : Int), Sents M ad ∧ p < 11 ∧ n ≠ 0 ∧ args = [.v (.iface 95 (.pointer (some (ad (gl p))))), .v (.int .i64 n)] ∧ hp = [] ∧ K (.agg [.v (.int .i64 (101 + p : Nat)), .v (.slice none 0 0)]) []
theorem fsent_ok : SOK Tryd.prog 40 fsentS := by
  refine TOK.weaken (TOK.out (runF_eq GF_ok mixed at40.1 at40.2 pf40_eq)) fun args hp M K h => ?_
  obtain ⟨ad, p, n, hS, hp, hn, rfl, rfl, h⟩ := h
  exact fsent_run M K ad hS p hp n hn h
noncomputable def specsH : Nat → Option Vc.Trans := tget [(48, frameT alikeS), (46, frameT sentS), (41, frameT sameS), (40, frameT fsentS)]
noncomputable def GH : Nat → Option Vc.Trans := tabG specsH (tget tab) 8
theorem GH_ok : GOK Tryd.prog GH := tabG_ok (GOK.cons (frame_ok alike_ok) (GOK.cons (frame_ok sent_ok) (GOK.cons (frame_ok same_ok) (GOK.cons (frame_ok fsent_ok) .nil)))) tab_ok 8
/-- An error with its place. -/
def atE (ad : Nat → Addr) (p : Nat) (pos : Int) : Ent := .cells 75 [.v (.int .i64 pos), .v (.iface 95 (.pointer (some (ad (gl p)))))]
theorem fat_run (M : HL) (K : SV → List Ent → HL → Prop) (ad : Nat → Addr) (hS : Sents M ad) (p : Nat) (hp : p < 11) (pos : Int) (hK : K (.agg [.v (.int .i64 (101 + p : Nat)), .slc 1 1 0 1]) [atE ad p pos, .row true 3 [.int .i64] [[.int .i64 pos]]] M) :
    runF GH pf40 [.ifc 73 (.ptr 0 0 0 0), .v (.int .i64 9)] [atE ad p pos] M fun v hp2 M2 => ∃ m v' hp', Wk (llen [atE ad p pos]) m [v] hp2 [v'] hp' (K v' hp' M2) := by
  repeat ((conv => whnf); (first | refine Cnd.yes ?_ | refine Cnd.no ?_ | refine And.intro rfl ?_ | refine And.intro (by omega) ?_ | (refine And.intro ?_ ?_; focus (simp only [IntKind.wrap_i64, IntKind.wrap_u64, IntKind.wrap_u32]; omega)) | (refine And.intro ?_ ?_; focus (simp only [zl1, zl2, zl3, zl4, zl5, zl6, zl7, zl8, zl9] <;> omega)) | refine Alt.std ?_))
  conv => whnf
  refine ⟨ad, p, 8, hS, hp, by decide, rfl, rfl, ?_⟩
  repeat ((conv => whnf); (first | refine Cnd.yes ?_ | refine Cnd.no ?_ | refine And.intro rfl ?_ | refine And.intro (by omega) ?_ | (refine And.intro ?_ ?_; focus (simp only [IntKind.wrap_i64, IntKind.wrap_u64, IntKind.wrap_u32]; omega)) | (refine And.intro ?_ ?_; focus (simp only [zl1, zl2, zl3, zl4, zl5, zl6, zl7, zl8, zl9] <;> omega)) | refine Alt.std ?_))
  conv => whnf
  refine ⟨[0, 4], .agg [.v (.int .i64 (101 + p : Nat)), .slc 1 1 0 1], [atE ad p pos, .row true 3 [.int .i64] [[.int .i64 pos]]], ?_⟩
  repeat ((conv => whnf); (first | refine Cnd.yes ?_ | refine Cnd.no ?_ | refine And.intro rfl ?_ | refine And.intro (by omega) ?_ | (refine And.intro ?_ ?_; focus (simp only [IntKind.wrap_i64, IntKind.wrap_u64, IntKind.wrap_u32]; omega)) | (refine And.intro ?_ ?_; focus (simp only [zl1, zl2, zl3, zl4, zl5, zl6, zl7, zl8, zl9] <;> omega)) | refine Alt.std ?_))
  conv => whnf
  exact hK
def fatS : Vc.Spec := fun args hp M K => ∃ (ad : Nat → Addr) (p : Nat) (pos : Int), Sents M ad ∧ p < 11 ∧ args = [.ifc 73 (.ptr 0 0 0 0), .v (.int .i64 9)] ∧ hp = [atE ad p pos] ∧ K (.agg [.v (.int .i64 (101 + p : Nat)), .slc 1 1 0 1]) [atE ad p pos, .row true 3 [.int .i64] [[.int .i64 pos]]]
theorem fat_ok : SOK Tryd.prog 40 fatS := by
  refine TOK.weaken (TOK.out (runF_eq GH_ok mixed at40.1 at40.2 pf40_eq)) fun args hp M K h => ?_
  obtain ⟨ad, p, pos, hS, hp, rfl, rfl, h⟩ := h
  exact fat_run M K ad hS p hp pos h
noncomputable def specsI : Nat → Option Vc.Trans := tget [(41, frameT sameS), (40, orT (frameT fatS) (frameT fsentS))]
noncomputable def GI : Nat → Option Vc.Trans := tabG specsI (tget tab) 8
theorem GI_ok : GOK Tryd.prog GI := tabG_ok (GOK.cons (frame_ok same_ok) (GOK.cons (orT_ok (frame_ok fat_ok) (frame_ok fsent_ok)) .nil)) tab_ok 8
theorem same_at_run (M : HL) (K : SV → List Ent → HL → Prop) (ad : Nat → Addr) (hS : Sents M ad) (p : Nat) (hp : p < 11) (pos c pos2 : Int) (o : Bool) (hK : K (.v (.bool (((101 + p : Nat) : Int) == c && decide (pos = pos2)))) [atE ad p pos, .row o 3 [.int .i64] [[.int .i64 pos2]]] M) :
    runF GI pf10 [.ifc 73 (.ptr 0 0 0 0), .agg [.v (.int .i64 c), .slc 1 1 0 1]] [atE ad p pos, .row o 3 [.int .i64] [[.int .i64 pos2]]] M fun v hp2 M2 => ∃ m v' hp', Wk (llen [atE ad p pos, .row o 3 [.int .i64] [[.int .i64 pos2]]]) m [v] hp2 [v'] hp' (K v' hp' M2) := by
  repeat ((conv => whnf); (first | refine Cnd.yes ?_ | refine Cnd.no ?_ | refine And.intro rfl ?_ | refine And.intro (by omega) ?_ | (refine And.intro ?_ ?_; focus (simp only [IntKind.wrap_i64, IntKind.wrap_u64, IntKind.wrap_u32]; omega)) | (refine And.intro ?_ ?_; focus (simp only [zl1, zl2, zl3, zl4, zl5, zl6, zl7, zl8, zl9] <;> omega)) | refine Alt.std ?_))
  conv => whnf
  refine .inl ?_
  repeat ((conv => whnf); (first | refine Cnd.yes ?_ | refine Cnd.no ?_ | refine And.intro rfl ?_ | refine And.intro (by omega) ?_ | (refine And.intro ?_ ?_; focus (simp only [IntKind.wrap_i64, IntKind.wrap_u64, IntKind.wrap_u32]; omega)) | (refine And.intro ?_ ?_; focus (simp only [zl1, zl2, zl3, zl4, zl5, zl6, zl7, zl8, zl9] <;> omega)) | refine Alt.std ?_))
  conv => whnf
  refine ⟨ad, p, pos, hS, hp, rfl, rfl, ?_⟩
  repeat ((conv => whnf); (first | refine Cnd.yes ?_ | refine Cnd.no ?_ | refine And.intro rfl ?_ | refine And.intro (by omega) ?_ | (refine And.intro ?_ ?_; focus (simp only [IntKind.wrap_i64, IntKind.wrap_u64, IntKind.wrap_u32]; omega)) | (refine And.intro ?_ ?_; focus (simp only [zl1, zl2, zl3, zl4, zl5, zl6, zl7, zl8, zl9] <;> omega)) | refine Alt.std ?_))
  conv => whnf
  refine .inr ⟨true, o, 3, 3, [pos], [pos2], rfl, rfl, by simp, by simp, ?_⟩
  rw [show decide ([pos] = [pos2]) = decide (pos = pos2) from by simp]
  repeat ((conv => whnf); (first | refine Cnd.yes ?_ | refine Cnd.no ?_ | refine And.intro rfl ?_ | refine And.intro (by omega) ?_ | (refine And.intro ?_ ?_; focus (simp only [IntKind.wrap_i64, IntKind.wrap_u64, IntKind.wrap_u32]; omega)) | (refine And.intro ?_ ?_; focus (simp only [zl1, zl2, zl3, zl4, zl5, zl6, zl7, zl8, zl9] <;> omega)) | refine Alt.std ?_))
  conv => whnf
  cases h : (((101 + p : Nat) : Int) == c) with
  | true =>
    refine Cnd.yes ?_
    repeat ((conv => whnf); (first | refine Cnd.yes ?_ | refine Cnd.no ?_ | refine And.intro rfl ?_ | refine And.intro (by omega) ?_ | (refine And.intro ?_ ?_; focus (simp only [IntKind.wrap_i64, IntKind.wrap_u64, IntKind.wrap_u32]; omega)) | (refine And.intro ?_ ?_; focus (simp only [zl1, zl2, zl3, zl4, zl5, zl6, zl7, zl8, zl9] <;> omega)) | refine Alt.std ?_))
    conv => whnf
    rw [h, Bool.true_and] at hK
    refine ⟨[0, 1], .v (.bool (decide (pos = pos2))), [atE ad p pos, .row o 3 [.int .i64] [[.int .i64 pos2]]], ?_⟩
    repeat ((conv => whnf); (first | refine Cnd.yes ?_ | refine Cnd.no ?_ | refine And.intro rfl ?_ | refine And.intro (by omega) ?_ | (refine And.intro ?_ ?_; focus (simp only [IntKind.wrap_i64, IntKind.wrap_u64, IntKind.wrap_u32]; omega)) | (refine And.intro ?_ ?_; focus (simp only [zl1, zl2, zl3, zl4, zl5, zl6, zl7, zl8, zl9] <;> omega)) | refine Alt.std ?_))
    conv => whnf
    exact hK
  | false =>
    refine Cnd.no ?_
    repeat ((conv => whnf); (first | refine Cnd.yes ?_ | refine Cnd.no ?_ | refine And.intro rfl ?_ | refine And.intro (by omega) ?_ | (refine And.intro ?_ ?_; focus (simp only [IntKind.wrap_i64, IntKind.wrap_u64, IntKind.wrap_u32]; omega)) | (refine And.intro ?_ ?_; focus (simp only [zl1, zl2, zl3, zl4, zl5, zl6, zl7, zl8, zl9] <;> omega)) | refine Alt.std ?_))
    conv => whnf
    rw [h, Bool.false_and] at hK
    refine ⟨[0, 1], .v (.bool false), [atE ad p pos, .row o 3 [.int .i64] [[.int .i64 pos2]]], ?_⟩
    repeat ((conv => whnf); (first | refine Cnd.yes ?_ | refine Cnd.no ?_ | refine And.intro rfl ?_ | refine And.intro (by omega) ?_ | (refine And.intro ?_ ?_; focus (simp only [IntKind.wrap_i64, IntKind.wrap_u64, IntKind.wrap_u32]; omega)) | (refine And.intro ?_ ?_; focus (simp only [zl1, zl2, zl3, zl4, zl5, zl6, zl7, zl8, zl9] <;> omega)) | refine Alt.std ?_))
    conv => whnf
    exact hK
theorem same_nil_run (M : HL) (K : SV → List Ent → HL → Prop) (c : Int) (hK : K (.v (.bool ((0 : Int) == c))) [] M) :
    runF GI pf10 [.v .nilIface, .agg [.v (.int .i64 c), .v (.slice none 0 0)]] [] M fun v hp2 M2 => ∃ m v' hp', Wk (llen ([] : List Ent)) m [v] hp2 [v'] hp' (K v' hp' M2) := by
  repeat ((conv => whnf); (first | refine Cnd.yes ?_ | refine Cnd.no ?_ | refine And.intro rfl ?_ | refine And.intro (by omega) ?_ | (refine And.intro ?_ ?_; focus (simp only [IntKind.wrap_i64, IntKind.wrap_u64, IntKind.wrap_u32]; omega)) | (refine And.intro ?_ ?_; focus (simp only [zl1, zl2, zl3, zl4, zl5, zl6, zl7, zl8, zl9] <;> omega)) | refine Alt.std ?_))
  conv => whnf
  refine .inl ⟨rfl, rfl, ?_⟩
  repeat ((conv => whnf); (first | refine Cnd.yes ?_ | refine Cnd.no ?_ | refine And.intro rfl ?_ | refine And.intro (by omega) ?_ | (refine And.intro ?_ ?_; focus (simp only [IntKind.wrap_i64, IntKind.wrap_u64, IntKind.wrap_u32]; omega)) | (refine And.intro ?_ ?_; focus (simp only [zl1, zl2, zl3, zl4, zl5, zl6, zl7, zl8, zl9] <;> omega)) | refine Alt.std ?_))
  conv => whnf
  cases h : ((0 : Int) == c) with
  | true =>
    refine Cnd.yes ?_
    repeat ((conv => whnf); (first | refine Cnd.yes ?_ | refine Cnd.no ?_ | refine And.intro rfl ?_ | refine And.intro (by omega) ?_ | (refine And.intro ?_ ?_; focus (simp only [IntKind.wrap_i64, IntKind.wrap_u64, IntKind.wrap_u32]; omega)) | (refine And.intro ?_ ?_; focus (simp only [zl1, zl2, zl3, zl4, zl5, zl6, zl7, zl8, zl9] <;> omega)) | refine Alt.std ?_))
    conv => whnf
    rw [h] at hK
    refine ⟨[], .v (.bool true), [], ?_⟩
    repeat ((conv => whnf); (first | refine Cnd.yes ?_ | refine Cnd.no ?_ | refine And.intro rfl ?_ | refine And.intro (by omega) ?_ | (refine And.intro ?_ ?_; focus (simp only [IntKind.wrap_i64, IntKind.wrap_u64, IntKind.wrap_u32]; omega)) | (refine And.intro ?_ ?_; focus (simp only [zl1, zl2, zl3, zl4, zl5, zl6, zl7, zl8, zl9] <;> omega)) | refine Alt.std ?_))
    conv => whnf
    exact hK
  | false =>
    refine Cnd.no ?_
    repeat ((conv => whnf); (first | refine Cnd.yes ?_ | refine Cnd.no ?_ | refine And.intro rfl ?_ | refine And.intro (by omega) ?_ | (refine And.intro ?_ ?_; focus (simp only [IntKind.wrap_i64, IntKind.wrap_u64, IntKind.wrap_u32]; omega)) | (refine And.intro ?_ ?_; focus (simp only [zl1, zl2, zl3, zl4, zl5, zl6, zl7, zl8, zl9] <;> omega)) | refine Alt.std ?_))
    conv => whnf
    rw [h] at hK
    refine ⟨[], .v (.bool false), [], ?_⟩
    repeat ((conv => whnf); (first | refine Cnd.yes ?_ | refine Cnd.no ?_ | refine And.intro rfl ?_ | refine And.intro (by omega) ?_ | (refine And.intro ?_ ?_; focus (simp only [IntKind.wrap_i64, IntKind.wrap_u64, IntKind.wrap_u32]; omega)) | (refine And.intro ?_ ?_; focus (simp only [zl1, zl2, zl3, zl4, zl5, zl6, zl7, zl8, zl9] <;> omega)) | refine Alt.std ?_))
    conv => whnf
    exact hK
def sameES : Vc.Spec := fun args hp M K => (∃ (ad : Nat → Addr) (p : Nat) (pos c pos2 : Int) (o : Bool), Sents M ad ∧ p < 11 ∧ args = [.ifc 73 (.ptr 0 0 0 0), .agg [.v (.int .i64 c), .slc 1 1 0 1]] ∧ hp = [atE ad p pos, .row o 3 [.int .i64] [[.int .i64 pos2]]] ∧ K (.v (.bool (((101 + p : Nat) : Int) == c && decide (pos = pos2)))) hp) ∨
  (∃ c : Int, args = [.v .nilIface, .agg [.v (.int .i64 c), .v (.slice none 0 0)]] ∧ hp = [] ∧ K (.v (.bool ((0 : Int) == c))) [])
theorem sameE_ok : SOK Tryd.prog 10 sameES := by
  refine TOK.weaken (TOK.out (runF_eq GI_ok mixed at10.1 at10.2 pf10_eq)) fun args hp M K h => ?_
  rcases h with ⟨ad, p, pos, c, pos2, o, hS, hp, rfl, rfl, h⟩ | ⟨c, rfl, rfl, h⟩
  · exact same_at_run M K ad hS p hp pos c pos2 o h
  · exact same_nil_run M K c h
end Go.Proofs.YthomcgclkbmnkaaDoor
