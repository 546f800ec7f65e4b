/-
  Which error it is: Alike by a walk of its own; Is, walked.
-/
import Derived.Test.YthmofpilphfkcaaDoorCa
import Derived.Test.YthmofpilphfkcaaDoorVcu
import Derived.WalkKit
import Derived.LaidEql
import Derived.LaidEqlPtr
namespace Go.Proofs.YthmofpilphfkcaaDoor
open Go Go.Vc Go.RowKit
set_option maxRecDepth 100000
set_option linter.unusedSimpArgs false
set_option linter.unusedVariables false
theorem Tryd.compES : (Tryd.prog.info? 82).map (·.comparable) = some true := by kernel_rfl
theorem Tryd.sizeES : (Tryd.prog.info? 99).map (·.size) = some 1 := by kernel_rfl
theorem alike_same (a : Addr) (w : World) : Calls Tryd.prog 38 #[.iface 82 (.pointer (some a)), .iface 82 (.pointer (some a))] w fun e w' => e = .returned (.bool true) ∧ w' = w := by
  obtain ⟨i, hi, hcmp⟩ := Option.map_eq_some_iff.1 Tryd.compES
  obtain ⟨j, hj, _⟩ := Option.map_eq_some_iff.1 Tryd.sizeES
  go_enter Tryd.func38, Tryd.ntmps38
  go_wp2
  rw [run_eql_iface_ptr_same w a Tryd.underlying27 Tryd.underlying82 hi hcmp hj]
  go_wp2
  go_ret
  exact ⟨rfl, rfl⟩
theorem alike_other (a b : Addr) (w : World) {ca cb : Array Value} {ta tb : TypeId} (hne : a ≠ b) (ha : w.heap[a.block]? = some (.cells ca ta (0, 0))) (hb : w.heap[b.block]? = some (.cells cb tb (0, 0))) :
    Calls Tryd.prog 38 #[.iface 82 (.pointer (some a)), .iface 82 (.pointer (some b))] w fun e w' => e = .returned (.bool false) ∧ w' = w := by
  obtain ⟨i, hi, hcmp⟩ := Option.map_eq_some_iff.1 Tryd.compES
  obtain ⟨j, hj, hjs⟩ := Option.map_eq_some_iff.1 Tryd.sizeES
  go_enter Tryd.func38, Tryd.ntmps38
  go_wp2
  rw [run_eql_iface_ptr_other w Tryd.underlying27 Tryd.underlying82 hi hcmp hj (by rw [hjs]; decide) hne ha hb]
  go_wp2
  go_ret
  exact ⟨rfl, rfl⟩
def alikeS : Vc.Spec := fun args hp M K => ∃ a b : Addr, args = [.v (.iface 82 (.pointer (some a))), .v (.iface 82 (.pointer (some b)))] ∧ (∃ c t, M a.block = some (.cells c t (0, 0))) ∧ (∃ c t, M b.block = some (.cells c t (0, 0))) ∧ K (.v (.bool (decide (a = b)))) hp
theorem alike_ok : SOK Tryd.prog 38 alikeS := by
  refine ⟨⟨_, at38.1, by kernel_rfl, at38.2⟩, ?_⟩
  rintro args hp M K ⟨a, b, rfl, ⟨ca, ta, ha⟩, ⟨cb, tb, hb⟩, hK⟩ ρ F w vs H hD
  obtain ⟨v1, v2, rfl⟩ : ∃ v1 v2, vs = [v1, v2] := by
    have := hD.length
    match vs, this with
    | [x, y], _ => exact ⟨x, y, rfl⟩
  simp only [DenL, Den, and_true] at hD
  obtain ⟨rfl, rfl⟩ := hD
  by_cases h : a = b
  · subst h
    rw [decide_eq_true rfl] at hK
    refine (alike_same a w).mono ?_
    rintro e w' ⟨rfl, rfl⟩
    exact ⟨_, rfl, _, ρ, hp, M, F, hK, Nat.le_refl _, Ext.refl _ _, H, Gr.refl _ _, Same.refl _, rfl⟩
  · rw [decide_eq_false h] at hK
    refine (alike_other a b w h (H.frm _ _ (H.sub _ _ ha)) (H.frm _ _ (H.sub _ _ hb))).mono ?_
    rintro e w' ⟨rfl, rfl⟩
    exact ⟨_, rfl, _, ρ, hp, M, F, hK, Nat.le_refl _, Ext.refl _ _, H, Gr.refl _ _, Same.refl _, rfl⟩
/-- The listed errors: where each variable points. -/
structure Sents (M : HL) (ad : Nat → Addr) : Prop where
  g : ∀ i, i < 11 → mcell M ⟨i, 0, none⟩ = some (.iface 82 (.pointer (some (ad i))))
  b : ∀ i, i < 11 → ∃ c t, M (ad i).block = some (.cells c t (0, 0))
  inj : ∀ i j, i < 11 → j < 11 → ad i = ad j → i = j
theorem Sents.mono {M Mr : HL} {ad : Nat → Addr} (h : Sents M ad) (hM : FLe M Mr) : Sents Mr ad := by
  refine ⟨fun i hi => ?_, fun i hi => ?_, h.inj⟩
  · have := h.g i hi
    unfold mcell at this ⊢
    cases hm : M i with
    | none => simp [hm] at this
    | some o => simp only [hm] at this; simp only [hM _ _ hm]; exact this
  · obtain ⟨c, t, hc⟩ := h.b i hi
    exact ⟨c, t, hM _ _ hc⟩
/-- The variable of the error that stands at that place of the list. -/
def gl (p : Nat) : Nat := [1, 2, 3, 4, 5, 0, 6, 7, 8, 9, 10].getD p 0
theorem gl_inj : ∀ p, p < 11 → ∀ q, q < 11 → gl p = gl q → p = q := by decide
theorem gl_lt : ∀ p, p < 11 → gl p < 11 := by decide
noncomputable def specsR : Nat → Option Vc.Trans := tget [(38, frameT alikeS)]
noncomputable def GR : Nat → Option Vc.Trans := tabG specsR (tget tab) 6
theorem GR_ok : GOK Tryd.prog GR := tabG_ok (GOK.cons (frame_ok alike_ok) .nil) tab_ok 6
def eRows (ad : Nat → Addr) : List (List Value) := [[.iface 82 (.pointer (some (ad 1)))], [.iface 82 (.pointer (some (ad 2)))], [.iface 82 (.pointer (some (ad 3)))], [.iface 82 (.pointer (some (ad 4)))], [.iface 82 (.pointer (some (ad 5)))], [.iface 82 (.pointer (some (ad 0)))], [.iface 82 (.pointer (some (ad 6)))], [.iface 82 (.pointer (some (ad 7)))], [.iface 82 (.pointer (some (ad 8)))], [.iface 82 (.pointer (some (ad 9)))], [.iface 82 (.pointer (some (ad 10)))]]
theorem eRows_at (ad : Nat → Addr) {i : Nat} (hi : i < 11) : cellAt (eRows ad) (0 + (i : Int).toNat) 0 = .iface 82 (.pointer (some (ad (gl i)))) := by
  rcases (show i = 0 ∨ i = 1 ∨ i = 2 ∨ i = 3 ∨ i = 4 ∨ i = 5 ∨ i = 6 ∨ i = 7 ∨ i = 8 ∨ i = 9 ∨ i = 10 by omega) with h | h | h | h | h | h | h | h | h | h | h <;> subst h <;> rfl
set_option maxHeartbeats 4000000 in
theorem sent_run (M : HL) (K : SV → List Ent → HL → Prop) (ad : Nat → Addr) (hS : Sents M ad) (p : Nat) (hp : p < 11) (hK : K (.v (.int .i64 (101 + p : Nat))) [] M) :
    runF GR pf36 [.v (.iface 82 (.pointer (some (ad (gl p)))))] [] M fun v hp2 M2 => ∃ m v' hp', Wk (llen ([] : List Ent)) m [v] hp2 [v'] hp' (K v' hp' M2) := by
  repeat ((conv => whnf); (first | refine Cnd.yes ?_ | refine Cnd.no ?_ | refine And.intro rfl ?_ | refine And.intro (by omega) ?_ | (refine And.intro ?_ ?_; focus (simp only [IntKind.wrap_i64, IntKind.wrap_u64, IntKind.wrap_u32]; omega)) | (refine And.intro ?_ ?_; focus (simp only [zl1, zl2, zl3, zl4, zl5, zl6, zl7, zl8, zl9] <;> omega))))
  conv => whnf
  refine ⟨_, hS.g 1 (by omega), ?_⟩
  repeat ((conv => whnf); (first | refine Cnd.yes ?_ | refine Cnd.no ?_ | refine And.intro rfl ?_ | refine And.intro (by omega) ?_ | (refine And.intro ?_ ?_; focus (simp only [IntKind.wrap_i64, IntKind.wrap_u64, IntKind.wrap_u32]; omega)) | (refine And.intro ?_ ?_; focus (simp only [zl1, zl2, zl3, zl4, zl5, zl6, zl7, zl8, zl9] <;> omega))))
  conv => whnf
  refine ⟨_, hS.g 2 (by omega), ?_⟩
  repeat ((conv => whnf); (first | refine Cnd.yes ?_ | refine Cnd.no ?_ | refine And.intro rfl ?_ | refine And.intro (by omega) ?_ | (refine And.intro ?_ ?_; focus (simp only [IntKind.wrap_i64, IntKind.wrap_u64, IntKind.wrap_u32]; omega)) | (refine And.intro ?_ ?_; focus (simp only [zl1, zl2, zl3, zl4, zl5, zl6, zl7, zl8, zl9] <;> omega))))
  conv => whnf
  refine ⟨_, hS.g 3 (by omega), ?_⟩
  repeat ((conv => whnf); (first | refine Cnd.yes ?_ | refine Cnd.no ?_ | refine And.intro rfl ?_ | refine And.intro (by omega) ?_ | (refine And.intro ?_ ?_; focus (simp only [IntKind.wrap_i64, IntKind.wrap_u64, IntKind.wrap_u32]; omega)) | (refine And.intro ?_ ?_; focus (simp only [zl1, zl2, zl3, zl4, zl5, zl6, zl7, zl8, zl9] <;> omega))))
  conv => whnf
  refine ⟨_, hS.g 4 (by omega), ?_⟩
  repeat ((conv => whnf); (first | refine Cnd.yes ?_ | refine Cnd.no ?_ | refine And.intro rfl ?_ | refine And.intro (by omega) ?_ | (refine And.intro ?_ ?_; focus (simp only [IntKind.wrap_i64, IntKind.wrap_u64, IntKind.wrap_u32]; omega)) | (refine And.intro ?_ ?_; focus (simp only [zl1, zl2, zl3, zl4, zl5, zl6, zl7, zl8, zl9] <;> omega))))
  conv => whnf
  refine ⟨_, hS.g 5 (by omega), ?_⟩
  repeat ((conv => whnf); (first | refine Cnd.yes ?_ | refine Cnd.no ?_ | refine And.intro rfl ?_ | refine And.intro (by omega) ?_ | (refine And.intro ?_ ?_; focus (simp only [IntKind.wrap_i64, IntKind.wrap_u64, IntKind.wrap_u32]; omega)) | (refine And.intro ?_ ?_; focus (simp only [zl1, zl2, zl3, zl4, zl5, zl6, zl7, zl8, zl9] <;> omega))))
  conv => whnf
  refine ⟨_, hS.g 0 (by omega), ?_⟩
  repeat ((conv => whnf); (first | refine Cnd.yes ?_ | refine Cnd.no ?_ | refine And.intro rfl ?_ | refine And.intro (by omega) ?_ | (refine And.intro ?_ ?_; focus (simp only [IntKind.wrap_i64, IntKind.wrap_u64, IntKind.wrap_u32]; omega)) | (refine And.intro ?_ ?_; focus (simp only [zl1, zl2, zl3, zl4, zl5, zl6, zl7, zl8, zl9] <;> omega))))
  conv => whnf
  refine ⟨_, hS.g 6 (by omega), ?_⟩
  repeat ((conv => whnf); (first | refine Cnd.yes ?_ | refine Cnd.no ?_ | refine And.intro rfl ?_ | refine And.intro (by omega) ?_ | (refine And.intro ?_ ?_; focus (simp only [IntKind.wrap_i64, IntKind.wrap_u64, IntKind.wrap_u32]; omega)) | (refine And.intro ?_ ?_; focus (simp only [zl1, zl2, zl3, zl4, zl5, zl6, zl7, zl8, zl9] <;> omega))))
  conv => whnf
  refine ⟨_, hS.g 7 (by omega), ?_⟩
  repeat ((conv => whnf); (first | refine Cnd.yes ?_ | refine Cnd.no ?_ | refine And.intro rfl ?_ | refine And.intro (by omega) ?_ | (refine And.intro ?_ ?_; focus (simp only [IntKind.wrap_i64, IntKind.wrap_u64, IntKind.wrap_u32]; omega)) | (refine And.intro ?_ ?_; focus (simp only [zl1, zl2, zl3, zl4, zl5, zl6, zl7, zl8, zl9] <;> omega))))
  conv => whnf
  refine ⟨_, hS.g 8 (by omega), ?_⟩
  repeat ((conv => whnf); (first | refine Cnd.yes ?_ | refine Cnd.no ?_ | refine And.intro rfl ?_ | refine And.intro (by omega) ?_ | (refine And.intro ?_ ?_; focus (simp only [IntKind.wrap_i64, IntKind.wrap_u64, IntKind.wrap_u32]; omega)) | (refine And.intro ?_ ?_; focus (simp only [zl1, zl2, zl3, zl4, zl5, zl6, zl7, zl8, zl9] <;> omega))))
  conv => whnf
  refine ⟨_, hS.g 9 (by omega), ?_⟩
  repeat ((conv => whnf); (first | refine Cnd.yes ?_ | refine Cnd.no ?_ | refine And.intro rfl ?_ | refine And.intro (by omega) ?_ | (refine And.intro ?_ ?_; focus (simp only [IntKind.wrap_i64, IntKind.wrap_u64, IntKind.wrap_u32]; omega)) | (refine And.intro ?_ ?_; focus (simp only [zl1, zl2, zl3, zl4, zl5, zl6, zl7, zl8, zl9] <;> omega))))
  conv => whnf
  refine ⟨_, hS.g 10 (by omega), ?_⟩
  repeat ((conv => whnf); (first | refine Cnd.yes ?_ | refine Cnd.no ?_ | refine And.intro rfl ?_ | refine And.intro (by omega) ?_ | (refine And.intro ?_ ?_; focus (simp only [IntKind.wrap_i64, IntKind.wrap_u64, IntKind.wrap_u32]; omega)) | (refine And.intro ?_ ?_; focus (simp only [zl1, zl2, zl3, zl4, zl5, zl6, zl7, zl8, zl9] <;> omega))))
  conv => whnf
  refine ⟨fun cnt tm hp M' => ∃ i, i ≤ p ∧ cnt = 11 - i ∧ M' = M ∧ tmkK 20 0 [(0, .v (.iface 82 (.pointer (some (ad (gl p)))))), (3, .slc 0 1 0 11), (4, .v (.int .i64 (i : Nat)))] (fun l => tm = l) ∧ hp = [.row true 27 [.raw] (eRows ad)],
    ⟨11, [0], tmk 20 0 [(0, .v (.iface 82 (.pointer (some (ad (gl p)))))), (3, .slc 0 1 0 11), (4, .v (.int .i64 (0 : Nat)))], [.row true 27 [.raw] (eRows ad)], ?_⟩, ?_⟩
  · repeat ((conv => whnf); (first | refine Cnd.yes ?_ | refine Cnd.no ?_ | refine And.intro rfl ?_ | refine And.intro (by omega) ?_ | (refine And.intro ?_ ?_; focus (simp only [IntKind.wrap_i64, IntKind.wrap_u64, IntKind.wrap_u32]; omega)) | (refine And.intro ?_ ?_; focus (simp only [zl1, zl2, zl3, zl4, zl5, zl6, zl7, zl8, zl9] <;> omega))))
    conv => whnf
    exact ⟨0, by omega, by omega, rfl, (tmkK_eq _ _ _ _).mpr rfl, rfl⟩
  · rintro cnt tm hp M' ⟨i, hi, rfl, rfl, htm, rfl⟩
    conv at htm => whnf
    subst htm
    repeat ((conv => whnf); (first | refine Cnd.yes ?_ | refine Cnd.no ?_ | refine And.intro rfl ?_ | refine And.intro (by omega) ?_ | (refine And.intro ?_ ?_; focus (simp only [IntKind.wrap_i64, IntKind.wrap_u64, IntKind.wrap_u32]; omega)) | (refine And.intro ?_ ?_; focus (simp only [zl1, zl2, zl3, zl4, zl5, zl6, zl7, zl8, zl9] <;> omega))))
    conv => whnf
    refine Cnd.tt (decide_eq_true (by omega)) ?_
    repeat ((conv => whnf); (first | refine Cnd.yes ?_ | refine Cnd.no ?_ | refine And.intro rfl ?_ | refine And.intro (by omega) ?_ | (refine And.intro ?_ ?_; focus (simp only [IntKind.wrap_i64, IntKind.wrap_u64, IntKind.wrap_u32]; omega)) | (refine And.intro ?_ ?_; focus (simp only [zl1, zl2, zl3, zl4, zl5, zl6, zl7, zl8, zl9] <;> omega))))
    conv => whnf
    refine ⟨by show 0 + (i : Int).toNat < 11; omega, ?_⟩
    repeat ((conv => whnf); (first | refine Cnd.yes ?_ | refine Cnd.no ?_ | refine And.intro rfl ?_ | refine And.intro (by omega) ?_ | (refine And.intro ?_ ?_; focus (simp only [IntKind.wrap_i64, IntKind.wrap_u64, IntKind.wrap_u32]; omega)) | (refine And.intro ?_ ?_; focus (simp only [zl1, zl2, zl3, zl4, zl5, zl6, zl7, zl8, zl9] <;> omega))))
    conv => whnf
    rw [eRows_at ad (by omega)]
    rintro _ rfl _
    repeat ((conv => whnf); (first | refine Cnd.yes ?_ | refine Cnd.no ?_ | refine And.intro rfl ?_ | refine And.intro (by omega) ?_ | (refine And.intro ?_ ?_; focus (simp only [IntKind.wrap_i64, IntKind.wrap_u64, IntKind.wrap_u32]; omega)) | (refine And.intro ?_ ?_; focus (simp only [zl1, zl2, zl3, zl4, zl5, zl6, zl7, zl8, zl9] <;> omega))))
    conv => whnf
    refine ⟨ad (gl p), ad (gl i), rfl, hS.b _ (gl_lt p hp), hS.b _ (gl_lt i (by omega)), ?_⟩
    by_cases hpi : i = p
    · subst hpi
      rw [decide_eq_true rfl]
      repeat ((conv => whnf); (first | refine Cnd.yes ?_ | refine Cnd.no ?_ | refine And.intro rfl ?_ | refine And.intro (by omega) ?_ | (refine And.intro ?_ ?_; focus (simp only [IntKind.wrap_i64, IntKind.wrap_u64, IntKind.wrap_u32]; omega)) | (refine And.intro ?_ ?_; focus (simp only [zl1, zl2, zl3, zl4, zl5, zl6, zl7, zl8, zl9] <;> omega))))
      conv => whnf
      have e : IntKind.i64.wrap (101 + (i : Int)) = ((101 + i : Nat) : Int) := by rw [IntKind.wrap_i64]; omega
      rw [e]
      refine ⟨[], .v (.int .i64 (101 + i : Nat)), [], ?_⟩
      repeat ((conv => whnf); (first | refine Cnd.yes ?_ | refine Cnd.no ?_ | refine And.intro rfl ?_ | refine And.intro (by omega) ?_ | (refine And.intro ?_ ?_; focus (simp only [IntKind.wrap_i64, IntKind.wrap_u64, IntKind.wrap_u32]; omega)) | (refine And.intro ?_ ?_; focus (simp only [zl1, zl2, zl3, zl4, zl5, zl6, zl7, zl8, zl9] <;> omega))))
      conv => whnf
      exact hK
    · rw [decide_eq_false fun h => hpi (gl_inj p hp i (by omega) (hS.inj _ _ (gl_lt p hp) (gl_lt i (by omega)) h)).symm]
      repeat ((conv => whnf); (first | refine Cnd.yes ?_ | refine Cnd.no ?_ | refine And.intro rfl ?_ | refine And.intro (by omega) ?_ | (refine And.intro ?_ ?_; focus (simp only [IntKind.wrap_i64, IntKind.wrap_u64, IntKind.wrap_u32]; omega)) | (refine And.intro ?_ ?_; focus (simp only [zl1, zl2, zl3, zl4, zl5, zl6, zl7, zl8, zl9] <;> omega))))
      conv => whnf
      refine ⟨11 - (i + 1), [0], tmk 20 0 [(0, .v (.iface 82 (.pointer (some (ad (gl p)))))), (3, .slc 0 1 0 11), (4, .v (.int .i64 (i + 1 : Nat)))], [.row true 27 [.raw] (eRows ad)], by omega, ?_⟩
      repeat ((conv => whnf); (first | refine Cnd.yes ?_ | refine Cnd.no ?_ | refine And.intro rfl ?_ | refine And.intro (by omega) ?_ | (refine And.intro ?_ ?_; focus (simp only [IntKind.wrap_i64, IntKind.wrap_u64, IntKind.wrap_u32]; omega)) | (refine And.intro ?_ ?_; focus (simp only [zl1, zl2, zl3, zl4, zl5, zl6, zl7, zl8, zl9] <;> omega))))
      conv => whnf
      exact ⟨i + 1, by omega, rfl, rfl, (tmkK_eq _ _ _ _).mpr rfl, rfl⟩
def sentS : Vc.Spec := fun args hp M K => ∃ (ad : Nat → Addr) (p : Nat), Sents M ad ∧ p < 11 ∧ args = [.v (.iface 82 (.pointer (some (ad (gl p)))))] ∧ hp = [] ∧ K (.v (.int .i64 (101 + p : Nat))) []
theorem sent_ok : SOK Tryd.prog 36 sentS := by
  refine TOK.weaken (TOK.out (runF_eq GR_ok mixed at36.1 at36.2 pf36_eq)) fun args hp M K h => ?_
  obtain ⟨ad, p, hS, hp, rfl, rfl, h⟩ := h
  exact sent_run M K ad hS p hp h
theorem sameNil_run (M : HL) (K : SV → List Ent → HL → Prop) (hK : K (.v (.bool true)) [] M) : runF G0 pf19 [.v (.slice none 0 0), .v (.slice none 0 0)] [] M K := by
  repeat ((conv => whnf); (first | refine Cnd.yes ?_ | refine Cnd.no ?_ | refine And.intro rfl ?_ | refine And.intro (by omega) ?_ | (refine And.intro ?_ ?_; focus (simp only [IntKind.wrap_i64, IntKind.wrap_u64, IntKind.wrap_u32]; omega)) | (refine And.intro ?_ ?_; focus (simp only [zl1, zl2, zl3, zl4, zl5, zl6, zl7, zl8, zl9] <;> omega))))
  conv => whnf
  refine ⟨fun cnt tm hp M' => cnt = 0 ∧ M' = M ∧ tmkK 29 0 [(0, .v (.slice none 0 0)), (1, .v (.slice none 0 0)), (5, .v (.int .i64 0))] (fun l => tm = l) ∧ hp = [], ⟨0, [], tmk 29 0 [(0, .v (.slice none 0 0)), (1, .v (.slice none 0 0)), (5, .v (.int .i64 0))], [], ?_⟩, ?_⟩
  · repeat ((conv => whnf); (first | refine Cnd.yes ?_ | refine Cnd.no ?_ | refine And.intro rfl ?_ | refine And.intro (by omega) ?_ | (refine And.intro ?_ ?_; focus (simp only [IntKind.wrap_i64, IntKind.wrap_u64, IntKind.wrap_u32]; omega)) | (refine And.intro ?_ ?_; focus (simp only [zl1, zl2, zl3, zl4, zl5, zl6, zl7, zl8, zl9] <;> omega))))
    conv => whnf
  · rintro cnt tm hp M' ⟨rfl, rfl, htm, rfl⟩
    conv at htm => whnf
    subst htm
    repeat ((conv => whnf); (first | refine Cnd.yes ?_ | refine Cnd.no ?_ | refine And.intro rfl ?_ | refine And.intro (by omega) ?_ | (refine And.intro ?_ ?_; focus (simp only [IntKind.wrap_i64, IntKind.wrap_u64, IntKind.wrap_u32]; omega)) | (refine And.intro ?_ ?_; focus (simp only [zl1, zl2, zl3, zl4, zl5, zl6, zl7, zl8, zl9] <;> omega))))
    conv => whnf
    exact hK
theorem same_run (o o2 : Bool) (e e2 : TypeId) (M : HL) (K : SV → List Ent → HL → Prop) (a b : List Int) (ha : a.length ≤ 1000000) (hb : b.length ≤ 1000000)
    (hK : K (.v (.bool (decide (a = b)))) [.row o e [.int .i64] (a.map irow), .row o2 e2 [.int .i64] (b.map irow)] M) :
    runF G0 pf19 [.slc 0 1 0 a.length, .slc 1 1 0 b.length] [.row o e [.int .i64] (a.map irow), .row o2 e2 [.int .i64] (b.map irow)] M K := by
  repeat ((conv => whnf); (first | refine Cnd.yes ?_ | refine Cnd.no ?_ | refine And.intro rfl ?_ | refine And.intro (by omega) ?_ | (refine And.intro ?_ ?_; focus (simp only [IntKind.wrap_i64, IntKind.wrap_u64, IntKind.wrap_u32]; omega)) | (refine And.intro ?_ ?_; focus (simp only [zl1, zl2, zl3, zl4, zl5, zl6, zl7, zl8, zl9] <;> omega))))
  conv => whnf
  by_cases hl : a.length = b.length
  · refine Cnd.ff (by rw [hl]; simp) ?_
    repeat ((conv => whnf); (first | refine Cnd.yes ?_ | refine Cnd.no ?_ | refine And.intro rfl ?_ | refine And.intro (by omega) ?_ | (refine And.intro ?_ ?_; focus (simp only [IntKind.wrap_i64, IntKind.wrap_u64, IntKind.wrap_u32]; omega)) | (refine And.intro ?_ ?_; focus (simp only [zl1, zl2, zl3, zl4, zl5, zl6, zl7, zl8, zl9] <;> omega))))
    conv => whnf
    refine ⟨fun cnt tm hp M' => ∃ i, i ≤ a.length ∧ (∀ j, j < i → a.getD j 0 = b.getD j 0) ∧ cnt = a.length - i ∧ M' = M ∧ tmkK 29 0 [(0, .slc 0 1 0 a.length), (1, .slc 1 1 0 b.length), (5, .v (.int .i64 (i : Nat)))] (fun l => tm = l) ∧ hp = [.row o e [.int .i64] (a.map irow), .row o2 e2 [.int .i64] (b.map irow)],
      ⟨a.length, [0, 1], tmk 29 0 [(0, .slc 0 1 0 a.length), (1, .slc 1 1 0 b.length), (5, .v (.int .i64 (0 : Nat)))], [.row o e [.int .i64] (a.map irow), .row o2 e2 [.int .i64] (b.map irow)], ?_⟩, ?_⟩
    · repeat ((conv => whnf); (first | refine Cnd.yes ?_ | refine Cnd.no ?_ | refine And.intro rfl ?_ | refine And.intro (by omega) ?_ | (refine And.intro ?_ ?_; focus (simp only [IntKind.wrap_i64, IntKind.wrap_u64, IntKind.wrap_u32]; omega)) | (refine And.intro ?_ ?_; focus (simp only [zl1, zl2, zl3, zl4, zl5, zl6, zl7, zl8, zl9] <;> omega))))
      conv => whnf
      exact ⟨0, by omega, fun j hj => by omega, by omega, rfl, (tmkK_eq _ _ _ _).mpr rfl, rfl⟩
    · rintro cnt tm hp M' ⟨i, hi, hall, rfl, rfl, htm, rfl⟩
      conv at htm => whnf
      subst htm
      repeat ((conv => whnf); (first | refine Cnd.yes ?_ | refine Cnd.no ?_ | refine And.intro rfl ?_ | refine And.intro (by omega) ?_ | (refine And.intro ?_ ?_; focus (simp only [IntKind.wrap_i64, IntKind.wrap_u64, IntKind.wrap_u32]; omega)) | (refine And.intro ?_ ?_; focus (simp only [zl1, zl2, zl3, zl4, zl5, zl6, zl7, zl8, zl9] <;> omega))))
      conv => whnf
      refine Cnd.mk (fun hlt => ?_) fun hge => ?_
      · have hin : i < a.length := by have := of_decide_eq_true hlt; omega
        repeat ((conv => whnf); (first | refine Cnd.yes ?_ | refine Cnd.no ?_ | refine And.intro rfl ?_ | refine And.intro (by omega) ?_ | (refine And.intro ?_ ?_; focus (simp only [IntKind.wrap_i64, IntKind.wrap_u64, IntKind.wrap_u32]; omega)) | (refine And.intro ?_ ?_; focus (simp only [zl1, zl2, zl3, zl4, zl5, zl6, zl7, zl8, zl9] <;> omega))))
        conv => whnf
        rw [toI_i hin, toI_i (by omega)]
        by_cases hv : a.getD i 0 = b.getD i 0
        · rw [hv]
          rw [show (b.getD i 0 == b.getD i 0) = true from by simp]
          repeat ((conv => whnf); (first | refine Cnd.yes ?_ | refine Cnd.no ?_ | refine And.intro rfl ?_ | refine And.intro (by omega) ?_ | (refine And.intro ?_ ?_; focus (simp only [IntKind.wrap_i64, IntKind.wrap_u64, IntKind.wrap_u32]; omega)) | (refine And.intro ?_ ?_; focus (simp only [zl1, zl2, zl3, zl4, zl5, zl6, zl7, zl8, zl9] <;> omega))))
          conv => whnf
          refine ⟨a.length - (i + 1), [0, 1], tmk 29 0 [(0, .slc 0 1 0 a.length), (1, .slc 1 1 0 b.length), (5, .v (.int .i64 (i + 1 : Nat)))], [.row o e [.int .i64] (a.map irow), .row o2 e2 [.int .i64] (b.map irow)], by omega, ?_⟩
          repeat ((conv => whnf); (first | refine Cnd.yes ?_ | refine Cnd.no ?_ | refine And.intro rfl ?_ | refine And.intro (by omega) ?_ | (refine And.intro ?_ ?_; focus (simp only [IntKind.wrap_i64, IntKind.wrap_u64, IntKind.wrap_u32]; omega)) | (refine And.intro ?_ ?_; focus (simp only [zl1, zl2, zl3, zl4, zl5, zl6, zl7, zl8, zl9] <;> omega))))
          conv => whnf
          exact ⟨i + 1, by omega, fun j hj => by
            by_cases h : j = i
            · rw [h]; exact hv
            · exact hall j (by omega), rfl, rfl, (tmkK_eq _ _ _ _).mpr rfl, rfl⟩
        · rw [show (a.getD i 0 == b.getD i 0) = false from by simpa using hv]
          repeat ((conv => whnf); (first | refine Cnd.yes ?_ | refine Cnd.no ?_ | refine And.intro rfl ?_ | refine And.intro (by omega) ?_ | (refine And.intro ?_ ?_; focus (simp only [IntKind.wrap_i64, IntKind.wrap_u64, IntKind.wrap_u32]; omega)) | (refine And.intro ?_ ?_; focus (simp only [zl1, zl2, zl3, zl4, zl5, zl6, zl7, zl8, zl9] <;> omega))))
          conv => whnf
          rw [decide_eq_false (fun h => hv (by rw [h]))] at hK
          exact hK
      · have hin : i = a.length := by have := of_decide_eq_false hge; omega
        subst hin
        repeat ((conv => whnf); (first | refine Cnd.yes ?_ | refine Cnd.no ?_ | refine And.intro rfl ?_ | refine And.intro (by omega) ?_ | (refine And.intro ?_ ?_; focus (simp only [IntKind.wrap_i64, IntKind.wrap_u64, IntKind.wrap_u32]; omega)) | (refine And.intro ?_ ?_; focus (simp only [zl1, zl2, zl3, zl4, zl5, zl6, zl7, zl8, zl9] <;> omega))))
        conv => whnf
        have he : a = b := by
          refine List.ext_getElem hl fun j h1 h2 => ?_
          have := hall j h1
          simpa [List.getD, List.getElem?_eq_getElem h1, List.getElem?_eq_getElem h2] using this
        rw [decide_eq_true he] at hK
        exact hK
  · refine Cnd.tt (by simp only [bne_iff_ne]; omega) ?_
    repeat ((conv => whnf); (first | refine Cnd.yes ?_ | refine Cnd.no ?_ | refine And.intro rfl ?_ | refine And.intro (by omega) ?_ | (refine And.intro ?_ ?_; focus (simp only [IntKind.wrap_i64, IntKind.wrap_u64, IntKind.wrap_u32]; omega)) | (refine And.intro ?_ ?_; focus (simp only [zl1, zl2, zl3, zl4, zl5, zl6, zl7, zl8, zl9] <;> omega))))
    conv => whnf
    rw [decide_eq_false (fun h => hl (by rw [h]))] at hK
    exact hK
def sameS : Vc.Spec := fun args hp _ K => (args = [.v (.slice none 0 0), .v (.slice none 0 0)] ∧ hp = [] ∧ K (.v (.bool true)) []) ∨
  (∃ (o o2 : Bool) (e e2 : TypeId) (a b : List Int), args = [.slc 0 1 0 a.length, .slc 1 1 0 b.length] ∧ hp = [.row o e [.int .i64] (a.map irow), .row o2 e2 [.int .i64] (b.map irow)] ∧ a.length ≤ 1000000 ∧ b.length ≤ 1000000 ∧ K (.v (.bool (decide (a = b)))) hp)
theorem same_ok : SOK Tryd.prog 19 sameS := by
  refine TOK.weaken (runF_eq G0_ok mixed at19.1 at19.2 pf19_eq) fun args hp M K h => ?_
  rcases h with ⟨rfl, rfl, h⟩ | ⟨o, o2, e, e2, a, b, rfl, rfl, h1, h2, h3⟩
  · exact sameNil_run M K h
  · exact same_run o o2 e e2 M K a b h1 h2 h3
noncomputable def specsS : Nat → Option Vc.Trans := tget [(38, frameT alikeS), (36, frameT sentS), (19, frameT sameS)]
noncomputable def GS : Nat → Option Vc.Trans := tabG specsS (tget tab) 8
theorem GS_ok : GOK Tryd.prog GS := tabG_ok (GOK.cons (frame_ok alike_ok) (GOK.cons (frame_ok sent_ok) (GOK.cons (frame_ok same_ok) .nil))) tab_ok 8
set_option maxHeartbeats 4000000 in
theorem is_run (M : HL) (K : SV → List Ent → HL → Prop) (ad : Nat → Addr) (hS : Sents M ad) (p : Nat) (hp : p < 11) (c : Int) (hK : K (.v (.bool (((101 + p : Nat) : Int) == c))) [] M) :
    runF GS pf15 [.v (.iface 82 (.pointer (some (ad (gl p))))), .v (.int .i64 c)] [] M fun v hp2 M2 => ∃ m v' hp', Wk (llen ([] : List Ent)) m [v] hp2 [v'] hp' (K v' hp' M2) := by
  repeat ((conv => whnf); (first | refine Cnd.yes ?_ | refine Cnd.no ?_ | refine And.intro rfl ?_ | refine And.intro (by omega) ?_ | (refine And.intro ?_ ?_; focus (simp only [IntKind.wrap_i64, IntKind.wrap_u64, IntKind.wrap_u32]; omega)) | (refine And.intro ?_ ?_; focus (simp only [zl1, zl2, zl3, zl4, zl5, zl6, zl7, zl8, zl9] <;> omega))))
  conv => whnf
  refine ⟨ad, p, hS, hp, rfl, rfl, ?_⟩
  repeat ((conv => whnf); (first | refine Cnd.yes ?_ | refine Cnd.no ?_ | refine And.intro rfl ?_ | refine And.intro (by omega) ?_ | (refine And.intro ?_ ?_; focus (simp only [IntKind.wrap_i64, IntKind.wrap_u64, IntKind.wrap_u32]; omega)) | (refine And.intro ?_ ?_; focus (simp only [zl1, zl2, zl3, zl4, zl5, zl6, zl7, zl8, zl9] <;> omega))))
  conv => whnf
  refine .inl ⟨rfl, rfl, ?_⟩
  repeat ((conv => whnf); (first | refine Cnd.yes ?_ | refine Cnd.no ?_ | refine And.intro rfl ?_ | refine And.intro (by omega) ?_ | (refine And.intro ?_ ?_; focus (simp only [IntKind.wrap_i64, IntKind.wrap_u64, IntKind.wrap_u32]; omega)) | (refine And.intro ?_ ?_; focus (simp only [zl1, zl2, zl3, zl4, zl5, zl6, zl7, zl8, zl9] <;> omega))))
  conv => whnf
  cases h : (((101 + p : Nat) : Int) == c) with
  | true =>
    refine Cnd.yes ?_
    repeat ((conv => whnf); (first | refine Cnd.yes ?_ | refine Cnd.no ?_ | refine And.intro rfl ?_ | refine And.intro (by omega) ?_ | (refine And.intro ?_ ?_; focus (simp only [IntKind.wrap_i64, IntKind.wrap_u64, IntKind.wrap_u32]; omega)) | (refine And.intro ?_ ?_; focus (simp only [zl1, zl2, zl3, zl4, zl5, zl6, zl7, zl8, zl9] <;> omega))))
    conv => whnf
    rw [h] at hK
    refine ⟨[], .v (.bool true), [], ?_⟩
    repeat ((conv => whnf); (first | refine Cnd.yes ?_ | refine Cnd.no ?_ | refine And.intro rfl ?_ | refine And.intro (by omega) ?_ | (refine And.intro ?_ ?_; focus (simp only [IntKind.wrap_i64, IntKind.wrap_u64, IntKind.wrap_u32]; omega)) | (refine And.intro ?_ ?_; focus (simp only [zl1, zl2, zl3, zl4, zl5, zl6, zl7, zl8, zl9] <;> omega))))
    conv => whnf
    exact hK
  | false =>
    refine Cnd.no ?_
    repeat ((conv => whnf); (first | refine Cnd.yes ?_ | refine Cnd.no ?_ | refine And.intro rfl ?_ | refine And.intro (by omega) ?_ | (refine And.intro ?_ ?_; focus (simp only [IntKind.wrap_i64, IntKind.wrap_u64, IntKind.wrap_u32]; omega)) | (refine And.intro ?_ ?_; focus (simp only [zl1, zl2, zl3, zl4, zl5, zl6, zl7, zl8, zl9] <;> omega))))
    conv => whnf
    rw [h] at hK
    refine ⟨[], .v (.bool false), [], ?_⟩
    repeat ((conv => whnf); (first | refine Cnd.yes ?_ | refine Cnd.no ?_ | refine And.intro rfl ?_ | refine And.intro (by omega) ?_ | (refine And.intro ?_ ?_; focus (simp only [IntKind.wrap_i64, IntKind.wrap_u64, IntKind.wrap_u32]; omega)) | (refine And.intro ?_ ?_; focus (simp only [zl1, zl2, zl3, zl4, zl5, zl6, zl7, zl8, zl9] <;> omega))))
    conv => whnf
    exact hK
theorem isnil_run (M : HL) (K : SV → List Ent → HL → Prop) (c : Int) (hK : K (.v (.bool ((0 : Int) == c))) [] M) :
    runF GS pf15 [.v .nilIface, .v (.int .i64 c)] [] M fun v hp2 M2 => ∃ m v' hp', Wk (llen ([] : List Ent)) m [v] hp2 [v'] hp' (K v' hp' M2) := by
  repeat ((conv => whnf); (first | refine Cnd.yes ?_ | refine Cnd.no ?_ | refine And.intro rfl ?_ | refine And.intro (by omega) ?_ | (refine And.intro ?_ ?_; focus (simp only [IntKind.wrap_i64, IntKind.wrap_u64, IntKind.wrap_u32]; omega)) | (refine And.intro ?_ ?_; focus (simp only [zl1, zl2, zl3, zl4, zl5, zl6, zl7, zl8, zl9] <;> omega))))
  conv => whnf
  refine .inl ⟨rfl, rfl, ?_⟩
  repeat ((conv => whnf); (first | refine Cnd.yes ?_ | refine Cnd.no ?_ | refine And.intro rfl ?_ | refine And.intro (by omega) ?_ | (refine And.intro ?_ ?_; focus (simp only [IntKind.wrap_i64, IntKind.wrap_u64, IntKind.wrap_u32]; omega)) | (refine And.intro ?_ ?_; focus (simp only [zl1, zl2, zl3, zl4, zl5, zl6, zl7, zl8, zl9] <;> omega))))
  conv => whnf
  cases h : ((0 : Int) == c) with
  | true =>
    refine Cnd.yes ?_
    repeat ((conv => whnf); (first | refine Cnd.yes ?_ | refine Cnd.no ?_ | refine And.intro rfl ?_ | refine And.intro (by omega) ?_ | (refine And.intro ?_ ?_; focus (simp only [IntKind.wrap_i64, IntKind.wrap_u64, IntKind.wrap_u32]; omega)) | (refine And.intro ?_ ?_; focus (simp only [zl1, zl2, zl3, zl4, zl5, zl6, zl7, zl8, zl9] <;> omega))))
    conv => whnf
    rw [h] at hK
    refine ⟨[], .v (.bool true), [], ?_⟩
    repeat ((conv => whnf); (first | refine Cnd.yes ?_ | refine Cnd.no ?_ | refine And.intro rfl ?_ | refine And.intro (by omega) ?_ | (refine And.intro ?_ ?_; focus (simp only [IntKind.wrap_i64, IntKind.wrap_u64, IntKind.wrap_u32]; omega)) | (refine And.intro ?_ ?_; focus (simp only [zl1, zl2, zl3, zl4, zl5, zl6, zl7, zl8, zl9] <;> omega))))
    conv => whnf
    exact hK
  | false =>
    refine Cnd.no ?_
    repeat ((conv => whnf); (first | refine Cnd.yes ?_ | refine Cnd.no ?_ | refine And.intro rfl ?_ | refine And.intro (by omega) ?_ | (refine And.intro ?_ ?_; focus (simp only [IntKind.wrap_i64, IntKind.wrap_u64, IntKind.wrap_u32]; omega)) | (refine And.intro ?_ ?_; focus (simp only [zl1, zl2, zl3, zl4, zl5, zl6, zl7, zl8, zl9] <;> omega))))
    conv => whnf
    rw [h] at hK
    refine ⟨[], .v (.bool false), [], ?_⟩
    repeat ((conv => whnf); (first | refine Cnd.yes ?_ | refine Cnd.no ?_ | refine And.intro rfl ?_ | refine And.intro (by omega) ?_ | (refine And.intro ?_ ?_; focus (simp only [IntKind.wrap_i64, IntKind.wrap_u64, IntKind.wrap_u32]; omega)) | (refine And.intro ?_ ?_; focus (simp only [zl1, zl2, zl3, zl4, zl5, zl6, zl7, zl8, zl9] <;> omega))))
    conv => whnf
    exact hK
def isS : Vc.Spec := fun args hp M K => (∃ (ad : Nat → Addr) (p : Nat) (c : Int), Sents M ad ∧ p < 11 ∧ args = [.v (.iface 82 (.pointer (some (ad (gl p))))), .v (.int .i64 c)] ∧ hp = [] ∧ K (.v (.bool (((101 + p : Nat) : Int) == c))) []) ∨
  (∃ c : Int, args = [.v .nilIface, .v (.int .i64 c)] ∧ hp = [] ∧ K (.v (.bool ((0 : Int) == c))) [])
theorem is_ok : SOK Tryd.prog 15 isS := by
  refine TOK.weaken (TOK.out (runF_eq GS_ok mixed at15.1 at15.2 pf15_eq)) fun args hp M K h => ?_
  rcases h with ⟨ad, p, c, hS, hp, rfl, rfl, h⟩ | ⟨c, rfl, rfl, h⟩
  · exact is_run M K ad hS p hp c h
  · exact isnil_run M K c h
end Go.Proofs.YthmofpilphfkcaaDoor
