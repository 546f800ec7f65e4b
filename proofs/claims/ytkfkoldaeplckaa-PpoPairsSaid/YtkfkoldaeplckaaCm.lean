/-
  What is proved: PpoPairs answers true for every input (no condition).
-/
import Derived.Test.YtkfkoldaeplckaaCl
import Derived.Test.YtkfkoldaeplckaaVcy
import Derived.Test.YtkfkoldaeplckaaRows
namespace Go.Proofs.Ytkfkoldaeplckaa
open Go Go.Vc
open Go.ChangeShapes Go.WideShapes Go.ChangeAt Go.RowKit
set_option maxRecDepth 100000
set_option linter.unusedSimpArgs false
set_option linter.unusedVariables false
namespace ppoPairs
theorem own : ownKnob Try.prog.godebug = none := by kernel_rfl
theorem laidOut : laidOutB Try.prog = true := by kernel_rfl
theorem wb {r : List Value} (h : FitW [.bool] r) : ∃ x : Bool, r = brow x := by
  cases r with
  | nil => simp [FitW] at h
  | cons a r =>
    cases r with
    | nil =>
      simp only [FitW, CellW, and_true] at h
      obtain ⟨x, rfl⟩ := h
      exact ⟨x, rfl⟩
    | cons b r => simp [FitW] at h
theorem wbs : ∀ rows : List (List Value), (∀ r ∈ rows, FitW [.bool] r) → ∃ l : List Bool, rows = l.map brow
  | [], _ => ⟨[], rfl⟩
  | r :: rows, h => by
    obtain ⟨x, rfl⟩ := wb (h r (by simp))
    obtain ⟨l, rfl⟩ := wbs rows fun r hr => h r (by simp [hr])
    exact ⟨x :: l, rfl⟩
theorem walk {w : World} (rows : List (List Value)) (v : Value) (hf : ∀ r ∈ rows, FitW [.bool] r) (hs : SliceIn w [.bool] rows v) (_ : World) :
    Calls Try.prog 7 #[v] w fun e w' => e = .returned (.bool true) ∧ Below w.heap.size w w' := by
  obtain ⟨kl, rfl⟩ := wbs rows hf
  refine (runF_eq G8_ok mixed at7.1 at7.2 pf7_eq).law1 (args := [.slc 0 1 0 kl.length]) (vs := [v]) hs (fun ρ hd => ?_) fun e => ?_
  · rw [List.length_map] at hd
    exact ⟨hd, trivial⟩
  · exact ppairs_run _ _ e kl (fun j => kl.getD j false) (fun _ => rfl) fun _ _ => rfl
theorem lifted (os : Os) (started : os.Started) (H : Type) (enc : TypeId × Value → H) :
    ReturnsInHanded {} Try.checked os 7 .any (Rows.ppoPairsSpec.pre6 enc Try.prog Try.f7 Rows.ppoPairsRow.domain false) (Rows.ppoPairsSpec.post enc Try.prog Try.f7 false true false false) := by
  refine returnsInHanded_of_change (C := Try.checked) own started (by kernel_rfl) Try.func7
    (ChangeSpec.witness6 (enc := enc) (C := Try.checked) false ⟨#[], #[.slice none 0 0], []⟩ 8 (by kernel_rfl) (by kernel_rfl) (by kernel_rfl) (by kernel_rfl)) ?_
  intro W base args ds gs before hval0 hW hcnd _
  have hval : ∀ (j : Nat) t v, Try.f7.params[j]? = some t → args[j]? = some v → Value.okWide Try.prog W .any base t v := hval0
  have hW' := hW
  obtain ⟨p, q, hA0, hV, rfl, hfz, hnd⟩ := hW
  have hA : DataW.TrodAll enc Try.prog W 0 (fun _ => true) true Try.f7.params.toList args.toList ds p := hA0
  rw [Try.params7] at hA hval
  obtain ⟨v0, vs0, d0, ds0, p0, q0, hargs, rfl, rfl, h0, r0⟩ := trodAll_cons hA
  obtain ⟨rfl, rfl, rfl⟩ := trodAll_nil r0
  obtain rfl : args = #[v0] := by cases args; simp_all
  obtain ⟨rfl, rfl⟩ := trodVars_none hV
  obtain ⟨l0, fw0, s0⟩ := rows_in (ck := [.bool]) Try.underlying33 (by kernel_rfl) (by kernel_rfl) (by kernel_rfl) (by decide) (hval 0 33 v0 rfl rfl) h0
  have lt0 : ∀ x ∈ p0, x.block < W.heap.size := by
    obtain ⟨m, hm⟩ := h0
    exact DataW.trod_lt m _ _ _ hm
  clear hA0 hval0
  refine (walk l0 v0 fw0 s0 W).mono fun e W' ⟨he, bel⟩ => ?_
  subst he
  exact ⟨_, rfl, _, _, _, [], _, [], hW', trodAll_mk1 (shut_bool Try.underlying4 _), (trodAll_cons_mk (Below.trod laidOut (by kernel_rfl) (of_decide_eq_true (by kernel_rfl)) h0 bel lt0) trodAll_mk0), rfl, bel.frame _, fun h => by cases h⟩

theorem over : Rows.PpoPairsSaid :=
  OpenClaim.holds_of_wide 7 Try.f7 rfl rfl rfl rfl rfl rfl rfl ⟨rfl, rfl, rfl, rfl, rfl⟩ rfl rfl rfl rfl rfl (by kernel_rfl) Try.func7 (by kernel_rfl)
    (of_decide_eq_true (by kernel_rfl)) (by unfold Func.isWrapper; first | (rw [if_pos (by decide +kernel)]; kernel_rfl) | (rw [if_neg (by decide +kernel)]; exact ⟨rfl, rfl⟩))
    (fun os started H enc _ => lifted os started H enc)

theorem proved : Rows.PpoPairsSaid := over
#print axioms proved
end ppoPairs
end Go.Proofs.Ytkfkoldaeplckaa
