/-
  What is proved: PpoFences answers true for every input (no condition).
-/
import Derived.Test.YtkfkoldaeplckaaCr
import Derived.Test.YtkfkoldaeplckaaVcy
import Derived.Test.YtkfkoldaeplckaaRows
namespace Go.Proofs.Ytkfkoldaeplckaa
open Go Go.Vc
open Go.ChangeShapes Go.WideShapes Go.ChangeAt Go.RowKit
set_option maxRecDepth 100000
set_option linter.unusedSimpArgs false
set_option linter.unusedVariables false
namespace ppoFences
theorem own : ownKnob Try.prog.godebug = none := by kernel_rfl
theorem laidOut : laidOutB Try.prog = true := by kernel_rfl
theorem wb {r : List Value} (h : FitW [.bool] r) : ∃ x : Bool, r = brw x := by
  cases r with
  | nil => simp [FitW] at h
  | cons a r =>
    cases r with
    | nil =>
      simp only [FitW, CellW, and_true] at h
      obtain ⟨x, rfl⟩ := h
      exact ⟨x, rfl⟩
    | cons b r => simp [FitW] at h
theorem wbs : ∀ rows : List (List Value), (∀ r ∈ rows, FitW [.bool] r) → ∃ l : List Bool, rows = l.map brw
  | [], _ => ⟨[], rfl⟩
  | r :: rows, h => by
    obtain ⟨x, rfl⟩ := wb (h r (by simp))
    obtain ⟨l, rfl⟩ := wbs rows fun r hr => h r (by simp [hr])
    exact ⟨x :: l, rfl⟩
theorem walk {w : World} (rows : List (List Value)) (v : Value) (hf : ∀ r ∈ rows, FitW [.bool] r) (hs : SliceIn w [.bool] rows v) (p : Int) (_ : (Lit.int IntKind.i64 p).wf = true) (s : Int) (_ : (Lit.int IntKind.i64 s).wf = true) (_ : World) :
    Calls Try.prog 4 #[v, .int .i64 p, .int .i64 s] w fun e w' => e = .returned (.bool true) ∧ Below w.heap.size w w' := by
  obtain ⟨kl, rfl⟩ := wbs rows hf
  refine (runF_eq G9_ok mixed at4.1 at4.2 pf4_eq).law1 (args := [.slc 0 1 0 kl.length, .v (.int .i64 p), .v (.int .i64 s)]) (vs := [v, .int .i64 p, .int .i64 s]) hs (fun ρ hd => ?_) fun e => ?_
  · rw [List.length_map] at hd
    exact ⟨hd, rfl, rfl, trivial⟩
  · exact fences_run _ _ e kl p s (fun j => kl.getD j false) (fun _ => rfl) fun _ _ => rfl
theorem lifted (os : Os) (started : os.Started) (H : Type) (enc : TypeId × Value → H) :
    ReturnsInHanded {} Try.checked os 4 .any (Rows.ppoFencesSpec.pre6 enc Try.prog Try.f4 Rows.ppoFencesRow.domain false) (Rows.ppoFencesSpec.post enc Try.prog Try.f4 false true false false) := by
  refine returnsInHanded_of_change (C := Try.checked) own started (by kernel_rfl) Try.func4
    (ChangeSpec.witness6 (enc := enc) (C := Try.checked) false ⟨#[], #[.slice none 0 0, .int .i64 0, .int .i64 0], []⟩ 8 (by kernel_rfl) (by kernel_rfl) (by kernel_rfl) (by kernel_rfl)) ?_
  intro W base args ds gs before hval0 hW hcnd _
  have hval : ∀ (j : Nat) t v, Try.f4.params[j]? = some t → args[j]? = some v → Value.okWide Try.prog W .any base t v := hval0
  have hW' := hW
  obtain ⟨p, q, hA0, hV, rfl, hfz, hnd⟩ := hW
  have hA : DataW.TrodAll enc Try.prog W 0 (fun _ => true) true Try.f4.params.toList args.toList ds p := hA0
  rw [Try.params4] at hA hval
  obtain ⟨v0, vs0, d0, ds0, p0, q0, hargs, rfl, rfl, h0, r0⟩ := trodAll_cons hA
  obtain ⟨v1, vs1, d1, ds1, p1, q1, rfl, rfl, rfl, h1, r1⟩ := trodAll_cons r0
  obtain ⟨v2, vs2, d2, ds2, p2, q2, rfl, rfl, rfl, h2, r2⟩ := trodAll_cons r1
  obtain ⟨rfl, rfl, rfl⟩ := trodAll_nil r2
  obtain rfl : args = #[v0, v1, v2] := by cases args; simp_all
  obtain ⟨rfl, rfl⟩ := trodVars_none hV
  obtain ⟨l0, fw0, s0⟩ := rows_in (ck := [.bool]) Try.underlying33 (by kernel_rfl) (by kernel_rfl) (by kernel_rfl) (by decide) (hval 0 33 v0 rfl rfl) h0
  have lt0 : ∀ x ∈ p0, x.block < W.heap.size := by
    obtain ⟨m, hm⟩ := h0
    exact DataW.trod_lt m _ _ _ hm
  obtain ⟨a1, rfl, rfl, rfl, w1⟩ := open_int Try.underlying3 (hval 1 3 v1 rfl rfl) h1
  obtain ⟨a2, rfl, rfl, rfl, w2⟩ := open_int Try.underlying3 (hval 2 3 v2 rfl rfl) h2
  clear hA0 hval0
  refine (walk l0 v0 fw0 s0 a1 w1 a2 w2 W).mono fun e W' ⟨he, bel⟩ => ?_
  subst he
  exact ⟨_, rfl, _, _, _, [], _, [], hW', trodAll_mk1 (shut_bool Try.underlying4 _), (trodAll_cons_mk (Below.trod laidOut (by kernel_rfl) (of_decide_eq_true (by kernel_rfl)) h0 bel lt0) (trodAll_cons_mk (shut_int Try.underlying3 w1) (trodAll_cons_mk (shut_int Try.underlying3 w2) trodAll_mk0))), rfl, bel.frame _, fun h => by cases h⟩

theorem over : Rows.PpoFencesSaid :=
  OpenClaim.holds_of_wide 4 Try.f4 rfl rfl rfl rfl rfl rfl rfl ⟨rfl, rfl, rfl, rfl, rfl⟩ rfl rfl rfl rfl rfl (by kernel_rfl) Try.func4 (by kernel_rfl)
    (of_decide_eq_true (by kernel_rfl)) (by unfold Func.isWrapper; first | (rw [if_pos (by decide +kernel)]; kernel_rfl) | (rw [if_neg (by decide +kernel)]; exact ⟨rfl, rfl⟩))
    (fun os started H enc _ => lifted os started H enc)

theorem proved : Rows.PpoFencesSaid := over
#print axioms proved
end ppoFences
end Go.Proofs.Ytkfkoldaeplckaa
