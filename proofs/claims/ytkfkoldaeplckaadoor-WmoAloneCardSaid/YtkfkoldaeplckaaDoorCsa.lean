/-
  The listed errors, out of the row's condition.
-/
import Derived.Test.YtkfkoldaeplckaaDoorCp
import Derived.Test.YtkfkoldaeplckaaDoorVcw
import Derived.Test.YtkfkoldaeplckaaDoorRows
set_option linter.unusedSimpArgs false
set_option linter.unusedVariables false

namespace Go.Proofs.YtkfkoldaeplckaaDoor
open Go Go.Vc Go.RowKit Go.ChangeShapes
set_option maxRecDepth 100000
set_option linter.unusedSimpArgs false
set_option linter.unusedVariables false
set_option maxHeartbeats 4000000
theorem star : "*errors.errorString" = "*" ++ "errors.errorString" := by decide
theorem rowES (u : TypeId) (h : Tryd.prog.typeName? 3 u = some "*errors.errorString") : u = 138 :=
  typeName_ptr_named (nm := "errors.errorString") (by rw [← star]; kernel_rfl) (by kernel_rfl) (by decide) u (by rw [← star]; exact h)
def sl : List (String × Nat × List UInt8) := [("corral/api.ErrMany", 0, [116, 111, 111, 32, 109, 97, 110, 121]), ("corral/api.ErrKind", 4, [110, 111, 32, 115, 117, 99, 104, 32, 107, 105, 110, 100]), ("corral/api.ErrPlace", 5, [110, 111, 32, 115, 117, 99, 104, 32, 112, 108, 97, 99, 101]), ("corral/api.ErrShape", 1, [110, 111, 116, 32, 116, 104, 101, 32, 115, 104, 97, 112, 101, 32, 116, 104, 97, 116, 32, 105, 116, 32, 104, 97, 115, 32, 116, 111, 32, 104, 97, 118, 101]), ("corral/api.ErrWord", 6, [110, 111, 32, 115, 117, 99, 104, 32, 119, 111, 114, 100]), ("corral/api.ErrRange", 7, [97, 32, 110, 117, 109, 98, 101, 114, 32, 111, 117, 116, 32, 111, 102, 32, 105, 116, 115, 32, 114, 97, 110, 103, 101]), ("corral/api.ErrFull", 8, [110, 111, 32, 114, 111, 111, 109]), ("corral/api.ErrNone", 9, [116, 104, 101, 114, 101, 32, 105, 115, 32, 110, 111, 110, 101]), ("corral/api.ErrTrace", 10, [110, 111, 32, 114, 117, 110, 32, 111, 102, 32, 116, 104, 101, 32, 105, 110, 115, 116, 114, 117, 99, 116, 105, 111, 110, 115]), ("corral/api.ErrOrder", 2, [97, 110, 32, 111, 114, 100, 101, 114, 32, 116, 104, 97, 116, 32, 109, 97, 121, 32, 110, 111, 116, 32, 98, 101]), ("corral/api.ErrValue", 3, [97, 32, 118, 97, 108, 117, 101, 32, 116, 104, 97, 116, 32, 119, 97, 115, 32, 110, 111, 116, 32, 116, 104, 101, 114, 101])]
theorem sl_eq : Rows.wmoAloneRow.laid = sl.map fun x => (x.1, .iface "*errors.errorString" (.ptr (.agg [.lit (.string x.2.2)]))) := rfl
theorem sl_named : ∀ x ∈ sl, Tryd.prog.globalNamed x.1 = some x.2.1 ∧ (Tryd.prog.globals[x.2.1]?).map (·.type) = some 45 := by
  intro x hx
  simp only [sl, List.mem_cons, List.not_mem_nil, or_false] at hx
  rcases hx with rfl | rfl | rfl | rfl | rfl | rfl | rfl | rfl | rfl | rfl | rfl <;> exact ⟨by kernel_rfl, by kernel_rfl⟩
def pos (g : Nat) : Nat := [0, 3, 9, 10, 1, 2, 4, 5, 6, 7, 8].getD g 0
theorem pos_gl : ∀ g, g < 11 → gl (pos g) = g ∧ pos g < 11 := by decide
theorem sl_gl : ∀ p, p < 11 → (sl[p]?).map (·.2.1) = some (gl p) := by decide
theorem sents_laid {W : World} (h : laidMetH Tryd.prog Rows.wmoAloneRow.laid W) : ∃ ad, Sents (fun k => W.heap[k]?) ad := by
  rw [MakeChecks.laidMetH_plain _ _ _ (by kernel_rfl), sl_eq] at h
  obtain ⟨ps, hv, hnd, hrows⟩ := h
  obtain ⟨aa, h1, h2, h3⟩ := sents_of Tryd.underlying45 rowES Tryd.underlying138 Tryd.underlying155 rfl rfl Tryd.underlying9 (by kernel_rfl) (by kernel_rfl) sl ps sl_named hv hrows
  have hlen : aa.length = 11 := h1
  have hat : ∀ g, g < 11 → ∃ a, aa[pos g]? = some a ∧ W.cell? ⟨g, 0, none⟩ = some (.iface 138 (.pointer (some a))) := by
    intro g hg
    obtain ⟨hgp, hp⟩ := pos_gl g hg
    have := sl_gl (pos g) hp
    obtain ⟨x, hx, hx2⟩ := Option.map_eq_some_iff.1 this
    obtain ⟨a, ha, hc⟩ := h3 (pos g) x hx
    rw [hx2, hgp] at hc
    exact ⟨a, ha, hc⟩
  refine ⟨fun g => aa.getD (pos g) default, fun g hg => ?_, fun g hg => ?_, fun i j hi hj hij => ?_⟩
  · obtain ⟨a, ha, hc⟩ := hat g hg
    simp only [List.getD, ha, Option.getD_some]
    unfold World.cell? at hc
    unfold mcell
    split at hc <;> simp_all
  · obtain ⟨a, ha, hc⟩ := hat g hg
    simp only [List.getD, ha, Option.getD_some]
    have hm : a ∈ aa := List.mem_of_getElem? ha
    exact (hrows a.block a.off (h2.subset (List.mem_map.2 ⟨a, hm, rfl⟩))).1
  · obtain ⟨a, ha, _⟩ := hat i hi
    obtain ⟨b, hb, _⟩ := hat j hj
    simp only [List.getD, ha, hb, Option.getD_some] at hij
    subst hij
    have hn := hnd.sublist h2
    have hpi := (pos_gl i hi).2
    have hpj := (pos_gl j hj).2
    have hpp : pos i = pos j := by
      obtain ⟨hq1, hq2⟩ := List.getElem?_eq_some_iff.1 ha
      obtain ⟨hq3, hq4⟩ := List.getElem?_eq_some_iff.1 hb
      have hn := List.pairwise_iff_getElem.1 hn
      rcases Nat.lt_trichotomy (pos i) (pos j) with h | h | h
      · refine (hn (pos i) (pos j) (by simpa using hq1) (by simpa using hq3) h ?_).elim
        simp [hq2, hq4]
      · exact h
      · refine (hn (pos j) (pos i) (by simpa using hq3) (by simpa using hq1) h ?_).elim
        simp [hq2, hq4]
    have e1 := (pos_gl i hi).1
    have e2 := (pos_gl j hj).1
    rw [← e1, ← e2, hpp]
end Go.Proofs.YtkfkoldaeplckaaDoor
