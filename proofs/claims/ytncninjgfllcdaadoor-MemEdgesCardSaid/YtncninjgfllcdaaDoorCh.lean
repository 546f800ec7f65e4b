/-
  What is proved: MemEdges answers true for every input (its tied card; no condition beyond the card's own: the listed variables read as laid).
-/
import Derived.Test.YtncninjgfllcdaaDoorCg
import Derived.Test.YtncninjgfllcdaaDoorVcw
import Derived.Test.YtncninjgfllcdaaDoorCt
import Derived.Test.YtncninjgfllcdaaDoorRows
import Derived.Test.YtncninjgfllcdaaDoorTie
import Derived.Test.YtncninjgfllcdaaDoorCards
namespace Go.Proofs.YtncninjgfllcdaaDoor
open Go Go.Vc
open Go.ChangeShapes Go.WideShapes Go.ChangeAt Go.RowKit
set_option maxRecDepth 100000
namespace memEdges
theorem own : ownKnob Tryd.prog.godebug = none := by kernel_rfl
theorem walk (x : Int) (w : World) (hS : ∃ ad, Sents (fun k => w.heap[k]?) ad) :
    Calls Tryd.prog 3 #[.int .i64 x] w fun e w' => e = .returned (.bool true) ∧ Below w.heap.size w w' := by
  obtain ⟨ad, hS⟩ := hS
  obtain ⟨n, hn, hx⟩ : ∃ n : Nat, n < 128 ∧ (IntKind.i64.wrap (x.tmod 128 + 128)).tmod 128 = n := by
    have h1 : -128 < Int.tmod x 128 := Int.lt_tmod_of_pos x (by omega)
    have h2 : Int.tmod x 128 < 128 := Int.tmod_lt_of_pos x (by omega)
    have e : IntKind.i64.wrap (Int.tmod x 128 + 128) = Int.tmod x 128 + 128 := by rw [IntKind.wrap_i64]; omega
    rw [e, Int.tmod_eq_emod_of_nonneg (by omega)]
    exact ⟨((Int.tmod x 128 + 128) % 128).toNat, by omega, by omega⟩
  refine (runF_eq G5_ok mixed at3.1 at3.2 pf3_eq).law0 (vs := [.int .i64 x]) ?_
  by_cases hb : okN n
  · exact edges_run _ _ ad hS x n hn hx hb fun _ => rfl
  · exact badedge_run _ _ ad hS x n hn hx hb fun _ => rfl
theorem lifted (os : Os) (started : os.Started) (H : Type) (enc : TypeId × Value → H) :
    ReturnsInHanded {} Tryd.checked os 3 .any (fun w args => (Rows.memEdgesSpec.pre enc Tryd.prog Tryd.f3 Rows.memEdgesRow.domain false w args ∧ laidMetH Tryd.prog Rows.memEdgesRow.laid w) ∧ sizedMet enc Tryd.prog Tryd.f3 (OpenSpec.ofChange Rows.memEdgesSpec) false w args)
      (Rows.memEdgesSpec.post enc Tryd.prog Tryd.f3 false true false false) := by
  refine returnsInHanded_of_change_and (C := Tryd.checked) (X := fun w _ => laidMetH Tryd.prog Rows.memEdgesRow.laid w) (fun _ _ _ hh h => h.of_heap hh) own started (by kernel_rfl) Tryd.func3
    (ChangeSpec.witness_shaped (enc := enc) (C := Tryd.checked) (os := os) (X := fun w _ => laidMetH Tryd.prog Rows.memEdgesRow.laid w) false (World.doorLaid Tryd.prog 218 os) #[.int .i64 0] 8 rfl
      (World.shaped_of_RefB (by kernel_rfl) (by kernel_rfl)) (by kernel_rfl) (by kernel_rfl) (by kernel_rfl)
      (laidMetH_of_parts3 (fuel := 8) (laidMet_of_run' 8 (by kernel_rfl) (by kernel_rfl)) (by kernel_rfl) (by kernel_rfl))) ?_
  intro W base args ds gs before hval0 hW _ _ hL _
  have hval : ∀ (j : Nat) t v, Tryd.f3.params[j]? = some t → args[j]? = some v → Value.okWide Tryd.prog W .any base t v := hval0
  have hW' := hW
  obtain ⟨p, q, hA0, hV, rfl, hfz, hnd⟩ := hW
  have hA : DataW.TrodAll enc Tryd.prog W 0 (fun _ => true) true Tryd.f3.params.toList args.toList ds p := hA0
  rw [Tryd.params3] at hA hval
  obtain ⟨v0, vs0, d0, ds0, p0, q0, hargs, rfl, rfl, h0, r0⟩ := trodAll_cons hA
  obtain ⟨rfl, rfl, rfl⟩ := trodAll_nil r0
  obtain rfl : args = #[v0] := by cases args; simp_all
  obtain ⟨rfl, rfl⟩ := trodVars_none hV
  obtain ⟨a0, rfl, rfl, rfl, w0⟩ := open_int Tryd.underlying3 (hval 0 3 v0 rfl rfl) h0
  clear hA0 hval0
  refine (walk a0 W (sents_laid hL)).mono fun e W' ⟨he, bel⟩ => ?_
  subst he
  exact ⟨_, rfl, _, _, _, [], _, [], hW', trodAll_mk1 (shut_bool Tryd.underlying4 _), (trodAll_cons_mk (shut_int Tryd.underlying3 w0) trodAll_mk0), rfl, bel.frame _, fun h => by cases h⟩

theorem over : Rows.MemEdgesSaid :=
  OpenClaim.holds_of_wide 3 Tryd.f3 rfl rfl rfl rfl rfl rfl rfl ⟨rfl, rfl, rfl, rfl, rfl⟩ rfl rfl rfl rfl rfl (by kernel_rfl) Tryd.func3 (by kernel_rfl)
    (of_decide_eq_true (by kernel_rfl)) (by unfold Func.isWrapper; first | (rw [if_pos (by decide +kernel)]; kernel_rfl) | (rw [if_neg (by decide +kernel)]; exact ⟨rfl, rfl⟩))
    (fun os started H enc _ => lifted os started H enc)

theorem proved : Rows.MemEdgesCardSaid :=
  Claim7.holds_tied_plain_at .later [] [.sentinel, .sentinel, .sentinel, .sentinel, .sentinel, .sentinel, .sentinel, .sentinel, .sentinel, .sentinel, .sentinel] true (true, "10d9e2c4d3d968b17436e6df4c02c572f6f3332f0e9d3ef507410a3a0f930e26") true
    over (fun _ h => by cases h) (by kernel_rfl) (fun _ h => by cases h) memEdges_row_tie rfl ⟨rfl, rfl⟩ (by kernel_rfl) rfl
    (fun f fn hf hfn => by
      obtain rfl : f = 3 := Option.some.inj ((show Tryd.prog.funcNamed "corral/corrallaw7.MemEdges" = some 3 by kernel_rfl).symm.trans hf) |>.symm
      obtain rfl : fn = Tryd.f3 := (Option.some.inj (Tryd.func3.symm.trans hfn)).symm
      exact ⟨by kernel_rfl, fun j t ht => by
        rw [Tryd.params3] at ht
        have hm : t ∈ [3] := by simpa using Array.mem_of_getElem? ht
        have hall : ([3].all fun u => !Tryd.prog.wantsStandIn u) = true := by kernel_rfl
        exact (show Tryd.prog.wantsStandIn t = false by simpa using List.all_eq_true.1 hall t hm)⟩)
    (by kernel_rfl)
#print axioms proved
end memEdges
end Go.Proofs.YtncninjgfllcdaaDoor
