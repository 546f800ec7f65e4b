/-
  What is proved: WmoAlone answers true for every input (its tied card; no condition beyond the card's own: the listed variables read as laid).
-/
import Derived.Test.YtkfkoldaeplckaaDoorCrb
import Derived.Test.YtkfkoldaeplckaaDoorCsa
import Derived.Test.YtkfkoldaeplckaaDoorVcy
import Derived.Test.YtkfkoldaeplckaaDoorRows
import Derived.Test.YtkfkoldaeplckaaDoorTie
import Derived.Test.YtkfkoldaeplckaaDoorCards
set_option linter.unusedSimpArgs false
set_option linter.unusedVariables false

namespace Go.Proofs.YtkfkoldaeplckaaDoor
open Go Go.Vc
open Go.ChangeShapes Go.WideShapes Go.ChangeAt Go.RowKit
set_option maxRecDepth 100000
set_option linter.unusedSimpArgs false
set_option linter.unusedVariables false
set_option maxHeartbeats 4000000
namespace wmoAlone
theorem own : ownKnob Tryd.prog.godebug = none := by kernel_rfl
theorem at6 : Tryd.prog.funcs[6]? = some Tryd.f6 ∧ (Tryd.f6.name == "runtime.NumGoroutine") = false := ⟨by kernel_rfl, by kernel_rfl⟩
theorem walk (a : Int) (h1 : (Lit.int .u32 a).wf = true) (z : Int) (h2 : (Lit.int .i64 z).wf = true) (own : Bool) (v : Int) (h3 : (Lit.int .u32 v).wf = true) (w : World) (hS : ∃ ad, Sents (fun k => w.heap[k]?) ad) :
    Calls Tryd.prog 6 #[.int .u32 a, .int .i64 z, .bool own, .int .u32 v] w fun e w' => e = .returned (.bool true) ∧ Below w.heap.size w w' := by
  obtain ⟨ad, hS⟩ := hS
  exact (runF_eq GAL_ok mixed at6.1 at6.2 pf6q_eq).law0 (vs := [.int .u32 a, .int .i64 z, .bool own, .int .u32 v]) (aln_run _ _ ad hS a z own v (wf_u32 h1) fun _ _ => rfl)
theorem lifted (os : Os) (started : os.Started) (H : Type) (enc : TypeId × Value → H) :
    ReturnsInHanded {} Tryd.checked os 6 .any (fun w args => (Rows.wmoAloneSpec.pre enc Tryd.prog Tryd.f6 Rows.wmoAloneRow.domain false w args ∧ laidMetH Tryd.prog Rows.wmoAloneRow.laid w) ∧ sizedMet enc Tryd.prog Tryd.f6 (OpenSpec.ofChange Rows.wmoAloneSpec) false w args)
      (Rows.wmoAloneSpec.post enc Tryd.prog Tryd.f6 false true false false) := by
  refine returnsInHanded_of_change_and (C := Tryd.checked) (X := fun w _ => laidMetH Tryd.prog Rows.wmoAloneRow.laid w) (fun _ _ _ hh h => h.of_heap hh) own started (by kernel_rfl) Tryd.func6
    (ChangeSpec.witness_shaped (enc := enc) (C := Tryd.checked) (os := os) (X := fun w _ => laidMetH Tryd.prog Rows.wmoAloneRow.laid w) false (World.doorLaid Tryd.prog 218 os) #[.int .u32 0, .int .i64 0, .bool false, .int .u32 0] 8 rfl
      (World.shaped_of_RefB (by kernel_rfl) (by kernel_rfl)) (by kernel_rfl) (by kernel_rfl) (by kernel_rfl)
      (laidMetH_of_parts3 (fuel := 8) (laidMet_of_run' 8 (by kernel_rfl) (by kernel_rfl)) (by kernel_rfl) (by kernel_rfl))) ?_
  intro W base args ds gs before hval0 hW _ _ hL _
  have hval : ∀ (j : Nat) t v, Tryd.f6.params[j]? = some t → args[j]? = some v → Value.okWide Tryd.prog W .any base t v := hval0
  have hW' := hW
  obtain ⟨p, q, hA0, hV, rfl, hfz, hnd⟩ := hW
  have hA : DataW.TrodAll enc Tryd.prog W 0 (fun _ => true) true Tryd.f6.params.toList args.toList ds p := hA0
  rw [Tryd.params6] at hA hval
  obtain ⟨v0, vs0, d0, ds0, p0, q0, hargs, rfl, rfl, h0, r0⟩ := trodAll_cons hA
  obtain ⟨v1, vs1, d1, ds1, p1, q1, rfl, rfl, rfl, h1, r1⟩ := trodAll_cons r0
  obtain ⟨v2, vs2, d2, ds2, p2, q2, rfl, rfl, rfl, h2, r2⟩ := trodAll_cons r1
  obtain ⟨v3, vs3, d3, ds3, p3, q3, rfl, rfl, rfl, h3, r3⟩ := trodAll_cons r2
  obtain ⟨rfl, rfl, rfl⟩ := trodAll_nil r3
  obtain rfl : args = #[v0, v1, v2, v3] := by cases args; simp_all
  obtain ⟨rfl, rfl⟩ := trodVars_none hV
  obtain ⟨a0, rfl, rfl, rfl, w0⟩ := open_int Tryd.underlying36 (hval 0 36 v0 rfl rfl) h0
  obtain ⟨a1, rfl, rfl, rfl, w1⟩ := open_int Tryd.underlying3 (hval 1 3 v1 rfl rfl) h1
  obtain ⟨a2, rfl, rfl, rfl⟩ := open_bool Tryd.underlying4 (hval 2 4 v2 rfl rfl) h2
  obtain ⟨a3, rfl, rfl, rfl, w3⟩ := open_int Tryd.underlying36 (hval 3 36 v3 rfl rfl) h3
  clear hA0 hval0
  refine (walk a0 w0 a1 w1 a2 a3 w3 W (sents_laid hL)).mono fun e W' ⟨he, bel⟩ => ?_
  subst he
  exact ⟨_, rfl, _, _, _, [], _, [], hW', trodAll_mk1 (shut_bool Tryd.underlying4 _), (trodAll_cons_mk (shut_int Tryd.underlying36 w0) (trodAll_cons_mk (shut_int Tryd.underlying3 w1) (trodAll_cons_mk (shut_bool Tryd.underlying4 _) (trodAll_cons_mk (shut_int Tryd.underlying36 w3) trodAll_mk0)))), rfl, bel.frame _, fun h => by cases h⟩

theorem over : Rows.WmoAloneSaid :=
  OpenClaim.holds_of_wide 6 Tryd.f6 rfl rfl rfl rfl rfl rfl rfl ⟨rfl, rfl, rfl, rfl, rfl⟩ rfl rfl rfl rfl rfl (by kernel_rfl) Tryd.func6 (by kernel_rfl)
    (of_decide_eq_true (by kernel_rfl)) (by unfold Func.isWrapper; first | (rw [if_pos (by decide +kernel)]; kernel_rfl) | (rw [if_neg (by decide +kernel)]; exact ⟨rfl, rfl⟩))
    (fun os started H enc _ => lifted os started H enc)

theorem proved : Rows.WmoAloneCardSaid :=
  Claim7.holds_tied_plain_at .later [] [.sentinel, .sentinel, .sentinel, .sentinel, .sentinel, .sentinel, .sentinel, .sentinel, .sentinel, .sentinel, .sentinel] true (true, "60d041dd7b6adb39eccc2b0016f133be69092987f72b2bc090f6465e4c043ea4") true
    over (fun _ h => by cases h) (by kernel_rfl) (fun _ h => by cases h) wmoAlone_row_tie rfl ⟨rfl, rfl⟩ (by kernel_rfl) rfl
    (fun f fn hf hfn => by
      obtain rfl : f = 6 := Option.some.inj ((show Tryd.prog.funcNamed "corral/corrallaw14.WmoAlone" = some 6 by kernel_rfl).symm.trans hf) |>.symm
      obtain rfl : fn = Tryd.f6 := (Option.some.inj (Tryd.func6.symm.trans hfn)).symm
      exact ⟨by kernel_rfl, fun j t ht => by
        rw [Tryd.params6] at ht
        have hm : t ∈ [36, 3, 4, 36] := by simpa using Array.mem_of_getElem? ht
        have hall : ([36, 3, 4, 36].all fun u => !Tryd.prog.wantsStandIn u) = true := by kernel_rfl
        exact (show Tryd.prog.wantsStandIn t = false by simpa using List.all_eq_true.1 hall t hm)⟩)
    (by kernel_rfl)
#print axioms proved
end wmoAlone
end Go.Proofs.YtkfkoldaeplckaaDoor
