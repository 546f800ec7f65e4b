/-
  What is proved: MemParts answers true for every input (its tied card; no condition beyond the card's own).
-/
import Derived.Test.YtncninjgfllcdaaDoorCl1
import Derived.Test.YtncninjgfllcdaaDoorCl2
import Derived.Test.YtncninjgfllcdaaDoorCl4
import Derived.Test.YtncninjgfllcdaaDoorVcx
import Derived.Test.YtncninjgfllcdaaDoorRows
import Derived.Test.YtncninjgfllcdaaDoorTie
import Derived.Test.YtncninjgfllcdaaDoorCards
namespace Go.Proofs.YtncninjgfllcdaaDoor
open Go Go.Vc
open Go.ChangeShapes Go.WideShapes Go.ChangeAt Go.RowKit
set_option maxRecDepth 100000
namespace memParts
theorem own : ownKnob Tryd.prog.godebug = none := by kernel_rfl
theorem laidOut : laidOutB Tryd.prog = true := by kernel_rfl
theorem line_of_fit {cs : List Value} (h : FitW [.int .u32, .int .u32, .int .u32, .int .u32] cs) : ∃ c : Nat → Nat, (∀ i, c i < 4294967296) ∧ ∀ ρ, Den ρ (lnV c) (.agg cs.toArray) := by
  match cs, h with
  | [a0, a1, a2, a3], h =>
    simp only [FitW, CellW, and_true] at h
    obtain ⟨⟨x0, rfl, w0⟩, ⟨x1, rfl, w1⟩, ⟨x2, rfl, w2⟩, ⟨x3, rfl, w3⟩⟩ := h
    have w0 := wf_u32 w0
    have w1 := wf_u32 w1
    have w2 := wf_u32 w2
    have w3 := wf_u32 w3
    refine ⟨fun i => if i = 0 then x0.toNat else if i = 1 then x1.toNat else if i = 2 then x2.toNat else x3.toNat, fun i => ?_, fun ρ => ⟨_, rfl, ?_⟩⟩
    · dsimp only
      split
      · omega
      · split
        · omega
        · split <;> omega
    · simp only [DenL, wW, Den, Value.int.injEq, true_and, and_true, if_true]
      refine ⟨by omega, ?_, ?_, ?_⟩
      · rw [if_neg (by decide)]; omega
      · rw [if_neg (by decide), if_neg (by decide)]; omega
      · rw [if_neg (by decide), if_neg (by decide), if_neg (by decide)]; omega
theorem walk (cs : List Value) (hf : FitW [.int .u32, .int .u32, .int .u32, .int .u32] cs) (a : Int) (ha : (Lit.int .u32 a).wf = true) (s : Int) (_ : (Lit.int .i64 s).wf = true) (v : Int) (hv : (Lit.int .u32 v).wf = true) (w : World) :
    Calls Tryd.prog 5 #[.agg cs.toArray, .int .u32 a, .int .i64 s, .int .u32 v] w fun e w' => e = .returned (.bool true) ∧ Below w.heap.size w w' := by
  obtain ⟨c, hc, hd⟩ := line_of_fit hf
  have ha := wf_u32 ha
  have hv := wf_u32 hv
  obtain ⟨a, rfl⟩ : ∃ n : Nat, a = n := ⟨a.toNat, by omega⟩
  obtain ⟨v, rfl⟩ : ∃ n : Nat, v = n := ⟨v.toNat, by omega⟩
  refine (runF_eq G8_ok mixed at5.1 at5.2 pf5_eq).law (vs := [.agg cs.toArray, .int .u32 a, .int .i64 s, .int .u32 v]) (args := [lnV c, .v (.int .u32 a), .v (.int .i64 s), .v (.int .u32 v)]) (Holds.none w) ⟨hd _, rfl, rfl, rfl, trivial⟩ ?_
  cases hfa : fairB a s with
  | false => exact parts_no _ _ c hc a (by omega) s v (by omega) hfa fun _ => rfl
  | true =>
    rcases (fair_cases hfa).1 with h | h | h
    · exact parts_run1 _ _ c hc a (by omega) s v (by omega) hfa h fun _ => rfl
    · exact parts_run2 _ _ c hc a (by omega) s v (by omega) hfa h fun _ => rfl
    · exact parts_run4 _ _ c hc a (by omega) s v (by omega) hfa h fun _ => rfl
theorem lifted (os : Os) (started : os.Started) (H : Type) (enc : TypeId × Value → H) :
    ReturnsInHanded {} Tryd.checked os 5 .any (fun w args => (Rows.memPartsSpec.pre enc Tryd.prog Tryd.f5 Rows.memPartsRow.domain false w args ∧ laidMetH Tryd.prog Rows.memPartsRow.laid w) ∧ sizedMet enc Tryd.prog Tryd.f5 (OpenSpec.ofChange Rows.memPartsSpec) false w args)
      (Rows.memPartsSpec.post enc Tryd.prog Tryd.f5 false true false false) := by
  refine returnsInHanded_of_change_and (C := Tryd.checked) (X := fun w _ => laidMetH Tryd.prog Rows.memPartsRow.laid w) (fun _ _ _ hh h => h.of_heap hh) own started (by kernel_rfl) Tryd.func5
    (ChangeSpec.witness_shaped (enc := enc) (C := Tryd.checked) (os := os) (X := fun w _ => laidMetH Tryd.prog Rows.memPartsRow.laid w) false (World.doorLaid Tryd.prog 218 os) #[.agg #[.int .u32 0, .int .u32 0, .int .u32 0, .int .u32 0], .int .u32 0, .int .i64 0, .int .u32 0] 8 rfl
      (World.shaped_of_RefB (by kernel_rfl) (by kernel_rfl)) (by kernel_rfl) (by kernel_rfl) (by kernel_rfl)
      (laidMetH_of_parts3 (fuel := 8) (laidMet_of_run' 8 (by kernel_rfl) (by kernel_rfl)) (by kernel_rfl) (by kernel_rfl))) ?_
  intro W base args ds gs before hval0 hW _ _ hL _
  have hval : ∀ (j : Nat) t v, Tryd.f5.params[j]? = some t → args[j]? = some v → Value.okWide Tryd.prog W .any base t v := hval0
  have hW' := hW
  obtain ⟨p, q, hA0, hV, rfl, hfz, hnd⟩ := hW
  have hA : DataW.TrodAll enc Tryd.prog W 0 (fun _ => true) true Tryd.f5.params.toList args.toList ds p := hA0
  rw [Tryd.params5] at hA hval
  obtain ⟨v0, vs0, d0, ds0, p0, q0, hargs, rfl, rfl, h0, r0⟩ := trodAll_cons hA
  obtain ⟨v1, vs1, d1, ds1, p1, q1, rfl, rfl, rfl, h1, r1⟩ := trodAll_cons r0
  obtain ⟨v2, vs2, d2, ds2, p2, q2, rfl, rfl, rfl, h2, r2⟩ := trodAll_cons r1
  obtain ⟨v3, vs3, d3, ds3, p3, q3, rfl, rfl, rfl, h3, r3⟩ := trodAll_cons r2
  obtain ⟨rfl, rfl, rfl⟩ := trodAll_nil r3
  obtain rfl : args = #[v0, v1, v2, v3] := by cases args; simp_all
  obtain ⟨rfl, rfl⟩ := trodVars_none hV
  obtain ⟨c0, rfl, fw0⟩ := flat_in (ck := [.int .u32, .int .u32, .int .u32, .int .u32]) (by kernel_rfl) (by kernel_rfl) (by kernel_rfl) (hval 0 34 v0 rfl rfl) h0
  have lt0 : ∀ x ∈ p0, x.block < W.heap.size := by
    obtain ⟨m, hm⟩ := h0
    exact DataW.trod_lt m _ _ _ hm
  obtain ⟨a1, rfl, rfl, rfl, w1⟩ := open_int Tryd.underlying32 (hval 1 32 v1 rfl rfl) h1
  obtain ⟨a2, rfl, rfl, rfl, w2⟩ := open_int Tryd.underlying3 (hval 2 3 v2 rfl rfl) h2
  obtain ⟨a3, rfl, rfl, rfl, w3⟩ := open_int Tryd.underlying32 (hval 3 32 v3 rfl rfl) h3
  clear hA0 hval0
  refine (walk c0 fw0 a1 w1 a2 w2 a3 w3 W).mono fun e W' ⟨he, bel⟩ => ?_
  subst he
  exact ⟨_, rfl, _, _, _, [], _, [], hW', trodAll_mk1 (shut_bool Tryd.underlying4 _), (trodAll_cons_mk (Below.trod laidOut (by kernel_rfl) (of_decide_eq_true (by kernel_rfl)) h0 bel lt0) (trodAll_cons_mk (shut_int Tryd.underlying32 w1) (trodAll_cons_mk (shut_int Tryd.underlying3 w2) (trodAll_cons_mk (shut_int Tryd.underlying32 w3) trodAll_mk0)))), rfl, bel.frame _, fun h => by cases h⟩

theorem over : Rows.MemPartsSaid :=
  OpenClaim.holds_of_wide 5 Tryd.f5 rfl rfl rfl rfl rfl rfl rfl ⟨rfl, rfl, rfl, rfl, rfl⟩ rfl rfl rfl rfl rfl (by kernel_rfl) Tryd.func5 (by kernel_rfl)
    (of_decide_eq_true (by kernel_rfl)) (by unfold Func.isWrapper; first | (rw [if_pos (by decide +kernel)]; kernel_rfl) | (rw [if_neg (by decide +kernel)]; exact ⟨rfl, rfl⟩))
    (fun os started H enc _ => lifted os started H enc)

theorem proved : Rows.MemPartsCardSaid :=
  Claim7.holds_tied_plain_at .later [] [.sentinel, .sentinel] true (true, "10d9e2c4d3d968b17436e6df4c02c572f6f3332f0e9d3ef507410a3a0f930e26") true
    over (fun _ h => by cases h) (by kernel_rfl) (fun _ h => by cases h) memParts_row_tie rfl ⟨rfl, rfl⟩ (by kernel_rfl) rfl
    (fun f fn hf hfn => by
      obtain rfl : f = 5 := Option.some.inj ((show Tryd.prog.funcNamed "corral/corrallaw7.MemParts" = some 5 by kernel_rfl).symm.trans hf) |>.symm
      obtain rfl : fn = Tryd.f5 := (Option.some.inj (Tryd.func5.symm.trans hfn)).symm
      exact ⟨by kernel_rfl, fun j t ht => by
        rw [Tryd.params5] at ht
        have hm : t ∈ [34, 32, 3, 32] := by simpa using Array.mem_of_getElem? ht
        have hall : ([34, 32, 3, 32].all fun u => !Tryd.prog.wantsStandIn u) = true := by kernel_rfl
        exact (show Tryd.prog.wantsStandIn t = false by simpa using List.all_eq_true.1 hall t hm)⟩)
    (by kernel_rfl)
#print axioms proved
end memParts
end Go.Proofs.YtncninjgfllcdaaDoor
