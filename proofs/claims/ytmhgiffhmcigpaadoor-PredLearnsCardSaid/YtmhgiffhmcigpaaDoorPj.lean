/-
  What is proved: PredLearns answers true for every input (its tied card; no condition beyond the card's own: the listed variable reads as laid).
-/
import Derived.Test.YtmhgiffhmcigpaaDoorPi
import Derived.Test.YtmhgiffhmcigpaaDoorVcv
import Derived.Test.YtmhgiffhmcigpaaDoorRows
import Derived.Test.YtmhgiffhmcigpaaDoorTie
import Derived.Test.YtmhgiffhmcigpaaDoorCards
import Derived.ProofKit
import Derived.OpenShut
import Derived.LaidMore
import Derived.Lay
import Derived.SevenTiedAt
import Derived.Stop.Joined
import Derived.Carry
namespace Go.Proofs.YtmhgiffhmcigpaaDoor
open Go Go.Vc
open Go.ChangeShapes Go.WideShapes Go.ChangeAt Go.RowKit
set_option maxRecDepth 100000
namespace predLearns
theorem own : ownKnob Tryd.prog.godebug = none := by kernel_rfl
theorem walk (x s pc : Int) (tk : Bool) (w0 : (Lit.int .i64 x).wf = true) (w1 : (Lit.int .u32 s).wf = true) (w2 : (Lit.int .u32 pc).wf = true) (w : World) :
    Calls Tryd.prog 3 #[.int .i64 x, .int .u32 s, .int .u32 pc, .bool tk] w fun e w' => e = .returned (.bool true) ∧ Below w.heap.size w w' := by
  refine (runF_eq G3_ok mixed at3.1 at3.2 pf3_eq).law0 (vs := [.int .i64 x, .int .u32 s, .int .u32 pc, .bool tk]) ?_
  obtain ⟨p, rfl⟩ : ∃ p : Nat, pc = p := ⟨pc.toNat, by have := wf_u32 w2; omega⟩
  obtain ⟨m, hm, hm2⟩ : ∃ m : Nat, Int.tmod (IntKind.i64.wrap (Int.tmod x 10 + 10)) 10 + 1 = m ∧ (1 ≤ m ∧ m ≤ 10) := by
    have h1 : -10 < Int.tmod x 10 := Int.lt_tmod_of_pos x (by omega)
    have h2 : Int.tmod x 10 < 10 := Int.tmod_lt_of_pos x (by omega)
    have e : IntKind.i64.wrap (Int.tmod x 10 + 10) = Int.tmod x 10 + 10 := by rw [IntKind.wrap_i64]; omega
    rw [e, Int.tmod_eq_emod_of_nonneg (by omega)]
    exact ⟨((Int.tmod x 10 + 10) % 10 + 1).toNat, by omega, by omega⟩
  exact learns_run _ _ m s p tk x (by have := wf_u32 w2; omega) hm2 hm (fun _ => rfl)

set_option maxRecDepth 100000 in
theorem lifted (os : Os) (started : os.Started) (H : Type) (enc : TypeId × Value → H) :
    ReturnsInHanded {} Tryd.checked os 3 .any (fun w args => (Rows.predLearnsSpec.pre enc Tryd.prog Tryd.f3 Rows.predLearnsRow.domain false w args ∧ laidMetH Tryd.prog Rows.predLearnsRow.laid w) ∧ sizedMet enc Tryd.prog Tryd.f3 (OpenSpec.ofChange Rows.predLearnsSpec) false w args)
      (Rows.predLearnsSpec.post enc Tryd.prog Tryd.f3 false true false false) := by
  refine returnsInHanded_of_change_and (C := Tryd.checked) (X := fun w _ => laidMetH Tryd.prog Rows.predLearnsRow.laid w) (fun _ _ _ hh h => h.of_heap hh) own started (by kernel_rfl) Tryd.func3
    (ChangeSpec.witness_shaped (enc := enc) (C := Tryd.checked) (os := os) (X := fun w _ => laidMetH Tryd.prog Rows.predLearnsRow.laid w) false (World.doorLaid Tryd.prog 218 os) #[.int .i64 0, .int .u32 0, .int .u32 0, .bool false] 8 rfl
      (World.shaped_of_RefB (by kernel_rfl) (by kernel_rfl)) (by kernel_rfl) (by kernel_rfl) (by kernel_rfl)
      (laidMetH_of_parts3 (fuel := 8) (laidMet_of_run' 8 (by kernel_rfl) (by kernel_rfl)) (by kernel_rfl) (by kernel_rfl))) ?_
  intro W base args ds gs before hval0 hW _ _ _ _
  have hval : ∀ (j : Nat) t v, Tryd.f3.params[j]? = some t → args[j]? = some v → Value.okWide Tryd.prog W .any base t v := hval0
  have hW' := hW
  obtain ⟨p, q, hA0, hV, rfl, hfz, hnd⟩ := hW
  have hA : DataW.TrodAll enc Tryd.prog W 0 (fun _ => true) true Tryd.f3.params.toList args.toList ds p := hA0
  rw [Tryd.params3] at hA hval
  obtain ⟨v0, vs0, d0, ds0, p0, q0, hargs, rfl, rfl, h0, r0⟩ := trodAll_cons hA
  obtain ⟨v1, vs1, d1, ds1, p1, q1, rfl, rfl, rfl, h1, r1⟩ := trodAll_cons r0
  obtain ⟨v2, vs2, d2, ds2, p2, q2, rfl, rfl, rfl, h2, r2⟩ := trodAll_cons r1
  obtain ⟨v3, vs3, d3, ds3, p3, q3, rfl, rfl, rfl, h3, r3⟩ := trodAll_cons r2
  obtain ⟨rfl, rfl, rfl⟩ := trodAll_nil r3
  obtain rfl : args = #[v0, v1, v2, v3] := by cases args; simp_all
  obtain ⟨rfl, rfl⟩ := trodVars_none hV
  obtain ⟨a0, rfl, rfl, rfl, w0⟩ := open_int Tryd.underlying3 (hval 0 3 v0 rfl rfl) h0
  obtain ⟨a1, rfl, rfl, rfl, w1⟩ := open_int Tryd.underlying22 (hval 1 22 v1 rfl rfl) h1
  obtain ⟨a2, rfl, rfl, rfl, w2⟩ := open_int Tryd.underlying22 (hval 2 22 v2 rfl rfl) h2
  obtain ⟨a3, rfl, rfl, rfl⟩ := open_bool Tryd.underlying4 (hval 3 4 v3 rfl rfl) h3
  clear hA0 hval0
  refine (walk a0 a1 a2 a3 w0 w1 w2 W).mono fun e W' ⟨he, bel⟩ => ?_
  subst he
  exact ⟨_, rfl, _, _, _, [], _, [], hW', trodAll_mk1 (shut_bool Tryd.underlying4 _), (trodAll_cons_mk (shut_int Tryd.underlying3 w0) (trodAll_cons_mk (shut_int Tryd.underlying22 w1) (trodAll_cons_mk (shut_int Tryd.underlying22 w2) (trodAll_cons_mk (shut_bool Tryd.underlying4 _) trodAll_mk0)))), rfl, bel.frame _, fun h => by cases h⟩

theorem over : Rows.PredLearnsSaid :=
  OpenClaim.holds_of_wide 3 Tryd.f3 rfl rfl rfl rfl rfl rfl rfl ⟨rfl, rfl, rfl, rfl, rfl⟩ rfl rfl rfl rfl rfl (by kernel_rfl) Tryd.func3 (by kernel_rfl)
    (of_decide_eq_true (by kernel_rfl)) (by unfold Func.isWrapper; first | (rw [if_pos (by decide +kernel)]; kernel_rfl) | (rw [if_neg (by decide +kernel)]; exact ⟨rfl, rfl⟩))
    (fun os started H enc _ => lifted os started H enc)

theorem proved : Rows.PredLearnsCardSaid :=
  Claim7.holds_tied_plain_at .later [] [.sentinel] true (true, "77a91f1be135bf0e4c10f808db5baee00585c1edebc1e6ca7a65862ed62fe2c9") true
    over (fun _ h => by cases h) (by kernel_rfl) (fun _ h => by cases h) predLearns_row_tie rfl ⟨rfl, rfl⟩ (by kernel_rfl) rfl
    (fun f fn hf hfn => by
      obtain rfl : f = 3 := Option.some.inj ((show Tryd.prog.funcNamed "corral/corrallaw22.PredLearns" = some 3 by kernel_rfl).symm.trans hf) |>.symm
      obtain rfl : fn = Tryd.f3 := (Option.some.inj (Tryd.func3.symm.trans hfn)).symm
      exact ⟨by kernel_rfl, fun j t ht => by
        rw [Tryd.params3] at ht
        have hm : t ∈ [3, 22, 4] := by have := Array.mem_of_getElem? ht; simp at this; simp [this]
        have hall : ([3, 22, 4].all fun u => !Tryd.prog.wantsStandIn u) = true := by kernel_rfl
        exact (show Tryd.prog.wantsStandIn t = false by simpa using List.all_eq_true.1 hall t hm)⟩)
    (by kernel_rfl)
#print axioms proved
end predLearns
end Go.Proofs.YtmhgiffhmcigpaaDoor
