/-
  What is proved: PredTargets answers true for every input (its tied card; no condition beyond the card's own: the listed variable reads as laid).
-/
import Derived.Test.YtmhgiffhmcigpaaDoorCl
import Derived.Test.YtmhgiffhmcigpaaDoorVcw
import Derived.Test.YtmhgiffhmcigpaaDoorRows
import Derived.Test.YtmhgiffhmcigpaaDoorTie
import Derived.Test.YtmhgiffhmcigpaaDoorCards
namespace Go.Proofs.YtmhgiffhmcigpaaDoor
open Go Go.Vc
open Go.ChangeShapes Go.WideShapes Go.ChangeAt Go.RowKit
set_option maxRecDepth 100000
namespace predTargets
theorem own : ownKnob Tryd.prog.godebug = none := by kernel_rfl
theorem laidOut : laidOutB Tryd.prog = true := by kernel_rfl
theorem walk (x : Int) (w0 : (Lit.int .i64 x).wf = true) (l : List Nat) (v : Value) (hl : ∀ i, l.getD i 0 < 4294967296) (w : World) (hs : SliceIn w [.int .u32] (l.map wrow) v) :
    Calls Tryd.prog 4 #[.int .i64 x, v] w fun e w' => e = .returned (.bool true) ∧ Below w.heap.size w w' := by
  have _ := w0
  obtain ⟨m, hm, hm2⟩ : ∃ m : Nat, Int.tmod (IntKind.i64.wrap (Int.tmod x 10 + 10)) 10 + 1 = m ∧ (1 ≤ m ∧ m ≤ 10) := by
    have h1 : -10 < Int.tmod x 10 := Int.lt_tmod_of_pos x (by omega)
    have h2 : Int.tmod x 10 < 10 := Int.tmod_lt_of_pos x (by omega)
    have e : IntKind.i64.wrap (Int.tmod x 10 + 10) = Int.tmod x 10 + 10 := by rw [IntKind.wrap_i64]; omega
    rw [e, Int.tmod_eq_emod_of_nonneg (by omega)]
    exact ⟨((Int.tmod x 10 + 10) % 10 + 1).toNat, by omega, by omega⟩
  refine (runF_eq G4_ok mixed at4.1 at4.2 pf4_eq).law1 (args := [.v (.int .i64 x), .slc 0 1 0 l.length]) (vs := [.int .i64 x, v]) hs (fun ρ hd => ?_) fun e => ?_
  · rw [List.length_map] at hd
    exact ⟨rfl, hd, trivial⟩
  · exact targets_run _ _ m x e l hl hm2 hm (fun _ => rfl)
theorem lifted (os : Os) (started : os.Started) (H : Type) (enc : TypeId × Value → H) :
    ReturnsInHanded {} Tryd.checked os 4 .any (fun w args => (Rows.predTargetsSpec.pre enc Tryd.prog Tryd.f4 Rows.predTargetsRow.domain false w args ∧ laidMetH Tryd.prog Rows.predTargetsRow.laid w) ∧ sizedMet enc Tryd.prog Tryd.f4 (OpenSpec.ofChange Rows.predTargetsSpec) false w args)
      (Rows.predTargetsSpec.post enc Tryd.prog Tryd.f4 false true false false) := by
  refine returnsInHanded_of_change_and (C := Tryd.checked) (X := fun w _ => laidMetH Tryd.prog Rows.predTargetsRow.laid w) (fun _ _ _ hh h => h.of_heap hh) own started (by kernel_rfl) Tryd.func4
    (ChangeSpec.witness_shaped (enc := enc) (C := Tryd.checked) (os := os) (X := fun w _ => laidMetH Tryd.prog Rows.predTargetsRow.laid w) false (World.doorLaid Tryd.prog 218 os) #[.int .i64 0, .slice none 0 0] 8 rfl
      (World.shaped_of_RefB (by kernel_rfl) (by kernel_rfl)) (by kernel_rfl) (by kernel_rfl) (by kernel_rfl)
      (laidMetH_of_parts3 (fuel := 8) (laidMet_of_run' 8 (by kernel_rfl) (by kernel_rfl)) (by kernel_rfl) (by kernel_rfl))) ?_
  intro W base args ds gs before hval0 hW _ _ hL _
  have hval : ∀ (j : Nat) t v, Tryd.f4.params[j]? = some t → args[j]? = some v → Value.okWide Tryd.prog W .any base t v := hval0
  have hW' := hW
  obtain ⟨p, q, hA0, hV, rfl, hfz, hnd⟩ := hW
  have hA : DataW.TrodAll enc Tryd.prog W 0 (fun _ => true) true Tryd.f4.params.toList args.toList ds p := hA0
  rw [Tryd.params4] at hA hval
  obtain ⟨v0, vs0, d0, ds0, p0, q0, hargs, rfl, rfl, h0, r0⟩ := trodAll_cons hA
  obtain ⟨v1, vs1, d1, ds1, p1, q1, rfl, rfl, rfl, h1, r1⟩ := trodAll_cons r0
  obtain ⟨rfl, rfl, rfl⟩ := trodAll_nil r1
  obtain rfl : args = #[v0, v1] := by cases args; simp_all
  obtain ⟨rfl, rfl⟩ := trodVars_none hV
  obtain ⟨a0, rfl, rfl, rfl, w0⟩ := open_int Tryd.underlying3 (hval 0 3 v0 rfl rfl) h0
  obtain ⟨l1, b1, s1⟩ := u32s_in Tryd.underlying39 Tryd.underlying22 (by kernel_rfl) (hval 1 39 v1 rfl rfl) h1
  have lt1 : ∀ x ∈ p1, x.block < W.heap.size := by
    obtain ⟨m, hm⟩ := h1
    exact DataW.trod_lt m _ _ _ hm
  clear hA0 hval0
  refine (walk a0 w0 l1 v1 b1 W s1).mono fun e W' ⟨he, bel⟩ => ?_
  subst he
  exact ⟨_, rfl, _, _, _, [], _, [], hW', trodAll_mk1 (shut_bool Tryd.underlying4 _), (trodAll_cons_mk (shut_int Tryd.underlying3 w0) (trodAll_cons_mk (Below.trod laidOut (by kernel_rfl) (of_decide_eq_true (by kernel_rfl)) h1 bel lt1) trodAll_mk0)), rfl, bel.frame _, fun h => by cases h⟩

theorem over : Rows.PredTargetsSaid :=
  OpenClaim.holds_of_wide 4 Tryd.f4 rfl rfl rfl rfl rfl rfl rfl ⟨rfl, rfl, rfl, rfl, rfl⟩ rfl rfl rfl rfl rfl (by kernel_rfl) Tryd.func4 (by kernel_rfl)
    (of_decide_eq_true (by kernel_rfl)) (by unfold Func.isWrapper; first | (rw [if_pos (by decide +kernel)]; kernel_rfl) | (rw [if_neg (by decide +kernel)]; exact ⟨rfl, rfl⟩))
    (fun os started H enc _ => lifted os started H enc)

theorem proved : Rows.PredTargetsCardSaid :=
  Claim7.holds_tied_plain_at .later [] [.sentinel] true (true, "77a91f1be135bf0e4c10f808db5baee00585c1edebc1e6ca7a65862ed62fe2c9") true
    over (fun _ h => by cases h) (by kernel_rfl) (fun _ h => by cases h) predTargets_row_tie rfl ⟨rfl, rfl⟩ (by kernel_rfl) rfl
    (fun f fn hf hfn => by
      obtain rfl : f = 4 := Option.some.inj ((show Tryd.prog.funcNamed "corral/corrallaw22.PredTargets" = some 4 by kernel_rfl).symm.trans hf) |>.symm
      obtain rfl : fn = Tryd.f4 := (Option.some.inj (Tryd.func4.symm.trans hfn)).symm
      exact ⟨by kernel_rfl, fun j t ht => by
        rw [Tryd.params4] at ht
        have hm : t ∈ [3, 39] := by
          have := Array.mem_of_getElem? ht
          simp at this
          simp
          omega
        have hall : ([3, 39].all fun u => !Tryd.prog.wantsStandIn u) = true := by kernel_rfl
        exact (show Tryd.prog.wantsStandIn t = false by simpa using List.all_eq_true.1 hall t hm)⟩)
    (by kernel_rfl)
#print axioms proved
end predTargets
end Go.Proofs.YtmhgiffhmcigpaaDoor
