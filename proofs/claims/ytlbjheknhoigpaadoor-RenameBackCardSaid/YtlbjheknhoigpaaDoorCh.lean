/-
  What is proved: RenameBack answers true for every input (its tied card; no condition beyond the card's own: the listed variables read as laid).
-/
import Derived.Test.YtlbjheknhoigpaaDoorCg
import Derived.Test.YtlbjheknhoigpaaDoorVcx
import Derived.Test.YtlbjheknhoigpaaDoorRows
import Derived.Test.YtlbjheknhoigpaaDoorTie
import Derived.Test.YtlbjheknhoigpaaDoorCards
namespace Go.Proofs.YtlbjheknhoigpaaDoor
open Go Go.Vc
open Go.ChangeShapes Go.WideShapes Go.ChangeAt Go.RowKit
set_option maxRecDepth 100000
set_option linter.unusedSimpArgs false
set_option linter.unusedVariables false
namespace renameBack
theorem own : ownKnob Tryd.prog.godebug = none := by kernel_rfl
theorem laidOut : laidOutB Tryd.prog = true := by kernel_rfl
theorem walk {w : World} (x : Int) (_ : (Lit.int .i64 x).wf = true) (l : List Int) (v : Value) (_ : ∀ x ∈ l, -9223372036854775808 ≤ x ∧ x < 9223372036854775808) (hs : SliceIn w [.int .i64] (l.map irow) v) (_ : World) :
    Calls Tryd.prog 4 #[.int .i64 x, v] w fun e w' => e = .returned (.bool true) ∧ Below w.heap.size w w' := by
  refine (runF_eq G5_ok mixed at4.1 at4.2 pf4_eq).law1 (args := [.v (.int .i64 x), .slc 0 1 0 l.length]) (vs := [.int .i64 x, v]) hs (fun ρ hd => ?_) fun e => ?_
  · rw [List.length_map] at hd
    exact ⟨rfl, hd, trivial⟩
  · exact back_run _ _ e x l (fun _ _ => rfl)
theorem lifted (os : Os) (started : os.Started) (H : Type) (enc : TypeId × Value → H) :
    ReturnsInHanded {} Tryd.checked os 4 .any (fun w args => (Rows.renameBackSpec.pre enc Tryd.prog Tryd.f4 Rows.renameBackRow.domain false w args ∧ laidMetH Tryd.prog Rows.renameBackRow.laid w) ∧ sizedMet enc Tryd.prog Tryd.f4 (OpenSpec.ofChange Rows.renameBackSpec) false w args)
      (Rows.renameBackSpec.post enc Tryd.prog Tryd.f4 false true false false) := by
  refine returnsInHanded_of_change_and (C := Tryd.checked) (X := fun w _ => laidMetH Tryd.prog Rows.renameBackRow.laid w) (fun _ _ _ hh h => h.of_heap hh) own started (by kernel_rfl) Tryd.func4
    (ChangeSpec.witness_shaped (enc := enc) (C := Tryd.checked) (os := os) (X := fun w _ => laidMetH Tryd.prog Rows.renameBackRow.laid w) false (World.doorLaid Tryd.prog 218 os) #[.int .i64 0, .slice none 0 0] 8 rfl
      (World.shaped_of_RefB (by kernel_rfl) (by kernel_rfl)) (by kernel_rfl) (by kernel_rfl) (by kernel_rfl)
      (laidMetH_of_parts3 (fuel := 8) (laidMet_of_run' 8 (by kernel_rfl) (by kernel_rfl)) (by kernel_rfl) (by kernel_rfl))) ?_
  intro W base args ds gs before hval0 hW _ _ hL _
  have hval : ∀ (j : Nat) t v, Tryd.f4.params[j]? = some t → args[j]? = some v → Value.okWide Tryd.prog W .any base t v := hval0
  have hW' := hW
  obtain ⟨p, q, hA0, hV, rfl, hfz, hnd⟩ := hW
  have hA : DataW.TrodAll enc Tryd.prog W 0 (fun _ => true) true Tryd.f4.params.toList args.toList ds p := hA0
  rw [Tryd.params4] at hA hval
  obtain ⟨v0, vs0, d0, ds0, p0, q0, hargs, rfl, rfl, h0, r0⟩ := trodAll_cons hA
  obtain ⟨v1, vs1, d1, ds1, p1, q1, rfl, rfl, rfl, h1, r1⟩ := trodAll_cons r0
  obtain ⟨rfl, rfl, rfl⟩ := trodAll_nil r1
  obtain rfl : args = #[v0, v1] := by cases args; simp_all
  obtain ⟨rfl, rfl⟩ := trodVars_none hV
  obtain ⟨a0, rfl, rfl, rfl, w0⟩ := open_int Tryd.underlying3 (hval 0 3 v0 rfl rfl) h0
  obtain ⟨l1, b1, s1⟩ := i64s_in Tryd.underlying22 Tryd.underlying3 (by kernel_rfl) (hval 1 22 v1 rfl rfl) h1
  have lt1 : ∀ x ∈ p1, x.block < W.heap.size := by
    obtain ⟨m, hm⟩ := h1
    exact DataW.trod_lt m _ _ _ hm
  clear hA0 hval0
  refine (walk a0 w0 l1 v1 b1 s1 W).mono fun e W' ⟨he, bel⟩ => ?_
  subst he
  exact ⟨_, rfl, _, _, _, [], _, [], hW', trodAll_mk1 (shut_bool Tryd.underlying4 _), (trodAll_cons_mk (shut_int Tryd.underlying3 w0) (trodAll_cons_mk (Below.trod laidOut (by kernel_rfl) (of_decide_eq_true (by kernel_rfl)) h1 bel lt1) trodAll_mk0)), rfl, bel.frame _, fun h => by cases h⟩

theorem over : Rows.RenameBackSaid :=
  OpenClaim.holds_of_wide 4 Tryd.f4 rfl rfl rfl rfl rfl rfl rfl ⟨rfl, rfl, rfl, rfl, rfl⟩ rfl rfl rfl rfl rfl (by kernel_rfl) Tryd.func4 (by kernel_rfl)
    (of_decide_eq_true (by kernel_rfl)) (by unfold Func.isWrapper; first | (rw [if_pos (by decide +kernel)]; kernel_rfl) | (rw [if_neg (by decide +kernel)]; exact ⟨rfl, rfl⟩))
    (fun os started H enc _ => lifted os started H enc)

theorem proved : Rows.RenameBackCardSaid :=
  Claim7.holds_tied_plain_at .later [] [.sentinel] true (true, "5a0afd713703e1ec5b30eb2574f8a9a71e8749f046f9ab9eabf20928acd6d15d") true
    over (fun _ h => by cases h) (by kernel_rfl) (fun _ h => by cases h) renameBack_row_tie rfl ⟨rfl, rfl⟩ (by kernel_rfl) rfl
    (fun f fn hf hfn => by
      obtain rfl : f = 4 := Option.some.inj ((show Tryd.prog.funcNamed "corral/corrallaw23.RenameBack" = some 4 by kernel_rfl).symm.trans hf) |>.symm
      obtain rfl : fn = Tryd.f4 := (Option.some.inj (Tryd.func4.symm.trans hfn)).symm
      exact ⟨by kernel_rfl, fun j t ht => by
        rw [Tryd.params4] at ht
        have hm : t ∈ [3, 22] := by simpa using Array.mem_of_getElem? ht
        have hall : ([3, 22].all fun u => !Tryd.prog.wantsStandIn u) = true := by kernel_rfl
        exact (show Tryd.prog.wantsStandIn t = false by simpa using List.all_eq_true.1 hall t hm)⟩)
    (by kernel_rfl)
#print axioms proved
end renameBack
end Go.Proofs.YtlbjheknhoigpaaDoor
