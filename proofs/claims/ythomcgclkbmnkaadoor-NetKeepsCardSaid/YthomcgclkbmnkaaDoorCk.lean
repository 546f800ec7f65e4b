/-
  What is proved: NetKeeps answers true for every input (its tied card; no condition beyond the card's own: the listed variables read as laid).
-/
import Derived.Test.YthomcgclkbmnkaaDoorCj
import Derived.Test.YthomcgclkbmnkaaDoorCt
import Derived.Test.YthomcgclkbmnkaaDoorVcy
import Derived.Test.YthomcgclkbmnkaaDoorRows
import Derived.Test.YthomcgclkbmnkaaDoorTie
import Derived.Test.YthomcgclkbmnkaaDoorCards
namespace Go.Proofs.YthomcgclkbmnkaaDoor
open Go Go.Vc
open Go.ChangeShapes Go.WideShapes Go.ChangeAt Go.RowKit
set_option maxRecDepth 100000
set_option linter.unusedSimpArgs false
set_option linter.unusedVariables false
namespace netKeeps
theorem own : ownKnob Tryd.prog.godebug = none := by kernel_rfl
theorem laidOut : laidOutB Tryd.prog = true := by kernel_rfl
theorem msg_of {r : List Value} (h : FitW [.int .i64, .int .i64, .int .i64, .int .i64, .int .u32, .int .u32, .int .u32, .int .u32, .bool, .bool, .bool] r) : ∃ m : Msg, r = mrow m := by
  have hl := h.length
  match r, hl with
  | [a, b, c, d, e, f, g, x, y, z, u], _ =>
    simp only [FitW, CellW, and_true] at h
    obtain ⟨⟨a, rfl, _⟩, ⟨b, rfl, _⟩, ⟨c, rfl, _⟩, ⟨d, rfl, _⟩, ⟨e, rfl, _⟩, ⟨f, rfl, _⟩, ⟨g, rfl, _⟩, ⟨x, rfl, _⟩, ⟨y, rfl⟩, ⟨z, rfl⟩, ⟨u, rfl⟩⟩ := h
    exact ⟨⟨a, b, c, d, e, f, g, x, y, z, u⟩, rfl⟩
theorem msgs_of : ∀ rows : List (List Value), (∀ r ∈ rows, FitW [.int .i64, .int .i64, .int .i64, .int .i64, .int .u32, .int .u32, .int .u32, .int .u32, .bool, .bool, .bool] r) → ∃ l : List Msg, rows = l.map mrow
  | [], _ => ⟨[], rfl⟩
  | r :: rows, h => by
    obtain ⟨x, rfl⟩ := msg_of (h r (by simp))
    obtain ⟨l, rfl⟩ := msgs_of rows fun r hr => h r (by simp [hr])
    exact ⟨x :: l, rfl⟩
theorem walk {w : World} (rows : List (List Value)) (v : Value) (hf : ∀ r ∈ rows, FitW [.int .i64, .int .i64, .int .i64, .int .i64, .int .u32, .int .u32, .int .u32, .int .u32, .bool, .bool, .bool] r) (hs : SliceIn w [.int .i64, .int .i64, .int .i64, .int .i64, .int .u32, .int .u32, .int .u32, .int .u32, .bool, .bool, .bool] rows v)
    (od : List Int) (v2 : Value) (_ : ∀ x ∈ od, -9223372036854775808 ≤ x ∧ x < 9223372036854775808) (hs2 : SliceIn w [.int .i64] (od.map irow) v2) (_ : World) (hS : ∃ ad, Sents (fun k => w.heap[k]?) ad) :
    Calls Tryd.prog 5 #[v, v2] w fun e w' => e = .returned (.bool true) ∧ Below w.heap.size w w' := by
  obtain ⟨ad, hS⟩ := hS
  obtain ⟨l, rfl⟩ := msgs_of rows hf
  refine (runF_eq GK_ok mixed at5.1 at5.2 pf5_eq).law2 (args := [.slc 0 11 0 l.length, .slc 1 1 0 od.length]) (vs := [v, v2]) hs hs2 (fun ρ hd hd2 => ?_) fun e e2 => ?_
  · rw [List.length_map] at hd hd2
    exact ⟨hd, hd2, trivial⟩
  · exact keeps_run _ _ ad hS e e2 l od fun _ _ => rfl
theorem lifted (os : Os) (started : os.Started) (H : Type) (enc : TypeId × Value → H) :
    ReturnsInHanded {} Tryd.checked os 5 .any (fun w args => (Rows.netKeepsSpec.pre enc Tryd.prog Tryd.f5 Rows.netKeepsRow.domain false w args ∧ laidMetH Tryd.prog Rows.netKeepsRow.laid w) ∧ sizedMet enc Tryd.prog Tryd.f5 (OpenSpec.ofChange Rows.netKeepsSpec) false w args)
      (Rows.netKeepsSpec.post enc Tryd.prog Tryd.f5 false true false false) := by
  refine returnsInHanded_of_change_and (C := Tryd.checked) (X := fun w _ => laidMetH Tryd.prog Rows.netKeepsRow.laid w) (fun _ _ _ hh h => h.of_heap hh) own started (by kernel_rfl) Tryd.func5
    (ChangeSpec.witness_shaped (enc := enc) (C := Tryd.checked) (os := os) (X := fun w _ => laidMetH Tryd.prog Rows.netKeepsRow.laid w) false (World.doorLaid Tryd.prog 218 os) #[.slice none 0 0, .slice none 0 0] 8 rfl
      (World.shaped_of_RefB (by kernel_rfl) (by kernel_rfl)) (by kernel_rfl) (by kernel_rfl) (by kernel_rfl)
      (laidMetH_of_parts3 (fuel := 8) (laidMet_of_run' 8 (by kernel_rfl) (by kernel_rfl)) (by kernel_rfl) (by kernel_rfl))) ?_
  intro W base args ds gs before hval0 hW _ _ hL _
  have hval : ∀ (j : Nat) t v, Tryd.f5.params[j]? = some t → args[j]? = some v → Value.okWide Tryd.prog W .any base t v := hval0
  have hW' := hW
  obtain ⟨p, q, hA0, hV, rfl, hfz, hnd⟩ := hW
  have hA : DataW.TrodAll enc Tryd.prog W 0 (fun _ => true) true Tryd.f5.params.toList args.toList ds p := hA0
  rw [Tryd.params5] at hA hval
  obtain ⟨v0, vs0, d0, ds0, p0, q0, hargs, rfl, rfl, h0, r0⟩ := trodAll_cons hA
  obtain ⟨v1, vs1, d1, ds1, p1, q1, rfl, rfl, rfl, h1, r1⟩ := trodAll_cons r0
  obtain ⟨rfl, rfl, rfl⟩ := trodAll_nil r1
  obtain rfl : args = #[v0, v1] := by cases args; simp_all
  obtain ⟨rfl, rfl⟩ := trodVars_none hV
  obtain ⟨l0, fw0, s0⟩ := rows_in (ck := [.int .i64, .int .i64, .int .i64, .int .i64, .int .u32, .int .u32, .int .u32, .int .u32, .bool, .bool, .bool]) Tryd.underlying28 (by kernel_rfl) (by kernel_rfl) (by kernel_rfl) (by decide) (hval 0 28 v0 rfl rfl) h0
  have lt0 : ∀ x ∈ p0, x.block < W.heap.size := by
    obtain ⟨m, hm⟩ := h0
    exact DataW.trod_lt m _ _ _ hm
  obtain ⟨l1, b1, s1⟩ := i64s_in Tryd.underlying36 Tryd.underlying3 (by kernel_rfl) (hval 1 36 v1 rfl rfl) h1
  have lt1 : ∀ x ∈ p1, x.block < W.heap.size := by
    obtain ⟨m, hm⟩ := h1
    exact DataW.trod_lt m _ _ _ hm
  clear hA0 hval0
  refine (walk l0 v0 fw0 s0 l1 v1 b1 s1 W (sents_laid hL)).mono fun e W' ⟨he, bel⟩ => ?_
  subst he
  exact ⟨_, rfl, _, _, _, [], _, [], hW', trodAll_mk1 (shut_bool Tryd.underlying4 _), (trodAll_cons_mk (Below.trod laidOut (by kernel_rfl) (of_decide_eq_true (by kernel_rfl)) h0 bel lt0) (trodAll_cons_mk (Below.trod laidOut (by kernel_rfl) (of_decide_eq_true (by kernel_rfl)) h1 bel lt1) trodAll_mk0)), rfl, bel.frame _, fun h => by cases h⟩

theorem over : Rows.NetKeepsSaid :=
  OpenClaim.holds_of_wide 5 Tryd.f5 rfl rfl rfl rfl rfl rfl rfl ⟨rfl, rfl, rfl, rfl, rfl⟩ rfl rfl rfl rfl rfl (by kernel_rfl) Tryd.func5 (by kernel_rfl)
    (of_decide_eq_true (by kernel_rfl)) (by unfold Func.isWrapper; first | (rw [if_pos (by decide +kernel)]; kernel_rfl) | (rw [if_neg (by decide +kernel)]; exact ⟨rfl, rfl⟩))
    (fun os started H enc _ => lifted os started H enc)

theorem proved : Rows.NetKeepsCardSaid :=
  Claim7.holds_tied_plain_at .later [] [.sentinel, .sentinel, .sentinel, .sentinel, .sentinel, .sentinel, .sentinel, .sentinel, .sentinel, .sentinel, .sentinel] true (true, "78c997dc9c2d774bdc1dde038d166c71c1943ee1d672e33e4e55e7597608afe6") true
    over (fun _ h => by cases h) (by kernel_rfl) (fun _ h => by cases h) netKeeps_row_tie rfl ⟨rfl, rfl⟩ (by kernel_rfl) rfl
    (fun f fn hf hfn => by
      obtain rfl : f = 5 := Option.some.inj ((show Tryd.prog.funcNamed "corral/corrallaw16.NetKeeps" = some 5 by kernel_rfl).symm.trans hf) |>.symm
      obtain rfl : fn = Tryd.f5 := (Option.some.inj (Tryd.func5.symm.trans hfn)).symm
      exact ⟨by kernel_rfl, fun j t ht => by
        rw [Tryd.params5] at ht
        have hm : t ∈ [28, 36] := by simpa using Array.mem_of_getElem? ht
        have hall : ([28, 36].all fun u => !Tryd.prog.wantsStandIn u) = true := by kernel_rfl
        exact (show Tryd.prog.wantsStandIn t = false by simpa using List.all_eq_true.1 hall t hm)⟩)
    (by kernel_rfl)
#print axioms proved
end netKeeps
end Go.Proofs.YthomcgclkbmnkaaDoor
