/-
  What is proved: RobPlays answers true for every input (its tied card; no condition beyond the card's own: the listed variables read as laid).
-/
import Derived.Test.YthmofpilphfkcaaDoorCm
import Derived.Test.YthmofpilphfkcaaDoorCt
import Derived.Test.YthmofpilphfkcaaDoorVcy
import Derived.Test.YthmofpilphfkcaaDoorRows
import Derived.Test.YthmofpilphfkcaaDoorTie
import Derived.Test.YthmofpilphfkcaaDoorCards
namespace Go.Proofs.YthmofpilphfkcaaDoor
open Go Go.Vc
open Go.ChangeShapes Go.WideShapes Go.ChangeAt Go.RowKit
set_option maxRecDepth 100000
set_option linter.unusedSimpArgs false
set_option linter.unusedVariables false
namespace robPlays
theorem own : ownKnob Tryd.prog.godebug = none := by kernel_rfl
theorem laidOut : laidOutB Tryd.prog = true := by kernel_rfl
theorem wi {r : List Value} (h : FitW [.int .i64] r) : ∃ x : Int, r = irow x := by
  cases r with
  | nil => simp [FitW] at h
  | cons a r =>
    cases r with
    | nil =>
      simp only [FitW, CellW, and_true] at h
      obtain ⟨x, rfl, _⟩ := h
      exact ⟨x, rfl⟩
    | cons b r => simp [FitW] at h
theorem wis : ∀ rows : List (List Value), (∀ r ∈ rows, FitW [.int .i64] r) → ∃ l : List Int, rows = l.map irow
  | [], _ => ⟨[], rfl⟩
  | r :: rows, h => by
    obtain ⟨x, rfl⟩ := wi (h r (by simp))
    obtain ⟨l, rfl⟩ := wis rows fun r hr => h r (by simp [hr])
    exact ⟨x :: l, rfl⟩
theorem do_of {M : HL} {r : List Value} (h : FitN M [.c (.int .i64), .c (.int .i64), .sl [.int .i64]] r) : ∃ d : Do, r = drow d ∧ ∃ e, Vc.RowsIn M e [.int .i64] d.y (d.l.map irow) := by
  have hl := h.length
  match r, hl with
  | [a, b, y], _ =>
    simp only [FitN, CellN, CellW, and_true] at h
    obtain ⟨⟨a, rfl, _⟩, ⟨b, rfl, _⟩, e, rows, hR, hq⟩ := h
    obtain ⟨l, rfl⟩ := wis rows hq
    exact ⟨⟨a, b, y, l⟩, rfl, e, hR⟩
theorem dos_of {M : HL} : ∀ rows : List (List Value), (∀ r ∈ rows, FitN M [.c (.int .i64), .c (.int .i64), .sl [.int .i64]] r) → ∃ ds : List Do, rows = ds.map drow ∧ DosIn M ds
  | [], _ => ⟨[], rfl, fun _ h => (by cases h)⟩
  | r :: rows, h => by
    obtain ⟨d, rfl, hd⟩ := do_of (h r (by simp))
    obtain ⟨ds, rfl, hds⟩ := dos_of rows fun r hr => h r (by simp [hr])
    exact ⟨d :: ds, rfl, fun x hx => (List.mem_cons.1 hx).elim (fun e => e ▸ hd) (hds x)⟩
theorem walk {w : World} (x : Int) (_ : (Lit.int .i64 x).wf = true) (rows : List (List Value)) (v : Value) (hf : ∀ r ∈ rows, FitN (fun k => w.heap[k]?) [.c (.int .i64), .c (.int .i64), .sl [.int .i64]] r)
    (hs : SliceIn w ([CN.c (.int .i64), .c (.int .i64), .sl [.int .i64]].map CN.ck) rows v) (_ : World) (hS : ∃ ad, Sents (fun k => w.heap[k]?) ad) :
    Calls Tryd.prog 5 #[.int .i64 x, v] w fun e w' => e = .returned (.bool true) ∧ Below w.heap.size w w' := by
  obtain ⟨ad, hS⟩ := hS
  obtain ⟨ds, rfl, hD⟩ := dos_of rows hf
  refine (runF_eq GP_ok mixed at5.1 at5.2 pf5_eq).law1 (args := [.v (.int .i64 x), .slc 0 3 0 ds.length]) (vs := [.int .i64 x, v]) hs (fun ρ hd => ?_) fun e => ?_
  · rw [List.length_map, List.length_map] at hd
    exact ⟨rfl, hd, trivial⟩
  · exact plays_run _ _ ad hS e x ds hD fun _ => rfl
theorem lifted (os : Os) (started : os.Started) (H : Type) (enc : TypeId × Value → H) :
    ReturnsInHanded {} Tryd.checked os 5 .any (fun w args => (Rows.robPlaysSpec.pre enc Tryd.prog Tryd.f5 Rows.robPlaysRow.domain false w args ∧ laidMetH Tryd.prog Rows.robPlaysRow.laid w) ∧ sizedMet enc Tryd.prog Tryd.f5 (OpenSpec.ofChange Rows.robPlaysSpec) false w args)
      (Rows.robPlaysSpec.post enc Tryd.prog Tryd.f5 false true false false) := by
  refine returnsInHanded_of_change_and (C := Tryd.checked) (X := fun w _ => laidMetH Tryd.prog Rows.robPlaysRow.laid w) (fun _ _ _ hh h => h.of_heap hh) own started (by kernel_rfl) Tryd.func5
    (ChangeSpec.witness_shaped (enc := enc) (C := Tryd.checked) (os := os) (X := fun w _ => laidMetH Tryd.prog Rows.robPlaysRow.laid w) false (World.doorLaid Tryd.prog 218 os) #[.int .i64 0, .slice none 0 0] 8 rfl
      (World.shaped_of_RefB (by kernel_rfl) (by kernel_rfl)) (by kernel_rfl) (by kernel_rfl) (by kernel_rfl)
      (laidMetH_of_parts3 (fuel := 8) (laidMet_of_run' 8 (by kernel_rfl) (by kernel_rfl)) (by kernel_rfl) (by kernel_rfl))) ?_
  intro W base args ds gs before hval0 hW _ _ hL _
  have hval : ∀ (j : Nat) t v, Tryd.f5.params[j]? = some t → args[j]? = some v → Value.okWide Tryd.prog W .any base t v := hval0
  have hW' := hW
  obtain ⟨p, q, hA0, hV, rfl, hfz, hnd⟩ := hW
  have hA : DataW.TrodAll enc Tryd.prog W 0 (fun _ => true) true Tryd.f5.params.toList args.toList ds p := hA0
  rw [Tryd.params5] at hA hval
  obtain ⟨v0, vs0, d0, ds0, p0, q0, hargs, rfl, rfl, h0, r0⟩ := trodAll_cons hA
  obtain ⟨v1, vs1, d1, ds1, p1, q1, rfl, rfl, rfl, h1, r1⟩ := trodAll_cons r0
  obtain ⟨rfl, rfl, rfl⟩ := trodAll_nil r1
  obtain rfl : args = #[v0, v1] := by cases args; simp_all
  obtain ⟨rfl, rfl⟩ := trodVars_none hV
  obtain ⟨a0, rfl, rfl, rfl, w0⟩ := open_int Tryd.underlying3 (hval 0 3 v0 rfl rfl) h0
  have lt1 : ∀ x ∈ p1, x.block < W.heap.size := by
    obtain ⟨m, hm⟩ := h1
    exact DataW.trod_lt m _ _ _ hm
  obtain ⟨l1, fw1, s1⟩ := nests_in (cn := [.c (.int .i64), .c (.int .i64), .sl [.int .i64]]) Tryd.underlying39 (by kernel_rfl) (by kernel_rfl) (by kernel_rfl) (by decide) (hval 1 39 v1 rfl rfl) h1
  clear hA0 hval0
  refine (walk a0 w0 l1 v1 fw1 s1 W (sents_laid hL)).mono fun e W' ⟨he, bel⟩ => ?_
  subst he
  exact ⟨_, rfl, _, _, _, [], _, [], hW', trodAll_mk1 (shut_bool Tryd.underlying4 _), (trodAll_cons_mk (shut_int Tryd.underlying3 w0) (trodAll_cons_mk (Below.trod laidOut (by kernel_rfl) (of_decide_eq_true (by kernel_rfl)) h1 bel lt1) trodAll_mk0)), rfl, bel.frame _, fun h => by cases h⟩

theorem over : Rows.RobPlaysSaid :=
  OpenClaim.holds_of_wide 5 Tryd.f5 rfl rfl rfl rfl rfl rfl rfl ⟨rfl, rfl, rfl, rfl, rfl⟩ rfl rfl rfl rfl rfl (by kernel_rfl) Tryd.func5 (by kernel_rfl)
    (of_decide_eq_true (by kernel_rfl)) (by unfold Func.isWrapper; first | (rw [if_pos (by decide +kernel)]; kernel_rfl) | (rw [if_neg (by decide +kernel)]; exact ⟨rfl, rfl⟩))
    (fun os started H enc _ => lifted os started H enc)

theorem proved : Rows.RobPlaysCardSaid :=
  Claim7.holds_tied_plain_at .later [] [.sentinel, .sentinel, .sentinel, .sentinel, .sentinel, .sentinel, .sentinel, .sentinel, .sentinel, .sentinel, .sentinel] true (true, "6bb75660860bf7ff7735985e444b07d60f086e4ed780bbc20541687ea1eddd03") true
    over (fun _ h => by cases h) (by kernel_rfl) (fun _ h => by cases h) robPlays_row_tie rfl ⟨rfl, rfl⟩ (by kernel_rfl) rfl
    (fun f fn hf hfn => by
      obtain rfl : f = 5 := Option.some.inj ((show Tryd.prog.funcNamed "corral/corrallaw24.RobPlays" = some 5 by kernel_rfl).symm.trans hf) |>.symm
      obtain rfl : fn = Tryd.f5 := (Option.some.inj (Tryd.func5.symm.trans hfn)).symm
      exact ⟨by kernel_rfl, fun j t ht => by
        rw [Tryd.params5] at ht
        have hm : t ∈ [3, 39] := by simpa using Array.mem_of_getElem? ht
        have hall : ([3, 39].all fun u => !Tryd.prog.wantsStandIn u) = true := by kernel_rfl
        exact (show Tryd.prog.wantsStandIn t = false by simpa using List.all_eq_true.1 hall t hm)⟩)
    (by kernel_rfl)
#print axioms proved
end robPlays
end Go.Proofs.YthmofpilphfkcaaDoor
