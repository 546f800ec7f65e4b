/-
  What is proved: TlbPlays answers true for every input (its tied card; no condition beyond the card's own: the listed variables read as laid).
-/
import Derived.Test.YtdmcdlgcmeledaaDoorCw
import Derived.Test.YtdmcdlgcmeledaaDoorCt
import Derived.Test.YtdmcdlgcmeledaaDoorVcy
import Derived.Test.YtdmcdlgcmeledaaDoorRows
import Derived.Test.YtdmcdlgcmeledaaDoorTie
import Derived.Test.YtdmcdlgcmeledaaDoorCards
namespace Go.Proofs.YtdmcdlgcmeledaaDoor
open Go Go.Vc
open Go.ChangeShapes Go.WideShapes Go.ChangeAt Go.RowKit
set_option maxRecDepth 100000
set_option linter.unusedSimpArgs false
set_option linter.unusedVariables false
namespace tlbPlays
theorem own : ownKnob Tryd.prog.godebug = none := by kernel_rfl
theorem laidOut : laidOutB Tryd.prog = true := by kernel_rfl
theorem wu {r : List Value} (h : FitW [.int .u32] r) : ∃ x : Int, r = urow x := by
  cases r with
  | nil => simp [FitW] at h
  | cons a r =>
    cases r with
    | nil =>
      simp only [FitW, CellW, and_true] at h
      obtain ⟨x, rfl, _⟩ := h
      exact ⟨x, rfl⟩
    | cons b r => simp [FitW] at h
theorem wus : ∀ rows : List (List Value), (∀ r ∈ rows, FitW [.int .u32] r) → ∃ l : List Int, rows = l.map urow
  | [], _ => ⟨[], rfl⟩
  | r :: rows, h => by
    obtain ⟨x, rfl⟩ := wu (h r (by simp))
    obtain ⟨l, rfl⟩ := wus rows fun r hr => h r (by simp [hr])
    exact ⟨x :: l, rfl⟩
theorem wp {r : List Value} (h : FitW pck r) : ∃ x : Pte, r = prow x := by
  have hl := h.length
  match r, hl with
  | [a, b, c, d, e], _ =>
    simp only [pck, FitW, CellW, and_true] at h
    obtain ⟨⟨a, rfl, _⟩, ⟨b, rfl, _⟩, ⟨c, rfl, _⟩, ⟨d, rfl, _⟩, ⟨e, rfl⟩⟩ := h
    exact ⟨⟨a, b, c, d, e⟩, rfl⟩
theorem wps : ∀ rows : List (List Value), (∀ r ∈ rows, FitW pck r) → ∃ l : List Pte, rows = l.map prow
  | [], _ => ⟨[], rfl⟩
  | r :: rows, h => by
    obtain ⟨x, rfl⟩ := wp (h r (by simp))
    obtain ⟨l, rfl⟩ := wps rows fun r hr => h r (by simp [hr])
    exact ⟨x :: l, rfl⟩
theorem do_of {M : HL} {r : List Value} (h : FitN M [.c (.int .i64), .c (.int .u32), .sl [.int .u32, .int .u32, .int .u32, .int .i64, .bool], .sl [.int .u32]] r) : ∃ d : Do, r = drow d ∧ 0 ≤ d.p ∧ (∃ e, Vc.RowsIn M e pck d.yl (d.l.map prow)) ∧ ∃ e, Vc.RowsIn M e [.int .u32] d.yp (d.w.map urow) := by
  have hl := h.length
  match r, hl with
  | [a, b, c, d], _ =>
    simp only [FitN, CellN, CellW, and_true] at h
    obtain ⟨⟨a, rfl, _⟩, ⟨b, rfl, hb⟩, ⟨e1, r1, hR1, hq1⟩, e2, r2, hR2, hq2⟩ := h
    obtain ⟨l, rfl⟩ := wps r1 hq1
    obtain ⟨w, rfl⟩ := wus r2 hq2
    refine ⟨⟨a, b, c, d, l, w⟩, rfl, ?_, ⟨e1, hR1⟩, e2, hR2⟩
    exact (wf_u32 hb).1
theorem dos_of {M : HL} : ∀ rows : List (List Value), (∀ r ∈ rows, FitN M [.c (.int .i64), .c (.int .u32), .sl [.int .u32, .int .u32, .int .u32, .int .i64, .bool], .sl [.int .u32]] r) → ∃ ds : List Do, rows = ds.map drow ∧ DosIn M ds
  | [], _ => ⟨[], rfl, fun _ h => (by cases h)⟩
  | r :: rows, h => by
    obtain ⟨d, rfl, hd⟩ := do_of (h r (by simp))
    obtain ⟨ds, rfl, hds⟩ := dos_of rows fun r hr => h r (by simp [hr])
    exact ⟨d :: ds, rfl, fun x hx => (List.mem_cons.1 hx).elim (fun e => e ▸ hd) (hds x)⟩
theorem walk {w : World} (x : Int) (_ : (Lit.int .i64 x).wf = true) (rows : List (List Value)) (v : Value) (hf : ∀ r ∈ rows, FitN (fun k => w.heap[k]?) [.c (.int .i64), .c (.int .u32), .sl [.int .u32, .int .u32, .int .u32, .int .i64, .bool], .sl [.int .u32]] r)
    (hs : SliceIn w ([CN.c (.int .i64), .c (.int .u32), .sl [.int .u32, .int .u32, .int .u32, .int .i64, .bool], .sl [.int .u32]].map CN.ck) rows v) (a : Int) (_ : (Lit.int .u32 a).wf = true) (_ : World) (hS : ∃ ad, Sents (fun k => w.heap[k]?) ad) :
    Calls Tryd.prog 3 #[.int .i64 x, v, .int .u32 a] w fun e w' => e = .returned (.bool true) ∧ Below w.heap.size w w' := by
  obtain ⟨ad, hS⟩ := hS
  obtain ⟨ds, rfl, hD⟩ := dos_of rows hf
  refine (runF_eq G9_ok mixed at3.1 at3.2 pf3_eq).law1 (args := [.v (.int .i64 x), .slc 0 4 0 ds.length, .v (.int .u32 a)]) (vs := [.int .i64 x, v, .int .u32 a]) hs (fun ρ hd => ?_) fun e => ?_
  · rw [List.length_map, List.length_map] at hd
    exact ⟨rfl, hd, rfl, trivial⟩
  · exact plays_run _ _ ad hS e x ds a hD fun _ _ => rfl
theorem lifted (os : Os) (started : os.Started) (H : Type) (enc : TypeId × Value → H) :
    ReturnsInHanded {} Tryd.checked os 3 .any (fun w args => (Rows.tlbPlaysSpec.pre enc Tryd.prog Tryd.f3 Rows.tlbPlaysRow.domain false w args ∧ laidMetH Tryd.prog Rows.tlbPlaysRow.laid w) ∧ sizedMet enc Tryd.prog Tryd.f3 (OpenSpec.ofChange Rows.tlbPlaysSpec) false w args)
      (Rows.tlbPlaysSpec.post enc Tryd.prog Tryd.f3 false true false false) := by
  refine returnsInHanded_of_change_and (C := Tryd.checked) (X := fun w _ => laidMetH Tryd.prog Rows.tlbPlaysRow.laid w) (fun _ _ _ hh h => h.of_heap hh) own started (by kernel_rfl) Tryd.func3
    (ChangeSpec.witness_shaped (enc := enc) (C := Tryd.checked) (os := os) (X := fun w _ => laidMetH Tryd.prog Rows.tlbPlaysRow.laid w) false (World.doorLaid Tryd.prog 218 os) #[.int .i64 0, .slice none 0 0, .int .u32 0] 8 rfl
      (World.shaped_of_RefB (by kernel_rfl) (by kernel_rfl)) (by kernel_rfl) (by kernel_rfl) (by kernel_rfl)
      (laidMetH_of_parts3 (fuel := 8) (laidMet_of_run' 8 (by kernel_rfl) (by kernel_rfl)) (by kernel_rfl) (by kernel_rfl))) ?_
  intro W base args ds gs before hval0 hW _ _ hL _
  have hval : ∀ (j : Nat) t v, Tryd.f3.params[j]? = some t → args[j]? = some v → Value.okWide Tryd.prog W .any base t v := hval0
  have hW' := hW
  obtain ⟨p, q, hA0, hV, rfl, hfz, hnd⟩ := hW
  have hA : DataW.TrodAll enc Tryd.prog W 0 (fun _ => true) true Tryd.f3.params.toList args.toList ds p := hA0
  rw [Tryd.params3] at hA hval
  obtain ⟨v0, vs0, d0, ds0, p0, q0, hargs, rfl, rfl, h0, r0⟩ := trodAll_cons hA
  obtain ⟨v1, vs1, d1, ds1, p1, q1, rfl, rfl, rfl, h1, r1⟩ := trodAll_cons r0
  obtain ⟨v2, vs2, d2, ds2, p2, q2, rfl, rfl, rfl, h2, r2⟩ := trodAll_cons r1
  obtain ⟨rfl, rfl, rfl⟩ := trodAll_nil r2
  obtain rfl : args = #[v0, v1, v2] := by cases args; simp_all
  obtain ⟨rfl, rfl⟩ := trodVars_none hV
  obtain ⟨a0, rfl, rfl, rfl, w0⟩ := open_int Tryd.underlying3 (hval 0 3 v0 rfl rfl) h0
  have lt1 : ∀ x ∈ p1, x.block < W.heap.size := by
    obtain ⟨m, hm⟩ := h1
    exact DataW.trod_lt m _ _ _ hm
  obtain ⟨l1, fw1, s1⟩ := nests_in (cn := [.c (.int .i64), .c (.int .u32), .sl [.int .u32, .int .u32, .int .u32, .int .i64, .bool], .sl [.int .u32]]) Tryd.underlying22 (by kernel_rfl) (by kernel_rfl) (by kernel_rfl) (by decide) (hval 1 22 v1 rfl rfl) h1
  obtain ⟨a2, rfl, rfl, rfl, w2⟩ := open_int Tryd.underlying23 (hval 2 23 v2 rfl rfl) h2
  clear hA0 hval0
  refine (walk a0 w0 l1 v1 fw1 s1 a2 w2 W (sents_laid hL)).mono fun e W' ⟨he, bel⟩ => ?_
  subst he
  exact ⟨_, rfl, _, _, _, [], _, [], hW', trodAll_mk1 (shut_bool Tryd.underlying4 _), (trodAll_cons_mk (shut_int Tryd.underlying3 w0) (trodAll_cons_mk (Below.trod laidOut (by kernel_rfl) (of_decide_eq_true (by kernel_rfl)) h1 bel lt1) (trodAll_cons_mk (shut_int Tryd.underlying23 w2) trodAll_mk0))), rfl, bel.frame _, fun h => by cases h⟩

theorem over : Rows.TlbPlaysSaid :=
  OpenClaim.holds_of_wide 3 Tryd.f3 rfl rfl rfl rfl rfl rfl rfl ⟨rfl, rfl, rfl, rfl, rfl⟩ rfl rfl rfl rfl rfl (by kernel_rfl) Tryd.func3 (by kernel_rfl)
    (of_decide_eq_true (by kernel_rfl)) (by unfold Func.isWrapper; first | (rw [if_pos (by decide +kernel)]; kernel_rfl) | (rw [if_neg (by decide +kernel)]; exact ⟨rfl, rfl⟩))
    (fun os started H enc _ => lifted os started H enc)

theorem proved : Rows.TlbPlaysCardSaid :=
  Claim7.holds_tied_plain_at .later [] [.sentinel, .sentinel, .sentinel, .sentinel, .sentinel, .sentinel, .sentinel, .sentinel, .sentinel, .sentinel, .sentinel] true (true, "396fbe94cd265bcb299179922bce865bd2ebec4a0f587a6e79f0ea4d2e7bc162") true
    over (fun _ h => by cases h) (by kernel_rfl) (fun _ h => by cases h) tlbPlays_row_tie rfl ⟨rfl, rfl⟩ (by kernel_rfl) rfl
    (fun f fn hf hfn => by
      obtain rfl : f = 3 := Option.some.inj ((show Tryd.prog.funcNamed "corral/corrallaw21.TlbPlays" = some 3 by kernel_rfl).symm.trans hf) |>.symm
      obtain rfl : fn = Tryd.f3 := (Option.some.inj (Tryd.func3.symm.trans hfn)).symm
      exact ⟨by kernel_rfl, fun j t ht => by
        rw [Tryd.params3] at ht
        have hm : t ∈ [3, 22, 23] := by simpa using Array.mem_of_getElem? ht
        have hall : ([3, 22, 23].all fun u => !Tryd.prog.wantsStandIn u) = true := by kernel_rfl
        exact (show Tryd.prog.wantsStandIn t = false by simpa using List.all_eq_true.1 hall t hm)⟩)
    (by kernel_rfl)
#print axioms proved
end tlbPlays
end Go.Proofs.YtdmcdlgcmeledaaDoor
