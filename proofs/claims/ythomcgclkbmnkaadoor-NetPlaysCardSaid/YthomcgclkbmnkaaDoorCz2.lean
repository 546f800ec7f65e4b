/-
  What is proved: NetPlays answers true for every input (its tied card; no condition beyond the card's own: the listed variables read as laid).
-/
import Derived.Test.YthomcgclkbmnkaaDoorCz1
import Derived.Test.YthomcgclkbmnkaaDoorCt
import Derived.Test.YthomcgclkbmnkaaDoorVcy
import Derived.Test.YthomcgclkbmnkaaDoorRows
import Derived.Test.YthomcgclkbmnkaaDoorTie
import Derived.Test.YthomcgclkbmnkaaDoorCards
namespace Go.Proofs.YthomcgclkbmnkaaDoor
open Go Go.Vc
open Go.ChangeShapes Go.WideShapes Go.ChangeAt Go.RowKit
set_option maxRecDepth 100000
set_option linter.unusedSimpArgs false
set_option linter.unusedVariables false
set_option maxHeartbeats 4000000
namespace netPlays
theorem own : ownKnob Tryd.prog.godebug = none := by kernel_rfl
theorem laidOut : laidOutB Tryd.prog = true := by kernel_rfl
theorem msg_of {r : List Value} (h : FitW [.int .i64, .int .i64, .int .i64, .int .i64, .int .u32, .int .u32, .int .u32, .int .u32, .bool, .bool, .bool] r) : ∃ m : Msg, r = mrow m := by
  have hl := h.length
  match r, hl with
  | [a, b, c, d, e, f, g, x, y, z, u], _ =>
    simp only [FitW, CellW, and_true] at h
    obtain ⟨⟨a, rfl, _⟩, ⟨b, rfl, _⟩, ⟨c, rfl, _⟩, ⟨d, rfl, _⟩, ⟨e, rfl, _⟩, ⟨f, rfl, _⟩, ⟨g, rfl, _⟩, ⟨x, rfl, _⟩, ⟨y, rfl⟩, ⟨z, rfl⟩, ⟨u, rfl⟩⟩ := h
    exact ⟨⟨a, b, c, d, e, f, g, x, y, z, u⟩, rfl⟩
theorem msgs_of : ∀ rows : List (List Value), (∀ r ∈ rows, FitW [.int .i64, .int .i64, .int .i64, .int .i64, .int .u32, .int .u32, .int .u32, .int .u32, .bool, .bool, .bool] r) → ∃ l : List Msg, rows = l.map mrow
  | [], _ => ⟨[], rfl⟩
  | r :: rows, h => by
    obtain ⟨x, rfl⟩ := msg_of (h r (by simp))
    obtain ⟨l, rfl⟩ := msgs_of rows fun r hr => h r (by simp [hr])
    exact ⟨x :: l, rfl⟩
theorem do_of {M : HL} {r : List Value} (h : FitN M [.c (.int .i64), .c (.int .i64), .c .bool, .sl [.int .i64, .int .i64, .int .i64, .int .i64, .int .u32, .int .u32, .int .u32, .int .u32, .bool, .bool, .bool]] r) : ∃ d : Do, r = drow d ∧ ∃ e, Vc.RowsIn M e mck d.y (d.l.map mrow) := by
  have hl := h.length
  match r, hl with
  | [a, b, c, y], _ =>
    simp only [FitN, CellN, CellW, and_true] at h
    obtain ⟨⟨a, rfl, _⟩, ⟨b, rfl, _⟩, ⟨c, rfl⟩, e, rows, hR, hq⟩ := h
    obtain ⟨l, rfl⟩ := msgs_of rows hq
    exact ⟨⟨a, b, c, y, l⟩, rfl, e, hR⟩
theorem dos_of {M : HL} : ∀ rows : List (List Value), (∀ r ∈ rows, FitN M [.c (.int .i64), .c (.int .i64), .c .bool, .sl [.int .i64, .int .i64, .int .i64, .int .i64, .int .u32, .int .u32, .int .u32, .int .u32, .bool, .bool, .bool]] r) → ∃ ds : List Do, rows = ds.map drow ∧ DosIn M ds
  | [], _ => ⟨[], rfl, fun _ h => (by cases h)⟩
  | r :: rows, h => by
    obtain ⟨d, rfl, hd⟩ := do_of (h r (by simp))
    obtain ⟨ds, rfl, hds⟩ := dos_of rows fun r hr => h r (by simp [hr])
    exact ⟨d :: ds, rfl, fun x hx => (List.mem_cons.1 hx).elim (fun e => e ▸ hd) (hds x)⟩
theorem walk {w : World} (x : Int) (_ : (Lit.int .i64 x).wf = true) (y : Int) (_ : (Lit.int .i64 y).wf = true) (rows : List (List Value)) (v : Value) (hf : ∀ r ∈ rows, FitN (fun k => w.heap[k]?) [.c (.int .i64), .c (.int .i64), .c .bool, .sl [.int .i64, .int .i64, .int .i64, .int .i64, .int .u32, .int .u32, .int .u32, .int .u32, .bool, .bool, .bool]] r)
    (hs : SliceIn w (([.c (.int .i64), .c (.int .i64), .c .bool, .sl [.int .i64, .int .i64, .int .i64, .int .i64, .int .u32, .int .u32, .int .u32, .int .u32, .bool, .bool, .bool]] : List CN).map CN.ck) rows v) (a : Int) (_ : (Lit.int .i64 a).wf = true) (b : Int) (_ : (Lit.int .i64 b).wf = true) (c : Int) (_ : (Lit.int .i64 c).wf = true) (d : Int) (_ : (Lit.int .i64 d).wf = true) (_ : World) (hS : ∃ ad, Sents (fun k => w.heap[k]?) ad) :
    Calls Tryd.prog 6 #[.int .i64 x, .int .i64 y, v, .int .i64 a, .int .i64 b, .int .i64 c, .int .i64 d] w fun e w' => e = .returned (.bool true) ∧ Below w.heap.size w w' := by
  obtain ⟨ad, hS⟩ := hS
  obtain ⟨ds, rfl, hD⟩ := dos_of rows hf
  refine (runF_eq (GP_ok each_ok) mixed at6.1 at6.2 pf6_eq).law1 (args := [.v (.int .i64 x), .v (.int .i64 y), .slc 0 4 0 ds.length, .v (.int .i64 a), .v (.int .i64 b), .v (.int .i64 c), .v (.int .i64 d)]) (vs := [.int .i64 x, .int .i64 y, v, .int .i64 a, .int .i64 b, .int .i64 c, .int .i64 d]) hs (fun ρ hd => ?_) fun e => ?_
  · rw [List.length_map, List.length_map] at hd
    exact ⟨rfl, rfl, hd, rfl, rfl, rfl, rfl, trivial⟩
  · exact plays_run _ _ ad hS e x y ds hD a b c d fun _ _ => rfl
theorem lifted (os : Os) (started : os.Started) (H : Type) (enc : TypeId × Value → H) :
    ReturnsInHanded {} Tryd.checked os 6 .any (fun w args => (Rows.netPlaysSpec.pre enc Tryd.prog Tryd.f6 Rows.netPlaysRow.domain false w args ∧ laidMetH Tryd.prog Rows.netPlaysRow.laid w) ∧ sizedMet enc Tryd.prog Tryd.f6 (OpenSpec.ofChange Rows.netPlaysSpec) false w args)
      (Rows.netPlaysSpec.post enc Tryd.prog Tryd.f6 false true false false) := by
  refine returnsInHanded_of_change_and (C := Tryd.checked) (X := fun w _ => laidMetH Tryd.prog Rows.netPlaysRow.laid w) (fun _ _ _ hh h => h.of_heap hh) own started (by kernel_rfl) Tryd.func6
    (ChangeSpec.witness_shaped (enc := enc) (C := Tryd.checked) (os := os) (X := fun w _ => laidMetH Tryd.prog Rows.netPlaysRow.laid w) false (World.doorLaid Tryd.prog 218 os) #[.int .i64 0, .int .i64 0, .slice none 0 0, .int .i64 0, .int .i64 0, .int .i64 0, .int .i64 0] 8 rfl
      (World.shaped_of_RefB (by kernel_rfl) (by kernel_rfl)) (by kernel_rfl) (by kernel_rfl) (by kernel_rfl)
      (laidMetH_of_parts3 (fuel := 8) (laidMet_of_run' 8 (by kernel_rfl) (by kernel_rfl)) (by kernel_rfl) (by kernel_rfl))) ?_
  intro W base args ds gs before hval0 hW _ _ hL _
  have hval : ∀ (j : Nat) t v, Tryd.f6.params[j]? = some t → args[j]? = some v → Value.okWide Tryd.prog W .any base t v := hval0
  have hW' := hW
  obtain ⟨p, q, hA0, hV, rfl, hfz, hnd⟩ := hW
  have hA : DataW.TrodAll enc Tryd.prog W 0 (fun _ => true) true Tryd.f6.params.toList args.toList ds p := hA0
  rw [Tryd.params6] at hA hval
  obtain ⟨v0, vs0, d0, ds0, p0, q0, hargs, rfl, rfl, h0, r0⟩ := trodAll_cons hA
  obtain ⟨v1, vs1, d1, ds1, p1, q1, rfl, rfl, rfl, h1, r1⟩ := trodAll_cons r0
  obtain ⟨v2, vs2, d2, ds2, p2, q2, rfl, rfl, rfl, h2, r2⟩ := trodAll_cons r1
  obtain ⟨v3, vs3, d3, ds3, p3, q3, rfl, rfl, rfl, h3, r3⟩ := trodAll_cons r2
  obtain ⟨v4, vs4, d4, ds4, p4, q4, rfl, rfl, rfl, h4, r4⟩ := trodAll_cons r3
  obtain ⟨v5, vs5, d5, ds5, p5, q5, rfl, rfl, rfl, h5, r5⟩ := trodAll_cons r4
  obtain ⟨v6, vs6, d6, ds6, p6, q6, rfl, rfl, rfl, h6, r6⟩ := trodAll_cons r5
  obtain ⟨rfl, rfl, rfl⟩ := trodAll_nil r6
  obtain rfl : args = #[v0, v1, v2, v3, v4, v5, v6] := by cases args; simp_all
  obtain ⟨rfl, rfl⟩ := trodVars_none hV
  obtain ⟨a0, rfl, rfl, rfl, w0⟩ := open_int Tryd.underlying3 (hval 0 3 v0 rfl rfl) h0
  obtain ⟨a1, rfl, rfl, rfl, w1⟩ := open_int Tryd.underlying3 (hval 1 3 v1 rfl rfl) h1
  have lt2 : ∀ x ∈ p2, x.block < W.heap.size := by
    obtain ⟨m, hm⟩ := h2
    exact DataW.trod_lt m _ _ _ hm
  obtain ⟨l2, fw2, s2⟩ := nests_in (cn := [.c (.int .i64), .c (.int .i64), .c .bool, .sl [.int .i64, .int .i64, .int .i64, .int .i64, .int .u32, .int .u32, .int .u32, .int .u32, .bool, .bool, .bool]]) Tryd.underlying55 (by kernel_rfl) (by kernel_rfl) (by kernel_rfl) (by decide) (hval 2 55 v2 rfl rfl) h2
  obtain ⟨a3, rfl, rfl, rfl, w3⟩ := open_int Tryd.underlying3 (hval 3 3 v3 rfl rfl) h3
  obtain ⟨a4, rfl, rfl, rfl, w4⟩ := open_int Tryd.underlying3 (hval 4 3 v4 rfl rfl) h4
  obtain ⟨a5, rfl, rfl, rfl, w5⟩ := open_int Tryd.underlying3 (hval 5 3 v5 rfl rfl) h5
  obtain ⟨a6, rfl, rfl, rfl, w6⟩ := open_int Tryd.underlying3 (hval 6 3 v6 rfl rfl) h6
  clear hA0 hval0
  refine (walk a0 w0 a1 w1 l2 v2 fw2 s2 a3 w3 a4 w4 a5 w5 a6 w6 W (sents_laid hL)).mono fun e W' ⟨he, bel⟩ => ?_
  subst he
  exact ⟨_, rfl, _, _, _, [], _, [], hW', trodAll_mk1 (shut_bool Tryd.underlying4 _), (trodAll_cons_mk (shut_int Tryd.underlying3 w0) (trodAll_cons_mk (shut_int Tryd.underlying3 w1) (trodAll_cons_mk (Below.trod laidOut (by kernel_rfl) (of_decide_eq_true (by kernel_rfl)) h2 bel lt2) (trodAll_cons_mk (shut_int Tryd.underlying3 w3) (trodAll_cons_mk (shut_int Tryd.underlying3 w4) (trodAll_cons_mk (shut_int Tryd.underlying3 w5) (trodAll_cons_mk (shut_int Tryd.underlying3 w6) trodAll_mk0))))))), rfl, bel.frame _, fun h => by cases h⟩

theorem over : Rows.NetPlaysSaid :=
  OpenClaim.holds_of_wide 6 Tryd.f6 rfl rfl rfl rfl rfl rfl rfl ⟨rfl, rfl, rfl, rfl, rfl⟩ rfl rfl rfl rfl rfl (by kernel_rfl) Tryd.func6 (by kernel_rfl)
    (of_decide_eq_true (by kernel_rfl)) (by unfold Func.isWrapper; first | (rw [if_pos (by decide +kernel)]; kernel_rfl) | (rw [if_neg (by decide +kernel)]; exact ⟨rfl, rfl⟩))
    (fun os started H enc _ => lifted os started H enc)

theorem proved : Rows.NetPlaysCardSaid :=
  Claim7.holds_tied_plain_at .later [] [.sentinel, .sentinel, .sentinel, .sentinel, .sentinel, .sentinel, .sentinel, .sentinel, .sentinel, .sentinel, .sentinel] true (true, "78c997dc9c2d774bdc1dde038d166c71c1943ee1d672e33e4e55e7597608afe6") true
    over (fun _ h => by cases h) (by kernel_rfl) (fun _ h => by cases h) netPlays_row_tie rfl ⟨rfl, rfl⟩ (by kernel_rfl) rfl
    (fun f fn hf hfn => by
      obtain rfl : f = 6 := Option.some.inj ((show Tryd.prog.funcNamed "corral/corrallaw16.NetPlays" = some 6 by kernel_rfl).symm.trans hf) |>.symm
      obtain rfl : fn = Tryd.f6 := (Option.some.inj (Tryd.func6.symm.trans hfn)).symm
      exact ⟨by kernel_rfl, fun j t ht => by
        rw [Tryd.params6] at ht
        have hm : t ∈ [3, 3, 55, 3, 3, 3, 3] := by simpa using Array.mem_of_getElem? ht
        have hall : ([3, 3, 55, 3, 3, 3, 3].all fun u => !Tryd.prog.wantsStandIn u) = true := by kernel_rfl
        exact (show Tryd.prog.wantsStandIn t = false by simpa using List.all_eq_true.1 hall t hm)⟩)
    (by kernel_rfl)
#print axioms proved
end netPlays
end Go.Proofs.YthomcgclkbmnkaaDoor
