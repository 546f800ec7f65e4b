/-
  What is proved: MemPlays answers true for every input (its tied card; no condition beyond the card's own: the listed variables read as laid).
-/
import Derived.Test.YtncninjgfllcdaaDoorCw
import Derived.Test.YtncninjgfllcdaaDoorCt
import Derived.Test.YtncninjgfllcdaaDoorVcy
import Derived.Test.YtncninjgfllcdaaDoorRows
import Derived.Test.YtncninjgfllcdaaDoorTie
import Derived.Test.YtncninjgfllcdaaDoorCards
namespace Go.Proofs.YtncninjgfllcdaaDoor
open Go Go.Vc
open Go.ChangeShapes Go.WideShapes Go.ChangeAt Go.RowKit
set_option maxRecDepth 100000
set_option linter.unusedSimpArgs false
set_option linter.unusedVariables false
namespace memPlays
theorem own : ownKnob Tryd.prog.godebug = none := by kernel_rfl
theorem laidOut : laidOutB Tryd.prog = true := by kernel_rfl
theorem do_of {r : List Value} (h : FitW [.int .i64, .int .i64, .int .i64, .int .u32, .int .u32, .int .u32, .int .u32, .int .u32, .int .u32] r) : ∃ d : Do, r = drow d ∧ d.OK := by
  have hl := h.length
  match r, hl with
  | [a, b, c, d, e, f, g, x, y], _ =>
    simp only [FitW, CellW, and_true] at h
    obtain ⟨⟨a, rfl, _⟩, ⟨b, rfl, _⟩, ⟨c, rfl, _⟩, ⟨d, rfl, hd⟩, ⟨e, rfl, he⟩, ⟨f, rfl, hf⟩, ⟨g, rfl, hg⟩, ⟨x, rfl, hx⟩, ⟨y, rfl, hy⟩⟩ := h
    have h1 := wf_u32 hd
    have h2 := wf_u32 he
    have h3 := wf_u32 hf
    have h4 := wf_u32 hg
    have h5 := wf_u32 hx
    have h6 := wf_u32 hy
    refine ⟨⟨a, b, c, d.toNat, e.toNat, fun k => match k with | 0 => f.toNat | 1 => g.toNat | 2 => x.toNat | _ => y.toNat⟩, ?_, by show d.toNat < _; omega, by show e.toNat < _; omega, fun k => ?_⟩
    · show _ = [Value.int .i64 a, .int .i64 b, .int .i64 c, .int .u32 (d.toNat : Int), .int .u32 (e.toNat : Int), .int .u32 (f.toNat : Int), .int .u32 (g.toNat : Int), .int .u32 (x.toNat : Int), .int .u32 (y.toNat : Int)]
      rw [Int.toNat_of_nonneg h1.1, Int.toNat_of_nonneg h2.1, Int.toNat_of_nonneg h3.1, Int.toNat_of_nonneg h4.1, Int.toNat_of_nonneg h5.1, Int.toNat_of_nonneg h6.1]
    · show (match k with | 0 => f.toNat | 1 => g.toNat | 2 => x.toNat | _ => y.toNat) < _
      split <;> omega
theorem dos_of : ∀ rows : List (List Value), (∀ r ∈ rows, FitW [.int .i64, .int .i64, .int .i64, .int .u32, .int .u32, .int .u32, .int .u32, .int .u32, .int .u32] r) → ∃ ds : List Do, rows = ds.map drow ∧ ∀ d ∈ ds, d.OK
  | [], _ => ⟨[], rfl, fun _ h => (by cases h)⟩
  | r :: rows, h => by
    obtain ⟨d, rfl, hd⟩ := do_of (h r (by simp))
    obtain ⟨ds, rfl, hds⟩ := dos_of rows fun r hr => h r (by simp [hr])
    exact ⟨d :: ds, rfl, fun x hx => (List.mem_cons.1 hx).elim (fun e => e ▸ hd) (hds x)⟩
theorem walk {w : World} (x : Int) (_ : (Lit.int .i64 x).wf = true) (ws : List Nat) (v1 : Value) (hws : ∀ i, ws.getD i 0 < 4294967296) (hs1 : SliceIn w [.int .u32] (ws.map wrow) v1) (rows : List (List Value)) (v : Value) (hf : ∀ r ∈ rows, FitW [.int .i64, .int .i64, .int .i64, .int .u32, .int .u32, .int .u32, .int .u32, .int .u32, .int .u32] r)
    (hs : SliceIn w [.int .i64, .int .i64, .int .i64, .int .u32, .int .u32, .int .u32, .int .u32, .int .u32, .int .u32] rows v) (a : Int) (ha : (Lit.int .u32 a).wf = true) (sz : Int) (_ : (Lit.int .i64 sz).wf = true) (li : Int) (_ : (Lit.int .i64 li).wf = true) (_ : World) (hS : ∃ ad, Sents (fun k => w.heap[k]?) ad) :
    Calls Tryd.prog 6 #[.int .i64 x, v1, v, .int .u32 a, .int .i64 sz, .int .i64 li] w fun e w' => e = .returned (.bool true) ∧ Below w.heap.size w w' := by
  obtain ⟨ad, hS⟩ := hS
  obtain ⟨ds, rfl, hD⟩ := dos_of rows hf
  have h2 := wf_u32 ha
  obtain ⟨q, rfl⟩ : ∃ q : Nat, a = q := ⟨a.toNat, by omega⟩
  refine (runF_eq GL_ok mixed at6.1 at6.2 pf6_eq).law2 (args := [.v (.int .i64 x), .slc 0 1 0 ws.length, .slc 1 9 0 ds.length, .v (.int .u32 (q : Nat)), .v (.int .i64 sz), .v (.int .i64 li)]) (vs := [.int .i64 x, v1, v, .int .u32 (q : Nat), .int .i64 sz, .int .i64 li]) hs1 hs (fun ρ hd1 hd => ?_) fun e e2 => ?_
  · rw [List.length_map] at hd hd1
    exact ⟨rfl, hd1, hd, rfl, rfl, rfl, trivial⟩
  · exact plays_run _ _ ad hS e e2 x ws ds q sz li (by omega) hws hD fun _ _ => rfl
theorem lifted (os : Os) (started : os.Started) (H : Type) (enc : TypeId × Value → H) :
    ReturnsInHanded {} Tryd.checked os 6 .any (fun w args => (Rows.memPlaysSpec.pre enc Tryd.prog Tryd.f6 Rows.memPlaysRow.domain false w args ∧ laidMetH Tryd.prog Rows.memPlaysRow.laid w) ∧ sizedMet enc Tryd.prog Tryd.f6 (OpenSpec.ofChange Rows.memPlaysSpec) false w args)
      (Rows.memPlaysSpec.post enc Tryd.prog Tryd.f6 false true false false) := by
  refine returnsInHanded_of_change_and (C := Tryd.checked) (X := fun w _ => laidMetH Tryd.prog Rows.memPlaysRow.laid w) (fun _ _ _ hh h => h.of_heap hh) own started (by kernel_rfl) Tryd.func6
    (ChangeSpec.witness_shaped (enc := enc) (C := Tryd.checked) (os := os) (X := fun w _ => laidMetH Tryd.prog Rows.memPlaysRow.laid w) false (World.doorLaid Tryd.prog 218 os) #[.int .i64 0, .slice none 0 0, .slice none 0 0, .int .u32 0, .int .i64 0, .int .i64 0] 8 rfl
      (World.shaped_of_RefB (by kernel_rfl) (by kernel_rfl)) (by kernel_rfl) (by kernel_rfl) (by kernel_rfl)
      (laidMetH_of_parts3 (fuel := 8) (laidMet_of_run' 8 (by kernel_rfl) (by kernel_rfl)) (by kernel_rfl) (by kernel_rfl))) ?_
  intro W base args ds gs before hval0 hW _ _ hL _
  have hval : ∀ (j : Nat) t v, Tryd.f6.params[j]? = some t → args[j]? = some v → Value.okWide Tryd.prog W .any base t v := hval0
  have hW' := hW
  obtain ⟨p, q, hA0, hV, rfl, hfz, hnd⟩ := hW
  have hA : DataW.TrodAll enc Tryd.prog W 0 (fun _ => true) true Tryd.f6.params.toList args.toList ds p := hA0
  rw [Tryd.params6] at hA hval
  obtain ⟨v0, vs0, d0, ds0, p0, q0, hargs, rfl, rfl, h0, r0⟩ := trodAll_cons hA
  obtain ⟨v1, vs1, d1, ds1, p1, q1, rfl, rfl, rfl, h1, r1⟩ := trodAll_cons r0
  obtain ⟨v2, vs2, d2, ds2, p2, q2, rfl, rfl, rfl, h2, r2⟩ := trodAll_cons r1
  obtain ⟨v3, vs3, d3, ds3, p3, q3, rfl, rfl, rfl, h3, r3⟩ := trodAll_cons r2
  obtain ⟨v4, vs4, d4, ds4, p4, q4, rfl, rfl, rfl, h4, r4⟩ := trodAll_cons r3
  obtain ⟨v5, vs5, d5, ds5, p5, q5, rfl, rfl, rfl, h5, r5⟩ := trodAll_cons r4
  obtain ⟨rfl, rfl, rfl⟩ := trodAll_nil r5
  obtain rfl : args = #[v0, v1, v2, v3, v4, v5] := by cases args; simp_all
  obtain ⟨rfl, rfl⟩ := trodVars_none hV
  obtain ⟨a0, rfl, rfl, rfl, w0⟩ := open_int Tryd.underlying3 (hval 0 3 v0 rfl rfl) h0
  obtain ⟨l1, b1, s1⟩ := u32s_in Tryd.underlying48 Tryd.underlying32 (by kernel_rfl) (hval 1 48 v1 rfl rfl) h1
  have lt1 : ∀ x ∈ p1, x.block < W.heap.size := by
    obtain ⟨m, hm⟩ := h1
    exact DataW.trod_lt m _ _ _ hm
  obtain ⟨l2, fw2, s2⟩ := rows_in (ck := [.int .i64, .int .i64, .int .i64, .int .u32, .int .u32, .int .u32, .int .u32, .int .u32, .int .u32]) Tryd.underlying49 (by kernel_rfl) (by kernel_rfl) (by kernel_rfl) (by decide) (hval 2 49 v2 rfl rfl) h2
  have lt2 : ∀ x ∈ p2, x.block < W.heap.size := by
    obtain ⟨m, hm⟩ := h2
    exact DataW.trod_lt m _ _ _ hm
  obtain ⟨a3, rfl, rfl, rfl, w3⟩ := open_int Tryd.underlying32 (hval 3 32 v3 rfl rfl) h3
  obtain ⟨a4, rfl, rfl, rfl, w4⟩ := open_int Tryd.underlying3 (hval 4 3 v4 rfl rfl) h4
  obtain ⟨a5, rfl, rfl, rfl, w5⟩ := open_int Tryd.underlying3 (hval 5 3 v5 rfl rfl) h5
  clear hA0 hval0
  refine (walk a0 w0 l1 v1 b1 s1 l2 v2 fw2 s2 a3 w3 a4 w4 a5 w5 W (sents_laid hL)).mono fun e W' ⟨he, bel⟩ => ?_
  subst he
  exact ⟨_, rfl, _, _, _, [], _, [], hW', trodAll_mk1 (shut_bool Tryd.underlying4 _), (trodAll_cons_mk (shut_int Tryd.underlying3 w0) (trodAll_cons_mk (Below.trod laidOut (by kernel_rfl) (of_decide_eq_true (by kernel_rfl)) h1 bel lt1) (trodAll_cons_mk (Below.trod laidOut (by kernel_rfl) (of_decide_eq_true (by kernel_rfl)) h2 bel lt2) (trodAll_cons_mk (shut_int Tryd.underlying32 w3) (trodAll_cons_mk (shut_int Tryd.underlying3 w4) (trodAll_cons_mk (shut_int Tryd.underlying3 w5) trodAll_mk0)))))), rfl, bel.frame _, fun h => by cases h⟩

theorem over : Rows.MemPlaysSaid :=
  OpenClaim.holds_of_wide 6 Tryd.f6 rfl rfl rfl rfl rfl rfl rfl ⟨rfl, rfl, rfl, rfl, rfl⟩ rfl rfl rfl rfl rfl (by kernel_rfl) Tryd.func6 (by kernel_rfl)
    (of_decide_eq_true (by kernel_rfl)) (by unfold Func.isWrapper; first | (rw [if_pos (by decide +kernel)]; kernel_rfl) | (rw [if_neg (by decide +kernel)]; exact ⟨rfl, rfl⟩))
    (fun os started H enc _ => lifted os started H enc)

theorem proved : Rows.MemPlaysCardSaid :=
  Claim7.holds_tied_plain_at .later [] [.sentinel, .sentinel, .sentinel, .sentinel, .sentinel, .sentinel, .sentinel, .sentinel, .sentinel, .sentinel, .sentinel] true (true, "10d9e2c4d3d968b17436e6df4c02c572f6f3332f0e9d3ef507410a3a0f930e26") true
    over (fun _ h => by cases h) (by kernel_rfl) (fun _ h => by cases h) memPlays_row_tie rfl ⟨rfl, rfl⟩ (by kernel_rfl) rfl
    (fun f fn hf hfn => by
      obtain rfl : f = 6 := Option.some.inj ((show Tryd.prog.funcNamed "corral/corrallaw7.MemPlays" = some 6 by kernel_rfl).symm.trans hf) |>.symm
      obtain rfl : fn = Tryd.f6 := (Option.some.inj (Tryd.func6.symm.trans hfn)).symm
      exact ⟨by kernel_rfl, fun j t ht => by
        rw [Tryd.params6] at ht
        have hm : t ∈ [3, 48, 49, 32, 3, 3] := by simpa using Array.mem_of_getElem? ht
        have hall : ([3, 48, 49, 32, 3, 3].all fun u => !Tryd.prog.wantsStandIn u) = true := by kernel_rfl
        exact (show Tryd.prog.wantsStandIn t = false by simpa using List.all_eq_true.1 hall t hm)⟩)
    (by kernel_rfl)
#print axioms proved
end memPlays
end Go.Proofs.YtncninjgfllcdaaDoor
