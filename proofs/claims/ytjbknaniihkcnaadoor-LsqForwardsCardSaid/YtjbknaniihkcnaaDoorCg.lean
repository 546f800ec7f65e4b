/-
  What is proved: LsqForwards answers true for every input (its tied card; no condition beyond the card's own: the listed variables read as laid).
-/
import Derived.Test.YtjbknaniihkcnaaDoorCf
import Derived.Test.YtjbknaniihkcnaaDoorVcy
import Derived.Test.YtjbknaniihkcnaaDoorRows
import Derived.Test.YtjbknaniihkcnaaDoorTie
import Derived.Test.YtjbknaniihkcnaaDoorCards
namespace Go.Proofs.YtjbknaniihkcnaaDoor
open Go Go.Vc
open Go.ChangeShapes Go.WideShapes Go.ChangeAt Go.RowKit
set_option maxRecDepth 100000
set_option linter.unusedSimpArgs false
set_option linter.unusedVariables false
namespace lsqForwards
theorem own : ownKnob Tryd.prog.godebug = none := by kernel_rfl
theorem laidOut : laidOutB Tryd.prog = true := by kernel_rfl
theorem do_of {M : HL} {r : List Value} (h : FitN M [.c (.int .i64), .c (.int .i64), .c (.int .i64), .c .bool, .c (.int .u32), .c (.int .u32), .sl [.int .i64]] r) : ∃ d : Do, r = drow d ∧ d.ad < 4294967296 ∧ d.v < 4294967296 := by
  have hl := h.length
  match r, hl with
  | [a, b, c, d, f, g, y], _ =>
    simp only [FitN, CellN, CellW, and_true] at h
    obtain ⟨⟨a, rfl, _⟩, ⟨b, rfl, _⟩, ⟨c, rfl, _⟩, ⟨d, rfl⟩, ⟨f, rfl, hf⟩, ⟨g, rfl, hg⟩, e, rows, hR, hq⟩ := h
    have h1 := wf_u32 hf
    have h2 := wf_u32 hg
    obtain ⟨f, rfl⟩ : ∃ f' : Nat, f = f' := ⟨f.toNat, by omega⟩
    obtain ⟨g, rfl⟩ : ∃ g' : Nat, g = g' := ⟨g.toNat, by omega⟩
    exact ⟨⟨a, b, c, d, f, g, y⟩, rfl, by show f < _; omega, by show g < _; omega⟩
theorem dos_of {M : HL} : ∀ rows : List (List Value), (∀ r ∈ rows, FitN M [.c (.int .i64), .c (.int .i64), .c (.int .i64), .c .bool, .c (.int .u32), .c (.int .u32), .sl [.int .i64]] r) → ∃ ds : List Do, rows = ds.map drow ∧ ∀ d ∈ ds, d.ad < 4294967296 ∧ d.v < 4294967296
  | [], _ => ⟨[], rfl, fun _ h => (by cases h)⟩
  | r :: rows, h => by
    obtain ⟨d, rfl, hd⟩ := do_of (h r (by simp))
    obtain ⟨ds, rfl, hds⟩ := dos_of rows fun r hr => h r (by simp [hr])
    exact ⟨d :: ds, rfl, fun x hx => (List.mem_cons.1 hx).elim (fun e => e ▸ hd) (hds x)⟩
theorem walk {w : World} (rows : List (List Value)) (v : Value) (hf : ∀ r ∈ rows, FitN (fun k => w.heap[k]?) [.c (.int .i64), .c (.int .i64), .c (.int .i64), .c .bool, .c (.int .u32), .c (.int .u32), .sl [.int .i64]] r)
    (hs : SliceIn w ([CN.c (.int .i64), .c (.int .i64), .c (.int .i64), .c .bool, .c (.int .u32), .c (.int .u32), .sl [.int .i64]].map CN.ck) rows v) (_ : World) :
    Calls Tryd.prog 3 #[v] w fun e w' => e = .returned (.bool true) ∧ Below w.heap.size w w' := by
  obtain ⟨ds, rfl, hD⟩ := dos_of rows hf
  refine (runF_eq GF_ok mixed at3.1 at3.2 pf3_eq).law1 (args := [.slc 0 7 0 ds.length]) (vs := [v]) hs (fun ρ hd => ?_) fun e => ?_
  · rw [List.length_map, List.length_map] at hd
    exact ⟨hd, trivial⟩
  · exact forwards_run _ _ e ds hD fun _ => rfl
theorem lifted (os : Os) (started : os.Started) (H : Type) (enc : TypeId × Value → H) :
    ReturnsInHanded {} Tryd.checked os 3 .any (fun w args => (Rows.lsqForwardsSpec.pre enc Tryd.prog Tryd.f3 Rows.lsqForwardsRow.domain false w args ∧ laidMetH Tryd.prog Rows.lsqForwardsRow.laid w) ∧ sizedMet enc Tryd.prog Tryd.f3 (OpenSpec.ofChange Rows.lsqForwardsSpec) false w args)
      (Rows.lsqForwardsSpec.post enc Tryd.prog Tryd.f3 false true false false) := by
  refine returnsInHanded_of_change_and (C := Tryd.checked) (X := fun w _ => laidMetH Tryd.prog Rows.lsqForwardsRow.laid w) (fun _ _ _ hh h => h.of_heap hh) own started (by kernel_rfl) Tryd.func3
    (ChangeSpec.witness_shaped (enc := enc) (C := Tryd.checked) (os := os) (X := fun w _ => laidMetH Tryd.prog Rows.lsqForwardsRow.laid w) false (World.doorLaid Tryd.prog 28 os) #[.slice none 0 0] 8 rfl
      (World.shaped_of_RefB (by kernel_rfl) (by kernel_rfl)) (by kernel_rfl) (by kernel_rfl) (by kernel_rfl)
      (laidMetH_of_parts3 (fuel := 8) (laidMet_of_run' 8 (by kernel_rfl) (by kernel_rfl)) (by kernel_rfl) (by kernel_rfl))) ?_
  intro W base args ds gs before hval0 hW _ _ hL _
  have hval : ∀ (j : Nat) t v, Tryd.f3.params[j]? = some t → args[j]? = some v → Value.okWide Tryd.prog W .any base t v := hval0
  have hW' := hW
  obtain ⟨p, q, hA0, hV, rfl, hfz, hnd⟩ := hW
  have hA : DataW.TrodAll enc Tryd.prog W 0 (fun _ => true) true Tryd.f3.params.toList args.toList ds p := hA0
  rw [Tryd.params3] at hA hval
  obtain ⟨v0, vs0, d0, ds0, p0, q0, hargs, rfl, rfl, h0, r0⟩ := trodAll_cons hA
  obtain ⟨rfl, rfl, rfl⟩ := trodAll_nil r0
  obtain rfl : args = #[v0] := by cases args; simp_all
  obtain ⟨rfl, rfl⟩ := trodVars_none hV
  have lt0 : ∀ x ∈ p0, x.block < W.heap.size := by
    obtain ⟨m, hm⟩ := h0
    exact DataW.trod_lt m _ _ _ hm
  obtain ⟨l0, fw0, s0⟩ := nests_in (cn := [.c (.int .i64), .c (.int .i64), .c (.int .i64), .c .bool, .c (.int .u32), .c (.int .u32), .sl [.int .i64]]) Tryd.underlying22 (by kernel_rfl) (by kernel_rfl) (by kernel_rfl) (by decide) (hval 0 22 v0 rfl rfl) h0
  clear hA0 hval0
  refine (walk l0 v0 fw0 s0 W).mono fun e W' ⟨he, bel⟩ => ?_
  subst he
  exact ⟨_, rfl, _, _, _, [], _, [], hW', trodAll_mk1 (shut_bool Tryd.underlying4 _), (trodAll_cons_mk (Below.trod laidOut (by kernel_rfl) (of_decide_eq_true (by kernel_rfl)) h0 bel lt0) trodAll_mk0), rfl, bel.frame _, fun h => by cases h⟩

theorem over : Rows.LsqForwardsSaid :=
  OpenClaim.holds_of_wide 3 Tryd.f3 rfl rfl rfl rfl rfl rfl rfl ⟨rfl, rfl, rfl, rfl, rfl⟩ rfl rfl rfl rfl rfl (by kernel_rfl) Tryd.func3 (by kernel_rfl)
    (of_decide_eq_true (by kernel_rfl)) (by unfold Func.isWrapper; first | (rw [if_pos (by decide +kernel)]; kernel_rfl) | (rw [if_neg (by decide +kernel)]; exact ⟨rfl, rfl⟩))
    (fun os started H enc _ => lifted os started H enc)

theorem proved : Rows.LsqForwardsCardSaid :=
  Claim7.holds_tied_plain_at .later [] [.sentinel] true (true, "d1d4b6ad8db1980572abcabddc2859c7c5f811f4905f418789b8cd6c2b943ff1") false
    over (fun _ h => by cases h) (by kernel_rfl) (fun _ h => by cases h) lsqForwards_row_tie rfl ⟨rfl, rfl⟩ (by kernel_rfl) rfl
    (fun f fn hf hfn => by
      obtain rfl : f = 3 := Option.some.inj ((show Tryd.prog.funcNamed "corral/corrallaw25.LsqForwards" = some 3 by kernel_rfl).symm.trans hf) |>.symm
      obtain rfl : fn = Tryd.f3 := (Option.some.inj (Tryd.func3.symm.trans hfn)).symm
      exact ⟨by kernel_rfl, fun j t ht => by
        rw [Tryd.params3] at ht
        have hm : t ∈ [22] := by simpa using Array.mem_of_getElem? ht
        have hall : ([22].all fun u => !Tryd.prog.wantsStandIn u) = true := by kernel_rfl
        exact (show Tryd.prog.wantsStandIn t = false by simpa using List.all_eq_true.1 hall t hm)⟩)
    (by kernel_rfl)
#print axioms proved
end lsqForwards
end Go.Proofs.YtjbknaniihkcnaaDoor
