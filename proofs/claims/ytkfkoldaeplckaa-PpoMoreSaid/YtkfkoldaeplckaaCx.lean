/-
  What is proved: PpoMore answers true for every input (no condition).
-/
import Derived.Test.YtkfkoldaeplckaaCw
import Derived.Test.YtkfkoldaeplckaaVcy
import Derived.Test.YtkfkoldaeplckaaRows
namespace Go.Proofs.Ytkfkoldaeplckaa
open Go Go.Vc
open Go.ChangeShapes Go.WideShapes Go.ChangeAt Go.RowKit
set_option maxRecDepth 100000
set_option linter.unusedSimpArgs false
set_option linter.unusedVariables false
set_option maxHeartbeats 4000000
namespace ppoMore
theorem own : ownKnob Try.prog.godebug = none := by kernel_rfl
theorem laidOut : laidOutB Try.prog = true := by kernel_rfl
theorem wi {r : List Value} (h : FitW [.int .i64] r) : ∃ x : Int, r = irow x := by
  cases r with
  | nil => simp [FitW] at h
  | cons a r =>
    cases r with
    | nil =>
      simp only [FitW, CellW, and_true] at h
      obtain ⟨x, rfl, _⟩ := h
      exact ⟨x, rfl⟩
    | cons b r => simp [FitW] at h
theorem wis : ∀ rows : List (List Value), (∀ r ∈ rows, FitW [.int .i64] r) → ∃ l : List Int, rows = l.map irow
  | [], _ => ⟨[], rfl⟩
  | r :: rows, h => by
    obtain ⟨x, rfl⟩ := wi (h r (by simp))
    obtain ⟨l, rfl⟩ := wis rows fun r hr => h r (by simp [hr])
    exact ⟨x :: l, rfl⟩
theorem op_of {M : HL} {r : List Value} (h : FitN M [.c (.int .i64), .c (.int .i64), .c (.int .u32), .c (.int .u32), .c (.int .u32), .c .bool, .c .bool, .c .bool, .c (.int .i64), .c (.int .i64), .sl [.int .i64], .sl [.int .i64], .sl [.int .i64]] r) : ∃ x : Op, r = orow x ∧ OIn M x ∧ 0 ≤ x.ad ∧ x.ad < 4294967296 := by
  have hl := h.length
  match r, hl with
  | [a, b, c, d, e, f, g, p, q, s, x, y, z], _ =>
    simp only [FitN, CellN, CellW, and_true] at h
    obtain ⟨⟨a, rfl, _⟩, ⟨b, rfl, _⟩, ⟨c, rfl, hc⟩, ⟨d, rfl, _⟩, ⟨e, rfl, _⟩, ⟨f, rfl⟩, ⟨g, rfl⟩, ⟨p, rfl⟩, ⟨q, rfl, _⟩, ⟨s, rfl, _⟩, ⟨e1, rows1, hR1, hq1⟩, ⟨e2, rows2, hR2, hq2⟩, ⟨e3, rows3, hR3, hq3⟩⟩ := h
    obtain ⟨l1, rfl⟩ := wis rows1 hq1
    obtain ⟨l2, rfl⟩ := wis rows2 hq2
    obtain ⟨l3, rfl⟩ := wis rows3 hq3
    exact ⟨⟨a, b, c, d, e, f, g, p, q, s, x, y, z, l1, l2, l3⟩, rfl, ⟨⟨e1, hR1⟩, ⟨e2, hR2⟩, ⟨e3, hR3⟩⟩, (wf_u32 hc).1, (wf_u32 hc).2⟩
theorem ops_of {M : HL} : ∀ rows : List (List Value), (∀ r ∈ rows, FitN M [.c (.int .i64), .c (.int .i64), .c (.int .u32), .c (.int .u32), .c (.int .u32), .c .bool, .c .bool, .c .bool, .c (.int .i64), .c (.int .i64), .sl [.int .i64], .sl [.int .i64], .sl [.int .i64]] r) → ∃ l : List Op, rows = l.map orow ∧ ∀ x ∈ l, OIn M x ∧ 0 ≤ x.ad ∧ x.ad < 4294967296
  | [], _ => ⟨[], rfl, fun _ h => (by cases h)⟩
  | r :: rows, h => by
    obtain ⟨d, rfl, hd⟩ := op_of (h r (by simp))
    obtain ⟨ds, rfl, hds⟩ := ops_of rows fun r hr => h r (by simp [hr])
    exact ⟨d :: ds, rfl, fun x hx => (List.mem_cons.1 hx).elim (fun e => e ▸ hd) (hds x)⟩
theorem cap_small {P : Program} {w : World} {b : Nat} {t e : TypeId} {v : Value} (ht : P.underlying t = some (.slice e)) (hv : Value.okWide P w .any b t v) (a : Option Addr) (l c : Nat) (h : v = .slice a l c) : l ≤ 9223372036854775807 := by
  subst h
  simp only [Value.okWide, ht, Cell.okWide, Cell.ok] at hv
  cases a with
  | none =>
    cases l with
    | zero => omega
    | succ l => cases c <;> exact hv.elim
  | some a =>
    have h1 := hv.1
    have h2 : (c : Int) ≤ 9223372036854775807 := hv.2.1
    omega
theorem rows_small {w : World} {ck : List CK} {rows : List (List Value)} {v : Value} (hs : SliceIn w ck rows v) (h : ∀ (a : Option Addr) (l c : Nat), v = .slice a l c → l ≤ 9223372036854775807) : rows.length ≤ 9223372036854775807 := by
  obtain ⟨x, e, hs⟩ := hs
  have h1 := (hs (fun _ => none) 0).2
  simp only [Den] at h1
  obtain ⟨a, c, h1, _⟩ := h1
  exact h _ _ _ h1
theorem walk {w : World} (rows : List (List Value)) (v : Value) (hf : ∀ r ∈ rows, FitN (fun k => w.heap[k]?) [.c (.int .i64), .c (.int .i64), .c (.int .u32), .c (.int .u32), .c (.int .u32), .c .bool, .c .bool, .c .bool, .c (.int .i64), .c (.int .i64), .sl [.int .i64], .sl [.int .i64], .sl [.int .i64]] r)
    (hs : SliceIn w ([CN.c (.int .i64), .c (.int .i64), .c (.int .u32), .c (.int .u32), .c (.int .u32), .c .bool, .c .bool, .c .bool, .c (.int .i64), .c (.int .i64), .sl [.int .i64], .sl [.int .i64], .sl [.int .i64]].map CN.ck) rows v) (hc : ∀ (a : Option Addr) (l c : Nat), v = .slice a l c → l ≤ 9223372036854775807) (x : Int) (_ : (Lit.int .i64 x).wf = true) (y : Int) (_ : (Lit.int .i64 y).wf = true) (_ : World) :
    Calls Try.prog 3 #[v, .int .i64 x, .int .i64 y] w fun e w' => e = .returned (.bool true) ∧ Below w.heap.size w w' := by
  have hr := rows_small hs hc
  obtain ⟨l, rfl, hl⟩ := ops_of rows hf
  rw [List.length_map] at hr
  refine (runF_eq GW_ok mixed at3.1 at3.2 pf3_eq).law1 (args := [.slc 0 13 0 l.length, .v (.int .i64 x), .v (.int .i64 y)]) (vs := [v, .int .i64 x, .int .i64 y]) hs (fun ρ hd => ?_) fun e => ?_
  · rw [List.length_map, List.length_map] at hd
    exact ⟨hd, rfl, rfl, trivial⟩
  · exact more_run _ _ e l x y hr (fun x hx => (hl x hx).1) (fun x hx => (hl x hx).2) fun _ _ _ => rfl
theorem lifted (os : Os) (started : os.Started) (H : Type) (enc : TypeId × Value → H) :
    ReturnsInHanded {} Try.checked os 3 .any (Rows.ppoMoreSpec.pre6 enc Try.prog Try.f3 Rows.ppoMoreRow.domain false) (Rows.ppoMoreSpec.post enc Try.prog Try.f3 false true false false) := by
  refine returnsInHanded_of_change (C := Try.checked) own started (by kernel_rfl) Try.func3
    (ChangeSpec.witness6 (enc := enc) (C := Try.checked) false ⟨#[], #[.slice none 0 0, .int .i64 0, .int .i64 0], []⟩ 8 (by kernel_rfl) (by kernel_rfl) (by kernel_rfl) (by kernel_rfl)) ?_
  intro W base args ds gs before hval0 hW hcnd _
  have hval : ∀ (j : Nat) t v, Try.f3.params[j]? = some t → args[j]? = some v → Value.okWide Try.prog W .any base t v := hval0
  have hW' := hW
  obtain ⟨p, q, hA0, hV, rfl, hfz, hnd⟩ := hW
  have hA : DataW.TrodAll enc Try.prog W 0 (fun _ => true) true Try.f3.params.toList args.toList ds p := hA0
  rw [Try.params3] at hA hval
  obtain ⟨v0, vs0, d0, ds0, p0, q0, hargs, rfl, rfl, h0, r0⟩ := trodAll_cons hA
  obtain ⟨v1, vs1, d1, ds1, p1, q1, rfl, rfl, rfl, h1, r1⟩ := trodAll_cons r0
  obtain ⟨v2, vs2, d2, ds2, p2, q2, rfl, rfl, rfl, h2, r2⟩ := trodAll_cons r1
  obtain ⟨rfl, rfl, rfl⟩ := trodAll_nil r2
  obtain rfl : args = #[v0, v1, v2] := by cases args; simp_all
  obtain ⟨rfl, rfl⟩ := trodVars_none hV
  have lt0 : ∀ x ∈ p0, x.block < W.heap.size := by
    obtain ⟨m, hm⟩ := h0
    exact DataW.trod_lt m _ _ _ hm
  obtain ⟨l0, fw0, s0⟩ := nests_in (cn := [.c (.int .i64), .c (.int .i64), .c (.int .u32), .c (.int .u32), .c (.int .u32), .c .bool, .c .bool, .c .bool, .c (.int .i64), .c (.int .i64), .sl [.int .i64], .sl [.int .i64], .sl [.int .i64]]) Try.underlying22 (by kernel_rfl) (by kernel_rfl) (by kernel_rfl) (by decide) (hval 0 22 v0 rfl rfl) h0
  obtain ⟨a1, rfl, rfl, rfl, w1⟩ := open_int Try.underlying3 (hval 1 3 v1 rfl rfl) h1
  obtain ⟨a2, rfl, rfl, rfl, w2⟩ := open_int Try.underlying3 (hval 2 3 v2 rfl rfl) h2
  clear hA0 hval0
  refine (walk l0 v0 fw0 s0 (cap_small Try.underlying22 (hval 0 22 v0 rfl rfl)) a1 w1 a2 w2 W).mono fun e W' ⟨he, bel⟩ => ?_
  subst he
  exact ⟨_, rfl, _, _, _, [], _, [], hW', trodAll_mk1 (shut_bool Try.underlying4 _), (trodAll_cons_mk (Below.trod laidOut (by kernel_rfl) (of_decide_eq_true (by kernel_rfl)) h0 bel lt0) (trodAll_cons_mk (shut_int Try.underlying3 w1) (trodAll_cons_mk (shut_int Try.underlying3 w2) trodAll_mk0))), rfl, bel.frame _, fun h => by cases h⟩

theorem over : Rows.PpoMoreSaid :=
  OpenClaim.holds_of_wide 3 Try.f3 rfl rfl rfl rfl rfl rfl rfl ⟨rfl, rfl, rfl, rfl, rfl⟩ rfl rfl rfl rfl rfl (by kernel_rfl) Try.func3 (by kernel_rfl)
    (of_decide_eq_true (by kernel_rfl)) (by unfold Func.isWrapper; first | (rw [if_pos (by decide +kernel)]; kernel_rfl) | (rw [if_neg (by decide +kernel)]; exact ⟨rfl, rfl⟩))
    (fun os started H enc _ => lifted os started H enc)

theorem proved : Rows.PpoMoreSaid := over
#print axioms proved
end ppoMore
end Go.Proofs.Ytkfkoldaeplckaa
