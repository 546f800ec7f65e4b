/-
  From a contract to the call that a law's row asks for.
-/
import Derived.Test.YtmhgiffhmcigpaaDoorVcs
import Derived.Below
namespace Go.Vc
open Go.RowKit
/-- What a call that answers 'true' leaves: new blocks alone. -/
theorem TOK.law {P : Program} {f : FuncId} {T : Trans} (h : TOK P f T) {args : List SV} {vs : List Value} {w : World} {hp : List Ent} {ρ : Nat → Loc}
    (H : Holds ρ hp (fun k => w.heap[k]?) (fun k => w.heap[k]?) w) (hD : DenL ρ args vs) (hT : T args hp (fun k => w.heap[k]?) fun v _ _ => v = .v (.bool true)) :
    Calls P f vs.toArray w fun e w' => e = .returned (.bool true) ∧ Below w.heap.size w w' := by
  refine (h.2 args hp _ _ hT ρ _ w vs H hD).mono ?_
  rintro e w' ⟨v, rfl, sv, ρ', hp', M', F', rfl, _, _, H', hF, hS, hd⟩
  simp only [Den] at hd
  subst hd
  refine ⟨rfl, hS.os, hS.tape, hS.output, hS.size, fun k hk => ?_⟩
  obtain ⟨o, ho⟩ : ∃ o, w.heap[k]? = some o := ⟨_, Array.getElem?_eq_getElem hk⟩
  rw [ho]
  exact H'.frm k o (hF k o ho)
/-- A start without memory of its own. -/
theorem Holds.none (w : World) : Holds (fun _ => none) [] (fun k => w.heap[k]?) (fun k => w.heap[k]?) w :=
  ⟨fun n e h => by simp at h, fun n m b h => by obtain ⟨e, base, cap, h, _⟩ := h; simp at h, fun n b h => by obtain ⟨e, base, cap, h, _⟩ := h; simp at h, fun _ _ h => h, fun _ _ h => h, fun _ _ => rfl⟩
theorem TOK.law0 {P : Program} {f : FuncId} {T : Trans} (h : TOK P f T) {vs : List Value} {w : World} (hT : T (vs.map .v) [] (fun k => w.heap[k]?) fun v _ _ => v = .v (.bool true)) :
    Calls P f vs.toArray w fun e w' => e = .returned (.bool true) ∧ Below w.heap.size w w' :=
  h.law (Holds.none w) (DenL.vs vs) hT
theorem wf_u32 {x : Int} (h : (Lit.int .u32 x).wf = true) : 0 ≤ x ∧ x < 4294967296 := by
  simp only [Lit.wf, Bool.and_eq_true, decide_eq_true_eq, show IntKind.u32.min = 0 from rfl, show IntKind.u32.max = 4294967295 from rfl] at h; omega
theorem wf_i64 {x : Int} (h : (Lit.int .i64 x).wf = true) : -9223372036854775808 ≤ x ∧ x < 9223372036854775808 := by
  simp only [Lit.wf, Bool.and_eq_true, decide_eq_true_eq, show IntKind.i64.min = -9223372036854775808 from rfl, show IntKind.i64.max = 9223372036854775807 from rfl] at h; omega
end Go.Vc
