/-
  From a contract to the call that a law's row asks for.
-/
import Derived.Test.YthomcgclkbmnkaaDoorVcs
import Derived.Below
namespace Go.Vc
open Go.RowKit
/-- What a call that answers 'true' leaves: new blocks alone. -/
theorem TOK.law {P : Program} {f : FuncId} {T : Trans} (h : TOK P f T) {args : List SV} {vs : List Value} {w : World} {hp : List Ent} {ρ : Nat → Loc}
    (H : Holds ρ hp (fun k => w.heap[k]?) (fun k => w.heap[k]?) w) (hD : DenL ρ args vs) (hT : T args hp (fun k => w.heap[k]?) fun v _ _ => v = .v (.bool true)) :
    Calls P f vs.toArray w fun e w' => e = .returned (.bool true) ∧ Below w.heap.size w w' := by
  refine (h.2 args hp _ _ hT ρ _ w vs H hD).mono ?_
  rintro e w' ⟨v, rfl, sv, ρ', hp', M', F', rfl, _, _, H', hF, hS, hd⟩
  simp only [Den] at hd
  subst hd
  refine ⟨rfl, hS.os, hS.tape, hS.output, hS.size, fun k hk => ?_⟩
  obtain ⟨o, ho⟩ : ∃ o, w.heap[k]? = some o := ⟨_, Array.getElem?_eq_getElem hk⟩
  rw [ho]
  exact H'.frm k o (hF.fr k o ho)
/-- A start without memory of its own. -/
theorem Holds.none (w : World) : Holds (fun _ => none) [] (fun k => w.heap[k]?) (fun k => w.heap[k]?) w :=
  ⟨fun n e h => by simp at h, fun n m b h => by obtain ⟨e, base, cap, h, _⟩ := h; simp at h, fun n b h => by obtain ⟨e, base, cap, h, _⟩ := h; simp at h, fun _ _ h => h, fun _ _ h => h, fun _ _ => rfl⟩
theorem TOK.law0 {P : Program} {f : FuncId} {T : Trans} (h : TOK P f T) {vs : List Value} {w : World} (hT : T (vs.map .v) [] (fun k => w.heap[k]?) fun v _ _ => v = .v (.bool true)) :
    Calls P f vs.toArray w fun e w' => e = .returned (.bool true) ∧ Below w.heap.size w w' :=
  h.law (Holds.none w) (DenL.vs vs) hT
/-- The names, with one more. -/
def plusN (ρ : Nat → Loc) (k : Nat) (x : Loc) : Nat → Loc := fun n => if n = k then x else ρ n
theorem Holds.add {ρ : Nat → Loc} {hp : List Ent} {M F : HL} {w : World} (H : Holds ρ hp M F w) {e : Ent} {x : Loc} (ho : e.own = false) (hE : EntOK (plusN ρ hp.length x) M w hp.length e) :
    Holds (plusN ρ hp.length x) (hp ++ [e]) M F w := by
  have hle : Le ρ (plusN ρ hp.length x) := fun n y hy => by
    by_cases hn : n = hp.length
    · rw [hn, H.dom _ (Nat.le_refl _)] at hy; cases hy
    · simpa [plusN, hn] using hy
  have hown : ∀ n b, owns (plusN ρ hp.length x) (hp ++ [e]) n b → owns ρ hp n b := by
    rintro n b ⟨e', base, cap, h1, h2, h3⟩
    by_cases hn : n < hp.length
    · rw [List.getElem?_append_left hn] at h1
      exact ⟨e', base, cap, h1, h2, by simpa [plusN, Nat.ne_of_lt hn] using h3⟩
    · by_cases hn2 : n = hp.length
      · subst hn2
        simp at h1
        subst h1
        rw [ho] at h2; cases h2
      · rw [List.getElem?_eq_none (by simp; omega)] at h1; cases h1
  refine ⟨fun n e' he => ?_, fun n m b h1 h2 => H.sep n m b (hown _ _ h1) (hown _ _ h2), fun n b h => H.out n b (hown _ _ h), H.frm, H.sub, fun n hn => ?_⟩
  · by_cases hn : n < hp.length
    · rw [List.getElem?_append_left hn] at he
      exact (H.ent n e' he).keep hle (by simp [plusN, Nat.ne_of_lt hn]) (FLe.refl _) fun _ _ _ _ _ => rfl
    · by_cases hn2 : n = hp.length
      · subst hn2
        simp at he
        subst he
        exact hE
      · rw [List.getElem?_eq_none (by simp; omega)] at he; cases he
  · simp at hn
    simp only [plusN, if_neg (show n ≠ hp.length by omega)]
    exact H.dom n (by omega)
theorem DenL.add {ρ : Nat → Loc} {k : Nat} {x : Loc} (hk : ρ k = none) {s : List SV} {y : List Value} (h : DenL ρ s y) : DenL (plusN ρ k x) s y :=
  h.mono fun n z hz => by
    by_cases hn : n = k
    · rw [hn, hk] at hz; cases hz
    · simpa [plusN, hn] using hz
/-- A slice that came in: its rows, by their cells. -/
theorem slice_in {w : World} {a : Addr} {len cap : Nat} {ck : List CK} {rows : List (List Value)} (hck : 0 < ck.length) (hl : len ≤ cap) (hr : rows.length = cap) (hw : ∀ r ∈ rows, r.length = ck.length)
    (hc : ∀ i f, i < cap → f < ck.length → w.cell? (a.add (i * ck.length + f)) = some ((rows.getD i []).getD f undef)) (hf : ∀ i f (k : CK), i < cap → ck[f]? = some k → k.fits ((rows.getD i []).getD f undef)) :
    ∃ (x : Loc) (e : TypeId), ∀ (ρ : Nat → Loc) (k : Nat), EntOK (plusN ρ k x) (fun k => w.heap[k]?) w k (.row false e ck (rows.take len)) ∧ Den (plusN ρ k x) (.slc k ck.length 0 len) (.slice (some a) len cap) := by
  by_cases h0 : cap = 0
  · subst h0
    obtain rfl : len = 0 := by omega
    refine ⟨none, 0, fun ρ k => ⟨⟨hck, ?_⟩, ?_⟩⟩
    · simp [plusN]
    · exact ⟨some a, 0, rfl, by omega, .inl rfl⟩
  · have hc0 := hc 0 0 (by omega) hck
    have hadd : a.add (0 * ck.length + 0) = a := by simp [Addr.add]
    rw [hadd] at hc0
    have hcell : ∃ cur e fr, w.heap[a.block]? = some (.cells cur e fr) ∧ a.spot = none := by
      unfold World.cell? at hc0
      split at hc0
      · rename_i cur e fr hh
        split at hc0
        · cases hc0
        · rename_i hs
          exact ⟨cur, e, fr, hh, by cases hsp : a.spot <;> simp_all⟩
      · cases hc0
    obtain ⟨cur, e, fr, hh, hs⟩ := hcell
    have hat : ∀ j x, w.cell? (a.add j) = some x → cur[a.off + j]? = some x := by
      intro j x hx
      have h1 : (a.add j).block = a.block := by unfold Addr.add; split <;> rfl
      have h2 : (a.add j).spot = none := by unfold Addr.add; split <;> simp [hs]
      have h3 : (a.add j).off = a.off + j := by unfold Addr.add; split <;> simp_all
      simpa [World.cell?, h1, h2, h3, hh] using hx
    refine ⟨some (a.block, a.off, cap), e, fun ρ k => ⟨⟨hck, ?_⟩, ?_⟩⟩
    · simp only [plusN, if_pos]
      refine ⟨cur, fr, by simpa using hh, by simp; omega, fun i r hi => ?_⟩
      have hil : i < len := by
        have := (List.getElem?_eq_some_iff.1 hi).1
        simp at this; omega
      rw [List.getElem?_take_of_lt hil] at hi
      have hir := (List.getElem?_eq_some_iff.1 hi)
      obtain ⟨hi1, hi2⟩ := hir
      have hg : rows.getD i [] = r := by simp [List.getD, hi]
      refine ⟨hw r (hi2 ▸ List.getElem_mem hi1), fun f k' x hk hx => ?_⟩
      have hfl : f < ck.length := (List.getElem?_eq_some_iff.1 hk).1
      have h1 := hc i f (by omega) hfl
      have h2 := hf i f k' (by omega) hk
      rw [hg] at h1 h2
      have h3 : r.getD f undef = x := by simp [List.getD, hx]
      rw [h3] at h1 h2
      exact ⟨hat _ _ h1, h2⟩
    · refine ⟨some a, cap, rfl, hl, .inr ⟨a.block, a.off, cap, by simp [plusN], ?_, by omega⟩⟩
      cases a
      simp at hs
      simp [hs]
theorem nil_in {w : World} {ck : List CK} (hck : 0 < ck.length) (ρ : Nat → Loc) (k : Nat) : EntOK (plusN ρ k none) (fun k => w.heap[k]?) w k (.row false 0 ck []) ∧ Den (plusN ρ k none) (.slc k ck.length 0 0) (.slice none 0 0) :=
  ⟨⟨hck, by simp [plusN]⟩, ⟨none, 0, rfl, by omega, .inl rfl⟩⟩
theorem wf_u32 {x : Int} (h : (Lit.int .u32 x).wf = true) : 0 ≤ x ∧ x < 4294967296 := by
  simp only [Lit.wf, Bool.and_eq_true, decide_eq_true_eq, show IntKind.u32.min = 0 from rfl, show IntKind.u32.max = 4294967295 from rfl] at h; omega
theorem wf_i64 {x : Int} (h : (Lit.int .i64 x).wf = true) : -9223372036854775808 ≤ x ∧ x < 9223372036854775808 := by
  simp only [Lit.wf, Bool.and_eq_true, decide_eq_true_eq, show IntKind.i64.min = -9223372036854775808 from rfl, show IntKind.i64.max = 9223372036854775807 from rfl] at h; omega
end Go.Vc
