/-
  From a contract to the call that a law's row asks for.
-/
import Derived.Test.YtkfkoldaeplckaaDoorVcs
import Derived.Below
import Derived.Test.YtkfkoldaeplckaaDoorVcu
import Derived.ProofKit
import Derived.OpenShut
import Derived.LaidMore
import Derived.Lay
import Derived.SevenTiedAt
import Derived.Stop.Joined
import Derived.Carry
set_option linter.unusedSimpArgs false
set_option linter.unusedVariables false

namespace Go.Vc
open Go.RowKit
/-- What a call that answers 'true' leaves: new blocks alone. -/
theorem TOK.law {P : Program} {f : FuncId} {T : Trans} (h : TOK P f T) {args : List SV} {vs : List Value} {w : World} {hp : List Ent} {ρ : Nat → Loc}
    (H : Holds ρ hp (fun k => w.heap[k]?) (fun k => w.heap[k]?) w) (hD : DenL ρ args vs) (hT : T args hp (fun k => w.heap[k]?) fun v _ _ => v = .v (.bool true)) :
    Calls P f vs.toArray w fun e w' => e = .returned (.bool true) ∧ Below w.heap.size w w' := by
  refine (h.2 args hp _ _ hT ρ _ w vs H hD).mono ?_
  rintro e w' ⟨v, rfl, sv, ρ', hp', M', F', rfl, _, _, H', hF, hS, hd⟩
  simp only [Den] at hd
  subst hd
  refine ⟨rfl, hS.os, hS.tape, hS.output, hS.size, fun k hk => ?_⟩
  obtain ⟨o, ho⟩ : ∃ o, w.heap[k]? = some o := ⟨_, Array.getElem?_eq_getElem hk⟩
  rw [ho]
  exact H'.frm k o (hF.fr k o ho)
/-- A start without memory of its own. -/
theorem Holds.none (w : World) : Holds (fun _ => none) [] (fun k => w.heap[k]?) (fun k => w.heap[k]?) w :=
  ⟨fun n e h => by simp at h, fun n m b h => by obtain ⟨e, base, cap, h, _⟩ := h; simp at h, fun n b h => by obtain ⟨e, base, cap, h, _⟩ := h; simp at h, fun _ _ h => h, fun _ _ h => h, fun _ _ => rfl⟩
theorem TOK.law0 {P : Program} {f : FuncId} {T : Trans} (h : TOK P f T) {vs : List Value} {w : World} (hT : T (vs.map .v) [] (fun k => w.heap[k]?) fun v _ _ => v = .v (.bool true)) :
    Calls P f vs.toArray w fun e w' => e = .returned (.bool true) ∧ Below w.heap.size w w' :=
  h.law (Holds.none w) (DenL.vs vs) hT
/-- The names, with one more. -/
def plusN (ρ : Nat → Loc) (k : Nat) (x : Loc) : Nat → Loc := fun n => if n = k then x else ρ n
theorem Holds.add {ρ : Nat → Loc} {hp : List Ent} {M F : HL} {w : World} (H : Holds ρ hp M F w) {e : Ent} {x : Loc} (ho : e.own = false) (hE : EntOK (plusN ρ hp.length x) M w hp.length e) :
    Holds (plusN ρ hp.length x) (hp ++ [e]) M F w := by
  have hle : Le ρ (plusN ρ hp.length x) := fun n y hy => by
    by_cases hn : n = hp.length
    · rw [hn, H.dom _ (Nat.le_refl _)] at hy; cases hy
    · simpa [plusN, hn] using hy
  have hown : ∀ n b, owns (plusN ρ hp.length x) (hp ++ [e]) n b → owns ρ hp n b := by
    rintro n b ⟨e', base, cap, h1, h2, h3⟩
    by_cases hn : n < hp.length
    · rw [List.getElem?_append_left hn] at h1
      exact ⟨e', base, cap, h1, h2, by simpa [plusN, Nat.ne_of_lt hn] using h3⟩
    · by_cases hn2 : n = hp.length
      · subst hn2
        simp at h1
        subst h1
        rw [ho] at h2; cases h2
      · rw [List.getElem?_eq_none (by simp; omega)] at h1; cases h1
  refine ⟨fun n e' he => ?_, fun n m b h1 h2 => H.sep n m b (hown _ _ h1) (hown _ _ h2), fun n b h => H.out n b (hown _ _ h), H.frm, H.sub, fun n hn => ?_⟩
  · by_cases hn : n < hp.length
    · rw [List.getElem?_append_left hn] at he
      exact (H.ent n e' he).keep hle (by simp [plusN, Nat.ne_of_lt hn]) (FLe.refl _) fun _ _ _ _ _ => rfl
    · by_cases hn2 : n = hp.length
      · subst hn2
        simp at he
        subst he
        exact hE
      · rw [List.getElem?_eq_none (by simp; omega)] at he; cases he
  · simp at hn
    simp only [plusN, if_neg (show n ≠ hp.length by omega)]
    exact H.dom n (by omega)
theorem DenL.add {ρ : Nat → Loc} {k : Nat} {x : Loc} (hk : ρ k = none) {s : List SV} {y : List Value} (h : DenL ρ s y) : DenL (plusN ρ k x) s y :=
  h.mono fun n z hz => by
    by_cases hn : n = k
    · rw [hn, hk] at hz; cases hz
    · simpa [plusN, hn] using hz
/-- A slice that came in: its rows, by their cells. -/
theorem slice_in {w : World} {a : Addr} {len cap : Nat} {ck : List CK} {rows : List (List Value)} (hck : 0 < ck.length) (hl : len ≤ cap) (hr : rows.length = cap) (hw : ∀ r ∈ rows, r.length = ck.length)
    (hc : ∀ i f, i < cap → f < ck.length → w.cell? (a.add (i * ck.length + f)) = some ((rows.getD i []).getD f undef)) (hf : ∀ i f (k : CK), i < cap → ck[f]? = some k → k.fits ((rows.getD i []).getD f undef)) :
    ∃ (x : Loc) (e : TypeId), ∀ (ρ : Nat → Loc) (k : Nat), EntOK (plusN ρ k x) (fun k => w.heap[k]?) w k (.row false e ck (rows.take len)) ∧ Den (plusN ρ k x) (.slc k ck.length 0 len) (.slice (some a) len cap) := by
  by_cases h0 : cap = 0
  · subst h0
    obtain rfl : len = 0 := by omega
    refine ⟨none, 0, fun ρ k => ⟨⟨hck, ?_⟩, ?_⟩⟩
    · simp [plusN]
    · exact ⟨some a, 0, rfl, by omega, .inl rfl⟩
  · have hc0 := hc 0 0 (by omega) hck
    have hadd : a.add (0 * ck.length + 0) = a := by simp [Addr.add]
    rw [hadd] at hc0
    have hcell : ∃ cur e fr, w.heap[a.block]? = some (.cells cur e fr) ∧ a.spot = none := by
      unfold World.cell? at hc0
      split at hc0
      · rename_i cur e fr hh
        split at hc0
        · cases hc0
        · rename_i hs
          exact ⟨cur, e, fr, hh, by cases hsp : a.spot <;> simp_all⟩
      · cases hc0
    obtain ⟨cur, e, fr, hh, hs⟩ := hcell
    have hat : ∀ j x, w.cell? (a.add j) = some x → cur[a.off + j]? = some x := by
      intro j x hx
      have h1 : (a.add j).block = a.block := by unfold Addr.add; split <;> rfl
      have h2 : (a.add j).spot = none := by unfold Addr.add; split <;> simp [hs]
      have h3 : (a.add j).off = a.off + j := by unfold Addr.add; split <;> simp_all
      simpa [World.cell?, h1, h2, h3, hh] using hx
    refine ⟨some (a.block, a.off, cap), e, fun ρ k => ⟨⟨hck, ?_⟩, ?_⟩⟩
    · simp only [plusN, if_pos]
      refine ⟨cur, fr, by simpa using hh, by simp; omega, fun i r hi => ?_⟩
      have hil : i < len := by
        have := (List.getElem?_eq_some_iff.1 hi).1
        simp at this; omega
      rw [List.getElem?_take_of_lt hil] at hi
      have hir := (List.getElem?_eq_some_iff.1 hi)
      obtain ⟨hi1, hi2⟩ := hir
      have hg : rows.getD i [] = r := by simp [List.getD, hi]
      refine ⟨hw r (hi2 ▸ List.getElem_mem hi1), fun f k' x hk hx => ?_⟩
      have hfl : f < ck.length := (List.getElem?_eq_some_iff.1 hk).1
      have h1 := hc i f (by omega) hfl
      have h2 := hf i f k' (by omega) hk
      rw [hg] at h1 h2
      have h3 : r.getD f undef = x := by simp [List.getD, hx]
      rw [h3] at h1 h2
      exact ⟨hat _ _ h1, h2⟩
    · refine ⟨some a, cap, rfl, hl, .inr ⟨a.block, a.off, cap, by simp [plusN], ?_, by omega⟩⟩
      cases a
      simp at hs
      simp [hs]
theorem nil_in {w : World} {ck : List CK} (hck : 0 < ck.length) (ρ : Nat → Loc) (k : Nat) : EntOK (plusN ρ k none) (fun k => w.heap[k]?) w k (.row false 0 ck []) ∧ Den (plusN ρ k none) (.slc k ck.length 0 0) (.slice none 0 0) :=
  ⟨⟨hck, by simp [plusN]⟩, ⟨none, 0, rfl, by omega, .inl rfl⟩⟩
theorem wf_u32 {x : Int} (h : (Lit.int .u32 x).wf = true) : 0 ≤ x ∧ x < 4294967296 := by
  simp only [Lit.wf, Bool.and_eq_true, decide_eq_true_eq, show IntKind.u32.min = 0 from rfl, show IntKind.u32.max = 4294967295 from rfl] at h; omega
theorem wf_i64 {x : Int} (h : (Lit.int .i64 x).wf = true) : -9223372036854775808 ≤ x ∧ x < 9223372036854775808 := by
  simp only [Lit.wf, Bool.and_eq_true, decide_eq_true_eq, show IntKind.i64.min = -9223372036854775808 from rfl, show IntKind.i64.max = 9223372036854775807 from rfl] at h; omega
end Go.Vc
/-
  What came in, as symbolic values: slices of words.
-/
namespace Go.Vc
open Go.ChangeShapes Go.WideShapes Go.ChangeAt Go.RowKit
/-- A slice that came in, by its rows. -/
def SliceIn (w : World) (ck : List CK) (rows : List (List Value)) (v : Value) : Prop :=
  ∃ (x : Loc) (e : TypeId), ∀ (ρ : Nat → Loc) (k : Nat), EntOK (plusN ρ k x) (fun k => w.heap[k]?) w k (.row false e ck rows) ∧ Den (plusN ρ k x) (.slc k ck.length 0 rows.length) v
theorem u32s_in {H : Type} {enc : TypeId × Value → H} {P : Program} {w : World} {t e : TypeId} {v : Value} {d : DataW H} {p : List MemPlace} {b : Nat} (ht : P.underlying t = some (.slice e)) (he : P.underlying e = some (.int .u32)) (hc : P.cellsOf e = 1)
    (hv : Value.okWide P w .any b t v) (h : DataW.Trod enc P w 0 (fun _ => true) true t v d p) : ∃ l : List Nat, (∀ i, l.getD i 0 < 4294967296) ∧ SliceIn w [.int .u32] (l.map wrow) v := by
  obtain ⟨ad, len, cap, rfl⟩ := okWide_slice ht hv
  obtain ⟨fuel, hf⟩ := h
  rcases open_ints ht he hc hf with ⟨hcs, _⟩ | ⟨x, l, c, zs, hcs, _, hl, hm, hz, _, hcell, hwz⟩
  · simp [Value.cells] at hcs
    obtain ⟨rfl, rfl, rfl⟩ := hcs
    exact ⟨[], fun i => by simp [List.getD], none, 0, fun ρ k => nil_in (by simp) ρ k⟩
  · simp [Value.cells] at hcs
    obtain ⟨rfl, rfl, rfl⟩ := hcs
    simp only [if_true] at hz
    have hnn : ∀ z ∈ zs, 0 ≤ z ∧ z < 4294967296 := fun z hz => wf_u32 (hwz z hz)
    have e1 : ((zs.take len).map Int.toNat).map wrow = (zs.map fun z => [Value.int .u32 z]).take len := by
      rw [List.map_map, ← List.map_take]
      refine List.map_congr_left fun z hz => ?_
      have := hnn z (List.mem_of_mem_take hz)
      simp only [Function.comp, wrow]
      rw [Int.toNat_of_nonneg this.1]
    refine ⟨(zs.take len).map Int.toNat, fun i => ?_, ?_⟩
    · by_cases hi : i < ((zs.take len).map Int.toNat).length
      · have hm := List.getElem_mem hi
        have hg : ((zs.take len).map Int.toNat).getD i 0 = ((zs.take len).map Int.toNat)[i] := by rw [List.getD, List.getElem?_eq_getElem hi, Option.getD_some]
        rw [hg]
        obtain ⟨z, hz, hzz⟩ := List.mem_map.1 hm
        have := hnn z (List.mem_of_mem_take hz)
        rw [← hzz]
        omega
      · simp only [List.getD, List.getElem?_eq_none (Nat.le_of_not_lt hi), Option.getD_none]; omega
    · rw [e1]
      obtain ⟨y, ty, hy⟩ := slice_in (w := w) (a := x) (len := len) (cap := cap) (ck := [.int .u32]) (rows := zs.map fun z => [Value.int .u32 z]) (by simp) hl (by simpa using hz) (by simp)
        (fun i f hi hf => by
          obtain rfl : f = 0 := by simpa using hf
          have := hcell i (by omega)
          simp only [List.length_cons, List.length_nil, Nat.zero_add, Nat.mul_one, Nat.add_zero]
          rw [this]
          simp [List.getD, List.getElem?_eq_getElem (show i < zs.length by omega)])
        (fun i f k hi hk => by
          obtain rfl : f = 0 := by have := (List.getElem?_eq_some_iff.1 hk).1; simpa using this
          simp at hk
          subst hk
          simp [List.getD, List.getElem?_eq_getElem (show i < zs.length by omega), CK.fits])
      refine ⟨y, ty, fun ρ k => ?_⟩
      have := hy ρ k
      have hlen : ((zs.map fun z => [Value.int IntKind.u32 z]).take len).length = len := by simp; omega
      rw [hlen]
      exact this
theorem i64s_in {H : Type} {enc : TypeId × Value → H} {P : Program} {w : World} {t e : TypeId} {v : Value} {d : DataW H} {p : List MemPlace} {b : Nat} (ht : P.underlying t = some (.slice e)) (he : P.underlying e = some (.int .i64)) (hc : P.cellsOf e = 1)
    (hv : Value.okWide P w .any b t v) (h : DataW.Trod enc P w 0 (fun _ => true) true t v d p) : ∃ l : List Int, (∀ x ∈ l, -9223372036854775808 ≤ x ∧ x < 9223372036854775808) ∧ SliceIn w [.int .i64] (l.map irow) v := by
  obtain ⟨ad, len, cap, rfl⟩ := okWide_slice ht hv
  obtain ⟨fuel, hf⟩ := h
  rcases open_ints ht he hc hf with ⟨hcs, _⟩ | ⟨x, l, c, zs, hcs, _, hl, hm, hz, _, hcell, hwz⟩
  · simp [Value.cells] at hcs
    obtain ⟨rfl, rfl, rfl⟩ := hcs
    exact ⟨[], by simp, none, 0, fun ρ k => nil_in (by simp) ρ k⟩
  · simp [Value.cells] at hcs
    obtain ⟨rfl, rfl, rfl⟩ := hcs
    simp only [if_true] at hz
    refine ⟨zs.take len, fun z hz => wf_i64 (hwz z (List.mem_of_mem_take hz)), ?_⟩
    obtain ⟨y, ty, hy⟩ := slice_in (w := w) (a := x) (len := len) (cap := cap) (ck := [.int .i64]) (rows := zs.map irow) (by simp) hl (by simpa using hz) (by simp [irow])
      (fun i f hi hf => by
        obtain rfl : f = 0 := by simpa using hf
        have := hcell i (by omega)
        simp only [List.length_cons, List.length_nil, Nat.zero_add, Nat.mul_one, Nat.add_zero]
        rw [this]
        simp [List.getD, List.getElem?_eq_getElem (show i < zs.length by omega), irow])
      (fun i f k hi hk => by
        obtain rfl : f = 0 := by have := (List.getElem?_eq_some_iff.1 hk).1; simpa using this
        simp at hk
        subst hk
        simp [List.getD, List.getElem?_eq_getElem (show i < zs.length by omega), CK.fits, irow])
    refine ⟨y, ty, fun ρ k => ?_⟩
    have := hy ρ k
    have hlen : ((zs.take len).map irow).length = len := by simp; omega
    rw [hlen, List.map_take]
    exact this
/-- Listed errors: where each variable points, and that no two point to one place. -/
theorem sents_of {P : Program} {W : World} {ti tp te ts : TypeId} {ms : Array (String × TypeId)} {f : Field} {nm : String} (hi : P.underlying ti = some (.interface ms)) (hrow : ∀ u, P.typeName? 3 u = some nm → u = tp)
    (hp : P.underlying tp = some (.pointer te)) (he : P.underlying te = some (.struct #[f])) (hft : f.type = ts) (hfo : f.offset = 0) (hs : P.underlying ts = some .string) (hc : P.cellsOf te = 1) (hcs : P.cellsOf ts = 1) :
    ∀ (l : List (String × Nat × List UInt8)) (ps : List MemPlace), (∀ x ∈ l, P.globalNamed x.1 = some x.2.1 ∧ (P.globals[x.2.1]?).map (·.type) = some ti) →
      DataW.LaidVars P W (l.map fun x => (x.1, .iface nm (.ptr (.agg [.lit (.string x.2.2)])))) ps →
      (∀ b off, MemPlace.cell b off ∈ ps → (∃ c t, W.heap[b]? = some (.cells c t (0, 0))) ∧ ∀ u v, W.cell? ⟨b, off, none⟩ = some (.iface u v) → Value.okWide P W .any 0 u v) →
      ∃ as : List Addr, as.length = l.length ∧ (as.map fun a => MemPlace.cell a.block a.off).Sublist ps ∧ ∀ (i : Nat) x, l[i]? = some x → ∃ a, as[i]? = some a ∧ W.cell? ⟨x.2.1, 0, none⟩ = some (.iface tp (.pointer (some a)))
  | [], ps, _, _, _ => ⟨[], rfl, by simp, fun i x h => by simp at h⟩
  | (n, g', text) :: l, ps, hg, h, hrows => by
    obtain ⟨g, t, cs, fuel, p, q, hg0, ht0, hv, hd, hq, rfl⟩ := h
    have hgx := hg (n, g', text) (by simp)
    obtain rfl := Option.some.inj (hgx.1.symm.trans hg0)
    obtain rfl := Option.some.inj (hgx.2.symm.trans ht0)
    obtain ⟨l0⟩ := cs
    have ok0 : ∀ u v, l0 = [.iface u v] → Value.okWide P W .any 0 u v := fun u v e => by
      subst e
      exact (hrows g' 0 (by simp [MemPlace.row])).2 u v (by simpa using World.var?_cell hg0 hv 0)
    obtain ⟨a, s, rfl, hc0, hs0, hz0, rfl⟩ := errorString_of_trod hi hrow hp he hft hfo hs hc hcs hd ok0
    obtain ⟨as, h1, h2, h3⟩ := sents_of hi hrow hp he hft hfo hs hc hcs l q (fun x hx => hg x (by simp [hx])) hq fun b off hm => hrows b off (by simp [hm])
    refine ⟨a :: as, by simp [h1], ?_, fun i x hx => ?_⟩
    · rw [List.append_assoc]
      refine (List.Sublist.trans ?_ (List.sublist_append_right _ _))
      have : (MemPlace.row a 1) = [MemPlace.cell a.block a.off] := by simp [MemPlace.row]
      rw [this]
      simpa using h2
    · cases i with
      | zero =>
        simp at hx
        subst hx
        exact ⟨a, rfl, by simpa using World.var?_cell hg0 hv 0⟩
      | succ i => simpa using h3 i x (by simpa using hx)
/-- A call with one slice that came in. -/
theorem TOK.law1 {P : Program} {f : FuncId} {T : Trans} (h : TOK P f T) {w : World} {ck : List CK} {rows : List (List Value)} {v : Value} (hs : SliceIn w ck rows v) {args : List SV} {vs : List Value}
    (hD : ∀ ρ, Den ρ (.slc 0 ck.length 0 rows.length) v → DenL ρ args vs) (hT : ∀ e, T args [.row false e ck rows] (fun k => w.heap[k]?) fun v _ _ => v = .v (.bool true)) :
    Calls P f vs.toArray w fun e w' => e = .returned (.bool true) ∧ Below w.heap.size w w' := by
  obtain ⟨x, e, hx⟩ := hs
  obtain ⟨h1, h2⟩ := hx (fun _ => none) 0
  exact h.law ((Holds.none w).add (x := x) rfl h1) (hD _ h2) (hT e)
/-- A call with two slices that came in. -/
theorem TOK.law2 {P : Program} {f : FuncId} {T : Trans} (h : TOK P f T) {w : World} {ck ck2 : List CK} {rows rows2 : List (List Value)} {v v2 : Value} (hs : SliceIn w ck rows v) (hs2 : SliceIn w ck2 rows2 v2) {args : List SV} {vs : List Value}
    (hD : ∀ ρ, Den ρ (.slc 0 ck.length 0 rows.length) v → Den ρ (.slc 1 ck2.length 0 rows2.length) v2 → DenL ρ args vs) (hT : ∀ e e2, T args [.row false e ck rows, .row false e2 ck2 rows2] (fun k => w.heap[k]?) fun v _ _ => v = .v (.bool true)) :
    Calls P f vs.toArray w fun e w' => e = .returned (.bool true) ∧ Below w.heap.size w w' := by
  obtain ⟨x, e, hx⟩ := hs
  obtain ⟨y, e2, hy⟩ := hs2
  obtain ⟨h1, h2⟩ := hx (fun _ => none) 0
  obtain ⟨h3, h4⟩ := hy (plusN (fun _ => none) 0 x) 1
  have hle : Le (plusN (fun _ => none) 0 x) (plusN (plusN (fun _ => none) 0 x) 1 y) := fun n z hz => by
    by_cases hn : n = 1
    · subst hn; simp [plusN] at hz
    · rw [show plusN (plusN (fun _ => none) 0 x) 1 y n = plusN (fun _ => none) 0 x n from by rw [plusN, if_neg hn]]; exact hz
  exact h.law (((Holds.none w).add (x := x) rfl h1).add (x := y) rfl h3) (hD _ (h2.mono hle) h4) (hT e e2)
end Go.Vc
