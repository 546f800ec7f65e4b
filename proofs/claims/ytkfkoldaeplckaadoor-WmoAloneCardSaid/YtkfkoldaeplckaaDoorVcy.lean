/-
  What came in, as symbolic values: flat structs and arrays, and slices of them.
-/
import Derived.Test.YtkfkoldaeplckaaDoorVcw
import Derived.Deep.Slices
set_option linter.unusedSimpArgs false
set_option linter.unusedVariables false

namespace Go.Vc
open Go.ChangeShapes Go.WideShapes Go.ChangeAt Go.RowKit Go.Deep
/-- A cell that came in has its kind, and lies in its range. -/
def CellW : CK → Value → Prop
  | .int k, x => ∃ n, x = .int k n ∧ (Lit.int k n).wf = true
  | .bool, x => ∃ b, x = .bool b
  | .raw, _ => False
  | .sl, _ => False
def FitW : List CK → List Value → Prop
  | [], [] => True
  | k :: r, x :: l => CellW k x ∧ FitW r l
  | _, _ => False
theorem FitW.length : ∀ {ck : List CK} {l : List Value}, FitW ck l → l.length = ck.length
  | [], [], _ => rfl
  | _ :: _, _ :: _, h => by simp only [FitW] at h; simp [FitW.length h.2]
  | [], _ :: _, h => by simp [FitW] at h
  | _ :: _, [], h => by simp [FitW] at h
theorem CellW.fits : ∀ {k : CK} {x : Value}, CellW k x → k.fits x
  | .int _, _, ⟨n, h, _⟩ => ⟨n, h⟩
  | .bool, _, h => h
  | .raw, _, h => by cases h
  | .sl, _, h => by cases h
theorem FitW.get : ∀ {ck : List CK} {l : List Value}, FitW ck l → ∀ {f : Nat} {k : CK}, ck[f]? = some k → CellW k (l.getD f undef)
  | k :: r, x :: l, h, 0, k', hk => by simp only [FitW] at h; simp at hk; subst hk; simpa using h.1
  | k :: r, x :: l, h, f + 1, k', hk => by simp only [FitW] at h; simpa using FitW.get h.2 (by simpa using hk)
  | [], _, _, _, _, hk => by simp at hk
  | _ :: _, [], h, _, _, _ => by simp [FitW] at h
theorem FitW.append : ∀ {ck ck' : List CK} {l l' : List Value}, FitW ck l → FitW ck' l' → FitW (ck ++ ck') (l ++ l')
  | [], _, [], _, _, h' => by simpa using h'
  | _ :: _, _, _ :: _, _, h, h' => by simp only [FitW] at h; simp only [List.cons_append, FitW]; exact ⟨h.1, FitW.append h.2 h'⟩
  | [], _, _ :: _, _, h, _ => by simp [FitW] at h
  | _ :: _, _, [], _, h, _ => by simp [FitW] at h
section
variable (P : Program)
def fieldsB (fl : TypeId → Bool) (ck : TypeId → List CK) (tot : Nat) : List Field → Nat → Bool
  | [], n => n == tot
  | f :: r, n => f.offset == n && fl f.type && (ck f.type).length == P.cellsOf f.type && fieldsB fl ck tot r (n + P.cellsOf f.type)
/-- A type of numbers and truths alone, its parts one behind the other. -/
def flatB : Nat → TypeId → Bool
  | 0, _ => false
  | d + 1, t => match P.underlying t with
    | some (.int _) => true
    | some .bool => true
    | some (.struct fs) => fieldsB P (flatB d) (ckOf P d) (P.cellsOf t) fs.toList 0
    | some (.array n e) => flatB d e && (ckOf P d e).length == P.cellsOf e && P.cellsOf t == n * P.cellsOf e
    | _ => false
end
variable {H : Type} {enc : TypeId × Value → H} {P : Program} {w : World} {base : Nat} {spare : Nat → Bool} {held : Bool}
theorem flat_fields {fl : TypeId → Bool} {ck : TypeId → List CK} {cs : List Value} {m : Nat} (ih : ∀ t l x, fl t = true → DataW.trod enc P w base spare held m t l = some x → FitW (ck t) l) :
    ∀ (fs : List Field) (n : Nat), fieldsB P fl ck cs.length fs n = true → (∀ f ∈ fs, ∃ x, DataW.trod enc P w base spare held m f.type ((cs.drop f.offset).take (P.cellsOf f.type)) = some x) → n ≤ cs.length → FitW (fs.flatMap fun f => ck f.type) (cs.drop n)
  | [], n, h, _, _ => by
    simp only [fieldsB, beq_iff_eq] at h
    rw [h, List.drop_length]
    trivial
  | f :: r, n, h, hx, hn => by
    simp only [fieldsB, Bool.and_eq_true, beq_iff_eq] at h
    obtain ⟨⟨⟨h1, h2⟩, h3⟩, h4⟩ := h
    obtain ⟨x, hx0⟩ := hx f (by simp)
    have hf := ih _ _ _ h2 hx0
    have hl := hf.length
    rw [h3, h1] at hl
    have hl2 : n + P.cellsOf f.type ≤ cs.length := by
      simp at hl
      omega
    have := flat_fields ih r (n + P.cellsOf f.type) h4 (fun f' hf' => hx f' (by simp [hf'])) hl2
    rw [List.flatMap_cons, show cs.drop n = (cs.drop n).take (P.cellsOf f.type) ++ (cs.drop n).drop (P.cellsOf f.type) from (List.take_append_drop _ _).symm, List.drop_drop]
    rw [h1] at hf
    exact hf.append this
theorem flat_elems {ck : List CK} {c m : Nat} {e : TypeId} {cs : List Value} (hc : ck.length = c) (ih : ∀ l x, DataW.trod enc P w base spare held m e l = some x → FitW ck l) :
    ∀ (n : Nat) (i : Nat), cs.length = (i + n) * c → (∀ j, j < i + n → ∃ x, DataW.trod enc P w base spare held m e ((cs.drop (j * c)).take c) = some x) → FitW ((List.range n).flatMap fun _ => ck) (cs.drop (i * c))
  | 0, i, h, _ => by
    rw [Nat.add_zero] at h
    rw [← h, List.drop_length]
    trivial
  | n + 1, i, h, hx => by
    obtain ⟨x, hx0⟩ := hx i (by omega)
    have hf := ih _ _ hx0
    have := flat_elems hc ih n (i + 1) (by rw [h]; congr 1; omega) (fun j hj => hx j (by omega))
    rw [show (List.range (n + 1)).flatMap (fun _ => ck) = ck ++ (List.range n).flatMap fun _ => ck from by rw [List.range_succ_eq_map, List.flatMap_cons, List.flatMap_map],
      show cs.drop (i * c) = (cs.drop (i * c)).take c ++ (cs.drop (i * c)).drop c from (List.take_append_drop _ _).symm, List.drop_drop]
    rw [Nat.add_mul, Nat.one_mul] at this
    exact hf.append this
theorem flat_trod : ∀ (d : Nat) (fuel : Nat) (t : TypeId) (cs : List Value) (x : DataW H × List MemPlace), flatB P d t = true → DataW.trod enc P w base spare held fuel t cs = some x → FitW (ckOf P d t) cs
  | 0, _, _, _, _, h, _ => by simp [flatB] at h
  | d + 1, fuel, t, cs, x, h, hd => by
    unfold flatB at h
    unfold ckOf
    split at h
    · rename_i k ht
      obtain ⟨n, rfl, _, hw⟩ := DataW.trod_int ht hd
      simp only [ht]
      exact ⟨⟨n, rfl, hw⟩, trivial⟩
    · rename_i ht
      simp only [ht]
      cases fuel with
      | zero => simp [DataW.trod] at hd
      | succ m =>
        unfold DataW.trod at hd
        rw [ht] at hd
        split at hd <;> simp_all
        exact ⟨⟨_, rfl⟩, trivial⟩
    · rename_i fs ht
      obtain ⟨xs, m, rfl, _, hl, hn, hx⟩ := DataW.trod_struct ht hd
      simp only [ht]
      rw [← hl] at h
      have := flat_fields (fun t l x => flat_trod d m t l x) fs.toList 0 h (fun f hf => by
        obtain ⟨i, hi, rfl⟩ := List.getElem_of_mem hf
        have := hx i fs[i] (by simp at hi; simp [hi])
        rw [List.getElem?_eq_getElem (by simp at hi; omega)] at this
        exact ⟨_, by simpa using this⟩) (by omega)
      simpa using this
    · rename_i n e ht
      simp only [Bool.and_eq_true, beq_iff_eq] at h
      obtain ⟨xs, m, rfl, _, hl, hn, hx⟩ := DataW.trod_array ht hd
      simp only [ht]
      have := flat_elems (cs := cs) h.1.2 (fun l x => flat_trod d m e l x h.1.1) n 0 (by rw [hl, h.2, Nat.zero_add]) (fun j hj => by
        have := hx j (by omega)
        rw [List.getElem?_eq_getElem (by omega)] at this
        exact ⟨_, this⟩)
      simpa using this
    · cases h
/-- A flat struct or array that came in. -/
theorem flat_in {t : TypeId} {v : Value} {d : DataW H} {p : List MemPlace} {b : Nat} {ck : List CK} (hf : flatB P 6 t = true) (hck : ckOf P 6 t = ck) (hag : isAggT P t = true)
    (hv : Value.okWide P w .any b t v) (h : DataW.Trod enc P w 0 (fun _ => true) true t v d p) : ∃ cs : List Value, v = .agg cs.toArray ∧ FitW ck cs := by
  obtain ⟨fuel, h⟩ := h
  unfold isAggT at hag
  have hv2 : ∃ cs, v = .agg cs := by
    unfold Value.okWide at hv
    split at hag
    · rename_i fs ht
      simp only [ht] at hv
      obtain ⟨cs, h1, _⟩ := hv
      exact ⟨cs, h1⟩
    · rename_i n e ht
      simp only [ht] at hv
      obtain ⟨cs, h1, _⟩ := hv
      exact ⟨cs, h1⟩
    · cases hag
  obtain ⟨cs, rfl⟩ := hv2
  have := flat_trod 6 fuel t _ _ hf h
  rw [hck] at this
  exact ⟨cs.toList, by simp, by simpa [Value.cells] using this⟩
/-- A slice of flat elements that came in. -/
theorem rows_in {t e : TypeId} {v : Value} {d : DataW H} {p : List MemPlace} {b : Nat} {ck : List CK} (ht : P.underlying t = some (.slice e)) (hf : flatB P 6 e = true) (hck : ckOf P 6 e = ck) (hc : P.cellsOf e = ck.length) (hpos : 0 < ck.length)
    (hv : Value.okWide P w .any b t v) (h : DataW.Trod enc P w 0 (fun _ => true) true t v d p) : ∃ rows : List (List Value), (∀ r ∈ rows, FitW ck r) ∧ SliceIn w ck rows v := by
  obtain ⟨ad, len, cap, rfl⟩ := okWide_slice ht hv
  obtain ⟨fuel, h⟩ := h
  rcases open_slice ht h with ⟨hcs, _⟩ | ⟨a, l, c, m, n, D, Pl, hcs, _, hl, hm, hmm, _, hx⟩
  · simp [Value.cells] at hcs
    obtain ⟨rfl, rfl, rfl⟩ := hcs
    exact ⟨[], by simp, none, 0, fun ρ k => nil_in hpos ρ k⟩
  · simp [Value.cells] at hcs
    obtain ⟨rfl, rfl, rfl⟩ := hcs
    simp only [if_true] at hmm
    subst hmm
    obtain ⟨V, hV⟩ := choose_lt (α := List Value) (p := fun i cs => w.cells? 0 (a.add (i * P.cellsOf e)) (P.cellsOf e) = some cs ∧ FitW ck cs) (fun i hi => by
      obtain ⟨cs', h1, h2⟩ := hx i hi
      have := flat_trod 6 n e _ _ hf h2
      rw [hck] at this
      exact ⟨cs', h1, this⟩)
    have hg : ∀ i, i < m → (((List.range m).map V).getD i []) = V i := fun i hi => by simp [List.getD, hi]
    obtain ⟨y, ty, hy⟩ := slice_in (w := w) (a := a) (len := len) (cap := m) (ck := ck) (rows := (List.range m).map V) hpos hl (by simp) (fun r hr => by
        obtain ⟨i, hi, rfl⟩ := List.mem_map.1 hr
        exact (hV i (List.mem_range.1 hi)).2.length)
      (fun i f hi hf => by
        rw [hg i hi]
        obtain ⟨h1, h2⟩ := hV i hi
        obtain ⟨_, h3, h4⟩ := World.cells?_some h1
        have := h4 f (by omega)
        rw [← hc, show a.add (i * P.cellsOf e + f) = (a.add (i * P.cellsOf e)).add f from by simp [Addr.add_add], this]
        simp [List.getD, List.getElem?_eq_getElem (show f < (V i).length by omega)])
      (fun i f k hi hk => by
        rw [hg i hi]
        exact ((hV i hi).2.get hk).fits)
    refine ⟨((List.range m).map V).take len, fun r hr => ?_, y, ty, fun ρ k => ?_⟩
    · obtain ⟨i, hi, rfl⟩ := List.mem_map.1 (List.mem_of_mem_take hr)
      exact (hV i (List.mem_range.1 hi)).2
    · have := hy ρ k
      have hlen : (((List.range m).map V).take len).length = len := by simp; omega
      rw [hlen]
      exact this
end Go.Vc
/-
  What came in, as symbolic values: slices of structs that hold slices.
-/
namespace Go.Vc
open Go.ChangeShapes Go.WideShapes Go.ChangeAt Go.RowKit Go.Deep
/-- A cell: of a kind, or a slice of flat elements. -/
inductive CN where
  | c (k : CK) | sl (ck : List CK)
def CN.ck : CN → CK
  | .c k => k
  | .sl _ => .sl
def CellN (M : HL) : CN → Value → Prop
  | .c k, x => CellW k x
  | .sl ck, x => ∃ e rows, Vc.RowsIn M e ck x rows ∧ ∀ r ∈ rows, FitW ck r
def FitN (M : HL) : List CN → List Value → Prop
  | [], [] => True
  | k :: r, x :: l => CellN M k x ∧ FitN M r l
  | _, _ => False
theorem FitN.length {M : HL} : ∀ {ck : List CN} {l : List Value}, FitN M ck l → l.length = ck.length
  | [], [], _ => rfl
  | _ :: _, _ :: _, h => by simp only [FitN] at h; simp [FitN.length h.2]
  | [], _ :: _, h => by simp [FitN] at h
  | _ :: _, [], h => by simp [FitN] at h
theorem CellN.fits {M : HL} : ∀ {k : CN} {x : Value}, CellN M k x → k.ck.fits x
  | .c _, _, h => CellW.fits h
  | .sl _, _, ⟨_, _, h, _⟩ => h.is
theorem FitN.get {M : HL} : ∀ {ck : List CN} {l : List Value}, FitN M ck l → ∀ {f : Nat} {k : CN}, ck[f]? = some k → CellN M k (l.getD f undef)
  | k :: r, x :: l, h, 0, k', hk => by simp only [FitN] at h; simp at hk; subst hk; simpa using h.1
  | k :: r, x :: l, h, f + 1, k', hk => by simp only [FitN] at h; simpa using FitN.get h.2 (by simpa using hk)
  | [], _, _, _, _, hk => by simp at hk
  | _ :: _, [], h, _, _, _ => by simp [FitN] at h
theorem FitN.append {M : HL} : ∀ {ck ck' : List CN} {l l' : List Value}, FitN M ck l → FitN M ck' l' → FitN M (ck ++ ck') (l ++ l')
  | [], _, [], _, _, h' => by simpa using h'
  | _ :: _, _, _ :: _, _, h, h' => by simp only [FitN] at h; simp only [List.cons_append, FitN]; exact ⟨h.1, FitN.append h.2 h'⟩
  | [], _, _ :: _, _, h, _ => by simp [FitN] at h
  | _ :: _, _, [], _, h, _ => by simp [FitN] at h
theorem SliceIn.rowsIn {w : World} {ck : List CK} {rows : List (List Value)} {v : Value} (h : SliceIn w ck rows v) : ∃ e, Vc.RowsIn (fun k => w.heap[k]?) e ck v rows := by
  obtain ⟨x, e, hx⟩ := h
  obtain ⟨⟨h0, h1⟩, h2⟩ := hx (fun _ => none) 0
  have hp : plusN (fun _ => none) 0 x 0 = x := by simp [plusN]
  rw [hp] at h1
  obtain ⟨a, c, rfl, hl, h3⟩ := h2
  refine ⟨e, h0, ?_⟩
  rcases h3 with rfl | ⟨b, base, cap, h4, rfl, h5⟩
  · have : rows = [] := List.eq_nil_of_length_eq_zero (by omega)
    subst this
    exact .inl ⟨rfl, a, rfl⟩
  · rw [hp] at h4
    subst h4
    simp only [Bool.false_eq_true, if_false] at h1
    obtain ⟨cur, fr, h6, h7, h8⟩ := h1
    exact .inr ⟨b, base, c, cur, fr, by simp, hl, h6, h8⟩
variable {H : Type} {enc : TypeId × Value → H} {P : Program} {w : World}
/-- A slice's elements, each of which is as the type says. -/
theorem slice_of {t e : TypeId} {ck : List CK} {Q : List Value → Prop} {fuel : Nat} {cs : List Value} {x : DataW H × List MemPlace} (ht : P.underlying t = some (.slice e)) (hc : P.cellsOf e = ck.length) (hpos : 0 < ck.length)
    (hQ : ∀ (m : Nat) (l : List Value) y, DataW.trod enc P w 0 (fun _ => true) true m e l = some y → Q l) (hQl : ∀ l, Q l → l.length = ck.length) (hQf : ∀ l, Q l → ∀ (f : Nat) (k : CK), ck[f]? = some k → k.fits (l.getD f undef))
    (h : DataW.trod enc P w 0 (fun _ => true) true fuel t cs = some x) : ∃ v rows, cs = [v] ∧ (∀ r ∈ rows, Q r) ∧ SliceIn w ck rows v := by
  rcases open_slice ht h with ⟨hcs, _⟩ | ⟨a, l, c, m, n, D, Pl, hcs, _, hl, hm, hmm, _, hx⟩
  · exact ⟨_, [], hcs, by simp, none, 0, fun ρ k => nil_in hpos ρ k⟩
  · simp only [if_true] at hmm
    subst hmm
    obtain ⟨V, hV⟩ := choose_lt (α := List Value) (p := fun i cs => w.cells? 0 (a.add (i * P.cellsOf e)) (P.cellsOf e) = some cs ∧ Q cs) (fun i hi => by
      obtain ⟨cs', h1, h2⟩ := hx i hi
      exact ⟨cs', h1, hQ _ _ _ h2⟩)
    have hg : ∀ i, i < m → (((List.range m).map V).getD i []) = V i := fun i hi => by simp [List.getD, hi]
    obtain ⟨y, ty, hy⟩ := slice_in (w := w) (a := a) (len := l) (cap := m) (ck := ck) (rows := (List.range m).map V) hpos hl (by simp) (fun r hr => by
        obtain ⟨i, hi, rfl⟩ := List.mem_map.1 hr
        exact hQl _ (hV i (List.mem_range.1 hi)).2)
      (fun i f hi hf => by
        rw [hg i hi]
        obtain ⟨h1, h2⟩ := hV i hi
        obtain ⟨_, h3, h4⟩ := World.cells?_some h1
        have := h4 f (by omega)
        rw [← hc, show a.add (i * P.cellsOf e + f) = (a.add (i * P.cellsOf e)).add f from by simp [Addr.add_add], this]
        simp [List.getD, List.getElem?_eq_getElem (show f < (V i).length by omega)])
      (fun i f k hi hk => by
        rw [hg i hi]
        exact hQf _ (hV i hi).2 f k hk)
    refine ⟨_, ((List.range m).map V).take l, hcs, fun r hr => ?_, y, ty, fun ρ k => ?_⟩
    · obtain ⟨i, hi, rfl⟩ := List.mem_map.1 (List.mem_of_mem_take hr)
      exact (hV i (List.mem_range.1 hi)).2
    · have := hy ρ k
      have hlen : (((List.range m).map V).take l).length = l := by simp; omega
      rw [hlen]
      exact this
section
variable (P : Program)
def cnOf : (depth : Nat) → TypeId → List CN
  | 0, _ => []
  | d + 1, t => match P.underlying t with
    | some (.int k) => [.c (.int k)]
    | some .bool => [.c .bool]
    | some (.slice e) => [.sl (ckOf P 6 e)]
    | some (.struct fs) => fs.toList.flatMap fun f => cnOf d f.type
    | _ => [.c .raw]
/-- A type of numbers, truths and slices of flat ones. -/
def nestB : Nat → TypeId → Bool
  | 0, _ => false
  | d + 1, t => match P.underlying t with
    | some (.int _) => true
    | some .bool => true
    | some (.slice e) => flatB P 6 e && (ckOf P 6 e).length == P.cellsOf e && decide (0 < P.cellsOf e)
    | some (.struct fs) => fieldsB P (nestB d) (fun t => (cnOf P d t).map CN.ck) (P.cellsOf t) fs.toList 0
    | _ => false
end
theorem nest_fields {M : HL} {fl : TypeId → Bool} {cn : TypeId → List CN} {cs : List Value} {m : Nat} (ih : ∀ t l x, fl t = true → DataW.trod enc P w 0 (fun _ => true) true m t l = some x → FitN M (cn t) l) :
    ∀ (fs : List Field) (n : Nat), fieldsB P fl (fun t => (cn t).map CN.ck) cs.length fs n = true → (∀ f ∈ fs, ∃ x, DataW.trod enc P w 0 (fun _ => true) true m f.type ((cs.drop f.offset).take (P.cellsOf f.type)) = some x) → n ≤ cs.length → FitN M (fs.flatMap fun f => cn f.type) (cs.drop n)
  | [], n, h, _, _ => by
    simp only [fieldsB, beq_iff_eq] at h
    rw [h, List.drop_length]
    trivial
  | f :: r, n, h, hx, hn => by
    simp only [fieldsB, Bool.and_eq_true, beq_iff_eq, List.length_map] at h
    obtain ⟨⟨⟨h1, h2⟩, h3⟩, h4⟩ := h
    obtain ⟨x, hx0⟩ := hx f (by simp)
    have hf := ih _ _ _ h2 hx0
    have hl := hf.length
    rw [h3, h1] at hl
    have hl2 : n + P.cellsOf f.type ≤ cs.length := by
      simp at hl
      omega
    have := nest_fields ih r (n + P.cellsOf f.type) h4 (fun f' hf' => hx f' (by simp [hf'])) hl2
    rw [List.flatMap_cons, show cs.drop n = (cs.drop n).take (P.cellsOf f.type) ++ (cs.drop n).drop (P.cellsOf f.type) from (List.take_append_drop _ _).symm, List.drop_drop]
    rw [h1] at hf
    exact hf.append this
theorem nest_trod : ∀ (d : Nat) (fuel : Nat) (t : TypeId) (cs : List Value) (x : DataW H × List MemPlace), nestB P d t = true → DataW.trod enc P w 0 (fun _ => true) true fuel t cs = some x → FitN (fun k => w.heap[k]?) (cnOf P d t) cs
  | 0, _, _, _, _, h, _ => by simp [nestB] at h
  | d + 1, fuel, t, cs, x, h, hd => by
    unfold nestB at h
    unfold cnOf
    split at h
    · rename_i k ht
      obtain ⟨n, rfl, _, hw⟩ := DataW.trod_int ht hd
      exact ⟨⟨n, rfl, hw⟩, trivial⟩
    · rename_i ht
      cases fuel with
      | zero => simp [DataW.trod] at hd
      | succ m =>
        unfold DataW.trod at hd
        rw [ht] at hd
        split at hd <;> simp_all
        exact ⟨⟨_, rfl⟩, trivial⟩
    · rename_i e ht
      simp only [Bool.and_eq_true, beq_iff_eq, decide_eq_true_eq] at h
      obtain ⟨⟨h1, h2⟩, h3⟩ := h
      obtain ⟨v, rows, rfl, hq, hs⟩ := slice_of (ck := ckOf P 6 e) (Q := FitW (ckOf P 6 e)) ht h2.symm (by omega) (fun m l y hy => flat_trod 6 m e l y h1 hy) (fun l hl => hl.length) (fun l hl f k hk => (hl.get hk).fits) hd
      obtain ⟨e0, hR⟩ := hs.rowsIn
      exact ⟨⟨e0, rows, hR, hq⟩, trivial⟩
    · rename_i fs ht
      obtain ⟨xs, m, rfl, _, hl, hn, hx⟩ := DataW.trod_struct ht hd
      rw [← hl] at h
      have := nest_fields (fun t l x => nest_trod d m t l x) fs.toList 0 h (fun f hf => by
        obtain ⟨i, hi, rfl⟩ := List.getElem_of_mem hf
        have := hx i fs[i] (by simp at hi; simp [hi])
        rw [List.getElem?_eq_getElem (by simp at hi; omega)] at this
        exact ⟨_, by simpa using this⟩) (by omega)
      simpa using this
    · cases h
/-- A slice of such elements that came in. -/
theorem nests_in {t e : TypeId} {v : Value} {d : DataW H} {p : List MemPlace} {b : Nat} {cn : List CN} (ht : P.underlying t = some (.slice e)) (hf : nestB P 6 e = true) (hck : cnOf P 6 e = cn) (hc : P.cellsOf e = cn.length) (hpos : 0 < cn.length)
    (hv : Value.okWide P w .any b t v) (h : DataW.Trod enc P w 0 (fun _ => true) true t v d p) : ∃ rows : List (List Value), (∀ r ∈ rows, FitN (fun k => w.heap[k]?) cn r) ∧ SliceIn w (cn.map CN.ck) rows v := by
  obtain ⟨ad, len, cap, rfl⟩ := okWide_slice ht hv
  obtain ⟨fuel, h⟩ := h
  obtain ⟨v, rows, hcs, hq, hs⟩ := slice_of (ck := cn.map CN.ck) (Q := FitN (fun k => w.heap[k]?) cn) ht (by simpa using hc) (by simpa using hpos) (fun m l y hy => by rw [← hck]; exact nest_trod 6 m e l y hf hy) (fun l hl => by simpa using hl.length) (fun l hl f k hk => by
    rw [List.getElem?_map] at hk
    obtain ⟨k', hk', rfl⟩ := Option.map_eq_some_iff.1 hk
    exact (hl.get hk').fits) h
  obtain rfl : v = .slice ad len cap := by simpa [Value.cells] using hcs.symm
  exact ⟨rows, hq, hs⟩
end Go.Vc
