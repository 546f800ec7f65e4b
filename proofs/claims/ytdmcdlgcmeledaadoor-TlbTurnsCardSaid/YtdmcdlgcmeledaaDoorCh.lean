/-
  TlbTurns: the plain law of its states.
-/
import Derived.Test.YtdmcdlgcmeledaaDoorCg
namespace Go.Proofs.YtdmcdlgcmeledaaDoor
open Go Go.Vc
set_option maxRecDepth 100000
set_option linter.unusedSimpArgs false
set_option linter.unusedVariables false
theorem and15 (a : Int) : ∃ q : Nat, q < 16 ∧ IntKind.i64.wrap ((BitVec.ofInt IntKind.i64.bits a &&& BitVec.ofInt IntKind.i64.bits 15).toNat : Int) = (q : Int) := by
  have h : (BitVec.ofInt IntKind.i64.bits a &&& BitVec.ofInt IntKind.i64.bits 15).toNat < 16 := by
    rw [BitVec.toNat_and]
    exact Nat.lt_of_le_of_lt Nat.and_le_right (by decide)
  refine ⟨_, h, ?_⟩
  generalize (BitVec.ofInt IntKind.i64.bits a &&& BitVec.ofInt IntKind.i64.bits 15).toNat = q at h
  rw [IntKind.wrap_i64]
  omega
/-- A step: a page is put. -/
def putL (n : Int) (l : List One) (x : One) : List One := match idx l x.p with | some k => l.set k x | none => putN n l x
/-- What is known of the entries. -/
def TI (M : HL) (n : Nat) (l : List One) (vals : List Int) : Prop :=
  Kept M l ∧ vals.length = 16 ∧ l.length ≤ n ∧ (l.map (·.p)).Nodup ∧ ∀ x ∈ l, (∃ q : Nat, q < 16 ∧ x.p = q) ∧ x.c = [pteR (vals.getD x.p.toNat 0)]
theorem TI.nil (M : HL) (n : Nat) : TI M n [] (List.replicate 16 0) := ⟨fun _ h => (by cases h), by simp, by simp, by simp, fun _ h => (by cases h)⟩
theorem idx_none {l : List One} {p : Int} : idx l p = none ↔ p ∉ l.map (·.p) := by
  unfold idx
  rw [List.findIdx?_eq_none_iff]
  constructor
  · intro h hm
    obtain ⟨x, hx, rfl⟩ := List.mem_map.1 hm
    have := h x hx
    simp at this
  · intro h x hx
    simp only [decide_eq_false_iff_not]
    exact fun e => h (List.mem_map.2 ⟨x, hx, e⟩)
theorem idx_some {l : List One} {p : Int} {k : Nat} (h : idx l p = some k) : k < l.length ∧ (l.getD k default).p = p := by
  unfold idx at h
  rw [List.findIdx?_eq_some_iff_getElem] at h
  obtain ⟨hk, h1, _⟩ := h
  refine ⟨hk, ?_⟩
  simpa [List.getD, hk] using h1
theorem TI.set {M M' : HL} {n : Nat} {l : List One} {vals : List Int} (h : TI M n l vals) (hM : FLe M M') {q k : Nat} (hq : q < 16) (hk : idx l q = some k) {y : Value} (v : Int) (hR : Vc.RowsIn M' 42 pck y [pteR v]) :
    TI M' n (l.set k ⟨q, y, [pteR v]⟩) (vals.set q v) ∧ (l.set k ⟨(q : Int), y, [pteR v]⟩).map (·.p) = l.map (·.p) := by
  obtain ⟨h1, h2, h3, h4, h5⟩ := h
  obtain ⟨hkl, hkp⟩ := idx_some hk
  have hmap : (l.set k ⟨(q : Int), y, [pteR v]⟩).map (·.p) = l.map (·.p) := by
    rw [List.map_set]
    apply List.ext_getElem?
    intro j
    by_cases hj : k = j
    · subst hj
      rw [List.getElem?_set_self (by simpa using hkl), List.getElem?_map]
      have : l[k].p = q := by simpa [List.getD, hkl] using hkp
      simp [hkl, this]
    · rw [List.getElem?_set_ne hj]
  refine ⟨⟨fun x hx => ?_, by simpa using h2, by simpa using h3, by rw [hmap]; exact h4, fun x hx => ?_⟩, hmap⟩
  · rcases List.mem_or_eq_of_mem_set hx with hx | rfl
    · exact (h1.mono hM) x hx
    · exact ⟨hR, by simp⟩
  · obtain ⟨j, hj, rfl⟩ := List.getElem_of_mem hx
    rw [List.length_set] at hj
    by_cases hjk : k = j
    · subst hjk
      rw [List.getElem_set_self]
      exact ⟨⟨q, hq, rfl⟩, by simp [List.getD, h2, hq]⟩
    · rw [List.getElem_set_ne hjk]
      obtain ⟨⟨q', hq', he⟩, hc⟩ := h5 l[j] (List.getElem_mem hj)
      refine ⟨⟨q', hq', he⟩, ?_⟩
      rw [hc, he, Int.toNat_natCast]
      have hne : q ≠ q' := fun e => by
        have hlk : l[k].p = q := by simpa [List.getD, hkl] using hkp
        have := (List.getElem_inj (xs := l.map (·.p)) (h₀ := by simpa using hkl) (h₁ := by simpa using hj) h4).1 (by simp only [List.getElem_map]; rw [hlk, he, e])
        exact hjk this
      rw [List.getD, List.getD, List.getElem?_set_ne hne]
theorem TI.put {M M' : HL} {n : Nat} {l : List One} {vals : List Int} (h : TI M n l vals) (hn : 1 ≤ n) (hM : FLe M M') {q : Nat} (hq : q < 16) (hk : idx l q = none) {y : Value} (v : Int) (hR : Vc.RowsIn M' 42 pck y [pteR v]) :
    TI M' n (putN n l ⟨q, y, [pteR v]⟩) (vals.set q v) := by
  obtain ⟨h1, h2, h3, h4, h5⟩ := h
  have hnm := idx_none.1 hk
  -- what is left of the old ones
  have key : ∀ l' : List One, (∀ x ∈ l', x ∈ l) → (l'.map (·.p)).Nodup → l'.length + 1 ≤ n → TI M' n (l' ++ [⟨q, y, [pteR v]⟩]) (vals.set q v) := by
    intro l' hs hnd hl
    refine ⟨fun x hx => ?_, by simpa using h2, by simpa using hl, ?_, fun x hx => ?_⟩
    · rcases List.mem_append.1 hx with hx | hx
      · exact (h1.mono hM) x (hs x hx)
      · rw [List.mem_singleton.1 hx]
        exact ⟨hR, by simp⟩
    · rw [List.map_append, List.nodup_append]
      refine ⟨hnd, by simp, fun a ha b hb => ?_⟩
      simp only [List.map_cons, List.map_nil, List.mem_singleton] at hb
      obtain ⟨x, hx, rfl⟩ := List.mem_map.1 ha
      exact fun e => hnm (List.mem_map.2 ⟨x, hs x hx, by rw [← hb, ← e]⟩)
    · rcases List.mem_append.1 hx with hx | hx
      · obtain ⟨⟨q', hq', he⟩, hc⟩ := h5 x (hs x hx)
        refine ⟨⟨q', hq', he⟩, ?_⟩
        rw [hc, he, Int.toNat_natCast]
        have hne : q ≠ q' := fun e => hnm (List.mem_map.2 ⟨x, hs x hx, by rw [he, e]⟩)
        rw [List.getD, List.getD, List.getElem?_set_ne hne]
      · rw [List.mem_singleton.1 hx]
        exact ⟨⟨q, hq, rfl⟩, by simp [List.getD, h2, hq]⟩
  unfold putN
  by_cases hf : (l.length : Int) = n
  · rw [if_pos hf]
    exact key _ (fun x hx => List.mem_of_mem_drop hx) (by rw [List.map_drop]; exact h4.sublist (List.drop_sublist _ _)) (by simp; omega)
  · rw [if_neg hf]
    exact key _ (fun x hx => hx) h4 (by omega)
theorem TI.filter {M : HL} {n : Nat} {l : List One} {vals : List Int} (h : TI M n l vals) (f : One → Bool) : TI M n (l.filter f) vals := by
  obtain ⟨h1, h2, h3, h4, h5⟩ := h
  refine ⟨fun x hx => h1 x ((List.mem_filter.1 hx).1), h2, Nat.le_trans (List.length_filter_le _ _) h3, ?_, fun x hx => h5 x ((List.mem_filter.1 hx).1)⟩
  exact h4.sublist (List.filter_sublist.map _)
theorem idx_keep (l : List One) (g p : Int) : (idx (l.filter (keep [g])) p).isSome = (decide (p ∈ l.map (·.p)) && !decide (p = g)) := by
  have h : ¬ idx (l.filter (keep [g])) p = none ↔ p ∈ l.map (·.p) ∧ ¬ p = g := by
    rw [idx_none, Classical.not_not, List.mem_map, List.mem_map]
    constructor
    · rintro ⟨x, hx, rfl⟩
      obtain ⟨h1, h2⟩ := List.mem_filter.1 hx
      refine ⟨⟨x, h1, rfl⟩, fun e => ?_⟩
      simp [keep, gone, e] at h2
    · rintro ⟨⟨x, hx, rfl⟩, h2⟩
      exact ⟨x, List.mem_filter.2 ⟨hx, by simp [keep, gone, h2]⟩, rfl⟩
  cases hi : idx (l.filter (keep [g])) p with
  | none =>
    have h2 : ¬ (p ∈ l.map (·.p) ∧ ¬ p = g) := fun h2 => h.2 h2 hi
    by_cases h3 : p ∈ l.map (·.p)
    · by_cases h4 : p = g
      · simp [h4]
      · exact absurd ⟨h3, h4⟩ h2
    · simp [h3]
  | some k =>
    obtain ⟨h3, h4⟩ := h.1 (by rw [hi]; simp)
    rw [decide_eq_true h3, decide_eq_false h4]
    rfl
theorem TI.look {M : HL} {n : Nat} {l : List One} {vals : List Int} (h : TI M n l vals) {q k : Nat} (hk : idx l q = some k) : look l q = [pteR (vals.getD q 0)] := by
  obtain ⟨h1, h2⟩ := idx_some hk
  unfold Go.Proofs.YtdmcdlgcmeledaaDoor.look
  rw [hk]
  simp only []
  obtain ⟨h3, h4⟩ := h.2.2.2.2 _ (getD_mem h1)
  rw [h4, h2, Int.toNat_natCast]
/-- So many of the pages below s are remembered. -/
def cntF (l : List One) (s : Nat) : Nat := ((List.range s).filter fun q : Nat => (idx l q).isSome).length
theorem cntF_succ (l : List One) (s : Nat) : cntF l (s + 1) = cntF l s + if (idx l s).isSome then 1 else 0 := by
  unfold cntF
  rw [List.range_succ, List.filter_append, List.length_append]
  by_cases h : (idx l s).isSome
  · simp [h]
  · simp [h]
theorem cntF_all {l : List One} (hnd : (l.map (·.p)).Nodup) (hq : ∀ x ∈ l, ∃ q : Nat, q < 16 ∧ x.p = q) : cntF l 16 = l.length := by
  unfold cntF
  have hnd2 : ((List.range 16).filter fun q : Nat => (idx l q).isSome).Nodup := List.nodup_range.sublist List.filter_sublist
  have hinj : (l.map fun x => x.p.toNat).Nodup := by
    unfold List.Nodup at hnd ⊢
    rw [List.pairwise_map] at hnd ⊢
    refine hnd.imp_of_mem fun {x z} hx hz hne e => hne ?_
    obtain ⟨q, _, h1⟩ := hq x hx
    obtain ⟨q', _, h2⟩ := hq z hz
    omega
  have hiff : ∀ a, a ∈ ((List.range 16).filter fun q : Nat => (idx l q).isSome) ↔ a ∈ l.map fun x => x.p.toNat := by
    intro a
    rw [List.mem_filter, List.mem_range, List.mem_map]
    constructor
    · rintro ⟨h1, h2⟩
      have h3 : ¬ idx l a = none := fun e => by rw [e] at h2; cases h2
      rw [idx_none] at h3
      obtain ⟨x, hx, he⟩ := List.mem_map.1 (Classical.not_not.1 h3)
      exact ⟨x, hx, by rw [show x.p = (a : Int) from he]; simp⟩
    · rintro ⟨x, hx, rfl⟩
      obtain ⟨q, h1, h2⟩ := hq x hx
      rw [h2, Int.toNat_natCast]
      refine ⟨h1, ?_⟩
      cases hi : idx l q with
      | some k => rfl
      | none => exact absurd (List.mem_map.2 ⟨x, hx, h2⟩) (idx_none.1 hi)
  have := (List.perm_ext_iff_of_nodup hnd2 hinj).2 hiff
  rw [this.length_eq, List.length_map]
end Go.Proofs.YtdmcdlgcmeledaaDoor
