/-
  RobCuts: the plain law.
-/
import Derived.Test.YthmofpilphfkcaaDoorCf
namespace Go.Proofs.YthmofpilphfkcaaDoor
open Go Go.Vc
set_option maxRecDepth 100000
set_option linter.unusedSimpArgs false
set_option linter.unusedVariables false
/-- So many pushed. -/
def pk (k : Nat) : List (Int × Bool) := (List.range k).map fun j => (((j : Nat) : Int), false)
theorem pk_len (k : Nat) : (pk k).length = k := by simp [pk]
theorem pk_next (k : Nat) : pk (k + 1) = pk k ++ [((k : Int), false)] := by unfold pk; rw [List.range_succ, List.map_append]; rfl
theorem pk_get {k i : Nat} (h : i < k) : (pk k).getD i (0, false) = ((i : Int), false) := by simp [pk, List.getD, h]
/-- m kept, i more pushed. -/
def al (n m i : Nat) : List (Int × Bool) := pk m ++ (List.range i).map fun j => (((n + j : Nat) : Int), false)
theorem al_len (n m i : Nat) : (al n m i).length = m + i := by simp [al, pk_len]
theorem al_next (n m i : Nat) : al n m (i + 1) = al n m i ++ [(((n + i : Nat) : Int), false)] := by unfold al; rw [List.range_succ, List.map_append, List.append_assoc]; rfl
theorem al_zero (n m : Nat) : al n m 0 = pk m := by simp [al]
theorem al_get1 {n m r i : Nat} (h : i < m) : ((al n m r).getD i (0, false)).1 = (i : Int) := by
  have := pk_get h
  unfold al
  rw [List.getD_eq_getElem?_getD, List.getElem?_append_left (by rw [pk_len]; exact h), ← List.getD_eq_getElem?_getD, this]
theorem al_get2 {n m r j : Nat} (h : j < r) : ((al n m r).getD (m + j) (0, false)).1 = ((n + j : Nat) : Int) := by
  unfold al
  rw [List.getD_eq_getElem?_getD, List.getElem?_append_right (by rw [pk_len]; omega), pk_len, show m + j - m = j by omega]
  simp [h]
theorem pk_split {n m : Nat} (h : m ≤ n) : pk n = pk m ++ (pk n).drop m := by
  have : (pk n).take m = pk m := by
    unfold pk
    rw [← List.map_take, List.take_range, Nat.min_eq_left h]
  conv => lhs; rw [← List.take_append_drop m (pk n), this]
theorem pk_ix {n m : Nat} (h : m ≤ n) (k : Int) (hk : IxOK ((m : Int) - 1) (pk n) k) : k = (m : Int) - 1 := by
  rcases hk with ⟨rfl, hn⟩ | ⟨i, hi, rfl, he, _⟩
  · by_cases h0 : m = 0
    · omega
    · exfalso
      refine hn (m - 1) (by rw [pk_len]; omega) ?_
      rw [pk_get (by omega)]
      show ((m - 1 : Nat) : Int) = _
      omega
  · rw [pk_len] at hi
    rw [pk_get hi] at he
    exact he
theorem al_not {n m r i : Nat} (hm : m ≤ n) (hr : r ≤ 10) (hi : i < (al n m r).length) : ((al n m r).getD i (0, false)).1 ≠ (n : Int) + 100 := by
  rw [al_len] at hi
  by_cases h : i < m
  · rw [al_get1 h]; omega
  · obtain ⟨j, rfl⟩ : ∃ j, i = m + j := ⟨i - m, by omega⟩
    rw [al_get2 (by omega)]; omega
theorem al_ix {n m r : Nat} (hm : m ≤ n) (hr : r ≤ 10) (k : Int) (hk : IxOK ((n : Int) + 100) (al n m r) k) : k = -1 := by
  rcases hk with ⟨rfl, _⟩ | ⟨i, hi, rfl, he, _⟩
  · rfl
  · exact absurd he (al_not hm hr hi)
theorem cnt_zero {id : Int} : ∀ {L : List (Int × Bool)}, (∀ x ∈ L, x.1 ≠ id) → cntE id L = 0
  | [], _ => rfl
  | x :: l, h => by
    unfold cntE
    rw [if_neg (fun hh => h x (by simp) hh.1), cnt_zero fun y hy => h y (by simp [hy])]
theorem al_cnt {n m r : Nat} (hm : m ≤ n) (hr : r ≤ 10) : cntE ((n : Int) + 100) (al n m r) = 0 := cnt_zero fun x hx => by
  obtain ⟨i, hi, rfl⟩ := List.getElem_of_mem hx
  have := al_not hm hr hi
  rw [List.getD_eq_getElem?_getD, List.getElem?_eq_getElem hi] at this
  exact this
theorem cut_get {n m i : Nat} (h : i < n - m) : (cutOut (pk n) m).getD i 0 = (n : Int) - 1 - i := by
  unfold cutOut
  have hl : i < ((pk n).drop m).length := by simp [pk_len]; omega
  rw [List.getD_eq_getElem?_getD, List.getElem?_reverse (by simp [pk_len]; omega)]
  simp only [List.length_map, List.length_drop, pk_len, List.getElem?_map, List.getElem?_drop]
  have hg := pk_get (k := n) (i := m + (n - m - 1 - i)) (by omega)
  rw [List.getD_eq_getElem?_getD] at hg
  have hs : (pk n)[m + (n - m - 1 - i)]? = some (((m + (n - m - 1 - i) : Nat) : Int), false) := by
    have hlt : m + (n - m - 1 - i) < (pk n).length := by rw [pk_len]; omega
    rw [List.getElem?_eq_getElem hlt] at hg ⊢
    simpa using hg
  rw [hs]
  simp only [Option.map_some, Option.getD_some]
  omega
end Go.Proofs.YthmofpilphfkcaaDoor
