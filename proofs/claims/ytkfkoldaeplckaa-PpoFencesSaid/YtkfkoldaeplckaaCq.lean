/-
  PpoFences: the plain law.
-/
import Derived.Test.YtkfkoldaeplckaaCn
namespace Go.Proofs.Ytkfkoldaeplckaa
open Go Go.Vc
set_option maxRecDepth 100000
set_option linter.unusedSimpArgs false
set_option linter.unusedVariables false
def qOp (g : Nat → Bool) (j : Nat) : Op := op0 (kd (g j)) 4 ((4 * j : Nat) : Int)
def barO (P S : Int) : Op := ⟨4, 0, 0, 0, 0, false, false, false, P, S, nilV, nilV, nilV, [], [], []⟩
def fl (g : Nat → Bool) (P S : Int) (j : Nat) : Op := if j % 2 = 0 then qOp g (j / 2) else barO P S
theorem fl_even (g : Nat → Bool) (P S : Int) (i : Nat) : fl g P S (2 * i) = qOp g i := by
  unfold fl; rw [if_pos (by omega), show 2 * i / 2 = i by omega]
theorem fl_odd (g : Nat → Bool) (P S : Int) (i : Nat) : fl g P S (2 * i + 1) = barO P S := by
  unfold fl; rw [if_neg (by omega)]
theorem fl_next (g : Nat → Bool) (P S : Int) (i : Nat) : fOps (fl g P S) (2 * (i + 1)) = fOps (fl g P S) (2 * i) ++ [qOp g i, barO P S] := by
  rw [show 2 * (i + 1) = 2 * i + 1 + 1 by omega, fOps_next, fOps_next, fl_even, fl_odd, List.append_assoc]; rfl
/-- No operation is paired, or marked, or hangs on another one. -/
structure Calm (l : List Op) : Prop where
  pr : ∀ j, j < l.length → (l.getD j default).pr = false
  aq : ∀ j, j < l.length → (l.getD j default).aq = false
  rl : ∀ j, j < l.length → (l.getD j default).rl = false
  da : ∀ j, j < l.length → (l.getD j default).da = []
  dd : ∀ j, j < l.length → (l.getD j default).dd = []
  dc : ∀ j, j < l.length → (l.getD j default).dc = []
theorem calm_why {l : List Op} (h : Calm l) {a b : Nat} (h1 : a < b) (h2 : b < l.length) (ka : ((l.getD a default).k == 4) = false) (kb : ((l.getD b default).k == 4) = false)
    (hm : meetB [l.getD a default, l.getD b default] = false) : whyN l a b = if barB l (a + 1) (b - (a + 1)) (l.getD a default) (l.getD b default) = true then 4 else 0 := by
  have ha : a < l.length := by omega
  have ht : thB l a b = false := anyB_false fun j hj => by
    unfold thP
    rw [h.da (a + 1 + j) (by omega), h.dd (a + 1 + j) (by omega)]
    simp
  have hpl : plB l (a + 1) (b - (a + 1)) a = false := anyB_false fun j hj => by
    unfold plP
    rw [h.da (a + 1 + j) (by omega)]
    simp
  have hp : w8 (pairsL l) a b = false := by
    unfold w8
    rw [pairsL_get h2, pairN_none (h.pr b h2)]
    exact beq_eq_false_iff_ne.2 (by omega)
  rw [whyN_in h1 h2]
  unfold withN w0 w1 w2 w3 w7 mk w9 w11 w12 w13
  rw [ka, kb, hm, h.aq a ha, h.rl b h2, h.rl a ha, h.aq b h2, hp, ht, hpl, h.da b h2, h.dd b h2, h.dc b h2]
  simp only [Bool.and_false, Bool.false_and, Bool.or_false, firstT]
  cases barB l (a + 1) (b - (a + 1)) (l.getD a default) (l.getD b default) <;> simp [firstT]
theorem kd4 (b : Bool) : (kd b == 4) = false := by cases b <;> rfl
theorem qOp_calm (g : Nat → Bool) (j : Nat) : (qOp g j).pr = false ∧ (qOp g j).aq = false ∧ (qOp g j).rl = false ∧ (qOp g j).da = [] ∧ (qOp g j).dd = [] ∧ (qOp g j).dc = [] := ⟨rfl, rfl, rfl, rfl, rfl, rfl⟩
theorem fl_calm (g : Nat → Bool) (P S : Int) (j : Nat) : (fl g P S j).pr = false ∧ (fl g P S j).aq = false ∧ (fl g P S j).rl = false ∧ (fl g P S j).da = [] ∧ (fl g P S j).dd = [] ∧ (fl g P S j).dc = [] := by
  unfold fl
  split
  · exact ⟨rfl, rfl, rfl, rfl, rfl, rfl⟩
  · exact ⟨rfl, rfl, rfl, rfl, rfl, rfl⟩
theorem calm_of (f : Nat → Op) (n : Nat) (h : ∀ j, (f j).pr = false ∧ (f j).aq = false ∧ (f j).rl = false ∧ (f j).da = [] ∧ (f j).dd = [] ∧ (f j).dc = []) : Calm (fOps f n) := by
  have hl := fOps_len f n
  refine ⟨fun j hj => ?_, fun j hj => ?_, fun j hj => ?_, fun j hj => ?_, fun j hj => ?_, fun j hj => ?_⟩
  · rw [fOps_get f (by omega)]; exact (h j).1
  · rw [fOps_get f (by omega)]; exact (h j).2.1
  · rw [fOps_get f (by omega)]; exact (h j).2.2.1
  · rw [fOps_get f (by omega)]; exact (h j).2.2.2.1
  · rw [fOps_get f (by omega)]; exact (h j).2.2.2.2.1
  · rw [fOps_get f (by omega)]; exact (h j).2.2.2.2.2
theorem qMeet (g : Nat → Bool) {i k : Nat} (h : i < k) : meetB [qOp g i, qOp g k] = false := by
  apply meet_disj
  refine .inl ?_
  unfold opHi opLo
  have h1 : ¬ (qOp g i).k = 4 := by show ¬ kd (g i) = 4; unfold kd; split <;> omega
  have h2 : ¬ (qOp g k).k = 4 := by show ¬ kd (g k) = 4; unfold kd; split <;> omega
  rw [if_neg h1, if_neg h2]
  show ((4 * i : Nat) : Int) + 4 ≤ ((4 * k : Nat) : Int)
  omega
theorem bare_none (g : Nat → Bool) {i k n : Nat} (h1 : i < k) (h2 : k < n) : whyN (fOps (qOp g) n) i k = 0 := by
  have hl := fOps_len (qOp g) n
  have gi : (fOps (qOp g) n).getD i default = qOp g i := fOps_get _ (by omega)
  have gk : (fOps (qOp g) n).getD k default = qOp g k := fOps_get _ (by omega)
  rw [calm_why (calm_of (qOp g) n (qOp_calm g)) h1 (by omega) (by rw [gi]; exact kd4 _) (by rw [gk]; exact kd4 _) (by rw [gi, gk]; exact qMeet g h1)]
  have hb : barB (fOps (qOp g) n) (i + 1) (k - (i + 1)) ((fOps (qOp g) n).getD i default) ((fOps (qOp g) n).getD k default) = false := anyB_false fun j hj => by
    unfold barP
    rw [fOps_get _ (show i + 1 + j < n by omega), show ((qOp g (i + 1 + j)).k == 4) = false from kd4 _]
    rfl
  rw [hb]
  rfl
def ab (b : Bool) : Int := if b = true then 2 else 1
theorem byB_q (g : Nat → Bool) (i : Nat) (P : Int) : byB P (qOp g i) = bitB P (ab (g i)) := by
  unfold byB rd wr qOp op0 kd ab
  cases g i <;> simp
theorem full_why (g : Nat → Bool) (P S : Int) {i k n : Nat} (h1 : i < k) (h2 : k < n) : whyN (fOps (fl g P S) (2 * n)) ((2 * i : Nat) : Int) ((2 * k : Nat) : Int) = if (bitB P (ab (g i)) && bitB S (ab (g k))) = true then 4 else 0 := by
  have hl := fOps_len (fl g P S) (2 * n)
  have gi : (fOps (fl g P S) (2 * n)).getD (2 * i) default = qOp g i := by rw [fOps_get _ (by omega), fl_even]
  have gk : (fOps (fl g P S) (2 * n)).getD (2 * k) default = qOp g k := by rw [fOps_get _ (by omega), fl_even]
  rw [calm_why (calm_of (fl g P S) (2 * n) (fl_calm g P S)) (show 2 * i < 2 * k by omega) (by omega) (by rw [gi]; exact kd4 _) (by rw [gk]; exact kd4 _) (by rw [gi, gk]; exact qMeet g h1), gi, gk]
  have hb : barB (fOps (fl g P S) (2 * n)) (2 * i + 1) (2 * k - (2 * i + 1)) (qOp g i) (qOp g k) = (bitB P (ab (g i)) && bitB S (ab (g k))) := by
    cases hc : (bitB P (ab (g i)) && bitB S (ab (g k))) with
    | true =>
      refine anyB_true (j := 0) (by omega) ?_
      unfold barP
      rw [Nat.add_zero, fOps_get _ (show 2 * i + 1 < 2 * n by omega), fl_odd]
      show ((4 : Int) == 4 && byB P (qOp g i) && byB S (qOp g k)) = true
      rw [byB_q, byB_q]
      simpa using hc
    | false =>
      refine anyB_false fun j hj => ?_
      unfold barP
      rw [fOps_get _ (show 2 * i + 1 + j < 2 * n by omega)]
      unfold fl
      split
      · rw [show ((qOp g ((2 * i + 1 + j) / 2)).k == 4) = false from kd4 _]; rfl
      · show ((4 : Int) == 4 && byB P (qOp g i) && byB S (qOp g k)) = false
        rw [byB_q, byB_q]
        simpa using hc
  rw [hb]
theorem qOp_fit (g : Nat → Bool) {j : Nat} (h : j ≤ 1000) : Fit (qOp g j) :=
  ⟨by show (0 : Int) ≤ ((4 * j : Nat) : Int); omega, by show ((4 * j : Nat) : Int) < 4294967296; omega, fun _ => by show (0 : Int) ≤ 4 ∧ (4 : Int) ≤ 4; omega⟩
theorem qOps_fit (g : Nat → Bool) (n : Nat) (hn : n ≤ 12) : ∀ x ∈ fOps (qOp g) n, Fit x := by
  intro x hx
  obtain ⟨j, hj, rfl⟩ := List.mem_map.1 hx
  have := List.mem_range.1 hj
  exact qOp_fit g (by omega)
theorem fl_fit (g : Nat → Bool) (P S : Int) (n : Nat) (hn : n ≤ 12) : ∀ x ∈ fOps (fl g P S) (2 * n), Fit x := by
  intro x hx
  obtain ⟨j, hj, rfl⟩ := List.mem_map.1 hx
  have := List.mem_range.1 hj
  unfold fl
  split
  · exact qOp_fit g (by omega)
  · exact ⟨by show (0 : Int) ≤ 0; omega, by show (0 : Int) < 4294967296; omega, fun h => absurd rfl h⟩
theorem qOps_dep (M : HL) (g : Nat → Bool) (n : Nat) : Deps M (fOps (qOp g) n) := by
  intro x hx
  obtain ⟨j, hj, rfl⟩ := List.mem_map.1 hx
  exact dep0 ⟨rfl, rfl⟩ ⟨rfl, rfl⟩ ⟨rfl, rfl⟩
theorem fl_dep (M : HL) (g : Nat → Bool) (P S : Int) (n : Nat) : Deps M (fOps (fl g P S) n) := by
  intro x hx
  obtain ⟨j, hj, rfl⟩ := List.mem_map.1 hx
  unfold fl
  split
  · exact dep0 ⟨rfl, rfl⟩ ⟨rfl, rfl⟩ ⟨rfl, rfl⟩
  · exact dep0 ⟨rfl, rfl⟩ ⟨rfl, rfl⟩ ⟨rfl, rfl⟩
end Go.Proofs.Ytkfkoldaeplckaa
