/-
  Plain laws of the order that has to be kept.
-/
import Derived.Test.YtkfkoldaeplckaaCh
namespace Go.Proofs.Ytkfkoldaeplckaa
open Go Go.Vc
theorem meet2 (x y : Op) : meetB [x, y] = decide ((if opLo y > opLo x then opLo y else opLo x) < (if opHi y < opHi x then opHi y else opHi x)) := rfl
theorem meet_disj {x y : Op} (h : opHi x ≤ opLo y ∨ opHi y ≤ opLo x) : meetB [x, y] = false := by
  rw [meet2]
  apply decide_eq_false
  split <;> split <;> omega
/-- No operation is a barrier, paired, or marked; no two share a byte. -/
structure Bare (l : List Op) : Prop where
  k : ∀ j, j < l.length → ((l.getD j default).k == 4) = false
  pr : ∀ j, j < l.length → (l.getD j default).pr = false
  aq : ∀ j, j < l.length → (l.getD j default).aq = false
  rl : ∀ j, j < l.length → (l.getD j default).rl = false
  di : ∀ i j, i < l.length → j < l.length → i ≠ j → meetB [l.getD i default, l.getD j default] = false
theorem pairsL_get {l : List Op} {i : Nat} (hi : i < l.length) : (pairsL l).getD i 0 = pairN l i := by
  simp [pairsL, List.getD, hi]
theorem pairN_none {l : List Op} {i : Nat} (h : (l.getD i default).pr = false) : pairN l i = -1 := by
  unfold pairN
  rw [if_neg (by rw [h]; simp)]
theorem whyN_in {l : List Op} {a b : Nat} (h1 : a < b) (h2 : b < l.length) : whyN l a b = withN l (pairsL l) a b (l.getD a default) (l.getD b default) := by
  unfold whyN
  rw [if_pos ⟨by omega, by omega, by omega⟩, Int.toNat_natCast, Int.toNat_natCast]
theorem whyN_out {l : List Op} {a b : Int} (h : ¬ (0 ≤ a ∧ a < b ∧ b < l.length)) : whyN l a b = 0 := by
  unfold whyN
  rw [if_neg h]
theorem bare_why {l : List Op} (h : Bare l) {a b : Nat} (h1 : a < b) (h2 : b < l.length) : whyN l a b =
    if (a : Int) ∈ (l.getD b default).da then 9 else if (a : Int) ∈ (l.getD b default).dd then 10 else if wr (l.getD b default) = true ∧ (a : Int) ∈ (l.getD b default).dc then 11
    else if wr (l.getD b default) = true ∧ plB l (a + 1) (b - (a + 1)) a = true then 13 else 0 := by
  have ha : a < l.length := by omega
  have hm := h.di a b ha h2 (by omega)
  have ht : thB l a b = false := anyB_false fun j hj => by
    unfold thP
    rw [h.di (a + 1 + j) b (by omega) h2 (by omega)]
    simp
  have hb : barB l (a + 1) (b - (a + 1)) (l.getD a default) (l.getD b default) = false := anyB_false fun j hj => by
    unfold barP
    rw [h.k (a + 1 + j) (by omega)]
    simp
  have hp : w8 (pairsL l) a b = false := by
    unfold w8
    rw [pairsL_get h2, pairN_none (h.pr b h2)]
    exact beq_eq_false_iff_ne.2 (by omega)
  rw [whyN_in h1 h2]
  unfold withN w0 w1 w2 w3 w7 mk w11 w12 w13
  rw [h.k a ha, h.k b h2, hm, hb, h.aq a ha, h.rl b h2, h.rl a ha, h.aq b h2, hp, ht]
  simp only [Bool.and_false, Bool.false_and, Bool.or_false, firstT]
  unfold w9
  clear hm ht hb hp
  generalize l.getD b default = y
  generalize l.getD a default = x
  clear h
  by_cases q1 : (a : Int) ∈ y.da
  · rw [decide_eq_true q1, if_pos q1]; rfl
  · rw [decide_eq_false q1, if_neg q1]
    by_cases q2 : (a : Int) ∈ y.dd
    · rw [decide_eq_true q2, if_pos q2]; rfl
    · rw [decide_eq_false q2, if_neg q2]
      cases q3 : wr y with
      | false => simp [firstT]
      | true =>
        by_cases q4 : (a : Int) ∈ y.dc
        · rw [decide_eq_true q4]; simp [firstT, q4]
        · rw [decide_eq_false q4]
          cases q5 : plB l (a + 1) (b - (a + 1)) a <;> simp [firstT, q4]
end Go.Proofs.Ytkfkoldaeplckaa
