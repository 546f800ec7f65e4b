/-
  More of a thing: no less stays in order. Plain.
-/
import Derived.Test.YtkfkoldaeplckaaCu
namespace Go.Proofs.Ytkfkoldaeplckaa
open Go Go.Vc
/-- The second holds the first, and may hold more. -/
structure More (x x' : Op) : Prop where
  k : x'.k = x.k
  sz : x'.sz = x.sz
  ad : x'.ad = x.ad
  pr : x'.pr = x.pr
  aq : x.aq = true → x'.aq = true
  rl : x.rl = true → x'.rl = true
  pd : ∀ z, byB x.pd z = true → byB x'.pd z = true
  sc : ∀ z, byB x.sc z = true → byB x'.sc z = true
  da : ∀ a, a ∈ x.da → a ∈ x'.da
  dd : ∀ a, a ∈ x.dd → a ∈ x'.dd
  dc : ∀ a, a ∈ x.dc → a ∈ x'.dc
theorem More.refl (x : Op) : More x x := ⟨rfl, rfl, rfl, rfl, id, id, fun _ => id, fun _ => id, fun _ => id, fun _ => id, fun _ => id⟩
theorem by_kind {s : Int} {z z' : Op} (h : z'.k = z.k) : byB s z' = byB s z := by unfold byB rd wr; rw [h]
theorem by_three {s : Int} {z : Op} (h : byB s z = true) : byB 3 z = true := by
  unfold byB at h ⊢
  rw [show bitB 3 1 = true by decide +kernel, show bitB 3 2 = true by decide +kernel]
  rw [Bool.or_eq_true, Bool.and_eq_true, Bool.and_eq_true] at h ⊢
  exact h.imp (fun h => ⟨h.1, rfl⟩) fun h => ⟨h.1, rfl⟩
theorem More.wr {x x' : Op} (h : More x x') : wr x' = wr x := by unfold Ytkfkoldaeplckaa.wr; rw [h.k]
theorem More.rd {x x' : Op} (h : More x x') : rd x' = rd x := by unfold Ytkfkoldaeplckaa.rd; rw [h.k]
theorem More.lo {x x' : Op} (h : More x x') : opLo x' = opLo x := by unfold opLo; rw [h.k, h.ad]
theorem More.hi {x x' : Op} (h : More x x') : opHi x' = opHi x := by unfold opHi; rw [h.k, h.ad, h.sz]
theorem More.meet {x x' y y' : Op} (h : More x x') (h2 : More y y') : meetB [x', y'] = meetB [x, y] := by
  simp [meetB, mxF, mnF, h.lo, h.hi, h2.lo, h2.hi]
theorem More.meet3 {x x' y y' z z' : Op} (h : More x x') (h2 : More y y') (h3 : More z z') : meetB [x', y', z'] = meetB [x, y, z] := by
  simp [meetB, mxF, mnF, h.lo, h.hi, h2.lo, h2.hi, h3.lo, h3.hi]
theorem any_mono {n : Nat} {p q : Nat → Bool} (h : ∀ j, p j = true → q j = true) (hp : anyB n p = true) : anyB n q = true := by
  obtain ⟨j, hj, h1⟩ := List.any_eq_true.1 hp
  exact List.any_eq_true.2 ⟨j, hj, h j h1⟩
def Mores (l m : List Op) : Prop := l.length = m.length ∧ ∀ j : Nat, More (l.getD j default) (m.getD j default)
theorem Mores.over {l m : List Op} (h : Mores l m) {x x' y y' : Op} (hx : More x x') (hy : More y y') (off n : Nat) : overB m off n x' y' = overB l off n x y := by
  have : overP m off x' y' = overP l off x y := funext fun j => by
    unfold overP
    rw [(h.2 _).wr, (h.2 _).meet3 hx hy]
  unfold overB
  rw [this]
theorem Mores.bar {l m : List Op} (h : Mores l m) {x x' y y' : Op} (hx : More x x') (hy : More y y') (off n : Nat) (hb : barB l off n x y = true) : barB m off n x' y' = true := by
  refine any_mono (fun j hj => ?_) hb
  unfold barP at hj ⊢
  rw [Bool.and_eq_true, Bool.and_eq_true] at hj ⊢
  obtain ⟨⟨h1, h2⟩, h3⟩ := hj
  rw [(h.2 _).k, by_kind hx.k, by_kind hy.k]
  exact ⟨⟨h1, (h.2 _).pd _ h2⟩, (h.2 _).sc _ h3⟩
theorem Mores.pl {l m : List Op} (h : Mores l m) (off n : Nat) (a : Int) (hb : plB l off n a = true) : plB m off n a = true := by
  refine any_mono (fun j hj => ?_) hb
  unfold plP at hj ⊢
  rw [Bool.and_eq_true] at hj ⊢
  rw [(h.2 _).k]
  exact ⟨hj.1, decide_eq_true ((h.2 _).da _ (of_decide_eq_true hj.2))⟩
theorem Mores.th {l m : List Op} (h : Mores l m) (a b : Nat) (hb : thB l a b = true) : thB m a b = true := by
  refine any_mono (fun j hj => ?_) hb
  unfold thP at hj ⊢
  simp only [Bool.and_eq_true, Bool.or_eq_true, decide_eq_true_eq] at hj ⊢
  rw [(h.2 _).wr, (h.2 _).meet (h.2 _), h.over (h.2 _) (h.2 _)]
  exact ⟨⟨⟨hj.1.1.1, hj.1.1.2.imp ((h.2 _).da _) ((h.2 _).dd _)⟩, hj.1.2⟩, hj.2⟩
theorem Mores.last {l m : List Op} (h : Mores l m) : ∀ i, lastN m i = lastN l i
  | 0 => rfl
  | i + 1 => by unfold lastN; rw [(h.2 i).pr, h.last i]
theorem Mores.pairN {l m : List Op} (h : Mores l m) (i : Nat) : pairN m i = pairN l i := by
  unfold Ytkfkoldaeplckaa.pairN
  rw [h.last, (h.2 i).pr, (h.2 i).k, (h.2 _).k]
theorem Mores.pairs {l m : List Op} (h : Mores l m) : pairsL m = pairsL l := by
  unfold pairsL
  rw [h.1]
  exact List.map_congr_left fun i _ => h.pairN i
theorem first_step {c c' : Bool} {v : Int} {r r' : List (Bool × Int)} (hc : c = true → c' = true) (hv : 0 < v) (h : 0 < firstT r → 0 < firstT r') (hp : 0 < firstT ((c, v) :: r)) : 0 < firstT ((c', v) :: r') := by
  cases c' with
  | true => exact hv
  | false =>
    cases c with
    | true => cases hc rfl
    | false => exact h hp
theorem first_head {c : Bool} {v : Int} {r r' : List (Bool × Int)} (h : 0 < firstT r → 0 < firstT r') (hp : 0 < firstT ((c, v) :: r)) : 0 < firstT ((c, v) :: r') := by
  cases c with
  | true => exact hp
  | false => exact h hp
theorem and_mono {a a' b b' : Bool} (h : a = true → a' = true) (h2 : b = true → b' = true) (hp : (a && b) = true) : (a' && b') = true := by
  rw [Bool.and_eq_true] at hp ⊢
  exact ⟨h hp.1, h2 hp.2⟩
theorem More.mkd {x x' : Op} (h : More x x') (hp : Ytkfkoldaeplckaa.mk x = true) : Ytkfkoldaeplckaa.mk x' = true := by
  unfold Ytkfkoldaeplckaa.mk at hp ⊢
  rw [Bool.or_eq_true] at hp ⊢
  exact hp.imp h.aq h.rl
theorem why_more {l m : List Op} (h : Mores l m) (a b : Nat) (hab : a < b) (hb : b < l.length) (hp : 0 < whyN l a b) : 0 < whyN m a b := by
  have hbm : b < m.length := by rw [← h.1]; exact hb
  unfold whyN at hp ⊢
  rw [if_pos ⟨by omega, by omega, by omega⟩, Int.toNat_natCast, Int.toNat_natCast] at hp ⊢
  rw [h.pairs]
  have hx := h.2 a
  have hy := h.2 b
  revert hp
  unfold withN
  rw [show w0 (m.getD a default) (m.getD b default) = w0 (l.getD a default) (l.getD b default) by unfold w0; rw [hx.k, hy.k]]
  refine first_head ?_
  refine first_step (fun h1 => ?_) (by decide) ?_
  · unfold w1 at h1 ⊢; rwa [hy.wr, hx.meet hy]
  refine first_step (fun h1 => ?_) (by decide) ?_
  · unfold w2 at h1 ⊢; rwa [hx.rd, hy.rd, hx.meet hy, h.over hx hy]
  refine first_step (fun h1 => ?_) (by decide) ?_
  · unfold w3 at h1 ⊢; rwa [hx.k, hx.pr, hx.wr, hy.rd, hx.meet hy]
  refine first_step (fun h1 => h.bar hx hy _ _ h1) (by decide) ?_
  refine first_step hx.aq (by decide) ?_
  refine first_step hy.rl (by decide) ?_
  refine first_step (and_mono hx.mkd hy.mkd) (by decide) ?_
  refine first_step id (by decide) ?_
  refine first_step (fun h1 => decide_eq_true (hy.da _ (of_decide_eq_true h1))) (by decide) ?_
  refine first_step (fun h1 => decide_eq_true (hy.dd _ (of_decide_eq_true h1))) (by decide) ?_
  refine first_step (fun h1 => ?_) (by decide) ?_
  · unfold w11 at h1 ⊢; rw [hy.wr]; exact and_mono id (fun h2 => decide_eq_true (hy.dc _ (of_decide_eq_true h2))) h1
  refine first_step (fun h1 => ?_) (by decide) ?_
  · unfold w12 at h1 ⊢; rw [hy.rd]; exact and_mono id (h.th a b) h1
  refine first_step (fun h1 => ?_) (by decide) id
  unfold w13 at h1 ⊢; rw [hy.wr]; exact and_mono id (h.pl _ _ _) h1
end Go.Proofs.Ytkfkoldaeplckaa
