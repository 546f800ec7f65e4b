/-
  PpoDeps, walked.
-/
import Derived.Test.YtkfkoldaeplckaaCk
namespace Go.Proofs.Ytkfkoldaeplckaa
open Go Go.Vc
set_option maxRecDepth 100000
set_option linter.unusedSimpArgs false
set_option linter.unusedVariables false
theorem modn (n : Int) (m : Nat) (h1 : 0 < m) (h2 : m ≤ 1000) : ∃ k : Nat, k < m ∧ (IntKind.i64.wrap (n.tmod m + m)).tmod m = k := by
  have ha := Int.tmod_lt_of_pos n (show (0 : Int) < m by omega)
  have hb : -(m : Int) < n.tmod m := by have := Int.lt_tmod_of_pos n (show (0 : Int) < m by omega); omega
  refine ⟨((n.tmod m + m).tmod m).toNat, ?_, ?_⟩
  · have h := Int.tmod_lt_of_pos (n.tmod m + m) (show (0 : Int) < m by omega)
    have h0 := Int.tmod_nonneg (a := n.tmod m + m) m (by omega)
    omega
  · have h0 := Int.tmod_nonneg (a := n.tmod m + m) m (by omega)
    rw [show IntKind.i64.wrap (n.tmod m + m) = n.tmod m + m from by rw [IntKind.wrap_i64]; omega]
    omega
theorem number_run (M : HL) (K : SV → List Ent → HL → Prop) (n : Int) (m : Nat) (h1 : 0 < m) (h2 : m ≤ 1000) (hK : ∀ k : Nat, k < m → K (.v (.int .i64 k)) [] M) :
    runF G0 pf10 [.v (.int .i64 n), .v (.int .i64 m)] [] M K := by
  obtain ⟨k, hk, he⟩ := modn n m h1 h2
  repeat ((conv => whnf); (first | refine Cnd.yes ?_ | refine Cnd.no ?_ | refine And.intro rfl ?_ | refine And.intro (by omega) ?_ | (refine And.intro ?_ ?_; focus (simp only [IntKind.wrap_i64, IntKind.wrap_u64, IntKind.wrap_u32]; omega)) | (refine And.intro ?_ ?_; focus (simp only [zl1, zl2, zl3, zl4, zl5, zl6, zl7, zl8, zl9] <;> omega)) | (refine Cnd.tt ?_ ?_; focus (first | (apply decide_eq_true; omega) | (simp only [zq1, zq2, zq3, zq4, zq5, zq6, zq7, zq8, zq9, zq10, zq11, zq12] <;> omega) | rfl)) | (refine Cnd.ff ?_ ?_; focus (first | (apply decide_eq_false; omega) | (simp only [zq1, zq2, zq3, zq4, zq5, zq6, zq7, zq8, zq9, zq10, zq11, zq12] <;> omega) | rfl))))
  conv => whnf
  rw [he]
  exact hK k hk
def numberS : Vc.Spec := fun args hp _ K => ∃ (n : Int) (m : Nat), args = [.v (.int .i64 n), .v (.int .i64 m)] ∧ hp = [] ∧ 0 < m ∧ m ≤ 1000 ∧ ∀ k : Nat, k < m → K (.v (.int .i64 k)) []
theorem number_ok : SOK Try.prog 10 numberS := by
  refine TOK.weaken (runF_eq G0_ok mixed at10.1 at10.2 pf10_eq) fun args hp M K h => ?_
  obtain ⟨n, m, rfl, rfl, h1, h2, h3⟩ := h
  exact number_run M K n m h1 h2 h3
noncomputable def specs9 : Nat → Option Vc.Trans := tget [(8, frameT firstS), (10, frameT numberS), (12, frameT whyS), (13, frameT pairsS)]
noncomputable def G9 : Nat → Option Vc.Trans := tabG specs9 (tget tab) 5
theorem G9_ok : GOK Try.prog G9 := tabG_ok (GOK.cons (frame_ok first_ok) (GOK.cons (frame_ok number_ok) (GOK.cons (frame_ok why_ok) (GOK.cons (frame_ok pairs_ok) .nil)))) tab_ok 5
def fOps (f : Nat → Op) (n : Nat) : List Op := (List.range n).map f
theorem fOps_len (f : Nat → Op) (n : Nat) : (fOps f n).length = n := by simp [fOps]
theorem fOps_get (f : Nat → Op) {i n : Nat} (h : i < n) : (fOps f n).getD i default = f i := by simp [fOps, List.getD, h]
theorem fOps_next (f : Nat → Op) (i : Nat) : fOps f (i + 1) = fOps f i ++ [f i] := by unfold fOps; rw [List.range_succ, List.map_append]; rfl
theorem fOps_set (f : Nat → Op) {b n : Nat} (hb : b < n) (k : Nat) (vals : List Value) (x : Op) (hx : over (orow (f b)) k vals = orow x) :
    ((fOps f n).map orow).set (0 + (b : Int).toNat) (over (((fOps f n).map orow).getD (0 + (b : Int).toNat) []) k vals) = (fOps (fun i => if i = b then x else f i) n).map orow := by
  rw [Nat.zero_add, Int.toNat_natCast]
  have e : ((fOps f n).map orow) = tblOf (fun i => orow (f i)) n := by unfold fOps tblOf; rw [List.map_map]; rfl
  rw [e, tblOf_get _ hb, tblOf_set _ hb, hx]
  unfold fOps tblOf
  rw [List.map_map]
  refine List.map_congr_left fun j _ => ?_
  show _ = orow (if j = b then x else f j)
  by_cases h : j = b
  · rw [if_pos h, if_pos h]
  · rw [if_neg h, if_neg h]
def f0 (i : Nat) : Op := op0 1 4 ((4 * i : Nat) : Int)
def kd (write : Bool) : Int := if write = true then 2 else 1
/-- The operation that hangs on another one. -/
def dOp (a b how : Nat) (write : Bool) (y : Value) : Op := ⟨kd write, 4, ((4 * b : Nat) : Int), 0, 0, false, false, false, 0, 0, if how = 0 then y else nilV, if how = 1 then y else nilV, if how = 2 then y else nilV,
  if how = 0 then [(a : Int)] else [], if how = 1 then [(a : Int)] else [], if how = 2 then [(a : Int)] else []⟩
def dF (a b how : Nat) (write : Bool) (y : Value) (i : Nat) : Op := if i = b then dOp a b how write y else f0 i
def wantD (how : Nat) (write : Bool) : Int := if how = 0 then 9 else if how = 1 then 10 else if how = 2 ∧ write = true then 11 else 0
theorem dF_lo (a b how : Nat) (write : Bool) (y : Value) (i : Nat) : opLo (dF a b how write y i) = ((4 * i : Nat) : Int) ∧ opHi (dF a b how write y i) = ((4 * i : Nat) : Int) + 4 := by
  unfold opLo opHi dF
  by_cases h : i = b
  · rw [if_pos h, h]
    have : ¬ (dOp a b how write y).k = 4 := by show ¬ kd write = 4; unfold kd; split <;> omega
    rw [if_neg this, if_neg this]
    exact ⟨rfl, rfl⟩
  · rw [if_neg h]
    exact ⟨rfl, rfl⟩
theorem dF_bare (a b how n : Nat) (write : Bool) (y : Value) : Bare (fOps (dF a b how write y) n) := by
  have hl := fOps_len (dF a b how write y) n
  refine ⟨fun j hj => ?_, fun j hj => ?_, fun j hj => ?_, fun j hj => ?_, fun i j hi hj hij => ?_⟩
  · rw [fOps_get _ (by omega)]; unfold dF; split
    · show (kd write == 4) = false; unfold kd; split <;> rfl
    · rfl
  · rw [fOps_get _ (by omega)]; unfold dF; split <;> rfl
  · rw [fOps_get _ (by omega)]; unfold dF; split <;> rfl
  · rw [fOps_get _ (by omega)]; unfold dF; split <;> rfl
  · rw [fOps_get _ (show i < n by omega), fOps_get _ (show j < n by omega)]
    have h1 := dF_lo a b how write y i
    have h2 := dF_lo a b how write y j
    apply meet_disj
    rw [h1.1, h1.2, h2.1, h2.2]
    omega
theorem dF_why (a b how n : Nat) (write : Bool) (y : Value) {i k : Nat} (hik : i < k) (hk : k < n) : whyN (fOps (dF a b how write y) n) i k = if i = a ∧ k = b then wantD how write else 0 := by
  have hl := fOps_len (dF a b how write y) n
  rw [bare_why (dF_bare a b how n write y) hik (by omega), fOps_get _ hk]
  have hpl : wr (dF a b how write y k) = true → plB (fOps (dF a b how write y) n) (i + 1) (k - (i + 1)) i = false := fun hw => anyB_false fun j hj => by
    have hkb : k = b := by
      unfold dF at hw
      by_cases h : k = b
      · exact h
      · rw [if_neg h] at hw; cases hw
    unfold plP
    rw [fOps_get _ (by omega)]
    unfold dF
    rw [if_neg (by omega)]
    simp [f0, op0]
  by_cases hb : k = b
  · subst hb
    have e : dF a k how write y k = dOp a k how write y := by unfold dF; rw [if_pos rfl]
    rw [e] at hpl ⊢
    unfold wantD
    by_cases h0 : how = 0
    · subst h0
      by_cases hia : i = a
      · subst hia; simp [dOp]
      · have : ¬ (i : Int) = a := by omega
        simp [dOp, hia, this]
        intro hw
        exact hpl hw
    · by_cases h1 : how = 1
      · subst h1
        by_cases hia : i = a
        · subst hia; simp [dOp]
        · have : ¬ (i : Int) = a := by omega
          simp [dOp, hia, this]
          intro hw
          exact hpl hw
      · by_cases h2 : how = 2
        · subst h2
          by_cases hia : i = a
          · subst hia
            cases write with
            | true => simp [dOp, wr, kd]
            | false => simp [dOp, wr, kd]
          · have : ¬ (i : Int) = a := by omega
            simp [dOp, hia, this]
            intro hw
            exact hpl hw
        · simp [dOp, h0, h1, h2]
          intro hw
          exact hpl hw
  · have e : dF a b how write y k = f0 k := by unfold dF; rw [if_neg hb]
    rw [e, show (if i = a ∧ k = b then wantD how write else 0) = 0 from if_neg fun h => hb h.2]
    simp [f0, op0, wr]
theorem dF_fit (a b how n : Nat) (write : Bool) (y : Value) (hn : n ≤ 20) : ∀ x ∈ fOps (dF a b how write y) n, Fit x := by
  intro x hx
  obtain ⟨j, hj, rfl⟩ := List.mem_map.1 hx
  have := List.mem_range.1 hj
  unfold dF
  split
  · exact ⟨by show (0 : Int) ≤ ((4 * b : Nat) : Int); omega, by show ((4 * b : Nat) : Int) < 4294967296; omega, fun _ => by show (0 : Int) ≤ 4 ∧ (4 : Int) ≤ 4; omega⟩
  · exact ⟨by show (0 : Int) ≤ ((4 * j : Nat) : Int); omega, by show ((4 * j : Nat) : Int) < 4294967296; omega, fun _ => by show (0 : Int) ≤ 4 ∧ (4 : Int) ≤ 4; omega⟩
theorem dF_dep {M : HL} (a b how n : Nat) (write : Bool) {y : Value} (hy : Vc.RowsIn M 3 [.int .i64] y [[Value.int .i64 a]]) : Deps M (fOps (dF a b how write y) n) := by
  intro x hx
  obtain ⟨j, hj, rfl⟩ := List.mem_map.1 hx
  unfold dF
  have hr : ∀ (p : Prop) [Decidable p], Vc.RowsIn M 3 [.int .i64] (if p then y else nilV) ((if p then [(a : Int)] else []).map irow) := fun p _ => by
    by_cases h : p
    · rw [if_pos h, if_pos h]; exact hy
    · rw [if_neg h, if_neg h]; exact nil_in' M 3
  have hl : ∀ (p : Prop) [Decidable p], (if p then [(a : Int)] else []).length ≤ 1000000 := fun p _ => by
    by_cases h : p
    · rw [if_pos h]; simp
    · rw [if_neg h]; simp
  split
  · exact ⟨⟨⟨3, hr _⟩, ⟨3, hr _⟩, ⟨3, hr _⟩⟩, hl _, hl _, hl _⟩
  · exact dep0 ⟨rfl, rfl⟩ ⟨rfl, rfl⟩ ⟨rfl, rfl⟩
end Go.Proofs.Ytkfkoldaeplckaa
