/-
  over, barred, placed, through, walked; their contracts.
-/
import Derived.Test.YtkfkoldaeplckaaCc
namespace Go.Proofs.Ytkfkoldaeplckaa
open Go Go.Vc
set_option maxRecDepth 100000
set_option linter.unusedSimpArgs false
set_option linter.unusedVariables false
def anyB (n : Nat) (p : Nat → Bool) : Bool := (List.range n).any p
theorem anyB_true {n : Nat} {p : Nat → Bool} {j : Nat} (hj : j < n) (h : p j = true) : anyB n p = true := List.any_eq_true.2 ⟨j, List.mem_range.2 hj, h⟩
theorem anyB_false {n : Nat} {p : Nat → Bool} (h : ∀ j, j < n → p j = false) : anyB n p = false := by
  rw [anyB, List.any_eq_false]
  intro j hj
  rw [h j (List.mem_range.1 hj)]
  simp
theorem all_next {p : Nat → Bool} {i : Nat} (h : ∀ j, j < i → p j = false) (hi : p i = false) : ∀ j, j < i + 1 → p j = false := fun j hj => by
  rcases Nat.lt_succ_iff_lt_or_eq.1 hj with h1 | h1
  · exact h j h1
  · rw [h1]; exact hi
noncomputable def specs3 : Nat → Option Vc.Trans := tget [(18, frameT writesS), (19, frameT meetS), (20, frameT readsS), (23, frameT markedS), (24, openAtG (frameT contS) 0), (27, frameT spanS), (28, frameT byS)]
noncomputable def G3 : Nat → Option Vc.Trans := tabG specs3 (tget tab) 5
theorem G3_ok : GOK Try.prog G3 := tabG_ok (GOK.cons (frame_ok writes_ok) (GOK.cons (frame_ok meet_ok) (GOK.cons (frame_ok reads_ok) (GOK.cons (frame_ok marked_ok) (GOK.cons (openAtG_ok (frame_ok cont_ok) 0) (GOK.cons (frame_ok span_ok) (GOK.cons (frame_ok by_ok) .nil))))))) tab_ok 5
def overP (l : List Op) (off : Nat) (x y : Op) (j : Nat) : Bool := wr (l.getD (off + j) default) && meetB [l.getD (off + j) default, x, y]
def overB (l : List Op) (off n : Nat) (x y : Op) : Bool := anyB n (overP l off x y)
theorem over_run (M : HL) (K : SV → List Ent → HL → Prop) (o : Bool) (e : TypeId) (l : List Op) (off n : Nat) (x y : Op) (hn : off + n ≤ l.length) (hl : l.length ≤ 1000) (hF : ∀ x ∈ l, Fit x) (hx : Fit x) (hy : Fit y) (hK : K (.v (.bool (overB l off n x y))) [.row o e ock (l.map orow)] M) :
    runF G3 pf21 [.slc 0 13 off n, .agg (osv x), .agg (osv y)] [.row o e ock (l.map orow)] M fun v hp2 M2 => ∃ m v' hp', Wk (llen [Ent.row o e ock (l.map orow)]) m [v] hp2 [v'] hp' (K v' hp' M2) := by
  unfold overB at hK
  repeat ((conv => whnf); (first | refine Cnd.yes ?_ | refine Cnd.no ?_ | refine And.intro rfl ?_ | refine And.intro (by omega) ?_ | (refine And.intro ?_ ?_; focus (simp only [IntKind.wrap_i64, IntKind.wrap_u64, IntKind.wrap_u32]; omega)) | (refine And.intro ?_ ?_; focus (simp only [zl1, zl2, zl3, zl4, zl5, zl6, zl7, zl8, zl9] <;> omega)) | refine Alt.std ?_ | (refine Cnd.tt ?_ ?_; focus (first | (apply decide_eq_true; omega) | (simp only [zq1, zq2, zq3, zq4, zq5, zq6, zq7, zq8, zq9, zq10, zq11, zq12] <;> omega) | rfl)) | (refine Cnd.ff ?_ ?_; focus (first | (apply decide_eq_false; omega) | (simp only [zq1, zq2, zq3, zq4, zq5, zq6, zq7, zq8, zq9, zq10, zq11, zq12] <;> omega) | rfl))))
  conv => whnf
  refine ⟨InvS 25 (fun s : Nat => n - s) (fun s : Nat => s ≤ n ∧ ∀ j, j < s → overP l off x y j = false) (fun s : Nat => [(4, .ptr 1 0 0 0), (5, .ptr 2 0 0 0), (9, .slc 0 13 off n), (10, .v (.int .i64 n)), (11, .v (.int .i64 s))]) (fun s : Nat => [Ent.row o e ock (l.map orow), .cells 30 (osv x), .cells 30 (osv y)]) M, ⟨(fun s : Nat => n - s) 0, [0, 1, 2], tmk 25 0 ((fun s : Nat => [(4, .ptr 1 0 0 0), (5, .ptr 2 0 0 0), (9, .slc 0 13 off n), (10, .v (.int .i64 n)), (11, .v (.int .i64 s))]) 0), (fun s : Nat => [Ent.row o e ock (l.map orow), .cells 30 (osv x), .cells 30 (osv y)]) 0, ?_⟩, ?_⟩
  · repeat ((conv => whnf); (first | refine Cnd.yes ?_ | refine Cnd.no ?_ | refine And.intro rfl ?_ | refine And.intro (by omega) ?_ | (refine And.intro ?_ ?_; focus (simp only [IntKind.wrap_i64, IntKind.wrap_u64, IntKind.wrap_u32]; omega)) | (refine And.intro ?_ ?_; focus (simp only [zl1, zl2, zl3, zl4, zl5, zl6, zl7, zl8, zl9] <;> omega)) | refine Alt.std ?_))
    conv => whnf
    exact ⟨0, ⟨Nat.zero_le _, fun j hj => by omega⟩, rfl, rfl, (tmkK_eq _ _ _ _).mpr rfl, rfl⟩
  · rintro cnt tm hp M1 ⟨i, hC_, rfl, rfl, htm, hhp_⟩
    replace hC_ : i ≤ n ∧ ∀ j, j < i → overP l off x y j = false := hC_
    obtain ⟨hi, hall⟩ := hC_
    replace htm : tmkK 25 0 [(4, .ptr 1 0 0 0), (5, .ptr 2 0 0 0), (9, .slc 0 13 off n), (10, .v (.int .i64 n)), (11, .v (.int .i64 i))] (fun l => tm = l) := htm
    conv at htm => whnf
    subst htm
    replace hhp_ : hp = [Ent.row o e ock (l.map orow), .cells 30 (osv x), .cells 30 (osv y)] := hhp_
    subst hhp_
    repeat ((conv => whnf); (first | refine Cnd.yes ?_ | refine Cnd.no ?_ | refine And.intro rfl ?_ | refine And.intro (by omega) ?_ | (refine And.intro ?_ ?_; focus (simp only [IntKind.wrap_i64, IntKind.wrap_u64, IntKind.wrap_u32]; omega)) | (refine And.intro ?_ ?_; focus (simp only [zl1, zl2, zl3, zl4, zl5, zl6, zl7, zl8, zl9] <;> omega)) | refine Alt.std ?_ | (refine Cnd.tt ?_ ?_; focus (first | (apply decide_eq_true; omega) | (simp only [zq1, zq2, zq3, zq4, zq5, zq6, zq7, zq8, zq9, zq10, zq11, zq12] <;> omega) | rfl)) | (refine Cnd.ff ?_ ?_; focus (first | (apply decide_eq_false; omega) | (simp only [zq1, zq2, zq3, zq4, zq5, zq6, zq7, zq8, zq9, zq10, zq11, zq12] <;> omega) | rfl))))
    conv => whnf
    refine Cnd.mk (fun hlt => ?_) fun hge => ?_
    · skip
      have hin : i < n := by have := of_decide_eq_true hlt; omega
      have hfi := hF (l.getD (off + i) default) (by simp [List.getD, show off + i < l.length by omega])
      obtain ⟨z, hz⟩ : ∃ z, l.getD (off + i) default = z := ⟨_, rfl⟩
      have hz0 : l.getD (off + (i : Int).toNat) default = z := hz
      rw [hz] at hfi
      have c0 : toI (cellAt (List.map orow l) (off + (i : Int).toNat) 0) = Op.k z := by rw [ocell l (show off + (i : Int).toNat < l.length by omega), hz0]; rfl
      have c1 : toI (cellAt (List.map orow l) (off + (i : Int).toNat) (0 + 1)) = Op.sz z := by rw [ocell l (show off + (i : Int).toNat < l.length by omega), hz0]; rfl
      have c2 : toI (cellAt (List.map orow l) (off + (i : Int).toNat) (0 + 1 + 1)) = Op.ad z := by rw [ocell l (show off + (i : Int).toNat < l.length by omega), hz0]; rfl
      have c3 : toI (cellAt (List.map orow l) (off + (i : Int).toNat) (0 + 1 + 1 + 1)) = Op.v z := by rw [ocell l (show off + (i : Int).toNat < l.length by omega), hz0]; rfl
      have c4 : toI (cellAt (List.map orow l) (off + (i : Int).toNat) (0 + 1 + 1 + 1 + 1)) = Op.g z := by rw [ocell l (show off + (i : Int).toNat < l.length by omega), hz0]; rfl
      have c5 : toB (cellAt (List.map orow l) (off + (i : Int).toNat) (0 + 1 + 1 + 1 + 1 + 1)) = Op.pr z := by rw [ocell l (show off + (i : Int).toNat < l.length by omega), hz0]; rfl
      have c6 : toB (cellAt (List.map orow l) (off + (i : Int).toNat) (0 + 1 + 1 + 1 + 1 + 1 + 1)) = Op.aq z := by rw [ocell l (show off + (i : Int).toNat < l.length by omega), hz0]; rfl
      have c7 : toB (cellAt (List.map orow l) (off + (i : Int).toNat) (0 + 1 + 1 + 1 + 1 + 1 + 1 + 1)) = Op.rl z := by rw [ocell l (show off + (i : Int).toNat < l.length by omega), hz0]; rfl
      have c8 : toI (cellAt (List.map orow l) (off + (i : Int).toNat) (0 + 1 + 1 + 1 + 1 + 1 + 1 + 1 + 1)) = Op.pd z := by rw [ocell l (show off + (i : Int).toNat < l.length by omega), hz0]; rfl
      have c9 : toI (cellAt (List.map orow l) (off + (i : Int).toNat) (0 + 1 + 1 + 1 + 1 + 1 + 1 + 1 + 1 + 1)) = Op.sc z := by rw [ocell l (show off + (i : Int).toNat < l.length by omega), hz0]; rfl
      have c10 : cellAt (List.map orow l) (off + (i : Int).toNat) (0 + 1 + 1 + 1 + 1 + 1 + 1 + 1 + 1 + 1 + 1) = Op.ya z := by rw [ocell l (show off + (i : Int).toNat < l.length by omega), hz0]; rfl
      have c11 : cellAt (List.map orow l) (off + (i : Int).toNat) (0 + 1 + 1 + 1 + 1 + 1 + 1 + 1 + 1 + 1 + 1 + 1) = Op.yd z := by rw [ocell l (show off + (i : Int).toNat < l.length by omega), hz0]; rfl
      have c12 : cellAt (List.map orow l) (off + (i : Int).toNat) (0 + 1 + 1 + 1 + 1 + 1 + 1 + 1 + 1 + 1 + 1 + 1 + 1) = Op.yc z := by rw [ocell l (show off + (i : Int).toNat < l.length by omega), hz0]; rfl
      repeat ((conv => whnf); (first | refine Cnd.yes ?_ | refine Cnd.no ?_ | refine And.intro rfl ?_ | refine And.intro (by omega) ?_ | (refine And.intro ?_ ?_; focus (simp only [IntKind.wrap_i64, IntKind.wrap_u64, IntKind.wrap_u32]; omega)) | (refine And.intro ?_ ?_; focus (simp only [zl1, zl2, zl3, zl4, zl5, zl6, zl7, zl8, zl9] <;> omega)) | refine Alt.std ?_ | (refine Cnd.tt ?_ ?_; focus (first | (apply decide_eq_true; omega) | (simp only [zq1, zq2, zq3, zq4, zq5, zq6, zq7, zq8, zq9, zq10, zq11, zq12] <;> omega) | rfl)) | (refine Cnd.ff ?_ ?_; focus (first | (apply decide_eq_false; omega) | (simp only [zq1, zq2, zq3, zq4, zq5, zq6, zq7, zq8, zq9, zq10, zq11, zq12] <;> omega) | rfl))))
      conv => whnf
      rw [c0, c1, c2, c3, c4, c5, c6, c7, c8, c9, c10, c11, c12]
      clear c0 c1 c2 c3 c4 c5 c6 c7 c8 c9 c10 c11 c12
      repeat ((conv => whnf); (first | refine Cnd.yes ?_ | refine Cnd.no ?_ | refine And.intro rfl ?_ | refine And.intro (by omega) ?_ | (refine And.intro ?_ ?_; focus (simp only [IntKind.wrap_i64, IntKind.wrap_u64, IntKind.wrap_u32]; omega)) | (refine And.intro ?_ ?_; focus (simp only [zl1, zl2, zl3, zl4, zl5, zl6, zl7, zl8, zl9] <;> omega)) | refine Alt.std ?_ | (refine Cnd.tt ?_ ?_; focus (first | (apply decide_eq_true; omega) | (simp only [zq1, zq2, zq3, zq4, zq5, zq6, zq7, zq8, zq9, zq10, zq11, zq12] <;> omega) | rfl)) | (refine Cnd.ff ?_ ?_; focus (first | (apply decide_eq_false; omega) | (simp only [zq1, zq2, zq3, zq4, zq5, zq6, zq7, zq8, zq9, zq10, zq11, zq12] <;> omega) | rfl))))
      conv => whnf
      have hP : overP l off x y i = (wr z && meetB [z, x, y]) := by unfold overP; rw [hz]
      refine ⟨z, rfl, rfl, ?_⟩
      cases hw : wr z with
      | false =>
        rw [hw, Bool.false_and] at hP
        repeat ((conv => whnf); (first | refine Cnd.yes ?_ | refine Cnd.no ?_ | refine And.intro rfl ?_ | refine And.intro (by omega) ?_ | (refine And.intro ?_ ?_; focus (simp only [IntKind.wrap_i64, IntKind.wrap_u64, IntKind.wrap_u32]; omega)) | (refine And.intro ?_ ?_; focus (simp only [zl1, zl2, zl3, zl4, zl5, zl6, zl7, zl8, zl9] <;> omega)) | refine Alt.std ?_ | (refine Cnd.tt ?_ ?_; focus (first | (apply decide_eq_true; omega) | (simp only [zq1, zq2, zq3, zq4, zq5, zq6, zq7, zq8, zq9, zq10, zq11, zq12] <;> omega) | rfl)) | (refine Cnd.ff ?_ ?_; focus (first | (apply decide_eq_false; omega) | (simp only [zq1, zq2, zq3, zq4, zq5, zq6, zq7, zq8, zq9, zq10, zq11, zq12] <;> omega) | rfl))))
        conv => whnf
        (refine ⟨(fun s : Nat => n - s) (i + 1), [0, 1, 2], tmk 25 0 ((fun s : Nat => [(4, .ptr 1 0 0 0), (5, .ptr 2 0 0 0), (9, .slc 0 13 off n), (10, .v (.int .i64 n)), (11, .v (.int .i64 s))]) (i + 1)), (fun s : Nat => [Ent.row o e ock (l.map orow), .cells 30 (osv x), .cells 30 (osv y)]) (i + 1), ?_, ?_⟩; focus (first | (simp only []; omega) | omega))
        repeat ((conv => whnf); (first | refine Cnd.yes ?_ | refine Cnd.no ?_ | refine And.intro rfl ?_ | refine And.intro (by omega) ?_ | (refine And.intro ?_ ?_; focus (simp only [IntKind.wrap_i64, IntKind.wrap_u64, IntKind.wrap_u32]; omega)) | (refine And.intro ?_ ?_; focus (simp only [zl1, zl2, zl3, zl4, zl5, zl6, zl7, zl8, zl9] <;> omega)) | refine Alt.std ?_))
        conv => whnf
        exact ⟨i + 1, ⟨hin, all_next hall hP⟩, rfl, rfl, (tmkK_eq _ _ _ _).mpr rfl, rfl⟩
      | true =>
        rw [hw, Bool.true_and] at hP
        repeat ((conv => whnf); (first | refine Cnd.yes ?_ | refine Cnd.no ?_ | refine And.intro rfl ?_ | refine And.intro (by omega) ?_ | (refine And.intro ?_ ?_; focus (simp only [IntKind.wrap_i64, IntKind.wrap_u64, IntKind.wrap_u32]; omega)) | (refine And.intro ?_ ?_; focus (simp only [zl1, zl2, zl3, zl4, zl5, zl6, zl7, zl8, zl9] <;> omega)) | refine Alt.std ?_ | (refine Cnd.tt ?_ ?_; focus (first | (apply decide_eq_true; omega) | (simp only [zq1, zq2, zq3, zq4, zq5, zq6, zq7, zq8, zq9, zq10, zq11, zq12] <;> omega) | rfl)) | (refine Cnd.ff ?_ ?_; focus (first | (apply decide_eq_false; omega) | (simp only [zq1, zq2, zq3, zq4, zq5, zq6, zq7, zq8, zq9, zq10, zq11, zq12] <;> omega) | rfl))))
        conv => whnf
        refine ⟨true, 30, [z, x, y], rfl, rfl, by simp, by simp, fun q hq => by simp at hq; rcases hq with rfl | rfl | rfl <;> assumption, ?_⟩
        rw [← hP]
        cases hb : overP l off x y i with
        | true =>
          rw [anyB_true hin hb] at hK
          repeat ((conv => whnf); (first | refine Cnd.yes ?_ | refine Cnd.no ?_ | refine And.intro rfl ?_ | refine And.intro (by omega) ?_ | (refine And.intro ?_ ?_; focus (simp only [IntKind.wrap_i64, IntKind.wrap_u64, IntKind.wrap_u32]; omega)) | (refine And.intro ?_ ?_; focus (simp only [zl1, zl2, zl3, zl4, zl5, zl6, zl7, zl8, zl9] <;> omega)) | refine Alt.std ?_ | (refine Cnd.tt ?_ ?_; focus (first | (apply decide_eq_true; omega) | (simp only [zq1, zq2, zq3, zq4, zq5, zq6, zq7, zq8, zq9, zq10, zq11, zq12] <;> omega) | rfl)) | (refine Cnd.ff ?_ ?_; focus (first | (apply decide_eq_false; omega) | (simp only [zq1, zq2, zq3, zq4, zq5, zq6, zq7, zq8, zq9, zq10, zq11, zq12] <;> omega) | rfl))))
          conv => whnf
          refine ⟨[0], .v (.bool true), [.row o e ock (l.map orow)], ?_⟩
          repeat ((conv => whnf); (first | refine Cnd.yes ?_ | refine Cnd.no ?_ | refine And.intro rfl ?_ | refine And.intro (by omega) ?_ | (refine And.intro ?_ ?_; focus (simp only [IntKind.wrap_i64, IntKind.wrap_u64, IntKind.wrap_u32]; omega)) | (refine And.intro ?_ ?_; focus (simp only [zl1, zl2, zl3, zl4, zl5, zl6, zl7, zl8, zl9] <;> omega)) | refine Alt.std ?_))
          conv => whnf
          exact hK
        | false =>
          repeat ((conv => whnf); (first | refine Cnd.yes ?_ | refine Cnd.no ?_ | refine And.intro rfl ?_ | refine And.intro (by omega) ?_ | (refine And.intro ?_ ?_; focus (simp only [IntKind.wrap_i64, IntKind.wrap_u64, IntKind.wrap_u32]; omega)) | (refine And.intro ?_ ?_; focus (simp only [zl1, zl2, zl3, zl4, zl5, zl6, zl7, zl8, zl9] <;> omega)) | refine Alt.std ?_ | (refine Cnd.tt ?_ ?_; focus (first | (apply decide_eq_true; omega) | (simp only [zq1, zq2, zq3, zq4, zq5, zq6, zq7, zq8, zq9, zq10, zq11, zq12] <;> omega) | rfl)) | (refine Cnd.ff ?_ ?_; focus (first | (apply decide_eq_false; omega) | (simp only [zq1, zq2, zq3, zq4, zq5, zq6, zq7, zq8, zq9, zq10, zq11, zq12] <;> omega) | rfl))))
          conv => whnf
          (refine ⟨(fun s : Nat => n - s) (i + 1), [0, 1, 2], tmk 25 0 ((fun s : Nat => [(4, .ptr 1 0 0 0), (5, .ptr 2 0 0 0), (9, .slc 0 13 off n), (10, .v (.int .i64 n)), (11, .v (.int .i64 s))]) (i + 1)), (fun s : Nat => [Ent.row o e ock (l.map orow), .cells 30 (osv x), .cells 30 (osv y)]) (i + 1), ?_, ?_⟩; focus (first | (simp only []; omega) | omega))
          repeat ((conv => whnf); (first | refine Cnd.yes ?_ | refine Cnd.no ?_ | refine And.intro rfl ?_ | refine And.intro (by omega) ?_ | (refine And.intro ?_ ?_; focus (simp only [IntKind.wrap_i64, IntKind.wrap_u64, IntKind.wrap_u32]; omega)) | (refine And.intro ?_ ?_; focus (simp only [zl1, zl2, zl3, zl4, zl5, zl6, zl7, zl8, zl9] <;> omega)) | refine Alt.std ?_))
          conv => whnf
          exact ⟨i + 1, ⟨hin, all_next hall hb⟩, rfl, rfl, (tmkK_eq _ _ _ _).mpr rfl, rfl⟩
    · have hin : i = n := by have := of_decide_eq_false hge; omega
      subst hin
      rw [anyB_false hall] at hK
      repeat ((conv => whnf); (first | refine Cnd.yes ?_ | refine Cnd.no ?_ | refine And.intro rfl ?_ | refine And.intro (by omega) ?_ | (refine And.intro ?_ ?_; focus (simp only [IntKind.wrap_i64, IntKind.wrap_u64, IntKind.wrap_u32]; omega)) | (refine And.intro ?_ ?_; focus (simp only [zl1, zl2, zl3, zl4, zl5, zl6, zl7, zl8, zl9] <;> omega)) | refine Alt.std ?_ | (refine Cnd.tt ?_ ?_; focus (first | (apply decide_eq_true; omega) | (simp only [zq1, zq2, zq3, zq4, zq5, zq6, zq7, zq8, zq9, zq10, zq11, zq12] <;> omega) | rfl)) | (refine Cnd.ff ?_ ?_; focus (first | (apply decide_eq_false; omega) | (simp only [zq1, zq2, zq3, zq4, zq5, zq6, zq7, zq8, zq9, zq10, zq11, zq12] <;> omega) | rfl))))
      conv => whnf
      refine ⟨[0], .v (.bool false), [.row o e ock (l.map orow)], ?_⟩
      repeat ((conv => whnf); (first | refine Cnd.yes ?_ | refine Cnd.no ?_ | refine And.intro rfl ?_ | refine And.intro (by omega) ?_ | (refine And.intro ?_ ?_; focus (simp only [IntKind.wrap_i64, IntKind.wrap_u64, IntKind.wrap_u32]; omega)) | (refine And.intro ?_ ?_; focus (simp only [zl1, zl2, zl3, zl4, zl5, zl6, zl7, zl8, zl9] <;> omega)) | refine Alt.std ?_))
      conv => whnf
      exact hK
def overS : Vc.Spec := fun args hp _ K => ∃ (o : Bool) (e : TypeId) (l : List Op) (off n : Nat) (x y : Op), args = [.slc 0 13 off n, .agg (osv x), .agg (osv y)] ∧ hp = [.row o e ock (l.map orow)] ∧ off + n ≤ l.length ∧ l.length ≤ 1000 ∧ (∀ x ∈ l, Fit x) ∧ Fit x ∧ Fit y ∧ K (.v (.bool (overB l off n x y))) [.row o e ock (l.map orow)]
theorem over_ok : SOK Try.prog 21 overS := by
  refine TOK.weaken (TOK.out (runF_eq G3_ok mixed at21.1 at21.2 pf21_eq)) fun args hp M K h => ?_
  obtain ⟨o, e, l, off, n, x, y, rfl, rfl, h1, h2, h3, h4, h5, h6⟩ := h
  exact over_run M K o e l off n x y h1 h2 h3 h4 h5 h6
def barP (l : List Op) (off : Nat) (x y : Op) (j : Nat) : Bool := (l.getD (off + j) default).k == 4 && byB (l.getD (off + j) default).pd x && byB (l.getD (off + j) default).sc y
def barB (l : List Op) (off n : Nat) (x y : Op) : Bool := anyB n (barP l off x y)
theorem barred_run (M : HL) (K : SV → List Ent → HL → Prop) (o : Bool) (e : TypeId) (l : List Op) (off n : Nat) (x y : Op) (hn : off + n ≤ l.length) (hl : l.length ≤ 1000) (hF : ∀ x ∈ l, Fit x) (hK : K (.v (.bool (barB l off n x y))) [.row o e ock (l.map orow)] M) :
    runF G3 pf22 [.slc 0 13 off n, .agg (osv x), .agg (osv y)] [.row o e ock (l.map orow)] M fun v hp2 M2 => ∃ m v' hp', Wk (llen [Ent.row o e ock (l.map orow)]) m [v] hp2 [v'] hp' (K v' hp' M2) := by
  unfold barB at hK
  repeat ((conv => whnf); (first | refine Cnd.yes ?_ | refine Cnd.no ?_ | refine And.intro rfl ?_ | refine And.intro (by omega) ?_ | (refine And.intro ?_ ?_; focus (simp only [IntKind.wrap_i64, IntKind.wrap_u64, IntKind.wrap_u32]; omega)) | (refine And.intro ?_ ?_; focus (simp only [zl1, zl2, zl3, zl4, zl5, zl6, zl7, zl8, zl9] <;> omega)) | refine Alt.std ?_ | (refine Cnd.tt ?_ ?_; focus (first | (apply decide_eq_true; omega) | (simp only [zq1, zq2, zq3, zq4, zq5, zq6, zq7, zq8, zq9, zq10, zq11, zq12] <;> omega) | rfl)) | (refine Cnd.ff ?_ ?_; focus (first | (apply decide_eq_false; omega) | (simp only [zq1, zq2, zq3, zq4, zq5, zq6, zq7, zq8, zq9, zq10, zq11, zq12] <;> omega) | rfl))))
  conv => whnf
  refine ⟨InvS 31 (fun s : Nat => n - s) (fun s : Nat => s ≤ n ∧ ∀ j, j < s → barP l off x y j = false) (fun s : Nat => [(4, .ptr 1 0 0 0), (5, .ptr 2 0 0 0), (9, .slc 0 13 off n), (10, .v (.int .i64 n)), (11, .v (.int .i64 s))]) (fun s : Nat => [Ent.row o e ock (l.map orow), .cells 30 (osv x), .cells 30 (osv y)]) M, ⟨(fun s : Nat => n - s) 0, [0, 1, 2], tmk 31 0 ((fun s : Nat => [(4, .ptr 1 0 0 0), (5, .ptr 2 0 0 0), (9, .slc 0 13 off n), (10, .v (.int .i64 n)), (11, .v (.int .i64 s))]) 0), (fun s : Nat => [Ent.row o e ock (l.map orow), .cells 30 (osv x), .cells 30 (osv y)]) 0, ?_⟩, ?_⟩
  · repeat ((conv => whnf); (first | refine Cnd.yes ?_ | refine Cnd.no ?_ | refine And.intro rfl ?_ | refine And.intro (by omega) ?_ | (refine And.intro ?_ ?_; focus (simp only [IntKind.wrap_i64, IntKind.wrap_u64, IntKind.wrap_u32]; omega)) | (refine And.intro ?_ ?_; focus (simp only [zl1, zl2, zl3, zl4, zl5, zl6, zl7, zl8, zl9] <;> omega)) | refine Alt.std ?_))
    conv => whnf
    exact ⟨0, ⟨Nat.zero_le _, fun j hj => by omega⟩, rfl, rfl, (tmkK_eq _ _ _ _).mpr rfl, rfl⟩
  · rintro cnt tm hp M1 ⟨i, hC_, rfl, rfl, htm, hhp_⟩
    replace hC_ : i ≤ n ∧ ∀ j, j < i → barP l off x y j = false := hC_
    obtain ⟨hi, hall⟩ := hC_
    replace htm : tmkK 31 0 [(4, .ptr 1 0 0 0), (5, .ptr 2 0 0 0), (9, .slc 0 13 off n), (10, .v (.int .i64 n)), (11, .v (.int .i64 i))] (fun l => tm = l) := htm
    conv at htm => whnf
    subst htm
    replace hhp_ : hp = [Ent.row o e ock (l.map orow), .cells 30 (osv x), .cells 30 (osv y)] := hhp_
    subst hhp_
    repeat ((conv => whnf); (first | refine Cnd.yes ?_ | refine Cnd.no ?_ | refine And.intro rfl ?_ | refine And.intro (by omega) ?_ | (refine And.intro ?_ ?_; focus (simp only [IntKind.wrap_i64, IntKind.wrap_u64, IntKind.wrap_u32]; omega)) | (refine And.intro ?_ ?_; focus (simp only [zl1, zl2, zl3, zl4, zl5, zl6, zl7, zl8, zl9] <;> omega)) | refine Alt.std ?_ | (refine Cnd.tt ?_ ?_; focus (first | (apply decide_eq_true; omega) | (simp only [zq1, zq2, zq3, zq4, zq5, zq6, zq7, zq8, zq9, zq10, zq11, zq12] <;> omega) | rfl)) | (refine Cnd.ff ?_ ?_; focus (first | (apply decide_eq_false; omega) | (simp only [zq1, zq2, zq3, zq4, zq5, zq6, zq7, zq8, zq9, zq10, zq11, zq12] <;> omega) | rfl))))
    conv => whnf
    refine Cnd.mk (fun hlt => ?_) fun hge => ?_
    · skip
      have hin : i < n := by have := of_decide_eq_true hlt; omega
      have hfi := hF (l.getD (off + i) default) (by simp [List.getD, show off + i < l.length by omega])
      obtain ⟨z, hz⟩ : ∃ z, l.getD (off + i) default = z := ⟨_, rfl⟩
      have hz0 : l.getD (off + (i : Int).toNat) default = z := hz
      rw [hz] at hfi
      have c0 : toI (cellAt (List.map orow l) (off + (i : Int).toNat) 0) = Op.k z := by rw [ocell l (show off + (i : Int).toNat < l.length by omega), hz0]; rfl
      have c1 : toI (cellAt (List.map orow l) (off + (i : Int).toNat) (0 + 1)) = Op.sz z := by rw [ocell l (show off + (i : Int).toNat < l.length by omega), hz0]; rfl
      have c2 : toI (cellAt (List.map orow l) (off + (i : Int).toNat) (0 + 1 + 1)) = Op.ad z := by rw [ocell l (show off + (i : Int).toNat < l.length by omega), hz0]; rfl
      have c3 : toI (cellAt (List.map orow l) (off + (i : Int).toNat) (0 + 1 + 1 + 1)) = Op.v z := by rw [ocell l (show off + (i : Int).toNat < l.length by omega), hz0]; rfl
      have c4 : toI (cellAt (List.map orow l) (off + (i : Int).toNat) (0 + 1 + 1 + 1 + 1)) = Op.g z := by rw [ocell l (show off + (i : Int).toNat < l.length by omega), hz0]; rfl
      have c5 : toB (cellAt (List.map orow l) (off + (i : Int).toNat) (0 + 1 + 1 + 1 + 1 + 1)) = Op.pr z := by rw [ocell l (show off + (i : Int).toNat < l.length by omega), hz0]; rfl
      have c6 : toB (cellAt (List.map orow l) (off + (i : Int).toNat) (0 + 1 + 1 + 1 + 1 + 1 + 1)) = Op.aq z := by rw [ocell l (show off + (i : Int).toNat < l.length by omega), hz0]; rfl
      have c7 : toB (cellAt (List.map orow l) (off + (i : Int).toNat) (0 + 1 + 1 + 1 + 1 + 1 + 1 + 1)) = Op.rl z := by rw [ocell l (show off + (i : Int).toNat < l.length by omega), hz0]; rfl
      have c8 : toI (cellAt (List.map orow l) (off + (i : Int).toNat) (0 + 1 + 1 + 1 + 1 + 1 + 1 + 1 + 1)) = Op.pd z := by rw [ocell l (show off + (i : Int).toNat < l.length by omega), hz0]; rfl
      have c9 : toI (cellAt (List.map orow l) (off + (i : Int).toNat) (0 + 1 + 1 + 1 + 1 + 1 + 1 + 1 + 1 + 1)) = Op.sc z := by rw [ocell l (show off + (i : Int).toNat < l.length by omega), hz0]; rfl
      have c10 : cellAt (List.map orow l) (off + (i : Int).toNat) (0 + 1 + 1 + 1 + 1 + 1 + 1 + 1 + 1 + 1 + 1) = Op.ya z := by rw [ocell l (show off + (i : Int).toNat < l.length by omega), hz0]; rfl
      have c11 : cellAt (List.map orow l) (off + (i : Int).toNat) (0 + 1 + 1 + 1 + 1 + 1 + 1 + 1 + 1 + 1 + 1 + 1) = Op.yd z := by rw [ocell l (show off + (i : Int).toNat < l.length by omega), hz0]; rfl
      have c12 : cellAt (List.map orow l) (off + (i : Int).toNat) (0 + 1 + 1 + 1 + 1 + 1 + 1 + 1 + 1 + 1 + 1 + 1 + 1) = Op.yc z := by rw [ocell l (show off + (i : Int).toNat < l.length by omega), hz0]; rfl
      repeat ((conv => whnf); (first | refine Cnd.yes ?_ | refine Cnd.no ?_ | refine And.intro rfl ?_ | refine And.intro (by omega) ?_ | (refine And.intro ?_ ?_; focus (simp only [IntKind.wrap_i64, IntKind.wrap_u64, IntKind.wrap_u32]; omega)) | (refine And.intro ?_ ?_; focus (simp only [zl1, zl2, zl3, zl4, zl5, zl6, zl7, zl8, zl9] <;> omega)) | refine Alt.std ?_ | (refine Cnd.tt ?_ ?_; focus (first | (apply decide_eq_true; omega) | (simp only [zq1, zq2, zq3, zq4, zq5, zq6, zq7, zq8, zq9, zq10, zq11, zq12] <;> omega) | rfl)) | (refine Cnd.ff ?_ ?_; focus (first | (apply decide_eq_false; omega) | (simp only [zq1, zq2, zq3, zq4, zq5, zq6, zq7, zq8, zq9, zq10, zq11, zq12] <;> omega) | rfl))))
      conv => whnf
      rw [c0, c1, c2, c3, c4, c5, c6, c7, c8, c9, c10, c11, c12]
      clear c0 c1 c2 c3 c4 c5 c6 c7 c8 c9 c10 c11 c12
      repeat ((conv => whnf); (first | refine Cnd.yes ?_ | refine Cnd.no ?_ | refine And.intro rfl ?_ | refine And.intro (by omega) ?_ | (refine And.intro ?_ ?_; focus (simp only [IntKind.wrap_i64, IntKind.wrap_u64, IntKind.wrap_u32]; omega)) | (refine And.intro ?_ ?_; focus (simp only [zl1, zl2, zl3, zl4, zl5, zl6, zl7, zl8, zl9] <;> omega)) | refine Alt.std ?_ | (refine Cnd.tt ?_ ?_; focus (first | (apply decide_eq_true; omega) | (simp only [zq1, zq2, zq3, zq4, zq5, zq6, zq7, zq8, zq9, zq10, zq11, zq12] <;> omega) | rfl)) | (refine Cnd.ff ?_ ?_; focus (first | (apply decide_eq_false; omega) | (simp only [zq1, zq2, zq3, zq4, zq5, zq6, zq7, zq8, zq9, zq10, zq11, zq12] <;> omega) | rfl))))
      conv => whnf
      have hP : barP l off x y i = (z.k == 4 && byB z.pd x && byB z.sc y) := by unfold barP; rw [hz]
      cases hk : z.k == 4 with
      | false =>
        rw [hk, Bool.false_and, Bool.false_and] at hP
        repeat ((conv => whnf); (first | refine Cnd.yes ?_ | refine Cnd.no ?_ | refine And.intro rfl ?_ | refine And.intro (by omega) ?_ | (refine And.intro ?_ ?_; focus (simp only [IntKind.wrap_i64, IntKind.wrap_u64, IntKind.wrap_u32]; omega)) | (refine And.intro ?_ ?_; focus (simp only [zl1, zl2, zl3, zl4, zl5, zl6, zl7, zl8, zl9] <;> omega)) | refine Alt.std ?_ | (refine Cnd.tt ?_ ?_; focus (first | (apply decide_eq_true; omega) | (simp only [zq1, zq2, zq3, zq4, zq5, zq6, zq7, zq8, zq9, zq10, zq11, zq12] <;> omega) | rfl)) | (refine Cnd.ff ?_ ?_; focus (first | (apply decide_eq_false; omega) | (simp only [zq1, zq2, zq3, zq4, zq5, zq6, zq7, zq8, zq9, zq10, zq11, zq12] <;> omega) | rfl))))
        conv => whnf
        (refine ⟨(fun s : Nat => n - s) (i + 1), [0, 1, 2], tmk 31 0 ((fun s : Nat => [(4, .ptr 1 0 0 0), (5, .ptr 2 0 0 0), (9, .slc 0 13 off n), (10, .v (.int .i64 n)), (11, .v (.int .i64 s))]) (i + 1)), (fun s : Nat => [Ent.row o e ock (l.map orow), .cells 30 (osv x), .cells 30 (osv y)]) (i + 1), ?_, ?_⟩; focus (first | (simp only []; omega) | omega))
        repeat ((conv => whnf); (first | refine Cnd.yes ?_ | refine Cnd.no ?_ | refine And.intro rfl ?_ | refine And.intro (by omega) ?_ | (refine And.intro ?_ ?_; focus (simp only [IntKind.wrap_i64, IntKind.wrap_u64, IntKind.wrap_u32]; omega)) | (refine And.intro ?_ ?_; focus (simp only [zl1, zl2, zl3, zl4, zl5, zl6, zl7, zl8, zl9] <;> omega)) | refine Alt.std ?_))
        conv => whnf
        exact ⟨i + 1, ⟨hin, all_next hall hP⟩, rfl, rfl, (tmkK_eq _ _ _ _).mpr rfl, rfl⟩
      | true =>
        rw [hk, Bool.true_and] at hP
        repeat ((conv => whnf); (first | refine Cnd.yes ?_ | refine Cnd.no ?_ | refine And.intro rfl ?_ | refine And.intro (by omega) ?_ | (refine And.intro ?_ ?_; focus (simp only [IntKind.wrap_i64, IntKind.wrap_u64, IntKind.wrap_u32]; omega)) | (refine And.intro ?_ ?_; focus (simp only [zl1, zl2, zl3, zl4, zl5, zl6, zl7, zl8, zl9] <;> omega)) | refine Alt.std ?_ | (refine Cnd.tt ?_ ?_; focus (first | (apply decide_eq_true; omega) | (simp only [zq1, zq2, zq3, zq4, zq5, zq6, zq7, zq8, zq9, zq10, zq11, zq12] <;> omega) | rfl)) | (refine Cnd.ff ?_ ?_; focus (first | (apply decide_eq_false; omega) | (simp only [zq1, zq2, zq3, zq4, zq5, zq6, zq7, zq8, zq9, zq10, zq11, zq12] <;> omega) | rfl))))
        conv => whnf
        refine ⟨z.pd, x, rfl, rfl, ?_⟩
        cases hb1 : byB z.pd x with
        | false =>
          rw [hb1, Bool.false_and] at hP
          repeat ((conv => whnf); (first | refine Cnd.yes ?_ | refine Cnd.no ?_ | refine And.intro rfl ?_ | refine And.intro (by omega) ?_ | (refine And.intro ?_ ?_; focus (simp only [IntKind.wrap_i64, IntKind.wrap_u64, IntKind.wrap_u32]; omega)) | (refine And.intro ?_ ?_; focus (simp only [zl1, zl2, zl3, zl4, zl5, zl6, zl7, zl8, zl9] <;> omega)) | refine Alt.std ?_ | (refine Cnd.tt ?_ ?_; focus (first | (apply decide_eq_true; omega) | (simp only [zq1, zq2, zq3, zq4, zq5, zq6, zq7, zq8, zq9, zq10, zq11, zq12] <;> omega) | rfl)) | (refine Cnd.ff ?_ ?_; focus (first | (apply decide_eq_false; omega) | (simp only [zq1, zq2, zq3, zq4, zq5, zq6, zq7, zq8, zq9, zq10, zq11, zq12] <;> omega) | rfl))))
          conv => whnf
          (refine ⟨(fun s : Nat => n - s) (i + 1), [0, 1, 2], tmk 31 0 ((fun s : Nat => [(4, .ptr 1 0 0 0), (5, .ptr 2 0 0 0), (9, .slc 0 13 off n), (10, .v (.int .i64 n)), (11, .v (.int .i64 s))]) (i + 1)), (fun s : Nat => [Ent.row o e ock (l.map orow), .cells 30 (osv x), .cells 30 (osv y)]) (i + 1), ?_, ?_⟩; focus (first | (simp only []; omega) | omega))
          repeat ((conv => whnf); (first | refine Cnd.yes ?_ | refine Cnd.no ?_ | refine And.intro rfl ?_ | refine And.intro (by omega) ?_ | (refine And.intro ?_ ?_; focus (simp only [IntKind.wrap_i64, IntKind.wrap_u64, IntKind.wrap_u32]; omega)) | (refine And.intro ?_ ?_; focus (simp only [zl1, zl2, zl3, zl4, zl5, zl6, zl7, zl8, zl9] <;> omega)) | refine Alt.std ?_))
          conv => whnf
          exact ⟨i + 1, ⟨hin, all_next hall hP⟩, rfl, rfl, (tmkK_eq _ _ _ _).mpr rfl, rfl⟩
        | true =>
          rw [hb1, Bool.true_and] at hP
          repeat ((conv => whnf); (first | refine Cnd.yes ?_ | refine Cnd.no ?_ | refine And.intro rfl ?_ | refine And.intro (by omega) ?_ | (refine And.intro ?_ ?_; focus (simp only [IntKind.wrap_i64, IntKind.wrap_u64, IntKind.wrap_u32]; omega)) | (refine And.intro ?_ ?_; focus (simp only [zl1, zl2, zl3, zl4, zl5, zl6, zl7, zl8, zl9] <;> omega)) | refine Alt.std ?_ | (refine Cnd.tt ?_ ?_; focus (first | (apply decide_eq_true; omega) | (simp only [zq1, zq2, zq3, zq4, zq5, zq6, zq7, zq8, zq9, zq10, zq11, zq12] <;> omega) | rfl)) | (refine Cnd.ff ?_ ?_; focus (first | (apply decide_eq_false; omega) | (simp only [zq1, zq2, zq3, zq4, zq5, zq6, zq7, zq8, zq9, zq10, zq11, zq12] <;> omega) | rfl))))
          conv => whnf
          refine ⟨z.sc, y, rfl, rfl, ?_⟩
          rw [← hP]
          cases hb : barP l off x y i with
          | true =>
            rw [anyB_true hin hb] at hK
            repeat ((conv => whnf); (first | refine Cnd.yes ?_ | refine Cnd.no ?_ | refine And.intro rfl ?_ | refine And.intro (by omega) ?_ | (refine And.intro ?_ ?_; focus (simp only [IntKind.wrap_i64, IntKind.wrap_u64, IntKind.wrap_u32]; omega)) | (refine And.intro ?_ ?_; focus (simp only [zl1, zl2, zl3, zl4, zl5, zl6, zl7, zl8, zl9] <;> omega)) | refine Alt.std ?_ | (refine Cnd.tt ?_ ?_; focus (first | (apply decide_eq_true; omega) | (simp only [zq1, zq2, zq3, zq4, zq5, zq6, zq7, zq8, zq9, zq10, zq11, zq12] <;> omega) | rfl)) | (refine Cnd.ff ?_ ?_; focus (first | (apply decide_eq_false; omega) | (simp only [zq1, zq2, zq3, zq4, zq5, zq6, zq7, zq8, zq9, zq10, zq11, zq12] <;> omega) | rfl))))
            conv => whnf
            refine ⟨[0], .v (.bool true), [.row o e ock (l.map orow)], ?_⟩
            repeat ((conv => whnf); (first | refine Cnd.yes ?_ | refine Cnd.no ?_ | refine And.intro rfl ?_ | refine And.intro (by omega) ?_ | (refine And.intro ?_ ?_; focus (simp only [IntKind.wrap_i64, IntKind.wrap_u64, IntKind.wrap_u32]; omega)) | (refine And.intro ?_ ?_; focus (simp only [zl1, zl2, zl3, zl4, zl5, zl6, zl7, zl8, zl9] <;> omega)) | refine Alt.std ?_))
            conv => whnf
            exact hK
          | false =>
            repeat ((conv => whnf); (first | refine Cnd.yes ?_ | refine Cnd.no ?_ | refine And.intro rfl ?_ | refine And.intro (by omega) ?_ | (refine And.intro ?_ ?_; focus (simp only [IntKind.wrap_i64, IntKind.wrap_u64, IntKind.wrap_u32]; omega)) | (refine And.intro ?_ ?_; focus (simp only [zl1, zl2, zl3, zl4, zl5, zl6, zl7, zl8, zl9] <;> omega)) | refine Alt.std ?_ | (refine Cnd.tt ?_ ?_; focus (first | (apply decide_eq_true; omega) | (simp only [zq1, zq2, zq3, zq4, zq5, zq6, zq7, zq8, zq9, zq10, zq11, zq12] <;> omega) | rfl)) | (refine Cnd.ff ?_ ?_; focus (first | (apply decide_eq_false; omega) | (simp only [zq1, zq2, zq3, zq4, zq5, zq6, zq7, zq8, zq9, zq10, zq11, zq12] <;> omega) | rfl))))
            conv => whnf
            (refine ⟨(fun s : Nat => n - s) (i + 1), [0, 1, 2], tmk 31 0 ((fun s : Nat => [(4, .ptr 1 0 0 0), (5, .ptr 2 0 0 0), (9, .slc 0 13 off n), (10, .v (.int .i64 n)), (11, .v (.int .i64 s))]) (i + 1)), (fun s : Nat => [Ent.row o e ock (l.map orow), .cells 30 (osv x), .cells 30 (osv y)]) (i + 1), ?_, ?_⟩; focus (first | (simp only []; omega) | omega))
            repeat ((conv => whnf); (first | refine Cnd.yes ?_ | refine Cnd.no ?_ | refine And.intro rfl ?_ | refine And.intro (by omega) ?_ | (refine And.intro ?_ ?_; focus (simp only [IntKind.wrap_i64, IntKind.wrap_u64, IntKind.wrap_u32]; omega)) | (refine And.intro ?_ ?_; focus (simp only [zl1, zl2, zl3, zl4, zl5, zl6, zl7, zl8, zl9] <;> omega)) | refine Alt.std ?_))
            conv => whnf
            exact ⟨i + 1, ⟨hin, all_next hall hb⟩, rfl, rfl, (tmkK_eq _ _ _ _).mpr rfl, rfl⟩
    · have hin : i = n := by have := of_decide_eq_false hge; omega
      subst hin
      rw [anyB_false hall] at hK
      repeat ((conv => whnf); (first | refine Cnd.yes ?_ | refine Cnd.no ?_ | refine And.intro rfl ?_ | refine And.intro (by omega) ?_ | (refine And.intro ?_ ?_; focus (simp only [IntKind.wrap_i64, IntKind.wrap_u64, IntKind.wrap_u32]; omega)) | (refine And.intro ?_ ?_; focus (simp only [zl1, zl2, zl3, zl4, zl5, zl6, zl7, zl8, zl9] <;> omega)) | refine Alt.std ?_ | (refine Cnd.tt ?_ ?_; focus (first | (apply decide_eq_true; omega) | (simp only [zq1, zq2, zq3, zq4, zq5, zq6, zq7, zq8, zq9, zq10, zq11, zq12] <;> omega) | rfl)) | (refine Cnd.ff ?_ ?_; focus (first | (apply decide_eq_false; omega) | (simp only [zq1, zq2, zq3, zq4, zq5, zq6, zq7, zq8, zq9, zq10, zq11, zq12] <;> omega) | rfl))))
      conv => whnf
      refine ⟨[0], .v (.bool false), [.row o e ock (l.map orow)], ?_⟩
      repeat ((conv => whnf); (first | refine Cnd.yes ?_ | refine Cnd.no ?_ | refine And.intro rfl ?_ | refine And.intro (by omega) ?_ | (refine And.intro ?_ ?_; focus (simp only [IntKind.wrap_i64, IntKind.wrap_u64, IntKind.wrap_u32]; omega)) | (refine And.intro ?_ ?_; focus (simp only [zl1, zl2, zl3, zl4, zl5, zl6, zl7, zl8, zl9] <;> omega)) | refine Alt.std ?_))
      conv => whnf
      exact hK
def barredS : Vc.Spec := fun args hp _ K => ∃ (o : Bool) (e : TypeId) (l : List Op) (off n : Nat) (x y : Op), args = [.slc 0 13 off n, .agg (osv x), .agg (osv y)] ∧ hp = [.row o e ock (l.map orow)] ∧ off + n ≤ l.length ∧ l.length ≤ 1000 ∧ (∀ x ∈ l, Fit x) ∧ K (.v (.bool (barB l off n x y))) [.row o e ock (l.map orow)]
theorem barred_ok : SOK Try.prog 22 barredS := by
  refine TOK.weaken (TOK.out (runF_eq G3_ok mixed at22.1 at22.2 pf22_eq)) fun args hp M K h => ?_
  obtain ⟨o, e, l, off, n, x, y, rfl, rfl, h1, h2, h3, h4⟩ := h
  exact barred_run M K o e l off n x y h1 h2 h3 h4
def plP (l : List Op) (off : Nat) (a : Int) (j : Nat) : Bool := (l.getD (off + j) default).k != 4 && decide (a ∈ (l.getD (off + j) default).da)
def plB (l : List Op) (off n : Nat) (a : Int) : Bool := anyB n (plP l off a)
def Deps (M : HL) (l : List Op) : Prop := ∀ x ∈ l, OIn M x ∧ x.da.length ≤ 1000000 ∧ x.dd.length ≤ 1000000 ∧ x.dc.length ≤ 1000000
theorem Deps.mono {M M' : HL} {l : List Op} (h : Deps M l) (hM : FLe M M') : Deps M' l := fun x hx => ⟨(h x hx).1.mono hM, (h x hx).2⟩
theorem placed_run (M : HL) (K : SV → List Ent → HL → Prop) (o : Bool) (e : TypeId) (l : List Op) (off n : Nat) (p : Int) (hn : off + n ≤ l.length) (hl : l.length ≤ 1000) (hF : ∀ x ∈ l, Fit x) (hD : Deps M l) (hK : K (.v (.bool (plB l off n p))) [.row o e ock (l.map orow)] M) :
    runF G3 pf26 [.slc 0 13 off n, .v (.int .i64 p)] [.row o e ock (l.map orow)] M fun v hp2 M2 => ∃ m v' hp', Wk (llen [Ent.row o e ock (l.map orow)]) m [v] hp2 [v'] hp' (K v' hp' M2) := by
  unfold plB at hK
  repeat ((conv => whnf); (first | refine Cnd.yes ?_ | refine Cnd.no ?_ | refine And.intro rfl ?_ | refine And.intro (by omega) ?_ | (refine And.intro ?_ ?_; focus (simp only [IntKind.wrap_i64, IntKind.wrap_u64, IntKind.wrap_u32]; omega)) | (refine And.intro ?_ ?_; focus (simp only [zl1, zl2, zl3, zl4, zl5, zl6, zl7, zl8, zl9] <;> omega)) | refine Alt.std ?_ | (refine Cnd.tt ?_ ?_; focus (first | (apply decide_eq_true; omega) | (simp only [zq1, zq2, zq3, zq4, zq5, zq6, zq7, zq8, zq9, zq10, zq11, zq12] <;> omega) | rfl)) | (refine Cnd.ff ?_ ?_; focus (first | (apply decide_eq_false; omega) | (simp only [zq1, zq2, zq3, zq4, zq5, zq6, zq7, zq8, zq9, zq10, zq11, zq12] <;> omega) | rfl))))
  conv => whnf
  refine ⟨InvS 23 (fun s : Nat => n - s) (fun s : Nat => s ≤ n ∧ ∀ j, j < s → plP l off p j = false) (fun s : Nat => [(1, .v (.int .i64 p)), (7, .slc 0 13 off n), (8, .v (.int .i64 n)), (9, .v (.int .i64 s))]) (fun s : Nat => [Ent.row o e ock (l.map orow)]) M, ⟨(fun s : Nat => n - s) 0, [0], tmk 23 0 ((fun s : Nat => [(1, .v (.int .i64 p)), (7, .slc 0 13 off n), (8, .v (.int .i64 n)), (9, .v (.int .i64 s))]) 0), (fun s : Nat => [Ent.row o e ock (l.map orow)]) 0, ?_⟩, ?_⟩
  · repeat ((conv => whnf); (first | refine Cnd.yes ?_ | refine Cnd.no ?_ | refine And.intro rfl ?_ | refine And.intro (by omega) ?_ | (refine And.intro ?_ ?_; focus (simp only [IntKind.wrap_i64, IntKind.wrap_u64, IntKind.wrap_u32]; omega)) | (refine And.intro ?_ ?_; focus (simp only [zl1, zl2, zl3, zl4, zl5, zl6, zl7, zl8, zl9] <;> omega)) | refine Alt.std ?_))
    conv => whnf
    exact ⟨0, ⟨Nat.zero_le _, fun j hj => by omega⟩, rfl, rfl, (tmkK_eq _ _ _ _).mpr rfl, rfl⟩
  · rintro cnt tm hp M1 ⟨i, hC_, rfl, rfl, htm, hhp_⟩
    replace hC_ : i ≤ n ∧ ∀ j, j < i → plP l off p j = false := hC_
    obtain ⟨hi, hall⟩ := hC_
    replace htm : tmkK 23 0 [(1, .v (.int .i64 p)), (7, .slc 0 13 off n), (8, .v (.int .i64 n)), (9, .v (.int .i64 i))] (fun l => tm = l) := htm
    conv at htm => whnf
    subst htm
    replace hhp_ : hp = [Ent.row o e ock (l.map orow)] := hhp_
    subst hhp_
    repeat ((conv => whnf); (first | refine Cnd.yes ?_ | refine Cnd.no ?_ | refine And.intro rfl ?_ | refine And.intro (by omega) ?_ | (refine And.intro ?_ ?_; focus (simp only [IntKind.wrap_i64, IntKind.wrap_u64, IntKind.wrap_u32]; omega)) | (refine And.intro ?_ ?_; focus (simp only [zl1, zl2, zl3, zl4, zl5, zl6, zl7, zl8, zl9] <;> omega)) | refine Alt.std ?_ | (refine Cnd.tt ?_ ?_; focus (first | (apply decide_eq_true; omega) | (simp only [zq1, zq2, zq3, zq4, zq5, zq6, zq7, zq8, zq9, zq10, zq11, zq12] <;> omega) | rfl)) | (refine Cnd.ff ?_ ?_; focus (first | (apply decide_eq_false; omega) | (simp only [zq1, zq2, zq3, zq4, zq5, zq6, zq7, zq8, zq9, zq10, zq11, zq12] <;> omega) | rfl))))
    conv => whnf
    refine Cnd.mk (fun hlt => ?_) fun hge => ?_
    · skip
      have hin : i < n := by have := of_decide_eq_true hlt; omega
      have hfi := hF (l.getD (off + i) default) (by simp [List.getD, show off + i < l.length by omega])
      obtain ⟨z, hz⟩ : ∃ z, l.getD (off + i) default = z := ⟨_, rfl⟩
      have hz0 : l.getD (off + (i : Int).toNat) default = z := hz
      rw [hz] at hfi
      have c0 : toI (cellAt (List.map orow l) (off + (i : Int).toNat) 0) = Op.k z := by rw [ocell l (show off + (i : Int).toNat < l.length by omega), hz0]; rfl
      have c1 : toI (cellAt (List.map orow l) (off + (i : Int).toNat) (0 + 1)) = Op.sz z := by rw [ocell l (show off + (i : Int).toNat < l.length by omega), hz0]; rfl
      have c2 : toI (cellAt (List.map orow l) (off + (i : Int).toNat) (0 + 1 + 1)) = Op.ad z := by rw [ocell l (show off + (i : Int).toNat < l.length by omega), hz0]; rfl
      have c3 : toI (cellAt (List.map orow l) (off + (i : Int).toNat) (0 + 1 + 1 + 1)) = Op.v z := by rw [ocell l (show off + (i : Int).toNat < l.length by omega), hz0]; rfl
      have c4 : toI (cellAt (List.map orow l) (off + (i : Int).toNat) (0 + 1 + 1 + 1 + 1)) = Op.g z := by rw [ocell l (show off + (i : Int).toNat < l.length by omega), hz0]; rfl
      have c5 : toB (cellAt (List.map orow l) (off + (i : Int).toNat) (0 + 1 + 1 + 1 + 1 + 1)) = Op.pr z := by rw [ocell l (show off + (i : Int).toNat < l.length by omega), hz0]; rfl
      have c6 : toB (cellAt (List.map orow l) (off + (i : Int).toNat) (0 + 1 + 1 + 1 + 1 + 1 + 1)) = Op.aq z := by rw [ocell l (show off + (i : Int).toNat < l.length by omega), hz0]; rfl
      have c7 : toB (cellAt (List.map orow l) (off + (i : Int).toNat) (0 + 1 + 1 + 1 + 1 + 1 + 1 + 1)) = Op.rl z := by rw [ocell l (show off + (i : Int).toNat < l.length by omega), hz0]; rfl
      have c8 : toI (cellAt (List.map orow l) (off + (i : Int).toNat) (0 + 1 + 1 + 1 + 1 + 1 + 1 + 1 + 1)) = Op.pd z := by rw [ocell l (show off + (i : Int).toNat < l.length by omega), hz0]; rfl
      have c9 : toI (cellAt (List.map orow l) (off + (i : Int).toNat) (0 + 1 + 1 + 1 + 1 + 1 + 1 + 1 + 1 + 1)) = Op.sc z := by rw [ocell l (show off + (i : Int).toNat < l.length by omega), hz0]; rfl
      have c10 : cellAt (List.map orow l) (off + (i : Int).toNat) (0 + 1 + 1 + 1 + 1 + 1 + 1 + 1 + 1 + 1 + 1) = Op.ya z := by rw [ocell l (show off + (i : Int).toNat < l.length by omega), hz0]; rfl
      have c11 : cellAt (List.map orow l) (off + (i : Int).toNat) (0 + 1 + 1 + 1 + 1 + 1 + 1 + 1 + 1 + 1 + 1 + 1) = Op.yd z := by rw [ocell l (show off + (i : Int).toNat < l.length by omega), hz0]; rfl
      have c12 : cellAt (List.map orow l) (off + (i : Int).toNat) (0 + 1 + 1 + 1 + 1 + 1 + 1 + 1 + 1 + 1 + 1 + 1 + 1) = Op.yc z := by rw [ocell l (show off + (i : Int).toNat < l.length by omega), hz0]; rfl
      repeat ((conv => whnf); (first | refine Cnd.yes ?_ | refine Cnd.no ?_ | refine And.intro rfl ?_ | refine And.intro (by omega) ?_ | (refine And.intro ?_ ?_; focus (simp only [IntKind.wrap_i64, IntKind.wrap_u64, IntKind.wrap_u32]; omega)) | (refine And.intro ?_ ?_; focus (simp only [zl1, zl2, zl3, zl4, zl5, zl6, zl7, zl8, zl9] <;> omega)) | refine Alt.std ?_ | (refine Cnd.tt ?_ ?_; focus (first | (apply decide_eq_true; omega) | (simp only [zq1, zq2, zq3, zq4, zq5, zq6, zq7, zq8, zq9, zq10, zq11, zq12] <;> omega) | rfl)) | (refine Cnd.ff ?_ ?_; focus (first | (apply decide_eq_false; omega) | (simp only [zq1, zq2, zq3, zq4, zq5, zq6, zq7, zq8, zq9, zq10, zq11, zq12] <;> omega) | rfl))))
      conv => whnf
      rw [c0, c1, c2, c3, c4, c5, c6, c7, c8, c9, c10, c11, c12]
      clear c0 c1 c2 c3 c4 c5 c6 c7 c8 c9 c10 c11 c12
      repeat ((conv => whnf); (first | refine Cnd.yes ?_ | refine Cnd.no ?_ | refine And.intro rfl ?_ | refine And.intro (by omega) ?_ | (refine And.intro ?_ ?_; focus (simp only [IntKind.wrap_i64, IntKind.wrap_u64, IntKind.wrap_u32]; omega)) | (refine And.intro ?_ ?_; focus (simp only [zl1, zl2, zl3, zl4, zl5, zl6, zl7, zl8, zl9] <;> omega)) | refine Alt.std ?_ | (refine Cnd.tt ?_ ?_; focus (first | (apply decide_eq_true; omega) | (simp only [zq1, zq2, zq3, zq4, zq5, zq6, zq7, zq8, zq9, zq10, zq11, zq12] <;> omega) | rfl)) | (refine Cnd.ff ?_ ?_; focus (first | (apply decide_eq_false; omega) | (simp only [zq1, zq2, zq3, zq4, zq5, zq6, zq7, zq8, zq9, zq10, zq11, zq12] <;> omega) | rfl))))
      conv => whnf
      have hP : plP l off p i = (z.k != 4 && decide (p ∈ z.da)) := by unfold plP; rw [hz]
      have hDi := hD (l.getD (off + i) default) (by simp [List.getD, show off + i < l.length by omega])
      rw [hz] at hDi
      cases hk : z.k != 4 with
      | false =>
        rw [hk, Bool.false_and] at hP
        repeat ((conv => whnf); (first | refine Cnd.yes ?_ | refine Cnd.no ?_ | refine And.intro rfl ?_ | refine And.intro (by omega) ?_ | (refine And.intro ?_ ?_; focus (simp only [IntKind.wrap_i64, IntKind.wrap_u64, IntKind.wrap_u32]; omega)) | (refine And.intro ?_ ?_; focus (simp only [zl1, zl2, zl3, zl4, zl5, zl6, zl7, zl8, zl9] <;> omega)) | refine Alt.std ?_ | (refine Cnd.tt ?_ ?_; focus (first | (apply decide_eq_true; omega) | (simp only [zq1, zq2, zq3, zq4, zq5, zq6, zq7, zq8, zq9, zq10, zq11, zq12] <;> omega) | rfl)) | (refine Cnd.ff ?_ ?_; focus (first | (apply decide_eq_false; omega) | (simp only [zq1, zq2, zq3, zq4, zq5, zq6, zq7, zq8, zq9, zq10, zq11, zq12] <;> omega) | rfl))))
        conv => whnf
        (refine ⟨(fun s : Nat => n - s) (i + 1), [0], tmk 23 0 ((fun s : Nat => [(1, .v (.int .i64 p)), (7, .slc 0 13 off n), (8, .v (.int .i64 n)), (9, .v (.int .i64 s))]) (i + 1)), (fun s : Nat => [Ent.row o e ock (l.map orow)]) (i + 1), ?_, ?_⟩; focus (first | (simp only []; omega) | omega))
        repeat ((conv => whnf); (first | refine Cnd.yes ?_ | refine Cnd.no ?_ | refine And.intro rfl ?_ | refine And.intro (by omega) ?_ | (refine And.intro ?_ ?_; focus (simp only [IntKind.wrap_i64, IntKind.wrap_u64, IntKind.wrap_u32]; omega)) | (refine And.intro ?_ ?_; focus (simp only [zl1, zl2, zl3, zl4, zl5, zl6, zl7, zl8, zl9] <;> omega)) | refine Alt.std ?_))
        conv => whnf
        exact ⟨i + 1, ⟨hin, all_next hall hP⟩, rfl, rfl, (tmkK_eq _ _ _ _).mpr rfl, rfl⟩
      | true =>
        rw [hk, Bool.true_and] at hP
        obtain ⟨ea, hRa⟩ := hDi.1.a
        repeat ((conv => whnf); (first | refine Cnd.yes ?_ | refine Cnd.no ?_ | refine And.intro rfl ?_ | refine And.intro (by omega) ?_ | (refine And.intro ?_ ?_; focus (simp only [IntKind.wrap_i64, IntKind.wrap_u64, IntKind.wrap_u32]; omega)) | (refine And.intro ?_ ?_; focus (simp only [zl1, zl2, zl3, zl4, zl5, zl6, zl7, zl8, zl9] <;> omega)) | refine Alt.std ?_ | (refine Cnd.tt ?_ ?_; focus (first | (apply decide_eq_true; omega) | (simp only [zq1, zq2, zq3, zq4, zq5, zq6, zq7, zq8, zq9, zq10, zq11, zq12] <;> omega) | rfl)) | (refine Cnd.ff ?_ ?_; focus (first | (apply decide_eq_false; omega) | (simp only [zq1, zq2, zq3, zq4, zq5, zq6, zq7, zq8, zq9, zq10, zq11, zq12] <;> omega) | rfl))))
        conv => whnf
        refine ⟨z.ya, ea, _, _, rfl, hRa, ?_⟩
        repeat ((conv => whnf); (first | refine Cnd.yes ?_ | refine Cnd.no ?_ | refine And.intro rfl ?_ | refine And.intro (by omega) ?_ | (refine And.intro ?_ ?_; focus (simp only [IntKind.wrap_i64, IntKind.wrap_u64, IntKind.wrap_u32]; omega)) | (refine And.intro ?_ ?_; focus (simp only [zl1, zl2, zl3, zl4, zl5, zl6, zl7, zl8, zl9] <;> omega)) | refine Alt.std ?_ | (refine Cnd.tt ?_ ?_; focus (first | (apply decide_eq_true; omega) | (simp only [zq1, zq2, zq3, zq4, zq5, zq6, zq7, zq8, zq9, zq10, zq11, zq12] <;> omega) | rfl)) | (refine Cnd.ff ?_ ?_; focus (first | (apply decide_eq_false; omega) | (simp only [zq1, zq2, zq3, zq4, zq5, zq6, zq7, zq8, zq9, zq10, zq11, zq12] <;> omega) | rfl))))
        conv => whnf
        refine ⟨false, ea, z.da, p, by simp, rfl, hDi.2.1, ?_⟩
        rw [← hP]
        cases hb : plP l off p i with
        | true =>
          rw [anyB_true hin hb] at hK
          repeat ((conv => whnf); (first | refine Cnd.yes ?_ | refine Cnd.no ?_ | refine And.intro rfl ?_ | refine And.intro (by omega) ?_ | (refine And.intro ?_ ?_; focus (simp only [IntKind.wrap_i64, IntKind.wrap_u64, IntKind.wrap_u32]; omega)) | (refine And.intro ?_ ?_; focus (simp only [zl1, zl2, zl3, zl4, zl5, zl6, zl7, zl8, zl9] <;> omega)) | refine Alt.std ?_ | (refine Cnd.tt ?_ ?_; focus (first | (apply decide_eq_true; omega) | (simp only [zq1, zq2, zq3, zq4, zq5, zq6, zq7, zq8, zq9, zq10, zq11, zq12] <;> omega) | rfl)) | (refine Cnd.ff ?_ ?_; focus (first | (apply decide_eq_false; omega) | (simp only [zq1, zq2, zq3, zq4, zq5, zq6, zq7, zq8, zq9, zq10, zq11, zq12] <;> omega) | rfl))))
          conv => whnf
          refine ⟨[0], .v (.bool true), [.row o e ock (l.map orow)], ?_⟩
          repeat ((conv => whnf); (first | refine Cnd.yes ?_ | refine Cnd.no ?_ | refine And.intro rfl ?_ | refine And.intro (by omega) ?_ | (refine And.intro ?_ ?_; focus (simp only [IntKind.wrap_i64, IntKind.wrap_u64, IntKind.wrap_u32]; omega)) | (refine And.intro ?_ ?_; focus (simp only [zl1, zl2, zl3, zl4, zl5, zl6, zl7, zl8, zl9] <;> omega)) | refine Alt.std ?_))
          conv => whnf
          exact hK
        | false =>
          repeat ((conv => whnf); (first | refine Cnd.yes ?_ | refine Cnd.no ?_ | refine And.intro rfl ?_ | refine And.intro (by omega) ?_ | (refine And.intro ?_ ?_; focus (simp only [IntKind.wrap_i64, IntKind.wrap_u64, IntKind.wrap_u32]; omega)) | (refine And.intro ?_ ?_; focus (simp only [zl1, zl2, zl3, zl4, zl5, zl6, zl7, zl8, zl9] <;> omega)) | refine Alt.std ?_ | (refine Cnd.tt ?_ ?_; focus (first | (apply decide_eq_true; omega) | (simp only [zq1, zq2, zq3, zq4, zq5, zq6, zq7, zq8, zq9, zq10, zq11, zq12] <;> omega) | rfl)) | (refine Cnd.ff ?_ ?_; focus (first | (apply decide_eq_false; omega) | (simp only [zq1, zq2, zq3, zq4, zq5, zq6, zq7, zq8, zq9, zq10, zq11, zq12] <;> omega) | rfl))))
          conv => whnf
          (refine ⟨(fun s : Nat => n - s) (i + 1), [0], tmk 23 0 ((fun s : Nat => [(1, .v (.int .i64 p)), (7, .slc 0 13 off n), (8, .v (.int .i64 n)), (9, .v (.int .i64 s))]) (i + 1)), (fun s : Nat => [Ent.row o e ock (l.map orow)]) (i + 1), ?_, ?_⟩; focus (first | (simp only []; omega) | omega))
          repeat ((conv => whnf); (first | refine Cnd.yes ?_ | refine Cnd.no ?_ | refine And.intro rfl ?_ | refine And.intro (by omega) ?_ | (refine And.intro ?_ ?_; focus (simp only [IntKind.wrap_i64, IntKind.wrap_u64, IntKind.wrap_u32]; omega)) | (refine And.intro ?_ ?_; focus (simp only [zl1, zl2, zl3, zl4, zl5, zl6, zl7, zl8, zl9] <;> omega)) | refine Alt.std ?_))
          conv => whnf
          exact ⟨i + 1, ⟨hin, all_next hall hb⟩, rfl, rfl, (tmkK_eq _ _ _ _).mpr rfl, rfl⟩
    · have hin : i = n := by have := of_decide_eq_false hge; omega
      subst hin
      rw [anyB_false hall] at hK
      repeat ((conv => whnf); (first | refine Cnd.yes ?_ | refine Cnd.no ?_ | refine And.intro rfl ?_ | refine And.intro (by omega) ?_ | (refine And.intro ?_ ?_; focus (simp only [IntKind.wrap_i64, IntKind.wrap_u64, IntKind.wrap_u32]; omega)) | (refine And.intro ?_ ?_; focus (simp only [zl1, zl2, zl3, zl4, zl5, zl6, zl7, zl8, zl9] <;> omega)) | refine Alt.std ?_ | (refine Cnd.tt ?_ ?_; focus (first | (apply decide_eq_true; omega) | (simp only [zq1, zq2, zq3, zq4, zq5, zq6, zq7, zq8, zq9, zq10, zq11, zq12] <;> omega) | rfl)) | (refine Cnd.ff ?_ ?_; focus (first | (apply decide_eq_false; omega) | (simp only [zq1, zq2, zq3, zq4, zq5, zq6, zq7, zq8, zq9, zq10, zq11, zq12] <;> omega) | rfl))))
      conv => whnf
      refine ⟨[0], .v (.bool false), [.row o e ock (l.map orow)], ?_⟩
      repeat ((conv => whnf); (first | refine Cnd.yes ?_ | refine Cnd.no ?_ | refine And.intro rfl ?_ | refine And.intro (by omega) ?_ | (refine And.intro ?_ ?_; focus (simp only [IntKind.wrap_i64, IntKind.wrap_u64, IntKind.wrap_u32]; omega)) | (refine And.intro ?_ ?_; focus (simp only [zl1, zl2, zl3, zl4, zl5, zl6, zl7, zl8, zl9] <;> omega)) | refine Alt.std ?_))
      conv => whnf
      exact hK
def placedS : Vc.Spec := fun args hp M K => ∃ (o : Bool) (e : TypeId) (l : List Op) (off n : Nat) (p : Int), args = [.slc 0 13 off n, .v (.int .i64 p)] ∧ hp = [.row o e ock (l.map orow)] ∧ off + n ≤ l.length ∧ l.length ≤ 1000 ∧ (∀ x ∈ l, Fit x) ∧ Deps M l ∧ K (.v (.bool (plB l off n p))) [.row o e ock (l.map orow)]
theorem placed_ok : SOK Try.prog 26 placedS := by
  refine TOK.weaken (TOK.out (runF_eq G3_ok mixed at26.1 at26.2 pf26_eq)) fun args hp M K h => ?_
  obtain ⟨o, e, l, off, n, p, rfl, rfl, h1, h2, h3, h4, h5⟩ := h
  exact placed_run M K o e l off n p h1 h2 h3 h4 h5
end Go.Proofs.Ytkfkoldaeplckaa
