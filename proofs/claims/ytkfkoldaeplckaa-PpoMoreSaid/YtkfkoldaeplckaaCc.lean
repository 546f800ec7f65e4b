/-
  meet, over, barred, placed, walked; their contracts.
-/
import Derived.Test.YtkfkoldaeplckaaCb
namespace Go.Proofs.Ytkfkoldaeplckaa
open Go Go.Vc
set_option maxRecDepth 100000
set_option linter.unusedSimpArgs false
set_option linter.unusedVariables false
theorem ocell (l : List Op) {j : Nat} (hj : j < l.length) (f : Nat) : cellAt (l.map orow) j f = (orow (l.getD j default)).getD f undef := by
  simp [cellAt, List.getD, hj]
def mxF (a : Int) (x : Op) : Int := if opLo x > a then opLo x else a
def mnF (a : Int) (x : Op) : Int := if opHi x < a then opHi x else a
def meetB (l : List Op) : Bool := decide (l.tail.foldl mxF (opLo (l.getD 0 default)) < l.tail.foldl mnF (opHi (l.getD 0 default)))
theorem foldl_step {α : Type} (f : α → Op → α) (a : α) (l : List Op) {i : Nat} (hi : i < l.length) : (l.take (i + 1)).foldl f a = f ((l.take i).foldl f a) (l.getD i default) := by
  rw [List.take_succ_eq_append_getElem hi, List.foldl_append]
  simp [List.getD, hi]
noncomputable def specs2 : Nat → Option Vc.Trans := tget [(18, frameT writesS), (20, frameT readsS), (23, frameT markedS), (24, openAtG (frameT contS) 0), (27, frameT spanS), (28, frameT byS)]
noncomputable def G2 : Nat → Option Vc.Trans := tabG specs2 (tget tab) 5
theorem G2_ok : GOK Try.prog G2 := tabG_ok (GOK.cons (frame_ok writes_ok) (GOK.cons (frame_ok reads_ok) (GOK.cons (frame_ok marked_ok) (GOK.cons (openAtG_ok (frame_ok cont_ok) 0) (GOK.cons (frame_ok span_ok) (GOK.cons (frame_ok by_ok) .nil)))))) tab_ok 5
theorem meet_run (M : HL) (K : SV → List Ent → HL → Prop) (o : Bool) (e : TypeId) (l : List Op) (h0 : 0 < l.length) (hl : l.length ≤ 1000) (hF : ∀ x ∈ l, Fit x) (hK : K (.v (.bool (meetB l))) [.row o e ock (l.map orow)] M) :
    runF G2 pf19 [.slc 0 13 0 l.length] [.row o e ock (l.map orow)] M fun v hp2 M2 => ∃ m v' hp', Wk (llen [Ent.row o e ock (l.map orow)]) m [v] hp2 [v'] hp' (K v' hp' M2) := by
  have hf0 := hF (l.getD 0 default) (by simp [List.getD, h0])
  obtain ⟨y, hy⟩ : ∃ y, l.getD 0 default = y := ⟨_, rfl⟩
  have hy0 : l.getD (0 + Int.toNat 0) default = y := hy
  rw [hy] at hf0
  unfold meetB at hK
  rw [hy] at hK
  have c0 : toI (cellAt (List.map orow l) (0 + Int.toNat 0) 0) = Op.k y := by rw [ocell l (show 0 + Int.toNat 0 < l.length from h0), hy0]; rfl
  have c1 : toI (cellAt (List.map orow l) (0 + Int.toNat 0) (0 + 1)) = Op.sz y := by rw [ocell l (show 0 + Int.toNat 0 < l.length from h0), hy0]; rfl
  have c2 : toI (cellAt (List.map orow l) (0 + Int.toNat 0) (0 + 1 + 1)) = Op.ad y := by rw [ocell l (show 0 + Int.toNat 0 < l.length from h0), hy0]; rfl
  have c3 : toI (cellAt (List.map orow l) (0 + Int.toNat 0) (0 + 1 + 1 + 1)) = Op.v y := by rw [ocell l (show 0 + Int.toNat 0 < l.length from h0), hy0]; rfl
  have c4 : toI (cellAt (List.map orow l) (0 + Int.toNat 0) (0 + 1 + 1 + 1 + 1)) = Op.g y := by rw [ocell l (show 0 + Int.toNat 0 < l.length from h0), hy0]; rfl
  have c5 : toB (cellAt (List.map orow l) (0 + Int.toNat 0) (0 + 1 + 1 + 1 + 1 + 1)) = Op.pr y := by rw [ocell l (show 0 + Int.toNat 0 < l.length from h0), hy0]; rfl
  have c6 : toB (cellAt (List.map orow l) (0 + Int.toNat 0) (0 + 1 + 1 + 1 + 1 + 1 + 1)) = Op.aq y := by rw [ocell l (show 0 + Int.toNat 0 < l.length from h0), hy0]; rfl
  have c7 : toB (cellAt (List.map orow l) (0 + Int.toNat 0) (0 + 1 + 1 + 1 + 1 + 1 + 1 + 1)) = Op.rl y := by rw [ocell l (show 0 + Int.toNat 0 < l.length from h0), hy0]; rfl
  have c8 : toI (cellAt (List.map orow l) (0 + Int.toNat 0) (0 + 1 + 1 + 1 + 1 + 1 + 1 + 1 + 1)) = Op.pd y := by rw [ocell l (show 0 + Int.toNat 0 < l.length from h0), hy0]; rfl
  have c9 : toI (cellAt (List.map orow l) (0 + Int.toNat 0) (0 + 1 + 1 + 1 + 1 + 1 + 1 + 1 + 1 + 1)) = Op.sc y := by rw [ocell l (show 0 + Int.toNat 0 < l.length from h0), hy0]; rfl
  have c10 : cellAt (List.map orow l) (0 + Int.toNat 0) (0 + 1 + 1 + 1 + 1 + 1 + 1 + 1 + 1 + 1 + 1) = Op.ya y := by rw [ocell l (show 0 + Int.toNat 0 < l.length from h0), hy0]; rfl
  have c11 : cellAt (List.map orow l) (0 + Int.toNat 0) (0 + 1 + 1 + 1 + 1 + 1 + 1 + 1 + 1 + 1 + 1 + 1) = Op.yd y := by rw [ocell l (show 0 + Int.toNat 0 < l.length from h0), hy0]; rfl
  have c12 : cellAt (List.map orow l) (0 + Int.toNat 0) (0 + 1 + 1 + 1 + 1 + 1 + 1 + 1 + 1 + 1 + 1 + 1 + 1) = Op.yc y := by rw [ocell l (show 0 + Int.toNat 0 < l.length from h0), hy0]; rfl
  have hT : l.tail.length = l.length - 1 := List.length_tail
  repeat ((conv => whnf); (first | refine Cnd.yes ?_ | refine Cnd.no ?_ | refine And.intro rfl ?_ | refine And.intro (by omega) ?_ | (refine And.intro ?_ ?_; focus (simp only [IntKind.wrap_i64, IntKind.wrap_u64, IntKind.wrap_u32]; omega)) | (refine And.intro ?_ ?_; focus (simp only [zl1, zl2, zl3, zl4, zl5, zl6, zl7, zl8, zl9] <;> omega)) | refine Alt.std ?_ | (refine Cnd.tt ?_ ?_; focus (first | (apply decide_eq_true; omega) | (simp only [zq1, zq2, zq3, zq4, zq5, zq6, zq7, zq8, zq9, zq10, zq11, zq12] <;> omega) | rfl)) | (refine Cnd.ff ?_ ?_; focus (first | (apply decide_eq_false; omega) | (simp only [zq1, zq2, zq3, zq4, zq5, zq6, zq7, zq8, zq9, zq10, zq11, zq12] <;> omega) | rfl))))
  conv => whnf
  rw [c0, c1, c2, c3, c4, c5, c6, c7, c8, c9, c10, c11, c12]
  clear c0 c1 c2 c3 c4 c5 c6 c7 c8 c9 c10 c11 c12
  refine ⟨y, rfl, rfl, hf0, ?_⟩
  repeat ((conv => whnf); (first | refine Cnd.yes ?_ | refine Cnd.no ?_ | refine And.intro rfl ?_ | refine And.intro (by omega) ?_ | (refine And.intro ?_ ?_; focus (simp only [IntKind.wrap_i64, IntKind.wrap_u64, IntKind.wrap_u32]; omega)) | (refine And.intro ?_ ?_; focus (simp only [zl1, zl2, zl3, zl4, zl5, zl6, zl7, zl8, zl9] <;> omega)) | refine Alt.std ?_ | (refine Cnd.tt ?_ ?_; focus (first | (apply decide_eq_true; omega) | (simp only [zq1, zq2, zq3, zq4, zq5, zq6, zq7, zq8, zq9, zq10, zq11, zq12] <;> omega) | rfl)) | (refine Cnd.ff ?_ ?_; focus (first | (apply decide_eq_false; omega) | (simp only [zq1, zq2, zq3, zq4, zq5, zq6, zq7, zq8, zq9, zq10, zq11, zq12] <;> omega) | rfl))))
  conv => whnf
  refine ⟨InvS 38 (fun s : Nat => l.length - s) (fun s : Nat => s ≤ l.tail.length) (fun s : Nat => [(3, .v (.int .i64 ((l.tail.take s).foldl mxF (opLo y)))), (4, .v (.int .i64 ((l.tail.take s).foldl mnF (opHi y)))), (17, .slc 0 13 1 (l.length - 1)), (18, .v (.int .i64 (l.length - 1 : Nat))), (19, .v (.int .i64 s))]) (fun s : Nat => [Ent.row o e ock (l.map orow)]) M, ⟨(fun s : Nat => l.length - s) 0, [0], tmk 38 0 ((fun s : Nat => [(3, .v (.int .i64 ((l.tail.take s).foldl mxF (opLo y)))), (4, .v (.int .i64 ((l.tail.take s).foldl mnF (opHi y)))), (17, .slc 0 13 1 (l.length - 1)), (18, .v (.int .i64 (l.length - 1 : Nat))), (19, .v (.int .i64 s))]) 0), (fun s : Nat => [Ent.row o e ock (l.map orow)]) 0, ?_⟩, ?_⟩
  · repeat ((conv => whnf); (first | refine Cnd.yes ?_ | refine Cnd.no ?_ | refine And.intro rfl ?_ | refine And.intro (by omega) ?_ | (refine And.intro ?_ ?_; focus (simp only [IntKind.wrap_i64, IntKind.wrap_u64, IntKind.wrap_u32]; omega)) | (refine And.intro ?_ ?_; focus (simp only [zl1, zl2, zl3, zl4, zl5, zl6, zl7, zl8, zl9] <;> omega)) | refine Alt.std ?_))
    conv => whnf
    exact ⟨0, Nat.zero_le _, rfl, rfl, (tmkK_eq _ _ _ _).mpr rfl, rfl⟩
  · rintro cnt tm hp M1 ⟨i, hC_, rfl, rfl, htm, hhp_⟩
    replace hC_ : i ≤ l.tail.length := hC_
    have hi := hC_
    replace htm : tmkK 38 0 [(3, .v (.int .i64 ((l.tail.take i).foldl mxF (opLo y)))), (4, .v (.int .i64 ((l.tail.take i).foldl mnF (opHi y)))), (17, .slc 0 13 1 (l.length - 1)), (18, .v (.int .i64 (l.length - 1 : Nat))), (19, .v (.int .i64 i))] (fun l => tm = l) := htm
    conv at htm => whnf
    subst htm
    replace hhp_ : hp = [Ent.row o e ock (l.map orow)] := hhp_
    subst hhp_
    repeat ((conv => whnf); (first | refine Cnd.yes ?_ | refine Cnd.no ?_ | refine And.intro rfl ?_ | refine And.intro (by omega) ?_ | (refine And.intro ?_ ?_; focus (simp only [IntKind.wrap_i64, IntKind.wrap_u64, IntKind.wrap_u32]; omega)) | (refine And.intro ?_ ?_; focus (simp only [zl1, zl2, zl3, zl4, zl5, zl6, zl7, zl8, zl9] <;> omega)) | refine Alt.std ?_ | (refine Cnd.tt ?_ ?_; focus (first | (apply decide_eq_true; omega) | (simp only [zq1, zq2, zq3, zq4, zq5, zq6, zq7, zq8, zq9, zq10, zq11, zq12] <;> omega) | rfl)) | (refine Cnd.ff ?_ ?_; focus (first | (apply decide_eq_false; omega) | (simp only [zq1, zq2, zq3, zq4, zq5, zq6, zq7, zq8, zq9, zq10, zq11, zq12] <;> omega) | rfl))))
    conv => whnf
    refine Cnd.mk (fun hlt => ?_) fun hge => ?_
    · have hin : i < l.tail.length := by have := of_decide_eq_true hlt; omega
      have hfi := hF (l.getD (1 + i) default) (by simp [List.getD, show 1 + i < l.length by omega])
      have hti : l.tail.getD i default = l.getD (1 + i) default := by simp [List.getD, Nat.add_comm 1 i]
      obtain ⟨z, hz⟩ : ∃ z, l.getD (1 + i) default = z := ⟨_, rfl⟩
      have hz0 : l.getD (1 + (i : Int).toNat) default = z := hz
      have s1 := foldl_step mxF (opLo y) l.tail hin
      have s2 := foldl_step mnF (opHi y) l.tail hin
      rw [hti, hz] at s1 s2
      rw [hz] at hfi
      have c0 : toI (cellAt (List.map orow l) (1 + (i : Int).toNat) 0) = Op.k z := by rw [ocell l (show 1 + (i : Int).toNat < l.length by omega), hz0]; rfl
      have c1 : toI (cellAt (List.map orow l) (1 + (i : Int).toNat) (0 + 1)) = Op.sz z := by rw [ocell l (show 1 + (i : Int).toNat < l.length by omega), hz0]; rfl
      have c2 : toI (cellAt (List.map orow l) (1 + (i : Int).toNat) (0 + 1 + 1)) = Op.ad z := by rw [ocell l (show 1 + (i : Int).toNat < l.length by omega), hz0]; rfl
      have c3 : toI (cellAt (List.map orow l) (1 + (i : Int).toNat) (0 + 1 + 1 + 1)) = Op.v z := by rw [ocell l (show 1 + (i : Int).toNat < l.length by omega), hz0]; rfl
      have c4 : toI (cellAt (List.map orow l) (1 + (i : Int).toNat) (0 + 1 + 1 + 1 + 1)) = Op.g z := by rw [ocell l (show 1 + (i : Int).toNat < l.length by omega), hz0]; rfl
      have c5 : toB (cellAt (List.map orow l) (1 + (i : Int).toNat) (0 + 1 + 1 + 1 + 1 + 1)) = Op.pr z := by rw [ocell l (show 1 + (i : Int).toNat < l.length by omega), hz0]; rfl
      have c6 : toB (cellAt (List.map orow l) (1 + (i : Int).toNat) (0 + 1 + 1 + 1 + 1 + 1 + 1)) = Op.aq z := by rw [ocell l (show 1 + (i : Int).toNat < l.length by omega), hz0]; rfl
      have c7 : toB (cellAt (List.map orow l) (1 + (i : Int).toNat) (0 + 1 + 1 + 1 + 1 + 1 + 1 + 1)) = Op.rl z := by rw [ocell l (show 1 + (i : Int).toNat < l.length by omega), hz0]; rfl
      have c8 : toI (cellAt (List.map orow l) (1 + (i : Int).toNat) (0 + 1 + 1 + 1 + 1 + 1 + 1 + 1 + 1)) = Op.pd z := by rw [ocell l (show 1 + (i : Int).toNat < l.length by omega), hz0]; rfl
      have c9 : toI (cellAt (List.map orow l) (1 + (i : Int).toNat) (0 + 1 + 1 + 1 + 1 + 1 + 1 + 1 + 1 + 1)) = Op.sc z := by rw [ocell l (show 1 + (i : Int).toNat < l.length by omega), hz0]; rfl
      have c10 : cellAt (List.map orow l) (1 + (i : Int).toNat) (0 + 1 + 1 + 1 + 1 + 1 + 1 + 1 + 1 + 1 + 1) = Op.ya z := by rw [ocell l (show 1 + (i : Int).toNat < l.length by omega), hz0]; rfl
      have c11 : cellAt (List.map orow l) (1 + (i : Int).toNat) (0 + 1 + 1 + 1 + 1 + 1 + 1 + 1 + 1 + 1 + 1 + 1) = Op.yd z := by rw [ocell l (show 1 + (i : Int).toNat < l.length by omega), hz0]; rfl
      have c12 : cellAt (List.map orow l) (1 + (i : Int).toNat) (0 + 1 + 1 + 1 + 1 + 1 + 1 + 1 + 1 + 1 + 1 + 1 + 1) = Op.yc z := by rw [ocell l (show 1 + (i : Int).toNat < l.length by omega), hz0]; rfl
      repeat ((conv => whnf); (first | refine Cnd.yes ?_ | refine Cnd.no ?_ | refine And.intro rfl ?_ | refine And.intro (by omega) ?_ | (refine And.intro ?_ ?_; focus (simp only [IntKind.wrap_i64, IntKind.wrap_u64, IntKind.wrap_u32]; omega)) | (refine And.intro ?_ ?_; focus (simp only [zl1, zl2, zl3, zl4, zl5, zl6, zl7, zl8, zl9] <;> omega)) | refine Alt.std ?_ | (refine Cnd.tt ?_ ?_; focus (first | (apply decide_eq_true; omega) | (simp only [zq1, zq2, zq3, zq4, zq5, zq6, zq7, zq8, zq9, zq10, zq11, zq12] <;> omega) | rfl)) | (refine Cnd.ff ?_ ?_; focus (first | (apply decide_eq_false; omega) | (simp only [zq1, zq2, zq3, zq4, zq5, zq6, zq7, zq8, zq9, zq10, zq11, zq12] <;> omega) | rfl))))
      conv => whnf
      rw [c0, c1, c2, c3, c4, c5, c6, c7, c8, c9, c10, c11, c12]
      clear c0 c1 c2 c3 c4 c5 c6 c7 c8 c9 c10 c11 c12
      repeat ((conv => whnf); (first | refine Cnd.yes ?_ | refine Cnd.no ?_ | refine And.intro rfl ?_ | refine And.intro (by omega) ?_ | (refine And.intro ?_ ?_; focus (simp only [IntKind.wrap_i64, IntKind.wrap_u64, IntKind.wrap_u32]; omega)) | (refine And.intro ?_ ?_; focus (simp only [zl1, zl2, zl3, zl4, zl5, zl6, zl7, zl8, zl9] <;> omega)) | refine Alt.std ?_ | (refine Cnd.tt ?_ ?_; focus (first | (apply decide_eq_true; omega) | (simp only [zq1, zq2, zq3, zq4, zq5, zq6, zq7, zq8, zq9, zq10, zq11, zq12] <;> omega) | rfl)) | (refine Cnd.ff ?_ ?_; focus (first | (apply decide_eq_false; omega) | (simp only [zq1, zq2, zq3, zq4, zq5, zq6, zq7, zq8, zq9, zq10, zq11, zq12] <;> omega) | rfl))))
      conv => whnf
      refine ⟨z, rfl, rfl, hfi, ?_⟩
      repeat ((conv => whnf); (first | refine Cnd.yes ?_ | refine Cnd.no ?_ | refine And.intro rfl ?_ | refine And.intro (by omega) ?_ | (refine And.intro ?_ ?_; focus (simp only [IntKind.wrap_i64, IntKind.wrap_u64, IntKind.wrap_u32]; omega)) | (refine And.intro ?_ ?_; focus (simp only [zl1, zl2, zl3, zl4, zl5, zl6, zl7, zl8, zl9] <;> omega)) | refine Alt.std ?_ | (refine Cnd.tt ?_ ?_; focus (first | (apply decide_eq_true; omega) | (simp only [zq1, zq2, zq3, zq4, zq5, zq6, zq7, zq8, zq9, zq10, zq11, zq12] <;> omega) | rfl)) | (refine Cnd.ff ?_ ?_; focus (first | (apply decide_eq_false; omega) | (simp only [zq1, zq2, zq3, zq4, zq5, zq6, zq7, zq8, zq9, zq10, zq11, zq12] <;> omega) | rfl))))
      conv => whnf
      (refine ⟨(fun s : Nat => l.length - s) (i + 1), [0], tmk 38 0 ((fun s : Nat => [(3, .v (.int .i64 ((l.tail.take s).foldl mxF (opLo y)))), (4, .v (.int .i64 ((l.tail.take s).foldl mnF (opHi y)))), (17, .slc 0 13 1 (l.length - 1)), (18, .v (.int .i64 (l.length - 1 : Nat))), (19, .v (.int .i64 s))]) (i + 1)), (fun s : Nat => [Ent.row o e ock (l.map orow)]) (i + 1), ?_, ?_⟩; focus (first | (simp only []; omega) | omega))
      repeat ((conv => whnf); (first | refine Cnd.yes ?_ | refine Cnd.no ?_ | refine And.intro rfl ?_ | refine And.intro (by omega) ?_ | (refine And.intro ?_ ?_; focus (simp only [IntKind.wrap_i64, IntKind.wrap_u64, IntKind.wrap_u32]; omega)) | (refine And.intro ?_ ?_; focus (simp only [zl1, zl2, zl3, zl4, zl5, zl6, zl7, zl8, zl9] <;> omega)) | refine Alt.std ?_))
      conv => whnf
      refine ⟨by rw [s1]; rfl, ?_⟩
      repeat ((conv => whnf); (first | refine Cnd.yes ?_ | refine Cnd.no ?_ | refine And.intro rfl ?_ | refine And.intro (by omega) ?_ | (refine And.intro ?_ ?_; focus (simp only [IntKind.wrap_i64, IntKind.wrap_u64, IntKind.wrap_u32]; omega)) | (refine And.intro ?_ ?_; focus (simp only [zl1, zl2, zl3, zl4, zl5, zl6, zl7, zl8, zl9] <;> omega)) | refine Alt.std ?_))
      conv => whnf
      refine ⟨by rw [s2]; rfl, ?_⟩
      repeat ((conv => whnf); (first | refine Cnd.yes ?_ | refine Cnd.no ?_ | refine And.intro rfl ?_ | refine And.intro (by omega) ?_ | (refine And.intro ?_ ?_; focus (simp only [IntKind.wrap_i64, IntKind.wrap_u64, IntKind.wrap_u32]; omega)) | (refine And.intro ?_ ?_; focus (simp only [zl1, zl2, zl3, zl4, zl5, zl6, zl7, zl8, zl9] <;> omega)) | refine Alt.std ?_))
      conv => whnf
      exact ⟨i + 1, hin, rfl, rfl, (tmkK_eq _ _ _ _).mpr rfl, rfl⟩
    · have hin : i = l.tail.length := by have := of_decide_eq_false hge; omega
      subst hin
      rw [List.take_of_length_le (Nat.le_refl _)]
      repeat ((conv => whnf); (first | refine Cnd.yes ?_ | refine Cnd.no ?_ | refine And.intro rfl ?_ | refine And.intro (by omega) ?_ | (refine And.intro ?_ ?_; focus (simp only [IntKind.wrap_i64, IntKind.wrap_u64, IntKind.wrap_u32]; omega)) | (refine And.intro ?_ ?_; focus (simp only [zl1, zl2, zl3, zl4, zl5, zl6, zl7, zl8, zl9] <;> omega)) | refine Alt.std ?_ | (refine Cnd.tt ?_ ?_; focus (first | (apply decide_eq_true; omega) | (simp only [zq1, zq2, zq3, zq4, zq5, zq6, zq7, zq8, zq9, zq10, zq11, zq12] <;> omega) | rfl)) | (refine Cnd.ff ?_ ?_; focus (first | (apply decide_eq_false; omega) | (simp only [zq1, zq2, zq3, zq4, zq5, zq6, zq7, zq8, zq9, zq10, zq11, zq12] <;> omega) | rfl))))
      conv => whnf
      refine ⟨[0], .v (.bool (decide (l.tail.foldl mxF (opLo y) < l.tail.foldl mnF (opHi y)))), [.row o e ock (l.map orow)], ?_⟩
      repeat ((conv => whnf); (first | refine Cnd.yes ?_ | refine Cnd.no ?_ | refine And.intro rfl ?_ | refine And.intro (by omega) ?_ | (refine And.intro ?_ ?_; focus (simp only [IntKind.wrap_i64, IntKind.wrap_u64, IntKind.wrap_u32]; omega)) | (refine And.intro ?_ ?_; focus (simp only [zl1, zl2, zl3, zl4, zl5, zl6, zl7, zl8, zl9] <;> omega)) | refine Alt.std ?_))
      conv => whnf
      exact hK
def meetS : Vc.Spec := fun args hp _ K => ∃ (o : Bool) (e : TypeId) (l : List Op), args = [.slc 0 13 0 l.length] ∧ hp = [.row o e ock (l.map orow)] ∧ 0 < l.length ∧ l.length ≤ 1000 ∧ (∀ x ∈ l, Fit x) ∧ K (.v (.bool (meetB l))) [.row o e ock (l.map orow)]
theorem meet_ok : SOK Try.prog 19 meetS := by
  refine TOK.weaken (TOK.out (runF_eq G2_ok mixed at19.1 at19.2 pf19_eq)) fun args hp M K h => ?_
  obtain ⟨o, e, l, rfl, rfl, h1, h2, h3, h4⟩ := h
  exact meet_run M K o e l h1 h2 h3 h4
end Go.Proofs.Ytkfkoldaeplckaa
