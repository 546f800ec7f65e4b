/-
  through, walked; its contract.
-/
import Derived.Test.YtkfkoldaeplckaaCd
namespace Go.Proofs.Ytkfkoldaeplckaa
open Go Go.Vc
set_option maxRecDepth 100000
set_option linter.unusedSimpArgs false
set_option linter.unusedVariables false
set_option maxHeartbeats 4000000
noncomputable def specs4 : Nat → Option Vc.Trans := tget [(18, frameT writesS), (19, frameT meetS), (20, frameT readsS), (21, frameT overS), (22, frameT barredS), (23, frameT markedS), (24, openAtG (frameT contS) 0), (26, frameT placedS)]
noncomputable def G4 : Nat → Option Vc.Trans := tabG specs4 (tget tab) 5
theorem G4_ok : GOK Try.prog G4 := tabG_ok (GOK.cons (frame_ok writes_ok) (GOK.cons (frame_ok meet_ok) (GOK.cons (frame_ok reads_ok) (GOK.cons (frame_ok over_ok) (GOK.cons (frame_ok barred_ok) (GOK.cons (frame_ok marked_ok) (GOK.cons (openAtG_ok (frame_ok cont_ok) 0) (GOK.cons (frame_ok placed_ok) .nil)))))))) tab_ok 5
def thP (l : List Op) (a : Int) (b i : Nat) : Bool := wr (l.getD i default) && (decide (a ∈ (l.getD i default).da) || decide (a ∈ (l.getD i default).dd)) && meetB [l.getD i default, l.getD b default] && !overB l (i + 1) (b - (i + 1)) (l.getD i default) (l.getD b default)
def thB (l : List Op) (a b : Nat) : Bool := anyB (b - (a + 1)) fun j => thP l a b (a + 1 + j)
theorem through_run (M : HL) (K : SV → List Ent → HL → Prop) (o : Bool) (e : TypeId) (l : List Op) (a b : Nat) (hab : a < b) (hbl : b < l.length) (hl : l.length ≤ 1000) (hF : ∀ x ∈ l, Fit x) (hD : Deps M l) (hK : K (.v (.bool (thB l a b))) [.row o e ock (l.map orow)] M) :
    runF G4 pf25 [.slc 0 13 0 l.length, .v (.int .i64 a), .v (.int .i64 b)] [.row o e ock (l.map orow)] M fun v hp2 M2 => ∃ m v' hp', Wk (llen [Ent.row o e ock (l.map orow)]) m [v] hp2 [v'] hp' (K v' hp' M2) := by
  unfold thB at hK
  have ea : IntKind.i64.wrap ((a : Int) + 1) = ((a + 1 : Nat) : Int) := by rw [IntKind.wrap_i64]; omega
  obtain ⟨y, hy⟩ : ∃ y, l.getD b default = y := ⟨_, rfl⟩
  have hfy := hF (l.getD b default) (by simp [List.getD, hbl])
  rw [hy] at hfy
  repeat ((conv => whnf); (first | refine Cnd.yes ?_ | refine Cnd.no ?_ | refine And.intro rfl ?_ | refine And.intro (by omega) ?_ | (refine And.intro ?_ ?_; focus (simp only [IntKind.wrap_i64, IntKind.wrap_u64, IntKind.wrap_u32]; omega)) | (refine And.intro ?_ ?_; focus (simp only [zl1, zl2, zl3, zl4, zl5, zl6, zl7, zl8, zl9] <;> omega)) | refine Alt.std ?_ | (refine Cnd.tt ?_ ?_; focus (first | (apply decide_eq_true; omega) | (simp only [zq1, zq2, zq3, zq4, zq5, zq6, zq7, zq8, zq9, zq10, zq11, zq12] <;> omega) | rfl)) | (refine Cnd.ff ?_ ?_; focus (first | (apply decide_eq_false; omega) | (simp only [zq1, zq2, zq3, zq4, zq5, zq6, zq7, zq8, zq9, zq10, zq11, zq12] <;> omega) | rfl))))
  conv => whnf
  refine ⟨InvS 57 (fun s : Nat => b - s) (fun s : Nat => a + 1 ≤ s ∧ s ≤ b ∧ ∀ j, j < s - (a + 1) → thP l a b (a + 1 + j) = false) (fun s : Nat => [(0, .slc 0 13 0 l.length), (1, .v (.int .i64 a)), (2, .v (.int .i64 b)), (7, .v (.int .i64 s))]) (fun s : Nat => [Ent.row o e ock (l.map orow)]) M, ⟨(fun s : Nat => b - s) (a + 1), [0], tmk 57 0 ((fun s : Nat => [(0, .slc 0 13 0 l.length), (1, .v (.int .i64 a)), (2, .v (.int .i64 b)), (7, .v (.int .i64 s))]) (a + 1)), (fun s : Nat => [Ent.row o e ock (l.map orow)]) (a + 1), ?_⟩, ?_⟩
  · repeat ((conv => whnf); (first | refine Cnd.yes ?_ | refine Cnd.no ?_ | refine And.intro rfl ?_ | refine And.intro (by omega) ?_ | (refine And.intro ?_ ?_; focus (simp only [IntKind.wrap_i64, IntKind.wrap_u64, IntKind.wrap_u32]; omega)) | (refine And.intro ?_ ?_; focus (simp only [zl1, zl2, zl3, zl4, zl5, zl6, zl7, zl8, zl9] <;> omega)) | refine Alt.std ?_))
    conv => whnf
    exact ⟨(a + 1), ⟨Nat.le_refl _, hab, fun j hj => by omega⟩, rfl, rfl, (tmkK_eq _ _ _ _).mpr rfl, rfl⟩
  · rintro cnt tm hp M1 ⟨i, hC_, rfl, rfl, htm, hhp_⟩
    replace hC_ : a + 1 ≤ i ∧ i ≤ b ∧ ∀ j, j < i - (a + 1) → thP l a b (a + 1 + j) = false := hC_
    obtain ⟨hi0, hi, hall⟩ := hC_
    replace htm : tmkK 57 0 [(0, .slc 0 13 0 l.length), (1, .v (.int .i64 a)), (2, .v (.int .i64 b)), (7, .v (.int .i64 i))] (fun l => tm = l) := htm
    conv at htm => whnf
    subst htm
    replace hhp_ : hp = [Ent.row o e ock (l.map orow)] := hhp_
    subst hhp_
    repeat ((conv => whnf); (first | refine Cnd.yes ?_ | refine Cnd.no ?_ | refine And.intro rfl ?_ | refine And.intro (by omega) ?_ | (refine And.intro ?_ ?_; focus (simp only [IntKind.wrap_i64, IntKind.wrap_u64, IntKind.wrap_u32]; omega)) | (refine And.intro ?_ ?_; focus (simp only [zl1, zl2, zl3, zl4, zl5, zl6, zl7, zl8, zl9] <;> omega)) | refine Alt.std ?_ | (refine Cnd.tt ?_ ?_; focus (first | (apply decide_eq_true; omega) | (simp only [zq1, zq2, zq3, zq4, zq5, zq6, zq7, zq8, zq9, zq10, zq11, zq12] <;> omega) | rfl)) | (refine Cnd.ff ?_ ?_; focus (first | (apply decide_eq_false; omega) | (simp only [zq1, zq2, zq3, zq4, zq5, zq6, zq7, zq8, zq9, zq10, zq11, zq12] <;> omega) | rfl))))
    conv => whnf
    refine Cnd.mk (fun hlt => ?_) fun hge => ?_
    · have hin : i < b := by have := of_decide_eq_true hlt; omega
      have hfi := hF (l.getD i default) (by simp [List.getD, show i < l.length by omega])
      obtain ⟨z, hz⟩ : ∃ z, l.getD i default = z := ⟨_, rfl⟩
      have hz0 : l.getD (0 + (i : Int).toNat) default = z := by rw [Nat.zero_add, Int.toNat_natCast]; exact hz
      have hDi := hD (l.getD i default) (by simp [List.getD, show i < l.length by omega])
      rw [hz] at hfi hDi
      have ei : IntKind.i64.wrap ((i : Int) + 1) = ((i + 1 : Nat) : Int) := by rw [IntKind.wrap_i64]; omega
      have c0 : toI (cellAt (List.map orow l) (0 + (i : Int).toNat) 0) = Op.k z := by rw [ocell l (show 0 + (i : Int).toNat < l.length by omega), hz0]; rfl
      have c1 : toI (cellAt (List.map orow l) (0 + (i : Int).toNat) (0 + 1)) = Op.sz z := by rw [ocell l (show 0 + (i : Int).toNat < l.length by omega), hz0]; rfl
      have c2 : toI (cellAt (List.map orow l) (0 + (i : Int).toNat) (0 + 1 + 1)) = Op.ad z := by rw [ocell l (show 0 + (i : Int).toNat < l.length by omega), hz0]; rfl
      have c3 : toI (cellAt (List.map orow l) (0 + (i : Int).toNat) (0 + 1 + 1 + 1)) = Op.v z := by rw [ocell l (show 0 + (i : Int).toNat < l.length by omega), hz0]; rfl
      have c4 : toI (cellAt (List.map orow l) (0 + (i : Int).toNat) (0 + 1 + 1 + 1 + 1)) = Op.g z := by rw [ocell l (show 0 + (i : Int).toNat < l.length by omega), hz0]; rfl
      have c5 : toB (cellAt (List.map orow l) (0 + (i : Int).toNat) (0 + 1 + 1 + 1 + 1 + 1)) = Op.pr z := by rw [ocell l (show 0 + (i : Int).toNat < l.length by omega), hz0]; rfl
      have c6 : toB (cellAt (List.map orow l) (0 + (i : Int).toNat) (0 + 1 + 1 + 1 + 1 + 1 + 1)) = Op.aq z := by rw [ocell l (show 0 + (i : Int).toNat < l.length by omega), hz0]; rfl
      have c7 : toB (cellAt (List.map orow l) (0 + (i : Int).toNat) (0 + 1 + 1 + 1 + 1 + 1 + 1 + 1)) = Op.rl z := by rw [ocell l (show 0 + (i : Int).toNat < l.length by omega), hz0]; rfl
      have c8 : toI (cellAt (List.map orow l) (0 + (i : Int).toNat) (0 + 1 + 1 + 1 + 1 + 1 + 1 + 1 + 1)) = Op.pd z := by rw [ocell l (show 0 + (i : Int).toNat < l.length by omega), hz0]; rfl
      have c9 : toI (cellAt (List.map orow l) (0 + (i : Int).toNat) (0 + 1 + 1 + 1 + 1 + 1 + 1 + 1 + 1 + 1)) = Op.sc z := by rw [ocell l (show 0 + (i : Int).toNat < l.length by omega), hz0]; rfl
      have c10 : cellAt (List.map orow l) (0 + (i : Int).toNat) (0 + 1 + 1 + 1 + 1 + 1 + 1 + 1 + 1 + 1 + 1) = Op.ya z := by rw [ocell l (show 0 + (i : Int).toNat < l.length by omega), hz0]; rfl
      have c11 : cellAt (List.map orow l) (0 + (i : Int).toNat) (0 + 1 + 1 + 1 + 1 + 1 + 1 + 1 + 1 + 1 + 1 + 1) = Op.yd z := by rw [ocell l (show 0 + (i : Int).toNat < l.length by omega), hz0]; rfl
      have c12 : cellAt (List.map orow l) (0 + (i : Int).toNat) (0 + 1 + 1 + 1 + 1 + 1 + 1 + 1 + 1 + 1 + 1 + 1 + 1) = Op.yc z := by rw [ocell l (show 0 + (i : Int).toNat < l.length by omega), hz0]; rfl
      repeat ((conv => whnf); (first | refine Cnd.yes ?_ | refine Cnd.no ?_ | refine And.intro rfl ?_ | refine And.intro (by omega) ?_ | (refine And.intro ?_ ?_; focus (simp only [IntKind.wrap_i64, IntKind.wrap_u64, IntKind.wrap_u32]; omega)) | (refine And.intro ?_ ?_; focus (simp only [zl1, zl2, zl3, zl4, zl5, zl6, zl7, zl8, zl9] <;> omega)) | refine Alt.std ?_ | (refine Cnd.tt ?_ ?_; focus (first | (apply decide_eq_true; omega) | (simp only [zq1, zq2, zq3, zq4, zq5, zq6, zq7, zq8, zq9, zq10, zq11, zq12] <;> omega) | rfl)) | (refine Cnd.ff ?_ ?_; focus (first | (apply decide_eq_false; omega) | (simp only [zq1, zq2, zq3, zq4, zq5, zq6, zq7, zq8, zq9, zq10, zq11, zq12] <;> omega) | rfl))))
      conv => whnf
      rw [c0, c1, c2, c3, c4, c5, c6, c7, c8, c9, c10, c11, c12]
      clear c0 c1 c2 c3 c4 c5 c6 c7 c8 c9 c10 c11 c12
      repeat ((conv => whnf); (first | refine Cnd.yes ?_ | refine Cnd.no ?_ | refine And.intro rfl ?_ | refine And.intro (by omega) ?_ | (refine And.intro ?_ ?_; focus (simp only [IntKind.wrap_i64, IntKind.wrap_u64, IntKind.wrap_u32]; omega)) | (refine And.intro ?_ ?_; focus (simp only [zl1, zl2, zl3, zl4, zl5, zl6, zl7, zl8, zl9] <;> omega)) | refine Alt.std ?_ | (refine Cnd.tt ?_ ?_; focus (first | (apply decide_eq_true; omega) | (simp only [zq1, zq2, zq3, zq4, zq5, zq6, zq7, zq8, zq9, zq10, zq11, zq12] <;> omega) | rfl)) | (refine Cnd.ff ?_ ?_; focus (first | (apply decide_eq_false; omega) | (simp only [zq1, zq2, zq3, zq4, zq5, zq6, zq7, zq8, zq9, zq10, zq11, zq12] <;> omega) | rfl))))
      conv => whnf
      refine ⟨InvC 57 (fun s : Bool => s = thP l a b i) (fun s : Bool => [(0, .slc 0 13 0 l.length), (1, .v (.int .i64 a)), (2, .v (.int .i64 b)), (7, .v (.int .i64 i)), (56, .v (.bool s))]) (fun s : Bool => [Ent.row o e ock (l.map orow)]) M1, ?_, ?_⟩
      · have hP : thP l a b i = (wr z && (decide ((a : Int) ∈ z.da) || decide ((a : Int) ∈ z.dd)) && meetB [z, y] && !overB l (i + 1) (b - (i + 1)) z y) := by unfold thP; rw [hz, hy]
        have hy0 : l.getD (0 + (b : Int).toNat) default = y := by rw [Nat.zero_add, Int.toNat_natCast]; exact hy
        have c0 : toI (cellAt (List.map orow l) (0 + (b : Int).toNat) 0) = Op.k y := by rw [ocell l (show 0 + (b : Int).toNat < l.length by omega), hy0]; rfl
        have c1 : toI (cellAt (List.map orow l) (0 + (b : Int).toNat) (0 + 1)) = Op.sz y := by rw [ocell l (show 0 + (b : Int).toNat < l.length by omega), hy0]; rfl
        have c2 : toI (cellAt (List.map orow l) (0 + (b : Int).toNat) (0 + 1 + 1)) = Op.ad y := by rw [ocell l (show 0 + (b : Int).toNat < l.length by omega), hy0]; rfl
        have c3 : toI (cellAt (List.map orow l) (0 + (b : Int).toNat) (0 + 1 + 1 + 1)) = Op.v y := by rw [ocell l (show 0 + (b : Int).toNat < l.length by omega), hy0]; rfl
        have c4 : toI (cellAt (List.map orow l) (0 + (b : Int).toNat) (0 + 1 + 1 + 1 + 1)) = Op.g y := by rw [ocell l (show 0 + (b : Int).toNat < l.length by omega), hy0]; rfl
        have c5 : toB (cellAt (List.map orow l) (0 + (b : Int).toNat) (0 + 1 + 1 + 1 + 1 + 1)) = Op.pr y := by rw [ocell l (show 0 + (b : Int).toNat < l.length by omega), hy0]; rfl
        have c6 : toB (cellAt (List.map orow l) (0 + (b : Int).toNat) (0 + 1 + 1 + 1 + 1 + 1 + 1)) = Op.aq y := by rw [ocell l (show 0 + (b : Int).toNat < l.length by omega), hy0]; rfl
        have c7 : toB (cellAt (List.map orow l) (0 + (b : Int).toNat) (0 + 1 + 1 + 1 + 1 + 1 + 1 + 1)) = Op.rl y := by rw [ocell l (show 0 + (b : Int).toNat < l.length by omega), hy0]; rfl
        have c8 : toI (cellAt (List.map orow l) (0 + (b : Int).toNat) (0 + 1 + 1 + 1 + 1 + 1 + 1 + 1 + 1)) = Op.pd y := by rw [ocell l (show 0 + (b : Int).toNat < l.length by omega), hy0]; rfl
        have c9 : toI (cellAt (List.map orow l) (0 + (b : Int).toNat) (0 + 1 + 1 + 1 + 1 + 1 + 1 + 1 + 1 + 1)) = Op.sc y := by rw [ocell l (show 0 + (b : Int).toNat < l.length by omega), hy0]; rfl
        have c10 : cellAt (List.map orow l) (0 + (b : Int).toNat) (0 + 1 + 1 + 1 + 1 + 1 + 1 + 1 + 1 + 1 + 1) = Op.ya y := by rw [ocell l (show 0 + (b : Int).toNat < l.length by omega), hy0]; rfl
        have c11 : cellAt (List.map orow l) (0 + (b : Int).toNat) (0 + 1 + 1 + 1 + 1 + 1 + 1 + 1 + 1 + 1 + 1 + 1) = Op.yd y := by rw [ocell l (show 0 + (b : Int).toNat < l.length by omega), hy0]; rfl
        have c12 : cellAt (List.map orow l) (0 + (b : Int).toNat) (0 + 1 + 1 + 1 + 1 + 1 + 1 + 1 + 1 + 1 + 1 + 1 + 1) = Op.yc y := by rw [ocell l (show 0 + (b : Int).toNat < l.length by omega), hy0]; rfl
        obtain ⟨⟨ra, hRa⟩, ⟨rd, hRd⟩, _⟩ := hDi.1
        repeat ((conv => whnf); (first | refine Cnd.yes ?_ | refine Cnd.no ?_ | refine And.intro rfl ?_ | refine And.intro (by omega) ?_ | (refine And.intro ?_ ?_; focus (simp only [IntKind.wrap_i64, IntKind.wrap_u64, IntKind.wrap_u32]; omega)) | (refine And.intro ?_ ?_; focus (simp only [zl1, zl2, zl3, zl4, zl5, zl6, zl7, zl8, zl9] <;> omega)) | refine Alt.std ?_ | (refine Cnd.tt ?_ ?_; focus (first | (apply decide_eq_true; omega) | (simp only [zq1, zq2, zq3, zq4, zq5, zq6, zq7, zq8, zq9, zq10, zq11, zq12] <;> omega) | rfl)) | (refine Cnd.ff ?_ ?_; focus (first | (apply decide_eq_false; omega) | (simp only [zq1, zq2, zq3, zq4, zq5, zq6, zq7, zq8, zq9, zq10, zq11, zq12] <;> omega) | rfl))))
        conv => whnf
        intro Mr1 hMr1
        repeat ((conv => whnf); (first | refine Cnd.yes ?_ | refine Cnd.no ?_ | refine And.intro rfl ?_ | refine And.intro (by omega) ?_ | (refine And.intro ?_ ?_; focus (simp only [IntKind.wrap_i64, IntKind.wrap_u64, IntKind.wrap_u32]; omega)) | (refine And.intro ?_ ?_; focus (simp only [zl1, zl2, zl3, zl4, zl5, zl6, zl7, zl8, zl9] <;> omega)) | refine Alt.std ?_ | (refine Cnd.tt ?_ ?_; focus (first | (apply decide_eq_true; omega) | (simp only [zq1, zq2, zq3, zq4, zq5, zq6, zq7, zq8, zq9, zq10, zq11, zq12] <;> omega) | rfl)) | (refine Cnd.ff ?_ ?_; focus (first | (apply decide_eq_false; omega) | (simp only [zq1, zq2, zq3, zq4, zq5, zq6, zq7, zq8, zq9, zq10, zq11, zq12] <;> omega) | rfl))))
        conv => whnf
        refine ⟨z, rfl, rfl, ?_⟩
        cases hw : wr z with
        | false =>
          rw [hw, Bool.false_and, Bool.false_and, Bool.false_and] at hP
          repeat ((conv => whnf); (first | refine Cnd.yes ?_ | refine Cnd.no ?_ | refine And.intro rfl ?_ | refine And.intro (by omega) ?_ | (refine And.intro ?_ ?_; focus (simp only [IntKind.wrap_i64, IntKind.wrap_u64, IntKind.wrap_u32]; omega)) | (refine And.intro ?_ ?_; focus (simp only [zl1, zl2, zl3, zl4, zl5, zl6, zl7, zl8, zl9] <;> omega)) | refine Alt.std ?_ | (refine Cnd.tt ?_ ?_; focus (first | (apply decide_eq_true; omega) | (simp only [zq1, zq2, zq3, zq4, zq5, zq6, zq7, zq8, zq9, zq10, zq11, zq12] <;> omega) | rfl)) | (refine Cnd.ff ?_ ?_; focus (first | (apply decide_eq_false; omega) | (simp only [zq1, zq2, zq3, zq4, zq5, zq6, zq7, zq8, zq9, zq10, zq11, zq12] <;> omega) | rfl))))
          conv => whnf
          refine ⟨[0], tmk 57 0 ((fun s : Bool => [(0, .slc 0 13 0 l.length), (1, .v (.int .i64 a)), (2, .v (.int .i64 b)), (7, .v (.int .i64 i)), (56, .v (.bool s))]) (thP l a b i)), (fun s : Bool => [Ent.row o e ock (l.map orow)]) (thP l a b i), ?_⟩
          repeat ((conv => whnf); (first | refine Cnd.yes ?_ | refine Cnd.no ?_ | refine And.intro rfl ?_ | refine And.intro (by omega) ?_ | (refine And.intro ?_ ?_; focus (simp only [IntKind.wrap_i64, IntKind.wrap_u64, IntKind.wrap_u32]; omega)) | (refine And.intro ?_ ?_; focus (simp only [zl1, zl2, zl3, zl4, zl5, zl6, zl7, zl8, zl9] <;> omega)) | refine Alt.std ?_))
          conv => whnf
          refine ⟨by rw [hP], ?_⟩
          repeat ((conv => whnf); (first | refine Cnd.yes ?_ | refine Cnd.no ?_ | refine And.intro rfl ?_ | refine And.intro (by omega) ?_ | (refine And.intro ?_ ?_; focus (simp only [IntKind.wrap_i64, IntKind.wrap_u64, IntKind.wrap_u32]; omega)) | (refine And.intro ?_ ?_; focus (simp only [zl1, zl2, zl3, zl4, zl5, zl6, zl7, zl8, zl9] <;> omega)) | refine Alt.std ?_))
          conv => whnf
          exact ⟨thP l a b i, rfl, rfl, (tmkK_eq _ _ _ _).mpr rfl, rfl⟩
        | true =>
          rw [hw, Bool.true_and] at hP
          repeat ((conv => whnf); (first | refine Cnd.yes ?_ | refine Cnd.no ?_ | refine And.intro rfl ?_ | refine And.intro (by omega) ?_ | (refine And.intro ?_ ?_; focus (simp only [IntKind.wrap_i64, IntKind.wrap_u64, IntKind.wrap_u32]; omega)) | (refine And.intro ?_ ?_; focus (simp only [zl1, zl2, zl3, zl4, zl5, zl6, zl7, zl8, zl9] <;> omega)) | refine Alt.std ?_ | (refine Cnd.tt ?_ ?_; focus (first | (apply decide_eq_true; omega) | (simp only [zq1, zq2, zq3, zq4, zq5, zq6, zq7, zq8, zq9, zq10, zq11, zq12] <;> omega) | rfl)) | (refine Cnd.ff ?_ ?_; focus (first | (apply decide_eq_false; omega) | (simp only [zq1, zq2, zq3, zq4, zq5, zq6, zq7, zq8, zq9, zq10, zq11, zq12] <;> omega) | rfl))))
          conv => whnf
          intro Mr2 hMr2
          repeat ((conv => whnf); (first | refine Cnd.yes ?_ | refine Cnd.no ?_ | refine And.intro rfl ?_ | refine And.intro (by omega) ?_ | (refine And.intro ?_ ?_; focus (simp only [IntKind.wrap_i64, IntKind.wrap_u64, IntKind.wrap_u32]; omega)) | (refine And.intro ?_ ?_; focus (simp only [zl1, zl2, zl3, zl4, zl5, zl6, zl7, zl8, zl9] <;> omega)) | refine Alt.std ?_ | (refine Cnd.tt ?_ ?_; focus (first | (apply decide_eq_true; omega) | (simp only [zq1, zq2, zq3, zq4, zq5, zq6, zq7, zq8, zq9, zq10, zq11, zq12] <;> omega) | rfl)) | (refine Cnd.ff ?_ ?_; focus (first | (apply decide_eq_false; omega) | (simp only [zq1, zq2, zq3, zq4, zq5, zq6, zq7, zq8, zq9, zq10, zq11, zq12] <;> omega) | rfl))))
          conv => whnf
          refine ⟨z.ya, ra, _, _, rfl, hRa.mono hMr2, ?_⟩
          repeat ((conv => whnf); (first | refine Cnd.yes ?_ | refine Cnd.no ?_ | refine And.intro rfl ?_ | refine And.intro (by omega) ?_ | (refine And.intro ?_ ?_; focus (simp only [IntKind.wrap_i64, IntKind.wrap_u64, IntKind.wrap_u32]; omega)) | (refine And.intro ?_ ?_; focus (simp only [zl1, zl2, zl3, zl4, zl5, zl6, zl7, zl8, zl9] <;> omega)) | refine Alt.std ?_ | (refine Cnd.tt ?_ ?_; focus (first | (apply decide_eq_true; omega) | (simp only [zq1, zq2, zq3, zq4, zq5, zq6, zq7, zq8, zq9, zq10, zq11, zq12] <;> omega) | rfl)) | (refine Cnd.ff ?_ ?_; focus (first | (apply decide_eq_false; omega) | (simp only [zq1, zq2, zq3, zq4, zq5, zq6, zq7, zq8, zq9, zq10, zq11, zq12] <;> omega) | rfl))))
          conv => whnf
          refine ⟨false, ra, z.da, a, by simp, rfl, hDi.2.1, ?_⟩
          cases hda : decide ((a : Int) ∈ z.da) with
          | true =>
            rw [hda, Bool.true_or, Bool.true_and] at hP
            repeat ((conv => whnf); (first | refine Cnd.yes ?_ | refine Cnd.no ?_ | refine And.intro rfl ?_ | refine And.intro (by omega) ?_ | (refine And.intro ?_ ?_; focus (simp only [IntKind.wrap_i64, IntKind.wrap_u64, IntKind.wrap_u32]; omega)) | (refine And.intro ?_ ?_; focus (simp only [zl1, zl2, zl3, zl4, zl5, zl6, zl7, zl8, zl9] <;> omega)) | refine Alt.std ?_ | (refine Cnd.tt ?_ ?_; focus (first | (apply decide_eq_true; omega) | (simp only [zq1, zq2, zq3, zq4, zq5, zq6, zq7, zq8, zq9, zq10, zq11, zq12] <;> omega) | rfl)) | (refine Cnd.ff ?_ ?_; focus (first | (apply decide_eq_false; omega) | (simp only [zq1, zq2, zq3, zq4, zq5, zq6, zq7, zq8, zq9, zq10, zq11, zq12] <;> omega) | rfl))))
            conv => whnf
            rw [c0, c1, c2, c3, c4, c5, c6, c7, c8, c9, c10, c11, c12]
            clear c0 c1 c2 c3 c4 c5 c6 c7 c8 c9 c10 c11 c12
            repeat ((conv => whnf); (first | refine Cnd.yes ?_ | refine Cnd.no ?_ | refine And.intro rfl ?_ | refine And.intro (by omega) ?_ | (refine And.intro ?_ ?_; focus (simp only [IntKind.wrap_i64, IntKind.wrap_u64, IntKind.wrap_u32]; omega)) | (refine And.intro ?_ ?_; focus (simp only [zl1, zl2, zl3, zl4, zl5, zl6, zl7, zl8, zl9] <;> omega)) | refine Alt.std ?_ | (refine Cnd.tt ?_ ?_; focus (first | (apply decide_eq_true; omega) | (simp only [zq1, zq2, zq3, zq4, zq5, zq6, zq7, zq8, zq9, zq10, zq11, zq12] <;> omega) | rfl)) | (refine Cnd.ff ?_ ?_; focus (first | (apply decide_eq_false; omega) | (simp only [zq1, zq2, zq3, zq4, zq5, zq6, zq7, zq8, zq9, zq10, zq11, zq12] <;> omega) | rfl))))
            conv => whnf
            intro Mr4 hMr4
            repeat ((conv => whnf); (first | refine Cnd.yes ?_ | refine Cnd.no ?_ | refine And.intro rfl ?_ | refine And.intro (by omega) ?_ | (refine And.intro ?_ ?_; focus (simp only [IntKind.wrap_i64, IntKind.wrap_u64, IntKind.wrap_u32]; omega)) | (refine And.intro ?_ ?_; focus (simp only [zl1, zl2, zl3, zl4, zl5, zl6, zl7, zl8, zl9] <;> omega)) | refine Alt.std ?_ | (refine Cnd.tt ?_ ?_; focus (first | (apply decide_eq_true; omega) | (simp only [zq1, zq2, zq3, zq4, zq5, zq6, zq7, zq8, zq9, zq10, zq11, zq12] <;> omega) | rfl)) | (refine Cnd.ff ?_ ?_; focus (first | (apply decide_eq_false; omega) | (simp only [zq1, zq2, zq3, zq4, zq5, zq6, zq7, zq8, zq9, zq10, zq11, zq12] <;> omega) | rfl))))
            conv => whnf
            refine ⟨false, 30, [z, y], rfl, rfl, by simp, by simp, fun q hq => by simp at hq; rcases hq with rfl | rfl <;> assumption, ?_⟩
            cases hm : meetB [z, y] with
            | false =>
              rw [hm, Bool.false_and] at hP
              repeat ((conv => whnf); (first | refine Cnd.yes ?_ | refine Cnd.no ?_ | refine And.intro rfl ?_ | refine And.intro (by omega) ?_ | (refine And.intro ?_ ?_; focus (simp only [IntKind.wrap_i64, IntKind.wrap_u64, IntKind.wrap_u32]; omega)) | (refine And.intro ?_ ?_; focus (simp only [zl1, zl2, zl3, zl4, zl5, zl6, zl7, zl8, zl9] <;> omega)) | refine Alt.std ?_ | (refine Cnd.tt ?_ ?_; focus (first | (apply decide_eq_true; omega) | (simp only [zq1, zq2, zq3, zq4, zq5, zq6, zq7, zq8, zq9, zq10, zq11, zq12] <;> omega) | rfl)) | (refine Cnd.ff ?_ ?_; focus (first | (apply decide_eq_false; omega) | (simp only [zq1, zq2, zq3, zq4, zq5, zq6, zq7, zq8, zq9, zq10, zq11, zq12] <;> omega) | rfl))))
              conv => whnf
              refine ⟨[0], tmk 57 0 ((fun s : Bool => [(0, .slc 0 13 0 l.length), (1, .v (.int .i64 a)), (2, .v (.int .i64 b)), (7, .v (.int .i64 i)), (56, .v (.bool s))]) (thP l a b i)), (fun s : Bool => [Ent.row o e ock (l.map orow)]) (thP l a b i), ?_⟩
              repeat ((conv => whnf); (first | refine Cnd.yes ?_ | refine Cnd.no ?_ | refine And.intro rfl ?_ | refine And.intro (by omega) ?_ | (refine And.intro ?_ ?_; focus (simp only [IntKind.wrap_i64, IntKind.wrap_u64, IntKind.wrap_u32]; omega)) | (refine And.intro ?_ ?_; focus (simp only [zl1, zl2, zl3, zl4, zl5, zl6, zl7, zl8, zl9] <;> omega)) | refine Alt.std ?_))
              conv => whnf
              refine ⟨by rw [hP], ?_⟩
              repeat ((conv => whnf); (first | refine Cnd.yes ?_ | refine Cnd.no ?_ | refine And.intro rfl ?_ | refine And.intro (by omega) ?_ | (refine And.intro ?_ ?_; focus (simp only [IntKind.wrap_i64, IntKind.wrap_u64, IntKind.wrap_u32]; omega)) | (refine And.intro ?_ ?_; focus (simp only [zl1, zl2, zl3, zl4, zl5, zl6, zl7, zl8, zl9] <;> omega)) | refine Alt.std ?_))
              conv => whnf
              exact ⟨thP l a b i, rfl, rfl, (tmkK_eq _ _ _ _).mpr rfl, rfl⟩
            | true =>
              rw [hm, Bool.true_and] at hP
              repeat ((conv => whnf); (first | refine Cnd.yes ?_ | refine Cnd.no ?_ | refine And.intro rfl ?_ | refine And.intro (by omega) ?_ | (refine And.intro ?_ ?_; focus (simp only [IntKind.wrap_i64, IntKind.wrap_u64, IntKind.wrap_u32]; omega)) | (refine And.intro ?_ ?_; focus (simp only [zl1, zl2, zl3, zl4, zl5, zl6, zl7, zl8, zl9] <;> omega)) | refine Alt.std ?_ | (refine Cnd.tt ?_ ?_; focus (first | (apply decide_eq_true; omega) | (simp only [zq1, zq2, zq3, zq4, zq5, zq6, zq7, zq8, zq9, zq10, zq11, zq12] <;> omega) | rfl)) | (refine Cnd.ff ?_ ?_; focus (first | (apply decide_eq_false; omega) | (simp only [zq1, zq2, zq3, zq4, zq5, zq6, zq7, zq8, zq9, zq10, zq11, zq12] <;> omega) | rfl))))
              conv => whnf
              intro Mr5 hMr5
              have c0 : toI (cellAt (List.map orow l) (0 + (b : Int).toNat) 0) = Op.k y := by rw [ocell l (show 0 + (b : Int).toNat < l.length by omega), hy0]; rfl
              have c1 : toI (cellAt (List.map orow l) (0 + (b : Int).toNat) (0 + 1)) = Op.sz y := by rw [ocell l (show 0 + (b : Int).toNat < l.length by omega), hy0]; rfl
              have c2 : toI (cellAt (List.map orow l) (0 + (b : Int).toNat) (0 + 1 + 1)) = Op.ad y := by rw [ocell l (show 0 + (b : Int).toNat < l.length by omega), hy0]; rfl
              have c3 : toI (cellAt (List.map orow l) (0 + (b : Int).toNat) (0 + 1 + 1 + 1)) = Op.v y := by rw [ocell l (show 0 + (b : Int).toNat < l.length by omega), hy0]; rfl
              have c4 : toI (cellAt (List.map orow l) (0 + (b : Int).toNat) (0 + 1 + 1 + 1 + 1)) = Op.g y := by rw [ocell l (show 0 + (b : Int).toNat < l.length by omega), hy0]; rfl
              have c5 : toB (cellAt (List.map orow l) (0 + (b : Int).toNat) (0 + 1 + 1 + 1 + 1 + 1)) = Op.pr y := by rw [ocell l (show 0 + (b : Int).toNat < l.length by omega), hy0]; rfl
              have c6 : toB (cellAt (List.map orow l) (0 + (b : Int).toNat) (0 + 1 + 1 + 1 + 1 + 1 + 1)) = Op.aq y := by rw [ocell l (show 0 + (b : Int).toNat < l.length by omega), hy0]; rfl
              have c7 : toB (cellAt (List.map orow l) (0 + (b : Int).toNat) (0 + 1 + 1 + 1 + 1 + 1 + 1 + 1)) = Op.rl y := by rw [ocell l (show 0 + (b : Int).toNat < l.length by omega), hy0]; rfl
              have c8 : toI (cellAt (List.map orow l) (0 + (b : Int).toNat) (0 + 1 + 1 + 1 + 1 + 1 + 1 + 1 + 1)) = Op.pd y := by rw [ocell l (show 0 + (b : Int).toNat < l.length by omega), hy0]; rfl
              have c9 : toI (cellAt (List.map orow l) (0 + (b : Int).toNat) (0 + 1 + 1 + 1 + 1 + 1 + 1 + 1 + 1 + 1)) = Op.sc y := by rw [ocell l (show 0 + (b : Int).toNat < l.length by omega), hy0]; rfl
              have c10 : cellAt (List.map orow l) (0 + (b : Int).toNat) (0 + 1 + 1 + 1 + 1 + 1 + 1 + 1 + 1 + 1 + 1) = Op.ya y := by rw [ocell l (show 0 + (b : Int).toNat < l.length by omega), hy0]; rfl
              have c11 : cellAt (List.map orow l) (0 + (b : Int).toNat) (0 + 1 + 1 + 1 + 1 + 1 + 1 + 1 + 1 + 1 + 1 + 1) = Op.yd y := by rw [ocell l (show 0 + (b : Int).toNat < l.length by omega), hy0]; rfl
              have c12 : cellAt (List.map orow l) (0 + (b : Int).toNat) (0 + 1 + 1 + 1 + 1 + 1 + 1 + 1 + 1 + 1 + 1 + 1 + 1) = Op.yc y := by rw [ocell l (show 0 + (b : Int).toNat < l.length by omega), hy0]; rfl
              repeat ((conv => whnf); (first | refine Cnd.yes ?_ | refine Cnd.no ?_ | refine And.intro rfl ?_ | refine And.intro (by omega) ?_ | (refine And.intro ?_ ?_; focus (simp only [IntKind.wrap_i64, IntKind.wrap_u64, IntKind.wrap_u32]; omega)) | (refine And.intro ?_ ?_; focus (simp only [zl1, zl2, zl3, zl4, zl5, zl6, zl7, zl8, zl9] <;> omega)) | refine Alt.std ?_ | (refine Cnd.tt ?_ ?_; focus (first | (apply decide_eq_true; omega) | (simp only [zq1, zq2, zq3, zq4, zq5, zq6, zq7, zq8, zq9, zq10, zq11, zq12] <;> omega) | rfl)) | (refine Cnd.ff ?_ ?_; focus (first | (apply decide_eq_false; omega) | (simp only [zq1, zq2, zq3, zq4, zq5, zq6, zq7, zq8, zq9, zq10, zq11, zq12] <;> omega) | rfl))))
              conv => whnf
              rw [c0, c1, c2, c3, c4, c5, c6, c7, c8, c9, c10, c11, c12]
              clear c0 c1 c2 c3 c4 c5 c6 c7 c8 c9 c10 c11 c12
              rw [ei, Nat.zero_add, Int.toNat_natCast, Int.toNat_natCast]
              refine ⟨false, e, l, i + 1, b - (i + 1), z, y, rfl, rfl, by omega, hl, hF, hfi, hfy, ?_⟩
              repeat ((conv => whnf); (first | refine Cnd.yes ?_ | refine Cnd.no ?_ | refine And.intro rfl ?_ | refine And.intro (by omega) ?_ | (refine And.intro ?_ ?_; focus (simp only [IntKind.wrap_i64, IntKind.wrap_u64, IntKind.wrap_u32]; omega)) | (refine And.intro ?_ ?_; focus (simp only [zl1, zl2, zl3, zl4, zl5, zl6, zl7, zl8, zl9] <;> omega)) | refine Alt.std ?_ | (refine Cnd.tt ?_ ?_; focus (first | (apply decide_eq_true; omega) | (simp only [zq1, zq2, zq3, zq4, zq5, zq6, zq7, zq8, zq9, zq10, zq11, zq12] <;> omega) | rfl)) | (refine Cnd.ff ?_ ?_; focus (first | (apply decide_eq_false; omega) | (simp only [zq1, zq2, zq3, zq4, zq5, zq6, zq7, zq8, zq9, zq10, zq11, zq12] <;> omega) | rfl))))
              conv => whnf
              refine ⟨[0], tmk 57 0 ((fun s : Bool => [(0, .slc 0 13 0 l.length), (1, .v (.int .i64 a)), (2, .v (.int .i64 b)), (7, .v (.int .i64 i)), (56, .v (.bool s))]) (thP l a b i)), (fun s : Bool => [Ent.row o e ock (l.map orow)]) (thP l a b i), ?_⟩
              repeat ((conv => whnf); (first | refine Cnd.yes ?_ | refine Cnd.no ?_ | refine And.intro rfl ?_ | refine And.intro (by omega) ?_ | (refine And.intro ?_ ?_; focus (simp only [IntKind.wrap_i64, IntKind.wrap_u64, IntKind.wrap_u32]; omega)) | (refine And.intro ?_ ?_; focus (simp only [zl1, zl2, zl3, zl4, zl5, zl6, zl7, zl8, zl9] <;> omega)) | refine Alt.std ?_))
              conv => whnf
              refine ⟨by rw [hP], ?_⟩
              repeat ((conv => whnf); (first | refine Cnd.yes ?_ | refine Cnd.no ?_ | refine And.intro rfl ?_ | refine And.intro (by omega) ?_ | (refine And.intro ?_ ?_; focus (simp only [IntKind.wrap_i64, IntKind.wrap_u64, IntKind.wrap_u32]; omega)) | (refine And.intro ?_ ?_; focus (simp only [zl1, zl2, zl3, zl4, zl5, zl6, zl7, zl8, zl9] <;> omega)) | refine Alt.std ?_))
              conv => whnf
              exact ⟨thP l a b i, rfl, rfl, (tmkK_eq _ _ _ _).mpr rfl, rfl⟩
          | false =>
            rw [hda, Bool.false_or] at hP
            repeat ((conv => whnf); (first | refine Cnd.yes ?_ | refine Cnd.no ?_ | refine And.intro rfl ?_ | refine And.intro (by omega) ?_ | (refine And.intro ?_ ?_; focus (simp only [IntKind.wrap_i64, IntKind.wrap_u64, IntKind.wrap_u32]; omega)) | (refine And.intro ?_ ?_; focus (simp only [zl1, zl2, zl3, zl4, zl5, zl6, zl7, zl8, zl9] <;> omega)) | refine Alt.std ?_ | (refine Cnd.tt ?_ ?_; focus (first | (apply decide_eq_true; omega) | (simp only [zq1, zq2, zq3, zq4, zq5, zq6, zq7, zq8, zq9, zq10, zq11, zq12] <;> omega) | rfl)) | (refine Cnd.ff ?_ ?_; focus (first | (apply decide_eq_false; omega) | (simp only [zq1, zq2, zq3, zq4, zq5, zq6, zq7, zq8, zq9, zq10, zq11, zq12] <;> omega) | rfl))))
            conv => whnf
            intro Mr3 hMr3
            repeat ((conv => whnf); (first | refine Cnd.yes ?_ | refine Cnd.no ?_ | refine And.intro rfl ?_ | refine And.intro (by omega) ?_ | (refine And.intro ?_ ?_; focus (simp only [IntKind.wrap_i64, IntKind.wrap_u64, IntKind.wrap_u32]; omega)) | (refine And.intro ?_ ?_; focus (simp only [zl1, zl2, zl3, zl4, zl5, zl6, zl7, zl8, zl9] <;> omega)) | refine Alt.std ?_ | (refine Cnd.tt ?_ ?_; focus (first | (apply decide_eq_true; omega) | (simp only [zq1, zq2, zq3, zq4, zq5, zq6, zq7, zq8, zq9, zq10, zq11, zq12] <;> omega) | rfl)) | (refine Cnd.ff ?_ ?_; focus (first | (apply decide_eq_false; omega) | (simp only [zq1, zq2, zq3, zq4, zq5, zq6, zq7, zq8, zq9, zq10, zq11, zq12] <;> omega) | rfl))))
            conv => whnf
            refine ⟨z.yd, rd, _, _, rfl, hRd.mono hMr3, ?_⟩
            repeat ((conv => whnf); (first | refine Cnd.yes ?_ | refine Cnd.no ?_ | refine And.intro rfl ?_ | refine And.intro (by omega) ?_ | (refine And.intro ?_ ?_; focus (simp only [IntKind.wrap_i64, IntKind.wrap_u64, IntKind.wrap_u32]; omega)) | (refine And.intro ?_ ?_; focus (simp only [zl1, zl2, zl3, zl4, zl5, zl6, zl7, zl8, zl9] <;> omega)) | refine Alt.std ?_ | (refine Cnd.tt ?_ ?_; focus (first | (apply decide_eq_true; omega) | (simp only [zq1, zq2, zq3, zq4, zq5, zq6, zq7, zq8, zq9, zq10, zq11, zq12] <;> omega) | rfl)) | (refine Cnd.ff ?_ ?_; focus (first | (apply decide_eq_false; omega) | (simp only [zq1, zq2, zq3, zq4, zq5, zq6, zq7, zq8, zq9, zq10, zq11, zq12] <;> omega) | rfl))))
            conv => whnf
            refine ⟨false, rd, z.dd, a, by simp, rfl, hDi.2.2.1, ?_⟩
            cases hdd : decide ((a : Int) ∈ z.dd) with
            | true =>
              rw [hdd, Bool.true_and] at hP
              repeat ((conv => whnf); (first | refine Cnd.yes ?_ | refine Cnd.no ?_ | refine And.intro rfl ?_ | refine And.intro (by omega) ?_ | (refine And.intro ?_ ?_; focus (simp only [IntKind.wrap_i64, IntKind.wrap_u64, IntKind.wrap_u32]; omega)) | (refine And.intro ?_ ?_; focus (simp only [zl1, zl2, zl3, zl4, zl5, zl6, zl7, zl8, zl9] <;> omega)) | refine Alt.std ?_ | (refine Cnd.tt ?_ ?_; focus (first | (apply decide_eq_true; omega) | (simp only [zq1, zq2, zq3, zq4, zq5, zq6, zq7, zq8, zq9, zq10, zq11, zq12] <;> omega) | rfl)) | (refine Cnd.ff ?_ ?_; focus (first | (apply decide_eq_false; omega) | (simp only [zq1, zq2, zq3, zq4, zq5, zq6, zq7, zq8, zq9, zq10, zq11, zq12] <;> omega) | rfl))))
              conv => whnf
              rw [c0, c1, c2, c3, c4, c5, c6, c7, c8, c9, c10, c11, c12]
              clear c0 c1 c2 c3 c4 c5 c6 c7 c8 c9 c10 c11 c12
              repeat ((conv => whnf); (first | refine Cnd.yes ?_ | refine Cnd.no ?_ | refine And.intro rfl ?_ | refine And.intro (by omega) ?_ | (refine And.intro ?_ ?_; focus (simp only [IntKind.wrap_i64, IntKind.wrap_u64, IntKind.wrap_u32]; omega)) | (refine And.intro ?_ ?_; focus (simp only [zl1, zl2, zl3, zl4, zl5, zl6, zl7, zl8, zl9] <;> omega)) | refine Alt.std ?_ | (refine Cnd.tt ?_ ?_; focus (first | (apply decide_eq_true; omega) | (simp only [zq1, zq2, zq3, zq4, zq5, zq6, zq7, zq8, zq9, zq10, zq11, zq12] <;> omega) | rfl)) | (refine Cnd.ff ?_ ?_; focus (first | (apply decide_eq_false; omega) | (simp only [zq1, zq2, zq3, zq4, zq5, zq6, zq7, zq8, zq9, zq10, zq11, zq12] <;> omega) | rfl))))
              conv => whnf
              intro Mr4 hMr4
              repeat ((conv => whnf); (first | refine Cnd.yes ?_ | refine Cnd.no ?_ | refine And.intro rfl ?_ | refine And.intro (by omega) ?_ | (refine And.intro ?_ ?_; focus (simp only [IntKind.wrap_i64, IntKind.wrap_u64, IntKind.wrap_u32]; omega)) | (refine And.intro ?_ ?_; focus (simp only [zl1, zl2, zl3, zl4, zl5, zl6, zl7, zl8, zl9] <;> omega)) | refine Alt.std ?_ | (refine Cnd.tt ?_ ?_; focus (first | (apply decide_eq_true; omega) | (simp only [zq1, zq2, zq3, zq4, zq5, zq6, zq7, zq8, zq9, zq10, zq11, zq12] <;> omega) | rfl)) | (refine Cnd.ff ?_ ?_; focus (first | (apply decide_eq_false; omega) | (simp only [zq1, zq2, zq3, zq4, zq5, zq6, zq7, zq8, zq9, zq10, zq11, zq12] <;> omega) | rfl))))
              conv => whnf
              refine ⟨false, 30, [z, y], rfl, rfl, by simp, by simp, fun q hq => by simp at hq; rcases hq with rfl | rfl <;> assumption, ?_⟩
              cases hm : meetB [z, y] with
              | false =>
                rw [hm, Bool.false_and] at hP
                repeat ((conv => whnf); (first | refine Cnd.yes ?_ | refine Cnd.no ?_ | refine And.intro rfl ?_ | refine And.intro (by omega) ?_ | (refine And.intro ?_ ?_; focus (simp only [IntKind.wrap_i64, IntKind.wrap_u64, IntKind.wrap_u32]; omega)) | (refine And.intro ?_ ?_; focus (simp only [zl1, zl2, zl3, zl4, zl5, zl6, zl7, zl8, zl9] <;> omega)) | refine Alt.std ?_ | (refine Cnd.tt ?_ ?_; focus (first | (apply decide_eq_true; omega) | (simp only [zq1, zq2, zq3, zq4, zq5, zq6, zq7, zq8, zq9, zq10, zq11, zq12] <;> omega) | rfl)) | (refine Cnd.ff ?_ ?_; focus (first | (apply decide_eq_false; omega) | (simp only [zq1, zq2, zq3, zq4, zq5, zq6, zq7, zq8, zq9, zq10, zq11, zq12] <;> omega) | rfl))))
                conv => whnf
                refine ⟨[0], tmk 57 0 ((fun s : Bool => [(0, .slc 0 13 0 l.length), (1, .v (.int .i64 a)), (2, .v (.int .i64 b)), (7, .v (.int .i64 i)), (56, .v (.bool s))]) (thP l a b i)), (fun s : Bool => [Ent.row o e ock (l.map orow)]) (thP l a b i), ?_⟩
                repeat ((conv => whnf); (first | refine Cnd.yes ?_ | refine Cnd.no ?_ | refine And.intro rfl ?_ | refine And.intro (by omega) ?_ | (refine And.intro ?_ ?_; focus (simp only [IntKind.wrap_i64, IntKind.wrap_u64, IntKind.wrap_u32]; omega)) | (refine And.intro ?_ ?_; focus (simp only [zl1, zl2, zl3, zl4, zl5, zl6, zl7, zl8, zl9] <;> omega)) | refine Alt.std ?_))
                conv => whnf
                refine ⟨by rw [hP], ?_⟩
                repeat ((conv => whnf); (first | refine Cnd.yes ?_ | refine Cnd.no ?_ | refine And.intro rfl ?_ | refine And.intro (by omega) ?_ | (refine And.intro ?_ ?_; focus (simp only [IntKind.wrap_i64, IntKind.wrap_u64, IntKind.wrap_u32]; omega)) | (refine And.intro ?_ ?_; focus (simp only [zl1, zl2, zl3, zl4, zl5, zl6, zl7, zl8, zl9] <;> omega)) | refine Alt.std ?_))
                conv => whnf
                exact ⟨thP l a b i, rfl, rfl, (tmkK_eq _ _ _ _).mpr rfl, rfl⟩
              | true =>
                rw [hm, Bool.true_and] at hP
                repeat ((conv => whnf); (first | refine Cnd.yes ?_ | refine Cnd.no ?_ | refine And.intro rfl ?_ | refine And.intro (by omega) ?_ | (refine And.intro ?_ ?_; focus (simp only [IntKind.wrap_i64, IntKind.wrap_u64, IntKind.wrap_u32]; omega)) | (refine And.intro ?_ ?_; focus (simp only [zl1, zl2, zl3, zl4, zl5, zl6, zl7, zl8, zl9] <;> omega)) | refine Alt.std ?_ | (refine Cnd.tt ?_ ?_; focus (first | (apply decide_eq_true; omega) | (simp only [zq1, zq2, zq3, zq4, zq5, zq6, zq7, zq8, zq9, zq10, zq11, zq12] <;> omega) | rfl)) | (refine Cnd.ff ?_ ?_; focus (first | (apply decide_eq_false; omega) | (simp only [zq1, zq2, zq3, zq4, zq5, zq6, zq7, zq8, zq9, zq10, zq11, zq12] <;> omega) | rfl))))
                conv => whnf
                intro Mr5 hMr5
                have c0 : toI (cellAt (List.map orow l) (0 + (b : Int).toNat) 0) = Op.k y := by rw [ocell l (show 0 + (b : Int).toNat < l.length by omega), hy0]; rfl
                have c1 : toI (cellAt (List.map orow l) (0 + (b : Int).toNat) (0 + 1)) = Op.sz y := by rw [ocell l (show 0 + (b : Int).toNat < l.length by omega), hy0]; rfl
                have c2 : toI (cellAt (List.map orow l) (0 + (b : Int).toNat) (0 + 1 + 1)) = Op.ad y := by rw [ocell l (show 0 + (b : Int).toNat < l.length by omega), hy0]; rfl
                have c3 : toI (cellAt (List.map orow l) (0 + (b : Int).toNat) (0 + 1 + 1 + 1)) = Op.v y := by rw [ocell l (show 0 + (b : Int).toNat < l.length by omega), hy0]; rfl
                have c4 : toI (cellAt (List.map orow l) (0 + (b : Int).toNat) (0 + 1 + 1 + 1 + 1)) = Op.g y := by rw [ocell l (show 0 + (b : Int).toNat < l.length by omega), hy0]; rfl
                have c5 : toB (cellAt (List.map orow l) (0 + (b : Int).toNat) (0 + 1 + 1 + 1 + 1 + 1)) = Op.pr y := by rw [ocell l (show 0 + (b : Int).toNat < l.length by omega), hy0]; rfl
                have c6 : toB (cellAt (List.map orow l) (0 + (b : Int).toNat) (0 + 1 + 1 + 1 + 1 + 1 + 1)) = Op.aq y := by rw [ocell l (show 0 + (b : Int).toNat < l.length by omega), hy0]; rfl
                have c7 : toB (cellAt (List.map orow l) (0 + (b : Int).toNat) (0 + 1 + 1 + 1 + 1 + 1 + 1 + 1)) = Op.rl y := by rw [ocell l (show 0 + (b : Int).toNat < l.length by omega), hy0]; rfl
                have c8 : toI (cellAt (List.map orow l) (0 + (b : Int).toNat) (0 + 1 + 1 + 1 + 1 + 1 + 1 + 1 + 1)) = Op.pd y := by rw [ocell l (show 0 + (b : Int).toNat < l.length by omega), hy0]; rfl
                have c9 : toI (cellAt (List.map orow l) (0 + (b : Int).toNat) (0 + 1 + 1 + 1 + 1 + 1 + 1 + 1 + 1 + 1)) = Op.sc y := by rw [ocell l (show 0 + (b : Int).toNat < l.length by omega), hy0]; rfl
                have c10 : cellAt (List.map orow l) (0 + (b : Int).toNat) (0 + 1 + 1 + 1 + 1 + 1 + 1 + 1 + 1 + 1 + 1) = Op.ya y := by rw [ocell l (show 0 + (b : Int).toNat < l.length by omega), hy0]; rfl
                have c11 : cellAt (List.map orow l) (0 + (b : Int).toNat) (0 + 1 + 1 + 1 + 1 + 1 + 1 + 1 + 1 + 1 + 1 + 1) = Op.yd y := by rw [ocell l (show 0 + (b : Int).toNat < l.length by omega), hy0]; rfl
                have c12 : cellAt (List.map orow l) (0 + (b : Int).toNat) (0 + 1 + 1 + 1 + 1 + 1 + 1 + 1 + 1 + 1 + 1 + 1 + 1) = Op.yc y := by rw [ocell l (show 0 + (b : Int).toNat < l.length by omega), hy0]; rfl
                repeat ((conv => whnf); (first | refine Cnd.yes ?_ | refine Cnd.no ?_ | refine And.intro rfl ?_ | refine And.intro (by omega) ?_ | (refine And.intro ?_ ?_; focus (simp only [IntKind.wrap_i64, IntKind.wrap_u64, IntKind.wrap_u32]; omega)) | (refine And.intro ?_ ?_; focus (simp only [zl1, zl2, zl3, zl4, zl5, zl6, zl7, zl8, zl9] <;> omega)) | refine Alt.std ?_ | (refine Cnd.tt ?_ ?_; focus (first | (apply decide_eq_true; omega) | (simp only [zq1, zq2, zq3, zq4, zq5, zq6, zq7, zq8, zq9, zq10, zq11, zq12] <;> omega) | rfl)) | (refine Cnd.ff ?_ ?_; focus (first | (apply decide_eq_false; omega) | (simp only [zq1, zq2, zq3, zq4, zq5, zq6, zq7, zq8, zq9, zq10, zq11, zq12] <;> omega) | rfl))))
                conv => whnf
                rw [c0, c1, c2, c3, c4, c5, c6, c7, c8, c9, c10, c11, c12]
                clear c0 c1 c2 c3 c4 c5 c6 c7 c8 c9 c10 c11 c12
                rw [ei, Nat.zero_add, Int.toNat_natCast, Int.toNat_natCast]
                refine ⟨false, e, l, i + 1, b - (i + 1), z, y, rfl, rfl, by omega, hl, hF, hfi, hfy, ?_⟩
                repeat ((conv => whnf); (first | refine Cnd.yes ?_ | refine Cnd.no ?_ | refine And.intro rfl ?_ | refine And.intro (by omega) ?_ | (refine And.intro ?_ ?_; focus (simp only [IntKind.wrap_i64, IntKind.wrap_u64, IntKind.wrap_u32]; omega)) | (refine And.intro ?_ ?_; focus (simp only [zl1, zl2, zl3, zl4, zl5, zl6, zl7, zl8, zl9] <;> omega)) | refine Alt.std ?_ | (refine Cnd.tt ?_ ?_; focus (first | (apply decide_eq_true; omega) | (simp only [zq1, zq2, zq3, zq4, zq5, zq6, zq7, zq8, zq9, zq10, zq11, zq12] <;> omega) | rfl)) | (refine Cnd.ff ?_ ?_; focus (first | (apply decide_eq_false; omega) | (simp only [zq1, zq2, zq3, zq4, zq5, zq6, zq7, zq8, zq9, zq10, zq11, zq12] <;> omega) | rfl))))
                conv => whnf
                refine ⟨[0], tmk 57 0 ((fun s : Bool => [(0, .slc 0 13 0 l.length), (1, .v (.int .i64 a)), (2, .v (.int .i64 b)), (7, .v (.int .i64 i)), (56, .v (.bool s))]) (thP l a b i)), (fun s : Bool => [Ent.row o e ock (l.map orow)]) (thP l a b i), ?_⟩
                repeat ((conv => whnf); (first | refine Cnd.yes ?_ | refine Cnd.no ?_ | refine And.intro rfl ?_ | refine And.intro (by omega) ?_ | (refine And.intro ?_ ?_; focus (simp only [IntKind.wrap_i64, IntKind.wrap_u64, IntKind.wrap_u32]; omega)) | (refine And.intro ?_ ?_; focus (simp only [zl1, zl2, zl3, zl4, zl5, zl6, zl7, zl8, zl9] <;> omega)) | refine Alt.std ?_))
                conv => whnf
                refine ⟨by rw [hP], ?_⟩
                repeat ((conv => whnf); (first | refine Cnd.yes ?_ | refine Cnd.no ?_ | refine And.intro rfl ?_ | refine And.intro (by omega) ?_ | (refine And.intro ?_ ?_; focus (simp only [IntKind.wrap_i64, IntKind.wrap_u64, IntKind.wrap_u32]; omega)) | (refine And.intro ?_ ?_; focus (simp only [zl1, zl2, zl3, zl4, zl5, zl6, zl7, zl8, zl9] <;> omega)) | refine Alt.std ?_))
                conv => whnf
                exact ⟨thP l a b i, rfl, rfl, (tmkK_eq _ _ _ _).mpr rfl, rfl⟩
            | false =>
              rw [hdd, Bool.false_and, Bool.false_and] at hP
              repeat ((conv => whnf); (first | refine Cnd.yes ?_ | refine Cnd.no ?_ | refine And.intro rfl ?_ | refine And.intro (by omega) ?_ | (refine And.intro ?_ ?_; focus (simp only [IntKind.wrap_i64, IntKind.wrap_u64, IntKind.wrap_u32]; omega)) | (refine And.intro ?_ ?_; focus (simp only [zl1, zl2, zl3, zl4, zl5, zl6, zl7, zl8, zl9] <;> omega)) | refine Alt.std ?_ | (refine Cnd.tt ?_ ?_; focus (first | (apply decide_eq_true; omega) | (simp only [zq1, zq2, zq3, zq4, zq5, zq6, zq7, zq8, zq9, zq10, zq11, zq12] <;> omega) | rfl)) | (refine Cnd.ff ?_ ?_; focus (first | (apply decide_eq_false; omega) | (simp only [zq1, zq2, zq3, zq4, zq5, zq6, zq7, zq8, zq9, zq10, zq11, zq12] <;> omega) | rfl))))
              conv => whnf
              refine ⟨[0], tmk 57 0 ((fun s : Bool => [(0, .slc 0 13 0 l.length), (1, .v (.int .i64 a)), (2, .v (.int .i64 b)), (7, .v (.int .i64 i)), (56, .v (.bool s))]) (thP l a b i)), (fun s : Bool => [Ent.row o e ock (l.map orow)]) (thP l a b i), ?_⟩
              repeat ((conv => whnf); (first | refine Cnd.yes ?_ | refine Cnd.no ?_ | refine And.intro rfl ?_ | refine And.intro (by omega) ?_ | (refine And.intro ?_ ?_; focus (simp only [IntKind.wrap_i64, IntKind.wrap_u64, IntKind.wrap_u32]; omega)) | (refine And.intro ?_ ?_; focus (simp only [zl1, zl2, zl3, zl4, zl5, zl6, zl7, zl8, zl9] <;> omega)) | refine Alt.std ?_))
              conv => whnf
              refine ⟨by rw [hP], ?_⟩
              repeat ((conv => whnf); (first | refine Cnd.yes ?_ | refine Cnd.no ?_ | refine And.intro rfl ?_ | refine And.intro (by omega) ?_ | (refine And.intro ?_ ?_; focus (simp only [IntKind.wrap_i64, IntKind.wrap_u64, IntKind.wrap_u32]; omega)) | (refine And.intro ?_ ?_; focus (simp only [zl1, zl2, zl3, zl4, zl5, zl6, zl7, zl8, zl9] <;> omega)) | refine Alt.std ?_))
              conv => whnf
              exact ⟨thP l a b i, rfl, rfl, (tmkK_eq _ _ _ _).mpr rfl, rfl⟩
      · rintro tm hp M1 ⟨b1, hC_, rfl, htm, hhp_⟩
        replace hC_ : b1 = thP l a b i := hC_
        have hb1 := hC_
        replace htm : tmkK 57 0 [(0, .slc 0 13 0 l.length), (1, .v (.int .i64 a)), (2, .v (.int .i64 b)), (7, .v (.int .i64 i)), (56, .v (.bool b1))] (fun l => tm = l) := htm
        conv at htm => whnf
        subst htm
        replace hhp_ : hp = [Ent.row o e ock (l.map orow)] := hhp_
        subst hhp_
        cases b1 with
        | true =>
          rw [anyB_true (j := i - (a + 1)) (by omega) (by rw [show a + 1 + (i - (a + 1)) = i by omega]; exact hb1.symm)] at hK
          repeat ((conv => whnf); (first | refine Cnd.yes ?_ | refine Cnd.no ?_ | refine And.intro rfl ?_ | refine And.intro (by omega) ?_ | (refine And.intro ?_ ?_; focus (simp only [IntKind.wrap_i64, IntKind.wrap_u64, IntKind.wrap_u32]; omega)) | (refine And.intro ?_ ?_; focus (simp only [zl1, zl2, zl3, zl4, zl5, zl6, zl7, zl8, zl9] <;> omega)) | refine Alt.std ?_ | (refine Cnd.tt ?_ ?_; focus (first | (apply decide_eq_true; omega) | (simp only [zq1, zq2, zq3, zq4, zq5, zq6, zq7, zq8, zq9, zq10, zq11, zq12] <;> omega) | rfl)) | (refine Cnd.ff ?_ ?_; focus (first | (apply decide_eq_false; omega) | (simp only [zq1, zq2, zq3, zq4, zq5, zq6, zq7, zq8, zq9, zq10, zq11, zq12] <;> omega) | rfl))))
          conv => whnf
          refine ⟨[0], .v (.bool true), [.row o e ock (l.map orow)], ?_⟩
          repeat ((conv => whnf); (first | refine Cnd.yes ?_ | refine Cnd.no ?_ | refine And.intro rfl ?_ | refine And.intro (by omega) ?_ | (refine And.intro ?_ ?_; focus (simp only [IntKind.wrap_i64, IntKind.wrap_u64, IntKind.wrap_u32]; omega)) | (refine And.intro ?_ ?_; focus (simp only [zl1, zl2, zl3, zl4, zl5, zl6, zl7, zl8, zl9] <;> omega)) | refine Alt.std ?_))
          conv => whnf
          exact hK
        | false =>
          have hall2 : ∀ j, j < i + 1 - (a + 1) → thP l a b (a + 1 + j) = false := fun j hj => by
            by_cases h : j < i - (a + 1)
            · exact hall j h
            · rw [show a + 1 + j = i by omega]; exact hb1.symm
          repeat ((conv => whnf); (first | refine Cnd.yes ?_ | refine Cnd.no ?_ | refine And.intro rfl ?_ | refine And.intro (by omega) ?_ | (refine And.intro ?_ ?_; focus (simp only [IntKind.wrap_i64, IntKind.wrap_u64, IntKind.wrap_u32]; omega)) | (refine And.intro ?_ ?_; focus (simp only [zl1, zl2, zl3, zl4, zl5, zl6, zl7, zl8, zl9] <;> omega)) | refine Alt.std ?_ | (refine Cnd.tt ?_ ?_; focus (first | (apply decide_eq_true; omega) | (simp only [zq1, zq2, zq3, zq4, zq5, zq6, zq7, zq8, zq9, zq10, zq11, zq12] <;> omega) | rfl)) | (refine Cnd.ff ?_ ?_; focus (first | (apply decide_eq_false; omega) | (simp only [zq1, zq2, zq3, zq4, zq5, zq6, zq7, zq8, zq9, zq10, zq11, zq12] <;> omega) | rfl))))
          conv => whnf
          (refine ⟨(fun s : Nat => b - s) (i + 1), [0], tmk 57 0 ((fun s : Nat => [(0, .slc 0 13 0 l.length), (1, .v (.int .i64 a)), (2, .v (.int .i64 b)), (7, .v (.int .i64 s))]) (i + 1)), (fun s : Nat => [Ent.row o e ock (l.map orow)]) (i + 1), ?_, ?_⟩; focus (first | (simp only []; omega) | omega))
          repeat ((conv => whnf); (first | refine Cnd.yes ?_ | refine Cnd.no ?_ | refine And.intro rfl ?_ | refine And.intro (by omega) ?_ | (refine And.intro ?_ ?_; focus (simp only [IntKind.wrap_i64, IntKind.wrap_u64, IntKind.wrap_u32]; omega)) | (refine And.intro ?_ ?_; focus (simp only [zl1, zl2, zl3, zl4, zl5, zl6, zl7, zl8, zl9] <;> omega)) | refine Alt.std ?_))
          conv => whnf
          exact ⟨i + 1, ⟨by omega, hin, hall2⟩, rfl, rfl, (tmkK_eq _ _ _ _).mpr rfl, rfl⟩
    · have hin : i = b := by have := of_decide_eq_false hge; omega
      subst hin
      rw [anyB_false hall] at hK
      repeat ((conv => whnf); (first | refine Cnd.yes ?_ | refine Cnd.no ?_ | refine And.intro rfl ?_ | refine And.intro (by omega) ?_ | (refine And.intro ?_ ?_; focus (simp only [IntKind.wrap_i64, IntKind.wrap_u64, IntKind.wrap_u32]; omega)) | (refine And.intro ?_ ?_; focus (simp only [zl1, zl2, zl3, zl4, zl5, zl6, zl7, zl8, zl9] <;> omega)) | refine Alt.std ?_ | (refine Cnd.tt ?_ ?_; focus (first | (apply decide_eq_true; omega) | (simp only [zq1, zq2, zq3, zq4, zq5, zq6, zq7, zq8, zq9, zq10, zq11, zq12] <;> omega) | rfl)) | (refine Cnd.ff ?_ ?_; focus (first | (apply decide_eq_false; omega) | (simp only [zq1, zq2, zq3, zq4, zq5, zq6, zq7, zq8, zq9, zq10, zq11, zq12] <;> omega) | rfl))))
      conv => whnf
      refine ⟨[0], .v (.bool false), [.row o e ock (l.map orow)], ?_⟩
      repeat ((conv => whnf); (first | refine Cnd.yes ?_ | refine Cnd.no ?_ | refine And.intro rfl ?_ | refine And.intro (by omega) ?_ | (refine And.intro ?_ ?_; focus (simp only [IntKind.wrap_i64, IntKind.wrap_u64, IntKind.wrap_u32]; omega)) | (refine And.intro ?_ ?_; focus (simp only [zl1, zl2, zl3, zl4, zl5, zl6, zl7, zl8, zl9] <;> omega)) | refine Alt.std ?_))
      conv => whnf
      exact hK
def throughS : Vc.Spec := fun args hp M K => ∃ (o : Bool) (e : TypeId) (l : List Op) (a b : Nat), args = [.slc 0 13 0 l.length, .v (.int .i64 a), .v (.int .i64 b)] ∧ hp = [.row o e ock (l.map orow)] ∧ a < b ∧ b < l.length ∧ l.length ≤ 1000 ∧ (∀ x ∈ l, Fit x) ∧ Deps M l ∧ K (.v (.bool (thB l a b))) [.row o e ock (l.map orow)]
theorem through_ok : SOK Try.prog 25 throughS := by
  refine TOK.weaken (TOK.out (runF_eq G4_ok mixed at25.1 at25.2 pf25_eq)) fun args hp M K h => ?_
  obtain ⟨o, e, l, a, b, rfl, rfl, h1, h2, h3, h4, h5, h6⟩ := h
  exact through_run M K o e l a b h1 h2 h3 h4 h5 h6
end Go.Proofs.Ytkfkoldaeplckaa
