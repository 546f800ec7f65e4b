/-
  With, Why, walked; their contracts.
-/
import Derived.Test.YtkfkoldaeplckaaCf
namespace Go.Proofs.Ytkfkoldaeplckaa
open Go Go.Vc
set_option maxRecDepth 100000
set_option linter.unusedSimpArgs false
set_option linter.unusedVariables false
set_option maxHeartbeats 4000000
noncomputable def specs5 : Nat → Option Vc.Trans := tget [(13, frameT pairsS), (18, frameT writesS), (19, frameT meetS), (20, frameT readsS), (21, frameT overS), (22, frameT barredS), (23, frameT markedS), (24, openAtG (frameT contS) 0), (25, frameT throughS), (26, frameT placedS)]
noncomputable def G5 : Nat → Option Vc.Trans := tabG specs5 (tget tab) 5
theorem G5_ok : GOK Try.prog G5 := tabG_ok (GOK.cons (frame_ok pairs_ok) (GOK.cons (frame_ok writes_ok) (GOK.cons (frame_ok meet_ok) (GOK.cons (frame_ok reads_ok) (GOK.cons (frame_ok over_ok) (GOK.cons (frame_ok barred_ok) (GOK.cons (frame_ok marked_ok) (GOK.cons (openAtG_ok (frame_ok cont_ok) 0) (GOK.cons (frame_ok through_ok) (GOK.cons (frame_ok placed_ok) .nil)))))))))) tab_ok 5
def w0 (x y : Op) : Bool := x.k == 4 || y.k == 4
def w1 (x y : Op) : Bool := wr y && meetB [x, y]
def w2 (l : List Op) (a b : Nat) (x y : Op) : Bool := rd x && rd y && meetB [x, y] && !overB l (a + 1) (b - (a + 1)) x y
def w3 (x y : Op) : Bool := (x.k == 3 || x.pr && wr x) && rd y && meetB [x, y]
def w7 (x y : Op) : Bool := mk x && mk y
def w8 (ps : List Int) (a b : Nat) : Bool := ps.getD b 0 == a
def w9 (a : Nat) (d : List Int) : Bool := decide ((a : Int) ∈ d)
def w11 (a : Nat) (y : Op) : Bool := wr y && decide ((a : Int) ∈ y.dc)
def w12 (l : List Op) (a b : Nat) (y : Op) : Bool := rd y && thB l a b
def w13 (l : List Op) (a b : Nat) (y : Op) : Bool := wr y && plB l (a + 1) (b - (a + 1)) a
/-- The first that holds. -/
def firstT : List (Bool × Int) → Int
  | [] => 0
  | (true, v) :: _ => v
  | (false, _) :: r => firstT r
def withN (l : List Op) (ps : List Int) (a b : Nat) (x y : Op) : Int := firstT [(w0 x y, 0), (w1 x y, 1), (w2 l a b x y, 2), (w3 x y, 3), (barB l (a + 1) (b - (a + 1)) x y, 4), (x.aq, 5), (y.rl, 6), (w7 x y, 7), (w8 ps a b, 8), (w9 a y.da, 9), (w9 a y.dd, 10), (w11 a y, 11), (w12 l a b y, 12), (w13 l a b y, 13)]
def wHp (o : Bool) (e : TypeId) (l : List Op) (o2 : Bool) (ps : List Int) (x y : Op) : List Ent := [.row o e ock (l.map orow), .row o2 3 [.int .i64] (ps.map irow), .cells 30 (osv x), .cells 30 (osv y)]
set_option maxHeartbeats 1000000 in
theorem with_run (M : HL) (K : SV → List Ent → HL → Prop) (o : Bool) (e : TypeId) (l : List Op) (o2 : Bool) (ps : List Int) (a b : Nat) (x y : Op) (hx : l.getD a default = x) (hy : l.getD b default = y) (hab : a < b) (hbl : b < l.length) (hpl : ps.length = l.length) (hl : l.length ≤ 1000) (hF : ∀ x ∈ l, Fit x) (hD : Deps M l) (hK : K (.v (.int .i64 (withN l ps a b x y))) [.row o e ock (l.map orow), .row o2 3 [.int .i64] (ps.map irow)] M) :
    runF G5 pf16 [.slc 0 13 0 l.length, .slc 1 1 0 l.length, .v (.int .i64 a), .v (.int .i64 b)] [.row o e ock (l.map orow), .row o2 3 [.int .i64] (ps.map irow)] M fun v hp2 M2 => ∃ m v' hp', Wk (llen [Ent.row o e ock (l.map orow), Ent.row o2 3 [.int .i64] (ps.map irow)]) m [v] hp2 [v'] hp' (K v' hp' M2) := by
  have hfx := hF (l.getD a default) (by simp [List.getD, show a < l.length by omega])
  have hfy := hF (l.getD b default) (by simp [List.getD, hbl])
  have hDy := hD (l.getD b default) (by simp [List.getD, hbl])
  rw [hx] at hfx
  rw [hy] at hfy hDy
  have ha0 : l.getD (0 + (a : Int).toNat) default = x := by rw [Nat.zero_add, Int.toNat_natCast]; exact hx
  have hb0 : l.getD (0 + (b : Int).toNat) default = y := by rw [Nat.zero_add, Int.toNat_natCast]; exact hy
  have ea : IntKind.i64.wrap ((a : Int) + 1) = ((a + 1 : Nat) : Int) := by rw [IntKind.wrap_i64]; omega
  unfold withN at hK
  obtain ⟨⟨ra, hRa⟩, ⟨rb, hRd⟩, ⟨rc, hRc⟩⟩ := hDy.1
  have e8 : toI (cellAt (ps.map irow) (0 + (b : Int).toNat) 0) = ps.getD b 0 := toI_i (by omega)
  unfold w8 w9 at hK
  repeat ((conv => whnf); (first | refine Cnd.yes ?_ | refine Cnd.no ?_ | refine And.intro rfl ?_ | refine And.intro (by omega) ?_ | (refine And.intro ?_ ?_; focus (simp only [IntKind.wrap_i64, IntKind.wrap_u64, IntKind.wrap_u32]; omega)) | (refine And.intro ?_ ?_; focus (simp only [zl1, zl2, zl3, zl4, zl5, zl6, zl7, zl8, zl9] <;> omega)) | refine Alt.std ?_ | (refine Cnd.tt ?_ ?_; focus (first | (apply decide_eq_true; omega) | (simp only [zq1, zq2, zq3, zq4, zq5, zq6, zq7, zq8, zq9, zq10, zq11, zq12] <;> omega) | rfl)) | (refine Cnd.ff ?_ ?_; focus (first | (apply decide_eq_false; omega) | (simp only [zq1, zq2, zq3, zq4, zq5, zq6, zq7, zq8, zq9, zq10, zq11, zq12] <;> omega) | rfl))))
  conv => whnf
  refine ⟨InvC 145 (fun s : Bool => s = true) (fun s : Bool => [(0, .slc 0 13 0 l.length), (1, .slc 1 1 0 l.length), (2, .v (.int .i64 a)), (3, .v (.int .i64 b)), (8, .v (.int .i64 0)), (9, .ptr 2 0 0 0), (10, .ptr 3 0 0 0)]) (fun s : Bool => wHp o e l o2 ps x y) M, ?_, ?_⟩
  · repeat ((conv => whnf); (first | refine Cnd.yes ?_ | refine Cnd.no ?_ | refine And.intro rfl ?_ | refine And.intro (by omega) ?_ | (refine And.intro ?_ ?_; focus (simp only [IntKind.wrap_i64, IntKind.wrap_u64, IntKind.wrap_u32]; omega)) | (refine And.intro ?_ ?_; focus (simp only [zl1, zl2, zl3, zl4, zl5, zl6, zl7, zl8, zl9] <;> omega)) | refine Alt.std ?_ | (refine Cnd.tt ?_ ?_; focus (first | (apply decide_eq_true; omega) | (simp only [zq1, zq2, zq3, zq4, zq5, zq6, zq7, zq8, zq9, zq10, zq11, zq12] <;> omega) | rfl)) | (refine Cnd.ff ?_ ?_; focus (first | (apply decide_eq_false; omega) | (simp only [zq1, zq2, zq3, zq4, zq5, zq6, zq7, zq8, zq9, zq10, zq11, zq12] <;> omega) | rfl))))
    conv => whnf
    refine ⟨?_, ?_⟩
    · repeat ((conv => whnf); (first | refine Cnd.yes ?_ | refine Cnd.no ?_ | refine And.intro rfl ?_ | refine And.intro (by omega) ?_ | (refine And.intro ?_ ?_; focus (simp only [IntKind.wrap_i64, IntKind.wrap_u64, IntKind.wrap_u32]; omega)) | (refine And.intro ?_ ?_; focus (simp only [zl1, zl2, zl3, zl4, zl5, zl6, zl7, zl8, zl9] <;> omega)) | refine Alt.std ?_ | (refine Cnd.tt ?_ ?_; focus (first | (apply decide_eq_true; omega) | (simp only [zq1, zq2, zq3, zq4, zq5, zq6, zq7, zq8, zq9, zq10, zq11, zq12] <;> omega) | rfl)) | (refine Cnd.ff ?_ ?_; focus (first | (apply decide_eq_false; omega) | (simp only [zq1, zq2, zq3, zq4, zq5, zq6, zq7, zq8, zq9, zq10, zq11, zq12] <;> omega) | rfl))))
      conv => whnf
      intro Mr1 hMr1
      repeat ((conv => whnf); (first | refine Cnd.yes ?_ | refine Cnd.no ?_ | refine And.intro rfl ?_ | refine And.intro (by omega) ?_ | (refine And.intro ?_ ?_; focus (simp only [IntKind.wrap_i64, IntKind.wrap_u64, IntKind.wrap_u32]; omega)) | (refine And.intro ?_ ?_; focus (simp only [zl1, zl2, zl3, zl4, zl5, zl6, zl7, zl8, zl9] <;> omega)) | refine Alt.std ?_ | (refine Cnd.tt ?_ ?_; focus (first | (apply decide_eq_true; omega) | (simp only [zq1, zq2, zq3, zq4, zq5, zq6, zq7, zq8, zq9, zq10, zq11, zq12] <;> omega) | rfl)) | (refine Cnd.ff ?_ ?_; focus (first | (apply decide_eq_false; omega) | (simp only [zq1, zq2, zq3, zq4, zq5, zq6, zq7, zq8, zq9, zq10, zq11, zq12] <;> omega) | rfl))))
      conv => whnf
      intro Mr2 hMr2
      repeat ((conv => whnf); (first | refine Cnd.yes ?_ | refine Cnd.no ?_ | refine And.intro rfl ?_ | refine And.intro (by omega) ?_ | (refine And.intro ?_ ?_; focus (simp only [IntKind.wrap_i64, IntKind.wrap_u64, IntKind.wrap_u32]; omega)) | (refine And.intro ?_ ?_; focus (simp only [zl1, zl2, zl3, zl4, zl5, zl6, zl7, zl8, zl9] <;> omega)) | refine Alt.std ?_ | (refine Cnd.tt ?_ ?_; focus (first | (apply decide_eq_true; omega) | (simp only [zq1, zq2, zq3, zq4, zq5, zq6, zq7, zq8, zq9, zq10, zq11, zq12] <;> omega) | rfl)) | (refine Cnd.ff ?_ ?_; focus (first | (apply decide_eq_false; omega) | (simp only [zq1, zq2, zq3, zq4, zq5, zq6, zq7, zq8, zq9, zq10, zq11, zq12] <;> omega) | rfl))))
      conv => whnf
      have c0 : toI (cellAt (List.map orow l) (0 + (a : Int).toNat) 0) = Op.k x := by rw [ocell l (show 0 + (a : Int).toNat < l.length by omega), ha0]; rfl
      have c1 : toI (cellAt (List.map orow l) (0 + (a : Int).toNat) (0 + 1)) = Op.sz x := by rw [ocell l (show 0 + (a : Int).toNat < l.length by omega), ha0]; rfl
      have c2 : toI (cellAt (List.map orow l) (0 + (a : Int).toNat) (0 + 1 + 1)) = Op.ad x := by rw [ocell l (show 0 + (a : Int).toNat < l.length by omega), ha0]; rfl
      have c3 : toI (cellAt (List.map orow l) (0 + (a : Int).toNat) (0 + 1 + 1 + 1)) = Op.v x := by rw [ocell l (show 0 + (a : Int).toNat < l.length by omega), ha0]; rfl
      have c4 : toI (cellAt (List.map orow l) (0 + (a : Int).toNat) (0 + 1 + 1 + 1 + 1)) = Op.g x := by rw [ocell l (show 0 + (a : Int).toNat < l.length by omega), ha0]; rfl
      have c5 : toB (cellAt (List.map orow l) (0 + (a : Int).toNat) (0 + 1 + 1 + 1 + 1 + 1)) = Op.pr x := by rw [ocell l (show 0 + (a : Int).toNat < l.length by omega), ha0]; rfl
      have c6 : toB (cellAt (List.map orow l) (0 + (a : Int).toNat) (0 + 1 + 1 + 1 + 1 + 1 + 1)) = Op.aq x := by rw [ocell l (show 0 + (a : Int).toNat < l.length by omega), ha0]; rfl
      have c7 : toB (cellAt (List.map orow l) (0 + (a : Int).toNat) (0 + 1 + 1 + 1 + 1 + 1 + 1 + 1)) = Op.rl x := by rw [ocell l (show 0 + (a : Int).toNat < l.length by omega), ha0]; rfl
      have c8 : toI (cellAt (List.map orow l) (0 + (a : Int).toNat) (0 + 1 + 1 + 1 + 1 + 1 + 1 + 1 + 1)) = Op.pd x := by rw [ocell l (show 0 + (a : Int).toNat < l.length by omega), ha0]; rfl
      have c9 : toI (cellAt (List.map orow l) (0 + (a : Int).toNat) (0 + 1 + 1 + 1 + 1 + 1 + 1 + 1 + 1 + 1)) = Op.sc x := by rw [ocell l (show 0 + (a : Int).toNat < l.length by omega), ha0]; rfl
      have c10 : cellAt (List.map orow l) (0 + (a : Int).toNat) (0 + 1 + 1 + 1 + 1 + 1 + 1 + 1 + 1 + 1 + 1) = Op.ya x := by rw [ocell l (show 0 + (a : Int).toNat < l.length by omega), ha0]; rfl
      have c11 : cellAt (List.map orow l) (0 + (a : Int).toNat) (0 + 1 + 1 + 1 + 1 + 1 + 1 + 1 + 1 + 1 + 1 + 1) = Op.yd x := by rw [ocell l (show 0 + (a : Int).toNat < l.length by omega), ha0]; rfl
      have c12 : cellAt (List.map orow l) (0 + (a : Int).toNat) (0 + 1 + 1 + 1 + 1 + 1 + 1 + 1 + 1 + 1 + 1 + 1 + 1) = Op.yc x := by rw [ocell l (show 0 + (a : Int).toNat < l.length by omega), ha0]; rfl
      rw [c0, c1, c2, c3, c4, c5, c6, c7, c8, c9, c10, c11, c12]
      clear c0 c1 c2 c3 c4 c5 c6 c7 c8 c9 c10 c11 c12
      have c0 : toI (cellAt (List.map orow l) (0 + (b : Int).toNat) 0) = Op.k y := by rw [ocell l (show 0 + (b : Int).toNat < l.length by omega), hb0]; rfl
      have c1 : toI (cellAt (List.map orow l) (0 + (b : Int).toNat) (0 + 1)) = Op.sz y := by rw [ocell l (show 0 + (b : Int).toNat < l.length by omega), hb0]; rfl
      have c2 : toI (cellAt (List.map orow l) (0 + (b : Int).toNat) (0 + 1 + 1)) = Op.ad y := by rw [ocell l (show 0 + (b : Int).toNat < l.length by omega), hb0]; rfl
      have c3 : toI (cellAt (List.map orow l) (0 + (b : Int).toNat) (0 + 1 + 1 + 1)) = Op.v y := by rw [ocell l (show 0 + (b : Int).toNat < l.length by omega), hb0]; rfl
      have c4 : toI (cellAt (List.map orow l) (0 + (b : Int).toNat) (0 + 1 + 1 + 1 + 1)) = Op.g y := by rw [ocell l (show 0 + (b : Int).toNat < l.length by omega), hb0]; rfl
      have c5 : toB (cellAt (List.map orow l) (0 + (b : Int).toNat) (0 + 1 + 1 + 1 + 1 + 1)) = Op.pr y := by rw [ocell l (show 0 + (b : Int).toNat < l.length by omega), hb0]; rfl
      have c6 : toB (cellAt (List.map orow l) (0 + (b : Int).toNat) (0 + 1 + 1 + 1 + 1 + 1 + 1)) = Op.aq y := by rw [ocell l (show 0 + (b : Int).toNat < l.length by omega), hb0]; rfl
      have c7 : toB (cellAt (List.map orow l) (0 + (b : Int).toNat) (0 + 1 + 1 + 1 + 1 + 1 + 1 + 1)) = Op.rl y := by rw [ocell l (show 0 + (b : Int).toNat < l.length by omega), hb0]; rfl
      have c8 : toI (cellAt (List.map orow l) (0 + (b : Int).toNat) (0 + 1 + 1 + 1 + 1 + 1 + 1 + 1 + 1)) = Op.pd y := by rw [ocell l (show 0 + (b : Int).toNat < l.length by omega), hb0]; rfl
      have c9 : toI (cellAt (List.map orow l) (0 + (b : Int).toNat) (0 + 1 + 1 + 1 + 1 + 1 + 1 + 1 + 1 + 1)) = Op.sc y := by rw [ocell l (show 0 + (b : Int).toNat < l.length by omega), hb0]; rfl
      have c10 : cellAt (List.map orow l) (0 + (b : Int).toNat) (0 + 1 + 1 + 1 + 1 + 1 + 1 + 1 + 1 + 1 + 1) = Op.ya y := by rw [ocell l (show 0 + (b : Int).toNat < l.length by omega), hb0]; rfl
      have c11 : cellAt (List.map orow l) (0 + (b : Int).toNat) (0 + 1 + 1 + 1 + 1 + 1 + 1 + 1 + 1 + 1 + 1 + 1) = Op.yd y := by rw [ocell l (show 0 + (b : Int).toNat < l.length by omega), hb0]; rfl
      have c12 : cellAt (List.map orow l) (0 + (b : Int).toNat) (0 + 1 + 1 + 1 + 1 + 1 + 1 + 1 + 1 + 1 + 1 + 1 + 1) = Op.yc y := by rw [ocell l (show 0 + (b : Int).toNat < l.length by omega), hb0]; rfl
      rw [c0, c1, c2, c3, c4, c5, c6, c7, c8, c9, c10, c11, c12]
      clear c0 c1 c2 c3 c4 c5 c6 c7 c8 c9 c10 c11 c12
      refine ⟨[0, 1, 2, 3], tmk 145 0 ((fun s : Bool => [(0, .slc 0 13 0 l.length), (1, .slc 1 1 0 l.length), (2, .v (.int .i64 a)), (3, .v (.int .i64 b)), (8, .v (.int .i64 0)), (9, .ptr 2 0 0 0), (10, .ptr 3 0 0 0)]) (true)), (fun s : Bool => wHp o e l o2 ps x y) (true), ?_⟩
      repeat ((conv => whnf); (first | refine Cnd.yes ?_ | refine Cnd.no ?_ | refine And.intro rfl ?_ | refine And.intro (by omega) ?_ | (refine And.intro ?_ ?_; focus (simp only [IntKind.wrap_i64, IntKind.wrap_u64, IntKind.wrap_u32]; omega)) | (refine And.intro ?_ ?_; focus (simp only [zl1, zl2, zl3, zl4, zl5, zl6, zl7, zl8, zl9] <;> omega)) | refine Alt.std ?_))
      conv => whnf
      exact ⟨true, rfl, rfl, (tmkK_eq _ _ _ _).mpr rfl, rfl⟩
    · repeat ((conv => whnf); (first | refine Cnd.yes ?_ | refine Cnd.no ?_ | refine And.intro rfl ?_ | refine And.intro (by omega) ?_ | (refine And.intro ?_ ?_; focus (simp only [IntKind.wrap_i64, IntKind.wrap_u64, IntKind.wrap_u32]; omega)) | (refine And.intro ?_ ?_; focus (simp only [zl1, zl2, zl3, zl4, zl5, zl6, zl7, zl8, zl9] <;> omega)) | refine Alt.std ?_ | (refine Cnd.tt ?_ ?_; focus (first | (apply decide_eq_true; omega) | (simp only [zq1, zq2, zq3, zq4, zq5, zq6, zq7, zq8, zq9, zq10, zq11, zq12] <;> omega) | rfl)) | (refine Cnd.ff ?_ ?_; focus (first | (apply decide_eq_false; omega) | (simp only [zq1, zq2, zq3, zq4, zq5, zq6, zq7, zq8, zq9, zq10, zq11, zq12] <;> omega) | rfl))))
      conv => whnf
      intro Mr1 hMr1
      repeat ((conv => whnf); (first | refine Cnd.yes ?_ | refine Cnd.no ?_ | refine And.intro rfl ?_ | refine And.intro (by omega) ?_ | (refine And.intro ?_ ?_; focus (simp only [IntKind.wrap_i64, IntKind.wrap_u64, IntKind.wrap_u32]; omega)) | (refine And.intro ?_ ?_; focus (simp only [zl1, zl2, zl3, zl4, zl5, zl6, zl7, zl8, zl9] <;> omega)) | refine Alt.std ?_ | (refine Cnd.tt ?_ ?_; focus (first | (apply decide_eq_true; omega) | (simp only [zq1, zq2, zq3, zq4, zq5, zq6, zq7, zq8, zq9, zq10, zq11, zq12] <;> omega) | rfl)) | (refine Cnd.ff ?_ ?_; focus (first | (apply decide_eq_false; omega) | (simp only [zq1, zq2, zq3, zq4, zq5, zq6, zq7, zq8, zq9, zq10, zq11, zq12] <;> omega) | rfl))))
      conv => whnf
      intro Mr2 hMr2
      repeat ((conv => whnf); (first | refine Cnd.yes ?_ | refine Cnd.no ?_ | refine And.intro rfl ?_ | refine And.intro (by omega) ?_ | (refine And.intro ?_ ?_; focus (simp only [IntKind.wrap_i64, IntKind.wrap_u64, IntKind.wrap_u32]; omega)) | (refine And.intro ?_ ?_; focus (simp only [zl1, zl2, zl3, zl4, zl5, zl6, zl7, zl8, zl9] <;> omega)) | refine Alt.std ?_ | (refine Cnd.tt ?_ ?_; focus (first | (apply decide_eq_true; omega) | (simp only [zq1, zq2, zq3, zq4, zq5, zq6, zq7, zq8, zq9, zq10, zq11, zq12] <;> omega) | rfl)) | (refine Cnd.ff ?_ ?_; focus (first | (apply decide_eq_false; omega) | (simp only [zq1, zq2, zq3, zq4, zq5, zq6, zq7, zq8, zq9, zq10, zq11, zq12] <;> omega) | rfl))))
      conv => whnf
      have c0 : toI (cellAt (List.map orow l) (0 + (a : Int).toNat) 0) = Op.k x := by rw [ocell l (show 0 + (a : Int).toNat < l.length by omega), ha0]; rfl
      have c1 : toI (cellAt (List.map orow l) (0 + (a : Int).toNat) (0 + 1)) = Op.sz x := by rw [ocell l (show 0 + (a : Int).toNat < l.length by omega), ha0]; rfl
      have c2 : toI (cellAt (List.map orow l) (0 + (a : Int).toNat) (0 + 1 + 1)) = Op.ad x := by rw [ocell l (show 0 + (a : Int).toNat < l.length by omega), ha0]; rfl
      have c3 : toI (cellAt (List.map orow l) (0 + (a : Int).toNat) (0 + 1 + 1 + 1)) = Op.v x := by rw [ocell l (show 0 + (a : Int).toNat < l.length by omega), ha0]; rfl
      have c4 : toI (cellAt (List.map orow l) (0 + (a : Int).toNat) (0 + 1 + 1 + 1 + 1)) = Op.g x := by rw [ocell l (show 0 + (a : Int).toNat < l.length by omega), ha0]; rfl
      have c5 : toB (cellAt (List.map orow l) (0 + (a : Int).toNat) (0 + 1 + 1 + 1 + 1 + 1)) = Op.pr x := by rw [ocell l (show 0 + (a : Int).toNat < l.length by omega), ha0]; rfl
      have c6 : toB (cellAt (List.map orow l) (0 + (a : Int).toNat) (0 + 1 + 1 + 1 + 1 + 1 + 1)) = Op.aq x := by rw [ocell l (show 0 + (a : Int).toNat < l.length by omega), ha0]; rfl
      have c7 : toB (cellAt (List.map orow l) (0 + (a : Int).toNat) (0 + 1 + 1 + 1 + 1 + 1 + 1 + 1)) = Op.rl x := by rw [ocell l (show 0 + (a : Int).toNat < l.length by omega), ha0]; rfl
      have c8 : toI (cellAt (List.map orow l) (0 + (a : Int).toNat) (0 + 1 + 1 + 1 + 1 + 1 + 1 + 1 + 1)) = Op.pd x := by rw [ocell l (show 0 + (a : Int).toNat < l.length by omega), ha0]; rfl
      have c9 : toI (cellAt (List.map orow l) (0 + (a : Int).toNat) (0 + 1 + 1 + 1 + 1 + 1 + 1 + 1 + 1 + 1)) = Op.sc x := by rw [ocell l (show 0 + (a : Int).toNat < l.length by omega), ha0]; rfl
      have c10 : cellAt (List.map orow l) (0 + (a : Int).toNat) (0 + 1 + 1 + 1 + 1 + 1 + 1 + 1 + 1 + 1 + 1) = Op.ya x := by rw [ocell l (show 0 + (a : Int).toNat < l.length by omega), ha0]; rfl
      have c11 : cellAt (List.map orow l) (0 + (a : Int).toNat) (0 + 1 + 1 + 1 + 1 + 1 + 1 + 1 + 1 + 1 + 1 + 1) = Op.yd x := by rw [ocell l (show 0 + (a : Int).toNat < l.length by omega), ha0]; rfl
      have c12 : cellAt (List.map orow l) (0 + (a : Int).toNat) (0 + 1 + 1 + 1 + 1 + 1 + 1 + 1 + 1 + 1 + 1 + 1 + 1) = Op.yc x := by rw [ocell l (show 0 + (a : Int).toNat < l.length by omega), ha0]; rfl
      rw [c0, c1, c2, c3, c4, c5, c6, c7, c8, c9, c10, c11, c12]
      clear c0 c1 c2 c3 c4 c5 c6 c7 c8 c9 c10 c11 c12
      have c0 : toI (cellAt (List.map orow l) (0 + (b : Int).toNat) 0) = Op.k y := by rw [ocell l (show 0 + (b : Int).toNat < l.length by omega), hb0]; rfl
      have c1 : toI (cellAt (List.map orow l) (0 + (b : Int).toNat) (0 + 1)) = Op.sz y := by rw [ocell l (show 0 + (b : Int).toNat < l.length by omega), hb0]; rfl
      have c2 : toI (cellAt (List.map orow l) (0 + (b : Int).toNat) (0 + 1 + 1)) = Op.ad y := by rw [ocell l (show 0 + (b : Int).toNat < l.length by omega), hb0]; rfl
      have c3 : toI (cellAt (List.map orow l) (0 + (b : Int).toNat) (0 + 1 + 1 + 1)) = Op.v y := by rw [ocell l (show 0 + (b : Int).toNat < l.length by omega), hb0]; rfl
      have c4 : toI (cellAt (List.map orow l) (0 + (b : Int).toNat) (0 + 1 + 1 + 1 + 1)) = Op.g y := by rw [ocell l (show 0 + (b : Int).toNat < l.length by omega), hb0]; rfl
      have c5 : toB (cellAt (List.map orow l) (0 + (b : Int).toNat) (0 + 1 + 1 + 1 + 1 + 1)) = Op.pr y := by rw [ocell l (show 0 + (b : Int).toNat < l.length by omega), hb0]; rfl
      have c6 : toB (cellAt (List.map orow l) (0 + (b : Int).toNat) (0 + 1 + 1 + 1 + 1 + 1 + 1)) = Op.aq y := by rw [ocell l (show 0 + (b : Int).toNat < l.length by omega), hb0]; rfl
      have c7 : toB (cellAt (List.map orow l) (0 + (b : Int).toNat) (0 + 1 + 1 + 1 + 1 + 1 + 1 + 1)) = Op.rl y := by rw [ocell l (show 0 + (b : Int).toNat < l.length by omega), hb0]; rfl
      have c8 : toI (cellAt (List.map orow l) (0 + (b : Int).toNat) (0 + 1 + 1 + 1 + 1 + 1 + 1 + 1 + 1)) = Op.pd y := by rw [ocell l (show 0 + (b : Int).toNat < l.length by omega), hb0]; rfl
      have c9 : toI (cellAt (List.map orow l) (0 + (b : Int).toNat) (0 + 1 + 1 + 1 + 1 + 1 + 1 + 1 + 1 + 1)) = Op.sc y := by rw [ocell l (show 0 + (b : Int).toNat < l.length by omega), hb0]; rfl
      have c10 : cellAt (List.map orow l) (0 + (b : Int).toNat) (0 + 1 + 1 + 1 + 1 + 1 + 1 + 1 + 1 + 1 + 1) = Op.ya y := by rw [ocell l (show 0 + (b : Int).toNat < l.length by omega), hb0]; rfl
      have c11 : cellAt (List.map orow l) (0 + (b : Int).toNat) (0 + 1 + 1 + 1 + 1 + 1 + 1 + 1 + 1 + 1 + 1 + 1) = Op.yd y := by rw [ocell l (show 0 + (b : Int).toNat < l.length by omega), hb0]; rfl
      have c12 : cellAt (List.map orow l) (0 + (b : Int).toNat) (0 + 1 + 1 + 1 + 1 + 1 + 1 + 1 + 1 + 1 + 1 + 1 + 1) = Op.yc y := by rw [ocell l (show 0 + (b : Int).toNat < l.length by omega), hb0]; rfl
      rw [c0, c1, c2, c3, c4, c5, c6, c7, c8, c9, c10, c11, c12]
      clear c0 c1 c2 c3 c4 c5 c6 c7 c8 c9 c10 c11 c12
      refine ⟨[0, 1, 3, 2], tmk 145 0 ((fun s : Bool => [(0, .slc 0 13 0 l.length), (1, .slc 1 1 0 l.length), (2, .v (.int .i64 a)), (3, .v (.int .i64 b)), (8, .v (.int .i64 0)), (9, .ptr 2 0 0 0), (10, .ptr 3 0 0 0)]) (true)), (fun s : Bool => wHp o e l o2 ps x y) (true), ?_⟩
      repeat ((conv => whnf); (first | refine Cnd.yes ?_ | refine Cnd.no ?_ | refine And.intro rfl ?_ | refine And.intro (by omega) ?_ | (refine And.intro ?_ ?_; focus (simp only [IntKind.wrap_i64, IntKind.wrap_u64, IntKind.wrap_u32]; omega)) | (refine And.intro ?_ ?_; focus (simp only [zl1, zl2, zl3, zl4, zl5, zl6, zl7, zl8, zl9] <;> omega)) | refine Alt.std ?_))
      conv => whnf
      exact ⟨true, rfl, rfl, (tmkK_eq _ _ _ _).mpr rfl, rfl⟩
  · rintro tm hp M1 ⟨b0, hC_, rfl, htm, hhp_⟩
    replace hC_ : b0 = true := hC_
    have _h := hC_
    replace htm : tmkK 145 0 [(0, .slc 0 13 0 l.length), (1, .slc 1 1 0 l.length), (2, .v (.int .i64 a)), (3, .v (.int .i64 b)), (8, .v (.int .i64 0)), (9, .ptr 2 0 0 0), (10, .ptr 3 0 0 0)] (fun l => tm = l) := htm
    conv at htm => whnf
    subst htm
    replace hhp_ : hp = wHp o e l o2 ps x y := hhp_
    subst hhp_
    repeat ((conv => whnf); (first | refine Cnd.yes ?_ | refine Cnd.no ?_ | refine And.intro rfl ?_ | refine And.intro (by omega) ?_ | (refine And.intro ?_ ?_; focus (simp only [IntKind.wrap_i64, IntKind.wrap_u64, IntKind.wrap_u32]; omega)) | (refine And.intro ?_ ?_; focus (simp only [zl1, zl2, zl3, zl4, zl5, zl6, zl7, zl8, zl9] <;> omega)) | refine Alt.std ?_ | (refine Cnd.tt ?_ ?_; focus (first | (apply decide_eq_true; omega) | (simp only [zq1, zq2, zq3, zq4, zq5, zq6, zq7, zq8, zq9, zq10, zq11, zq12] <;> omega) | rfl)) | (refine Cnd.ff ?_ ?_; focus (first | (apply decide_eq_false; omega) | (simp only [zq1, zq2, zq3, zq4, zq5, zq6, zq7, zq8, zq9, zq10, zq11, zq12] <;> omega) | rfl))))
    conv => whnf
    refine ⟨InvC 145 (fun s : Bool => s = w0 x y) (fun s : Bool => [(0, .slc 0 13 0 l.length), (1, .slc 1 1 0 l.length), (2, .v (.int .i64 a)), (3, .v (.int .i64 b)), (9, .ptr 2 0 0 0), (10, .ptr 3 0 0 0), (27, .v (.bool s))]) (fun s : Bool => wHp o e l o2 ps x y) M1, ?_, ?_⟩
    · have hW : w0 x y = (x.k == 4 || y.k == 4) := rfl
      repeat ((conv => whnf); (first | refine Cnd.yes ?_ | refine Cnd.no ?_ | refine And.intro rfl ?_ | refine And.intro (by omega) ?_ | (refine And.intro ?_ ?_; focus (simp only [IntKind.wrap_i64, IntKind.wrap_u64, IntKind.wrap_u32]; omega)) | (refine And.intro ?_ ?_; focus (simp only [zl1, zl2, zl3, zl4, zl5, zl6, zl7, zl8, zl9] <;> omega)) | refine Alt.std ?_ | (refine Cnd.tt ?_ ?_; focus (first | (apply decide_eq_true; omega) | (simp only [zq1, zq2, zq3, zq4, zq5, zq6, zq7, zq8, zq9, zq10, zq11, zq12] <;> omega) | rfl)) | (refine Cnd.ff ?_ ?_; focus (first | (apply decide_eq_false; omega) | (simp only [zq1, zq2, zq3, zq4, zq5, zq6, zq7, zq8, zq9, zq10, zq11, zq12] <;> omega) | rfl))))
      conv => whnf
      cases q1 : x.k == 4 with
      | true =>
        rw [q1, Bool.true_or] at hW
        repeat ((conv => whnf); (first | refine Cnd.yes ?_ | refine Cnd.no ?_ | refine And.intro rfl ?_ | refine And.intro (by omega) ?_ | (refine And.intro ?_ ?_; focus (simp only [IntKind.wrap_i64, IntKind.wrap_u64, IntKind.wrap_u32]; omega)) | (refine And.intro ?_ ?_; focus (simp only [zl1, zl2, zl3, zl4, zl5, zl6, zl7, zl8, zl9] <;> omega)) | refine Alt.std ?_ | (refine Cnd.tt ?_ ?_; focus (first | (apply decide_eq_true; omega) | (simp only [zq1, zq2, zq3, zq4, zq5, zq6, zq7, zq8, zq9, zq10, zq11, zq12] <;> omega) | rfl)) | (refine Cnd.ff ?_ ?_; focus (first | (apply decide_eq_false; omega) | (simp only [zq1, zq2, zq3, zq4, zq5, zq6, zq7, zq8, zq9, zq10, zq11, zq12] <;> omega) | rfl))))
        conv => whnf
        refine ⟨[0, 1, 2, 3], tmk 145 0 ((fun s : Bool => [(0, .slc 0 13 0 l.length), (1, .slc 1 1 0 l.length), (2, .v (.int .i64 a)), (3, .v (.int .i64 b)), (9, .ptr 2 0 0 0), (10, .ptr 3 0 0 0), (27, .v (.bool s))]) (w0 x y)), (fun s : Bool => wHp o e l o2 ps x y) (w0 x y), ?_⟩
        repeat ((conv => whnf); (first | refine Cnd.yes ?_ | refine Cnd.no ?_ | refine And.intro rfl ?_ | refine And.intro (by omega) ?_ | (refine And.intro ?_ ?_; focus (simp only [IntKind.wrap_i64, IntKind.wrap_u64, IntKind.wrap_u32]; omega)) | (refine And.intro ?_ ?_; focus (simp only [zl1, zl2, zl3, zl4, zl5, zl6, zl7, zl8, zl9] <;> omega)) | refine Alt.std ?_))
        conv => whnf
        refine ⟨by rw [hW], ?_⟩
        repeat ((conv => whnf); (first | refine Cnd.yes ?_ | refine Cnd.no ?_ | refine And.intro rfl ?_ | refine And.intro (by omega) ?_ | (refine And.intro ?_ ?_; focus (simp only [IntKind.wrap_i64, IntKind.wrap_u64, IntKind.wrap_u32]; omega)) | (refine And.intro ?_ ?_; focus (simp only [zl1, zl2, zl3, zl4, zl5, zl6, zl7, zl8, zl9] <;> omega)) | refine Alt.std ?_))
        conv => whnf
        exact ⟨w0 x y, rfl, rfl, (tmkK_eq _ _ _ _).mpr rfl, rfl⟩
      | false =>
        rw [q1, Bool.false_or] at hW
        repeat ((conv => whnf); (first | refine Cnd.yes ?_ | refine Cnd.no ?_ | refine And.intro rfl ?_ | refine And.intro (by omega) ?_ | (refine And.intro ?_ ?_; focus (simp only [IntKind.wrap_i64, IntKind.wrap_u64, IntKind.wrap_u32]; omega)) | (refine And.intro ?_ ?_; focus (simp only [zl1, zl2, zl3, zl4, zl5, zl6, zl7, zl8, zl9] <;> omega)) | refine Alt.std ?_ | (refine Cnd.tt ?_ ?_; focus (first | (apply decide_eq_true; omega) | (simp only [zq1, zq2, zq3, zq4, zq5, zq6, zq7, zq8, zq9, zq10, zq11, zq12] <;> omega) | rfl)) | (refine Cnd.ff ?_ ?_; focus (first | (apply decide_eq_false; omega) | (simp only [zq1, zq2, zq3, zq4, zq5, zq6, zq7, zq8, zq9, zq10, zq11, zq12] <;> omega) | rfl))))
        conv => whnf
        refine ⟨[0, 1, 2, 3], tmk 145 0 ((fun s : Bool => [(0, .slc 0 13 0 l.length), (1, .slc 1 1 0 l.length), (2, .v (.int .i64 a)), (3, .v (.int .i64 b)), (9, .ptr 2 0 0 0), (10, .ptr 3 0 0 0), (27, .v (.bool s))]) (w0 x y)), (fun s : Bool => wHp o e l o2 ps x y) (w0 x y), ?_⟩
        repeat ((conv => whnf); (first | refine Cnd.yes ?_ | refine Cnd.no ?_ | refine And.intro rfl ?_ | refine And.intro (by omega) ?_ | (refine And.intro ?_ ?_; focus (simp only [IntKind.wrap_i64, IntKind.wrap_u64, IntKind.wrap_u32]; omega)) | (refine And.intro ?_ ?_; focus (simp only [zl1, zl2, zl3, zl4, zl5, zl6, zl7, zl8, zl9] <;> omega)) | refine Alt.std ?_))
        conv => whnf
        refine ⟨by rw [hW], ?_⟩
        repeat ((conv => whnf); (first | refine Cnd.yes ?_ | refine Cnd.no ?_ | refine And.intro rfl ?_ | refine And.intro (by omega) ?_ | (refine And.intro ?_ ?_; focus (simp only [IntKind.wrap_i64, IntKind.wrap_u64, IntKind.wrap_u32]; omega)) | (refine And.intro ?_ ?_; focus (simp only [zl1, zl2, zl3, zl4, zl5, zl6, zl7, zl8, zl9] <;> omega)) | refine Alt.std ?_))
        conv => whnf
        exact ⟨w0 x y, rfl, rfl, (tmkK_eq _ _ _ _).mpr rfl, rfl⟩
    · rintro tm hp M1 ⟨v0, hC_, rfl, htm, hhp_⟩
      replace hC_ : v0 = w0 x y := hC_
      have h0 := hC_
      replace htm : tmkK 145 0 [(0, .slc 0 13 0 l.length), (1, .slc 1 1 0 l.length), (2, .v (.int .i64 a)), (3, .v (.int .i64 b)), (9, .ptr 2 0 0 0), (10, .ptr 3 0 0 0), (27, .v (.bool v0))] (fun l => tm = l) := htm
      conv at htm => whnf
      subst htm
      replace hhp_ : hp = wHp o e l o2 ps x y := hhp_
      subst hhp_
      rw [← h0] at hK
      cases v0 with
      | true =>
        repeat ((conv => whnf); (first | refine Cnd.yes ?_ | refine Cnd.no ?_ | refine And.intro rfl ?_ | refine And.intro (by omega) ?_ | (refine And.intro ?_ ?_; focus (simp only [IntKind.wrap_i64, IntKind.wrap_u64, IntKind.wrap_u32]; omega)) | (refine And.intro ?_ ?_; focus (simp only [zl1, zl2, zl3, zl4, zl5, zl6, zl7, zl8, zl9] <;> omega)) | refine Alt.std ?_ | (refine Cnd.tt ?_ ?_; focus (first | (apply decide_eq_true; omega) | (simp only [zq1, zq2, zq3, zq4, zq5, zq6, zq7, zq8, zq9, zq10, zq11, zq12] <;> omega) | rfl)) | (refine Cnd.ff ?_ ?_; focus (first | (apply decide_eq_false; omega) | (simp only [zq1, zq2, zq3, zq4, zq5, zq6, zq7, zq8, zq9, zq10, zq11, zq12] <;> omega) | rfl))))
        conv => whnf
        refine ⟨[0, 1], .v (.int .i64 0), [.row o e ock (l.map orow), .row o2 3 [.int .i64] (ps.map irow)], ?_⟩
        repeat ((conv => whnf); (first | refine Cnd.yes ?_ | refine Cnd.no ?_ | refine And.intro rfl ?_ | refine And.intro (by omega) ?_ | (refine And.intro ?_ ?_; focus (simp only [IntKind.wrap_i64, IntKind.wrap_u64, IntKind.wrap_u32]; omega)) | (refine And.intro ?_ ?_; focus (simp only [zl1, zl2, zl3, zl4, zl5, zl6, zl7, zl8, zl9] <;> omega)) | refine Alt.std ?_))
        conv => whnf
        exact hK
      | false =>
        repeat ((conv => whnf); (first | refine Cnd.yes ?_ | refine Cnd.no ?_ | refine And.intro rfl ?_ | refine And.intro (by omega) ?_ | (refine And.intro ?_ ?_; focus (simp only [IntKind.wrap_i64, IntKind.wrap_u64, IntKind.wrap_u32]; omega)) | (refine And.intro ?_ ?_; focus (simp only [zl1, zl2, zl3, zl4, zl5, zl6, zl7, zl8, zl9] <;> omega)) | refine Alt.std ?_ | (refine Cnd.tt ?_ ?_; focus (first | (apply decide_eq_true; omega) | (simp only [zq1, zq2, zq3, zq4, zq5, zq6, zq7, zq8, zq9, zq10, zq11, zq12] <;> omega) | rfl)) | (refine Cnd.ff ?_ ?_; focus (first | (apply decide_eq_false; omega) | (simp only [zq1, zq2, zq3, zq4, zq5, zq6, zq7, zq8, zq9, zq10, zq11, zq12] <;> omega) | rfl))))
        conv => whnf
        refine ⟨InvC 145 (fun s : Bool => s = w1 x y) (fun s : Bool => [(0, .slc 0 13 0 l.length), (1, .slc 1 1 0 l.length), (2, .v (.int .i64 a)), (3, .v (.int .i64 b)), (9, .ptr 2 0 0 0), (10, .ptr 3 0 0 0), (11, .slc 0 13 (a + 1) (b - (a + 1))), (33, .v (.bool s))]) (fun s : Bool => wHp o e l o2 ps x y) M1, ?_, ?_⟩
        · have hW : w1 x y = (wr y && meetB [x, y]) := rfl
          repeat ((conv => whnf); (first | refine Cnd.yes ?_ | refine Cnd.no ?_ | refine And.intro rfl ?_ | refine And.intro (by omega) ?_ | (refine And.intro ?_ ?_; focus (simp only [IntKind.wrap_i64, IntKind.wrap_u64, IntKind.wrap_u32]; omega)) | (refine And.intro ?_ ?_; focus (simp only [zl1, zl2, zl3, zl4, zl5, zl6, zl7, zl8, zl9] <;> omega)) | refine Alt.std ?_ | (refine Cnd.tt ?_ ?_; focus (first | (apply decide_eq_true; omega) | (simp only [zq1, zq2, zq3, zq4, zq5, zq6, zq7, zq8, zq9, zq10, zq11, zq12] <;> omega) | rfl)) | (refine Cnd.ff ?_ ?_; focus (first | (apply decide_eq_false; omega) | (simp only [zq1, zq2, zq3, zq4, zq5, zq6, zq7, zq8, zq9, zq10, zq11, zq12] <;> omega) | rfl))))
          conv => whnf
          refine ⟨y, rfl, rfl, ?_⟩
          cases q1 : wr y with
          | true =>
            rw [q1, Bool.true_and] at hW
            repeat ((conv => whnf); (first | refine Cnd.yes ?_ | refine Cnd.no ?_ | refine And.intro rfl ?_ | refine And.intro (by omega) ?_ | (refine And.intro ?_ ?_; focus (simp only [IntKind.wrap_i64, IntKind.wrap_u64, IntKind.wrap_u32]; omega)) | (refine And.intro ?_ ?_; focus (simp only [zl1, zl2, zl3, zl4, zl5, zl6, zl7, zl8, zl9] <;> omega)) | refine Alt.std ?_ | (refine Cnd.tt ?_ ?_; focus (first | (apply decide_eq_true; omega) | (simp only [zq1, zq2, zq3, zq4, zq5, zq6, zq7, zq8, zq9, zq10, zq11, zq12] <;> omega) | rfl)) | (refine Cnd.ff ?_ ?_; focus (first | (apply decide_eq_false; omega) | (simp only [zq1, zq2, zq3, zq4, zq5, zq6, zq7, zq8, zq9, zq10, zq11, zq12] <;> omega) | rfl))))
            conv => whnf
            refine ⟨true, 30, [x, y], rfl, rfl, by simp, by simp, fun q hq => by simp at hq; rcases hq with rfl | rfl <;> assumption, ?_⟩
            repeat ((conv => whnf); (first | refine Cnd.yes ?_ | refine Cnd.no ?_ | refine And.intro rfl ?_ | refine And.intro (by omega) ?_ | (refine And.intro ?_ ?_; focus (simp only [IntKind.wrap_i64, IntKind.wrap_u64, IntKind.wrap_u32]; omega)) | (refine And.intro ?_ ?_; focus (simp only [zl1, zl2, zl3, zl4, zl5, zl6, zl7, zl8, zl9] <;> omega)) | refine Alt.std ?_ | (refine Cnd.tt ?_ ?_; focus (first | (apply decide_eq_true; omega) | (simp only [zq1, zq2, zq3, zq4, zq5, zq6, zq7, zq8, zq9, zq10, zq11, zq12] <;> omega) | rfl)) | (refine Cnd.ff ?_ ?_; focus (first | (apply decide_eq_false; omega) | (simp only [zq1, zq2, zq3, zq4, zq5, zq6, zq7, zq8, zq9, zq10, zq11, zq12] <;> omega) | rfl))))
            conv => whnf
            refine ⟨[0, 1, 2, 3], tmk 145 0 ((fun s : Bool => [(0, .slc 0 13 0 l.length), (1, .slc 1 1 0 l.length), (2, .v (.int .i64 a)), (3, .v (.int .i64 b)), (9, .ptr 2 0 0 0), (10, .ptr 3 0 0 0), (11, .slc 0 13 (a + 1) (b - (a + 1))), (33, .v (.bool s))]) (w1 x y)), (fun s : Bool => wHp o e l o2 ps x y) (w1 x y), ?_⟩
            repeat ((conv => whnf); (first | refine Cnd.yes ?_ | refine Cnd.no ?_ | refine And.intro rfl ?_ | refine And.intro (by omega) ?_ | (refine And.intro ?_ ?_; focus (simp only [IntKind.wrap_i64, IntKind.wrap_u64, IntKind.wrap_u32]; omega)) | (refine And.intro ?_ ?_; focus (simp only [zl1, zl2, zl3, zl4, zl5, zl6, zl7, zl8, zl9] <;> omega)) | refine Alt.std ?_))
            conv => whnf
            refine ⟨by rw [hW], ?_⟩
            repeat ((conv => whnf); (first | refine Cnd.yes ?_ | refine Cnd.no ?_ | refine And.intro rfl ?_ | refine And.intro (by omega) ?_ | (refine And.intro ?_ ?_; focus (simp only [IntKind.wrap_i64, IntKind.wrap_u64, IntKind.wrap_u32]; omega)) | (refine And.intro ?_ ?_; focus (simp only [zl1, zl2, zl3, zl4, zl5, zl6, zl7, zl8, zl9] <;> omega)) | refine Alt.std ?_))
            conv => whnf
            exact ⟨w1 x y, rfl, rfl, (tmkK_eq _ _ _ _).mpr rfl, rfl⟩
          | false =>
            rw [q1, Bool.false_and] at hW
            repeat ((conv => whnf); (first | refine Cnd.yes ?_ | refine Cnd.no ?_ | refine And.intro rfl ?_ | refine And.intro (by omega) ?_ | (refine And.intro ?_ ?_; focus (simp only [IntKind.wrap_i64, IntKind.wrap_u64, IntKind.wrap_u32]; omega)) | (refine And.intro ?_ ?_; focus (simp only [zl1, zl2, zl3, zl4, zl5, zl6, zl7, zl8, zl9] <;> omega)) | refine Alt.std ?_ | (refine Cnd.tt ?_ ?_; focus (first | (apply decide_eq_true; omega) | (simp only [zq1, zq2, zq3, zq4, zq5, zq6, zq7, zq8, zq9, zq10, zq11, zq12] <;> omega) | rfl)) | (refine Cnd.ff ?_ ?_; focus (first | (apply decide_eq_false; omega) | (simp only [zq1, zq2, zq3, zq4, zq5, zq6, zq7, zq8, zq9, zq10, zq11, zq12] <;> omega) | rfl))))
            conv => whnf
            refine ⟨[0, 1, 2, 3], tmk 145 0 ((fun s : Bool => [(0, .slc 0 13 0 l.length), (1, .slc 1 1 0 l.length), (2, .v (.int .i64 a)), (3, .v (.int .i64 b)), (9, .ptr 2 0 0 0), (10, .ptr 3 0 0 0), (11, .slc 0 13 (a + 1) (b - (a + 1))), (33, .v (.bool s))]) (w1 x y)), (fun s : Bool => wHp o e l o2 ps x y) (w1 x y), ?_⟩
            repeat ((conv => whnf); (first | refine Cnd.yes ?_ | refine Cnd.no ?_ | refine And.intro rfl ?_ | refine And.intro (by omega) ?_ | (refine And.intro ?_ ?_; focus (simp only [IntKind.wrap_i64, IntKind.wrap_u64, IntKind.wrap_u32]; omega)) | (refine And.intro ?_ ?_; focus (simp only [zl1, zl2, zl3, zl4, zl5, zl6, zl7, zl8, zl9] <;> omega)) | refine Alt.std ?_))
            conv => whnf
            refine ⟨by rw [hW], ?_⟩
            repeat ((conv => whnf); (first | refine Cnd.yes ?_ | refine Cnd.no ?_ | refine And.intro rfl ?_ | refine And.intro (by omega) ?_ | (refine And.intro ?_ ?_; focus (simp only [IntKind.wrap_i64, IntKind.wrap_u64, IntKind.wrap_u32]; omega)) | (refine And.intro ?_ ?_; focus (simp only [zl1, zl2, zl3, zl4, zl5, zl6, zl7, zl8, zl9] <;> omega)) | refine Alt.std ?_))
            conv => whnf
            exact ⟨w1 x y, rfl, rfl, (tmkK_eq _ _ _ _).mpr rfl, rfl⟩
        · rintro tm hp M1 ⟨v1, hC_, rfl, htm, hhp_⟩
          replace hC_ : v1 = w1 x y := hC_
          have h1 := hC_
          replace htm : tmkK 145 0 [(0, .slc 0 13 0 l.length), (1, .slc 1 1 0 l.length), (2, .v (.int .i64 a)), (3, .v (.int .i64 b)), (9, .ptr 2 0 0 0), (10, .ptr 3 0 0 0), (11, .slc 0 13 (a + 1) (b - (a + 1))), (33, .v (.bool v1))] (fun l => tm = l) := htm
          conv at htm => whnf
          subst htm
          replace hhp_ : hp = wHp o e l o2 ps x y := hhp_
          subst hhp_
          rw [← h1] at hK
          cases v1 with
          | true =>
            repeat ((conv => whnf); (first | refine Cnd.yes ?_ | refine Cnd.no ?_ | refine And.intro rfl ?_ | refine And.intro (by omega) ?_ | (refine And.intro ?_ ?_; focus (simp only [IntKind.wrap_i64, IntKind.wrap_u64, IntKind.wrap_u32]; omega)) | (refine And.intro ?_ ?_; focus (simp only [zl1, zl2, zl3, zl4, zl5, zl6, zl7, zl8, zl9] <;> omega)) | refine Alt.std ?_ | (refine Cnd.tt ?_ ?_; focus (first | (apply decide_eq_true; omega) | (simp only [zq1, zq2, zq3, zq4, zq5, zq6, zq7, zq8, zq9, zq10, zq11, zq12] <;> omega) | rfl)) | (refine Cnd.ff ?_ ?_; focus (first | (apply decide_eq_false; omega) | (simp only [zq1, zq2, zq3, zq4, zq5, zq6, zq7, zq8, zq9, zq10, zq11, zq12] <;> omega) | rfl))))
            conv => whnf
            refine ⟨[0, 1], .v (.int .i64 1), [.row o e ock (l.map orow), .row o2 3 [.int .i64] (ps.map irow)], ?_⟩
            repeat ((conv => whnf); (first | refine Cnd.yes ?_ | refine Cnd.no ?_ | refine And.intro rfl ?_ | refine And.intro (by omega) ?_ | (refine And.intro ?_ ?_; focus (simp only [IntKind.wrap_i64, IntKind.wrap_u64, IntKind.wrap_u32]; omega)) | (refine And.intro ?_ ?_; focus (simp only [zl1, zl2, zl3, zl4, zl5, zl6, zl7, zl8, zl9] <;> omega)) | refine Alt.std ?_))
            conv => whnf
            exact hK
          | false =>
            repeat ((conv => whnf); (first | refine Cnd.yes ?_ | refine Cnd.no ?_ | refine And.intro rfl ?_ | refine And.intro (by omega) ?_ | (refine And.intro ?_ ?_; focus (simp only [IntKind.wrap_i64, IntKind.wrap_u64, IntKind.wrap_u32]; omega)) | (refine And.intro ?_ ?_; focus (simp only [zl1, zl2, zl3, zl4, zl5, zl6, zl7, zl8, zl9] <;> omega)) | refine Alt.std ?_ | (refine Cnd.tt ?_ ?_; focus (first | (apply decide_eq_true; omega) | (simp only [zq1, zq2, zq3, zq4, zq5, zq6, zq7, zq8, zq9, zq10, zq11, zq12] <;> omega) | rfl)) | (refine Cnd.ff ?_ ?_; focus (first | (apply decide_eq_false; omega) | (simp only [zq1, zq2, zq3, zq4, zq5, zq6, zq7, zq8, zq9, zq10, zq11, zq12] <;> omega) | rfl))))
            conv => whnf
            refine ⟨InvC 145 (fun s : Bool => s = w2 l a b x y) (fun s : Bool => [(0, .slc 0 13 0 l.length), (1, .slc 1 1 0 l.length), (2, .v (.int .i64 a)), (3, .v (.int .i64 b)), (9, .ptr 2 0 0 0), (10, .ptr 3 0 0 0), (11, .slc 0 13 (a + 1) (b - (a + 1))), (42, .v (.bool s))]) (fun s : Bool => wHp o e l o2 ps x y) M1, ?_, ?_⟩
            · have hW : w2 l a b x y = (rd x && rd y && meetB [x, y] && !overB l (a + 1) (b - (a + 1)) x y) := rfl
              repeat ((conv => whnf); (first | refine Cnd.yes ?_ | refine Cnd.no ?_ | refine And.intro rfl ?_ | refine And.intro (by omega) ?_ | (refine And.intro ?_ ?_; focus (simp only [IntKind.wrap_i64, IntKind.wrap_u64, IntKind.wrap_u32]; omega)) | (refine And.intro ?_ ?_; focus (simp only [zl1, zl2, zl3, zl4, zl5, zl6, zl7, zl8, zl9] <;> omega)) | refine Alt.std ?_ | (refine Cnd.tt ?_ ?_; focus (first | (apply decide_eq_true; omega) | (simp only [zq1, zq2, zq3, zq4, zq5, zq6, zq7, zq8, zq9, zq10, zq11, zq12] <;> omega) | rfl)) | (refine Cnd.ff ?_ ?_; focus (first | (apply decide_eq_false; omega) | (simp only [zq1, zq2, zq3, zq4, zq5, zq6, zq7, zq8, zq9, zq10, zq11, zq12] <;> omega) | rfl))))
              conv => whnf
              refine ⟨x, rfl, rfl, ?_⟩
              cases q1 : rd x with
              | true =>
                rw [q1, Bool.true_and] at hW
                repeat ((conv => whnf); (first | refine Cnd.yes ?_ | refine Cnd.no ?_ | refine And.intro rfl ?_ | refine And.intro (by omega) ?_ | (refine And.intro ?_ ?_; focus (simp only [IntKind.wrap_i64, IntKind.wrap_u64, IntKind.wrap_u32]; omega)) | (refine And.intro ?_ ?_; focus (simp only [zl1, zl2, zl3, zl4, zl5, zl6, zl7, zl8, zl9] <;> omega)) | refine Alt.std ?_ | (refine Cnd.tt ?_ ?_; focus (first | (apply decide_eq_true; omega) | (simp only [zq1, zq2, zq3, zq4, zq5, zq6, zq7, zq8, zq9, zq10, zq11, zq12] <;> omega) | rfl)) | (refine Cnd.ff ?_ ?_; focus (first | (apply decide_eq_false; omega) | (simp only [zq1, zq2, zq3, zq4, zq5, zq6, zq7, zq8, zq9, zq10, zq11, zq12] <;> omega) | rfl))))
                conv => whnf
                refine ⟨y, rfl, rfl, ?_⟩
                cases q2 : rd y with
                | true =>
                  rw [q2, Bool.true_and] at hW
                  repeat ((conv => whnf); (first | refine Cnd.yes ?_ | refine Cnd.no ?_ | refine And.intro rfl ?_ | refine And.intro (by omega) ?_ | (refine And.intro ?_ ?_; focus (simp only [IntKind.wrap_i64, IntKind.wrap_u64, IntKind.wrap_u32]; omega)) | (refine And.intro ?_ ?_; focus (simp only [zl1, zl2, zl3, zl4, zl5, zl6, zl7, zl8, zl9] <;> omega)) | refine Alt.std ?_ | (refine Cnd.tt ?_ ?_; focus (first | (apply decide_eq_true; omega) | (simp only [zq1, zq2, zq3, zq4, zq5, zq6, zq7, zq8, zq9, zq10, zq11, zq12] <;> omega) | rfl)) | (refine Cnd.ff ?_ ?_; focus (first | (apply decide_eq_false; omega) | (simp only [zq1, zq2, zq3, zq4, zq5, zq6, zq7, zq8, zq9, zq10, zq11, zq12] <;> omega) | rfl))))
                  conv => whnf
                  refine ⟨true, 30, [x, y], rfl, rfl, by simp, by simp, fun q hq => by simp at hq; rcases hq with rfl | rfl <;> assumption, ?_⟩
                  cases q3 : meetB [x, y] with
                  | true =>
                    rw [q3, Bool.true_and] at hW
                    repeat ((conv => whnf); (first | refine Cnd.yes ?_ | refine Cnd.no ?_ | refine And.intro rfl ?_ | refine And.intro (by omega) ?_ | (refine And.intro ?_ ?_; focus (simp only [IntKind.wrap_i64, IntKind.wrap_u64, IntKind.wrap_u32]; omega)) | (refine And.intro ?_ ?_; focus (simp only [zl1, zl2, zl3, zl4, zl5, zl6, zl7, zl8, zl9] <;> omega)) | refine Alt.std ?_ | (refine Cnd.tt ?_ ?_; focus (first | (apply decide_eq_true; omega) | (simp only [zq1, zq2, zq3, zq4, zq5, zq6, zq7, zq8, zq9, zq10, zq11, zq12] <;> omega) | rfl)) | (refine Cnd.ff ?_ ?_; focus (first | (apply decide_eq_false; omega) | (simp only [zq1, zq2, zq3, zq4, zq5, zq6, zq7, zq8, zq9, zq10, zq11, zq12] <;> omega) | rfl))))
                    conv => whnf
                    refine ⟨o, e, l, a + 1, b - (a + 1), x, y, rfl, rfl, by omega, hl, hF, hfx, hfy, ?_⟩
                    repeat ((conv => whnf); (first | refine Cnd.yes ?_ | refine Cnd.no ?_ | refine And.intro rfl ?_ | refine And.intro (by omega) ?_ | (refine And.intro ?_ ?_; focus (simp only [IntKind.wrap_i64, IntKind.wrap_u64, IntKind.wrap_u32]; omega)) | (refine And.intro ?_ ?_; focus (simp only [zl1, zl2, zl3, zl4, zl5, zl6, zl7, zl8, zl9] <;> omega)) | refine Alt.std ?_ | (refine Cnd.tt ?_ ?_; focus (first | (apply decide_eq_true; omega) | (simp only [zq1, zq2, zq3, zq4, zq5, zq6, zq7, zq8, zq9, zq10, zq11, zq12] <;> omega) | rfl)) | (refine Cnd.ff ?_ ?_; focus (first | (apply decide_eq_false; omega) | (simp only [zq1, zq2, zq3, zq4, zq5, zq6, zq7, zq8, zq9, zq10, zq11, zq12] <;> omega) | rfl))))
                    conv => whnf
                    refine ⟨[0, 1, 2, 3], tmk 145 0 ((fun s : Bool => [(0, .slc 0 13 0 l.length), (1, .slc 1 1 0 l.length), (2, .v (.int .i64 a)), (3, .v (.int .i64 b)), (9, .ptr 2 0 0 0), (10, .ptr 3 0 0 0), (11, .slc 0 13 (a + 1) (b - (a + 1))), (42, .v (.bool s))]) (w2 l a b x y)), (fun s : Bool => wHp o e l o2 ps x y) (w2 l a b x y), ?_⟩
                    repeat ((conv => whnf); (first | refine Cnd.yes ?_ | refine Cnd.no ?_ | refine And.intro rfl ?_ | refine And.intro (by omega) ?_ | (refine And.intro ?_ ?_; focus (simp only [IntKind.wrap_i64, IntKind.wrap_u64, IntKind.wrap_u32]; omega)) | (refine And.intro ?_ ?_; focus (simp only [zl1, zl2, zl3, zl4, zl5, zl6, zl7, zl8, zl9] <;> omega)) | refine Alt.std ?_))
                    conv => whnf
                    refine ⟨by rw [hW], ?_⟩
                    repeat ((conv => whnf); (first | refine Cnd.yes ?_ | refine Cnd.no ?_ | refine And.intro rfl ?_ | refine And.intro (by omega) ?_ | (refine And.intro ?_ ?_; focus (simp only [IntKind.wrap_i64, IntKind.wrap_u64, IntKind.wrap_u32]; omega)) | (refine And.intro ?_ ?_; focus (simp only [zl1, zl2, zl3, zl4, zl5, zl6, zl7, zl8, zl9] <;> omega)) | refine Alt.std ?_))
                    conv => whnf
                    exact ⟨w2 l a b x y, rfl, rfl, (tmkK_eq _ _ _ _).mpr rfl, rfl⟩
                  | false =>
                    rw [q3, Bool.false_and] at hW
                    repeat ((conv => whnf); (first | refine Cnd.yes ?_ | refine Cnd.no ?_ | refine And.intro rfl ?_ | refine And.intro (by omega) ?_ | (refine And.intro ?_ ?_; focus (simp only [IntKind.wrap_i64, IntKind.wrap_u64, IntKind.wrap_u32]; omega)) | (refine And.intro ?_ ?_; focus (simp only [zl1, zl2, zl3, zl4, zl5, zl6, zl7, zl8, zl9] <;> omega)) | refine Alt.std ?_ | (refine Cnd.tt ?_ ?_; focus (first | (apply decide_eq_true; omega) | (simp only [zq1, zq2, zq3, zq4, zq5, zq6, zq7, zq8, zq9, zq10, zq11, zq12] <;> omega) | rfl)) | (refine Cnd.ff ?_ ?_; focus (first | (apply decide_eq_false; omega) | (simp only [zq1, zq2, zq3, zq4, zq5, zq6, zq7, zq8, zq9, zq10, zq11, zq12] <;> omega) | rfl))))
                    conv => whnf
                    refine ⟨[0, 1, 2, 3], tmk 145 0 ((fun s : Bool => [(0, .slc 0 13 0 l.length), (1, .slc 1 1 0 l.length), (2, .v (.int .i64 a)), (3, .v (.int .i64 b)), (9, .ptr 2 0 0 0), (10, .ptr 3 0 0 0), (11, .slc 0 13 (a + 1) (b - (a + 1))), (42, .v (.bool s))]) (w2 l a b x y)), (fun s : Bool => wHp o e l o2 ps x y) (w2 l a b x y), ?_⟩
                    repeat ((conv => whnf); (first | refine Cnd.yes ?_ | refine Cnd.no ?_ | refine And.intro rfl ?_ | refine And.intro (by omega) ?_ | (refine And.intro ?_ ?_; focus (simp only [IntKind.wrap_i64, IntKind.wrap_u64, IntKind.wrap_u32]; omega)) | (refine And.intro ?_ ?_; focus (simp only [zl1, zl2, zl3, zl4, zl5, zl6, zl7, zl8, zl9] <;> omega)) | refine Alt.std ?_))
                    conv => whnf
                    refine ⟨by rw [hW], ?_⟩
                    repeat ((conv => whnf); (first | refine Cnd.yes ?_ | refine Cnd.no ?_ | refine And.intro rfl ?_ | refine And.intro (by omega) ?_ | (refine And.intro ?_ ?_; focus (simp only [IntKind.wrap_i64, IntKind.wrap_u64, IntKind.wrap_u32]; omega)) | (refine And.intro ?_ ?_; focus (simp only [zl1, zl2, zl3, zl4, zl5, zl6, zl7, zl8, zl9] <;> omega)) | refine Alt.std ?_))
                    conv => whnf
                    exact ⟨w2 l a b x y, rfl, rfl, (tmkK_eq _ _ _ _).mpr rfl, rfl⟩
                | false =>
                  rw [q2, Bool.false_and, Bool.false_and] at hW
                  repeat ((conv => whnf); (first | refine Cnd.yes ?_ | refine Cnd.no ?_ | refine And.intro rfl ?_ | refine And.intro (by omega) ?_ | (refine And.intro ?_ ?_; focus (simp only [IntKind.wrap_i64, IntKind.wrap_u64, IntKind.wrap_u32]; omega)) | (refine And.intro ?_ ?_; focus (simp only [zl1, zl2, zl3, zl4, zl5, zl6, zl7, zl8, zl9] <;> omega)) | refine Alt.std ?_ | (refine Cnd.tt ?_ ?_; focus (first | (apply decide_eq_true; omega) | (simp only [zq1, zq2, zq3, zq4, zq5, zq6, zq7, zq8, zq9, zq10, zq11, zq12] <;> omega) | rfl)) | (refine Cnd.ff ?_ ?_; focus (first | (apply decide_eq_false; omega) | (simp only [zq1, zq2, zq3, zq4, zq5, zq6, zq7, zq8, zq9, zq10, zq11, zq12] <;> omega) | rfl))))
                  conv => whnf
                  refine ⟨[0, 1, 2, 3], tmk 145 0 ((fun s : Bool => [(0, .slc 0 13 0 l.length), (1, .slc 1 1 0 l.length), (2, .v (.int .i64 a)), (3, .v (.int .i64 b)), (9, .ptr 2 0 0 0), (10, .ptr 3 0 0 0), (11, .slc 0 13 (a + 1) (b - (a + 1))), (42, .v (.bool s))]) (w2 l a b x y)), (fun s : Bool => wHp o e l o2 ps x y) (w2 l a b x y), ?_⟩
                  repeat ((conv => whnf); (first | refine Cnd.yes ?_ | refine Cnd.no ?_ | refine And.intro rfl ?_ | refine And.intro (by omega) ?_ | (refine And.intro ?_ ?_; focus (simp only [IntKind.wrap_i64, IntKind.wrap_u64, IntKind.wrap_u32]; omega)) | (refine And.intro ?_ ?_; focus (simp only [zl1, zl2, zl3, zl4, zl5, zl6, zl7, zl8, zl9] <;> omega)) | refine Alt.std ?_))
                  conv => whnf
                  refine ⟨by rw [hW], ?_⟩
                  repeat ((conv => whnf); (first | refine Cnd.yes ?_ | refine Cnd.no ?_ | refine And.intro rfl ?_ | refine And.intro (by omega) ?_ | (refine And.intro ?_ ?_; focus (simp only [IntKind.wrap_i64, IntKind.wrap_u64, IntKind.wrap_u32]; omega)) | (refine And.intro ?_ ?_; focus (simp only [zl1, zl2, zl3, zl4, zl5, zl6, zl7, zl8, zl9] <;> omega)) | refine Alt.std ?_))
                  conv => whnf
                  exact ⟨w2 l a b x y, rfl, rfl, (tmkK_eq _ _ _ _).mpr rfl, rfl⟩
              | false =>
                rw [q1, Bool.false_and, Bool.false_and, Bool.false_and] at hW
                repeat ((conv => whnf); (first | refine Cnd.yes ?_ | refine Cnd.no ?_ | refine And.intro rfl ?_ | refine And.intro (by omega) ?_ | (refine And.intro ?_ ?_; focus (simp only [IntKind.wrap_i64, IntKind.wrap_u64, IntKind.wrap_u32]; omega)) | (refine And.intro ?_ ?_; focus (simp only [zl1, zl2, zl3, zl4, zl5, zl6, zl7, zl8, zl9] <;> omega)) | refine Alt.std ?_ | (refine Cnd.tt ?_ ?_; focus (first | (apply decide_eq_true; omega) | (simp only [zq1, zq2, zq3, zq4, zq5, zq6, zq7, zq8, zq9, zq10, zq11, zq12] <;> omega) | rfl)) | (refine Cnd.ff ?_ ?_; focus (first | (apply decide_eq_false; omega) | (simp only [zq1, zq2, zq3, zq4, zq5, zq6, zq7, zq8, zq9, zq10, zq11, zq12] <;> omega) | rfl))))
                conv => whnf
                refine ⟨[0, 1, 2, 3], tmk 145 0 ((fun s : Bool => [(0, .slc 0 13 0 l.length), (1, .slc 1 1 0 l.length), (2, .v (.int .i64 a)), (3, .v (.int .i64 b)), (9, .ptr 2 0 0 0), (10, .ptr 3 0 0 0), (11, .slc 0 13 (a + 1) (b - (a + 1))), (42, .v (.bool s))]) (w2 l a b x y)), (fun s : Bool => wHp o e l o2 ps x y) (w2 l a b x y), ?_⟩
                repeat ((conv => whnf); (first | refine Cnd.yes ?_ | refine Cnd.no ?_ | refine And.intro rfl ?_ | refine And.intro (by omega) ?_ | (refine And.intro ?_ ?_; focus (simp only [IntKind.wrap_i64, IntKind.wrap_u64, IntKind.wrap_u32]; omega)) | (refine And.intro ?_ ?_; focus (simp only [zl1, zl2, zl3, zl4, zl5, zl6, zl7, zl8, zl9] <;> omega)) | refine Alt.std ?_))
                conv => whnf
                refine ⟨by rw [hW], ?_⟩
                repeat ((conv => whnf); (first | refine Cnd.yes ?_ | refine Cnd.no ?_ | refine And.intro rfl ?_ | refine And.intro (by omega) ?_ | (refine And.intro ?_ ?_; focus (simp only [IntKind.wrap_i64, IntKind.wrap_u64, IntKind.wrap_u32]; omega)) | (refine And.intro ?_ ?_; focus (simp only [zl1, zl2, zl3, zl4, zl5, zl6, zl7, zl8, zl9] <;> omega)) | refine Alt.std ?_))
                conv => whnf
                exact ⟨w2 l a b x y, rfl, rfl, (tmkK_eq _ _ _ _).mpr rfl, rfl⟩
            · rintro tm hp M1 ⟨v2, hC_, rfl, htm, hhp_⟩
              replace hC_ : v2 = w2 l a b x y := hC_
              have h2 := hC_
              replace htm : tmkK 145 0 [(0, .slc 0 13 0 l.length), (1, .slc 1 1 0 l.length), (2, .v (.int .i64 a)), (3, .v (.int .i64 b)), (9, .ptr 2 0 0 0), (10, .ptr 3 0 0 0), (11, .slc 0 13 (a + 1) (b - (a + 1))), (42, .v (.bool v2))] (fun l => tm = l) := htm
              conv at htm => whnf
              subst htm
              replace hhp_ : hp = wHp o e l o2 ps x y := hhp_
              subst hhp_
              rw [← h2] at hK
              cases v2 with
              | true =>
                repeat ((conv => whnf); (first | refine Cnd.yes ?_ | refine Cnd.no ?_ | refine And.intro rfl ?_ | refine And.intro (by omega) ?_ | (refine And.intro ?_ ?_; focus (simp only [IntKind.wrap_i64, IntKind.wrap_u64, IntKind.wrap_u32]; omega)) | (refine And.intro ?_ ?_; focus (simp only [zl1, zl2, zl3, zl4, zl5, zl6, zl7, zl8, zl9] <;> omega)) | refine Alt.std ?_ | (refine Cnd.tt ?_ ?_; focus (first | (apply decide_eq_true; omega) | (simp only [zq1, zq2, zq3, zq4, zq5, zq6, zq7, zq8, zq9, zq10, zq11, zq12] <;> omega) | rfl)) | (refine Cnd.ff ?_ ?_; focus (first | (apply decide_eq_false; omega) | (simp only [zq1, zq2, zq3, zq4, zq5, zq6, zq7, zq8, zq9, zq10, zq11, zq12] <;> omega) | rfl))))
                conv => whnf
                refine ⟨[0, 1], .v (.int .i64 2), [.row o e ock (l.map orow), .row o2 3 [.int .i64] (ps.map irow)], ?_⟩
                repeat ((conv => whnf); (first | refine Cnd.yes ?_ | refine Cnd.no ?_ | refine And.intro rfl ?_ | refine And.intro (by omega) ?_ | (refine And.intro ?_ ?_; focus (simp only [IntKind.wrap_i64, IntKind.wrap_u64, IntKind.wrap_u32]; omega)) | (refine And.intro ?_ ?_; focus (simp only [zl1, zl2, zl3, zl4, zl5, zl6, zl7, zl8, zl9] <;> omega)) | refine Alt.std ?_))
                conv => whnf
                exact hK
              | false =>
                repeat ((conv => whnf); (first | refine Cnd.yes ?_ | refine Cnd.no ?_ | refine And.intro rfl ?_ | refine And.intro (by omega) ?_ | (refine And.intro ?_ ?_; focus (simp only [IntKind.wrap_i64, IntKind.wrap_u64, IntKind.wrap_u32]; omega)) | (refine And.intro ?_ ?_; focus (simp only [zl1, zl2, zl3, zl4, zl5, zl6, zl7, zl8, zl9] <;> omega)) | refine Alt.std ?_ | (refine Cnd.tt ?_ ?_; focus (first | (apply decide_eq_true; omega) | (simp only [zq1, zq2, zq3, zq4, zq5, zq6, zq7, zq8, zq9, zq10, zq11, zq12] <;> omega) | rfl)) | (refine Cnd.ff ?_ ?_; focus (first | (apply decide_eq_false; omega) | (simp only [zq1, zq2, zq3, zq4, zq5, zq6, zq7, zq8, zq9, zq10, zq11, zq12] <;> omega) | rfl))))
                conv => whnf
                refine ⟨InvC 145 (fun s : Bool => s = w3 x y) (fun s : Bool => [(0, .slc 0 13 0 l.length), (1, .slc 1 1 0 l.length), (2, .v (.int .i64 a)), (3, .v (.int .i64 b)), (9, .ptr 2 0 0 0), (10, .ptr 3 0 0 0), (11, .slc 0 13 (a + 1) (b - (a + 1))), (62, .v (.bool s))]) (fun s : Bool => wHp o e l o2 ps x y) M1, ?_, ?_⟩
                · have hW : w3 x y = ((x.k == 3 || x.pr && wr x) && rd y && meetB [x, y]) := rfl
                  repeat ((conv => whnf); (first | refine Cnd.yes ?_ | refine Cnd.no ?_ | refine And.intro rfl ?_ | refine And.intro (by omega) ?_ | (refine And.intro ?_ ?_; focus (simp only [IntKind.wrap_i64, IntKind.wrap_u64, IntKind.wrap_u32]; omega)) | (refine And.intro ?_ ?_; focus (simp only [zl1, zl2, zl3, zl4, zl5, zl6, zl7, zl8, zl9] <;> omega)) | refine Alt.std ?_ | (refine Cnd.tt ?_ ?_; focus (first | (apply decide_eq_true; omega) | (simp only [zq1, zq2, zq3, zq4, zq5, zq6, zq7, zq8, zq9, zq10, zq11, zq12] <;> omega) | rfl)) | (refine Cnd.ff ?_ ?_; focus (first | (apply decide_eq_false; omega) | (simp only [zq1, zq2, zq3, zq4, zq5, zq6, zq7, zq8, zq9, zq10, zq11, zq12] <;> omega) | rfl))))
                  conv => whnf
                  cases q1 : x.k == 3 with
                  | true =>
                    rw [q1, Bool.true_or, Bool.true_and] at hW
                    repeat ((conv => whnf); (first | refine Cnd.yes ?_ | refine Cnd.no ?_ | refine And.intro rfl ?_ | refine And.intro (by omega) ?_ | (refine And.intro ?_ ?_; focus (simp only [IntKind.wrap_i64, IntKind.wrap_u64, IntKind.wrap_u32]; omega)) | (refine And.intro ?_ ?_; focus (simp only [zl1, zl2, zl3, zl4, zl5, zl6, zl7, zl8, zl9] <;> omega)) | refine Alt.std ?_ | (refine Cnd.tt ?_ ?_; focus (first | (apply decide_eq_true; omega) | (simp only [zq1, zq2, zq3, zq4, zq5, zq6, zq7, zq8, zq9, zq10, zq11, zq12] <;> omega) | rfl)) | (refine Cnd.ff ?_ ?_; focus (first | (apply decide_eq_false; omega) | (simp only [zq1, zq2, zq3, zq4, zq5, zq6, zq7, zq8, zq9, zq10, zq11, zq12] <;> omega) | rfl))))
                    conv => whnf
                    refine ⟨y, rfl, rfl, ?_⟩
                    cases q4 : rd y with
                    | true =>
                      rw [q4, Bool.true_and] at hW
                      repeat ((conv => whnf); (first | refine Cnd.yes ?_ | refine Cnd.no ?_ | refine And.intro rfl ?_ | refine And.intro (by omega) ?_ | (refine And.intro ?_ ?_; focus (simp only [IntKind.wrap_i64, IntKind.wrap_u64, IntKind.wrap_u32]; omega)) | (refine And.intro ?_ ?_; focus (simp only [zl1, zl2, zl3, zl4, zl5, zl6, zl7, zl8, zl9] <;> omega)) | refine Alt.std ?_ | (refine Cnd.tt ?_ ?_; focus (first | (apply decide_eq_true; omega) | (simp only [zq1, zq2, zq3, zq4, zq5, zq6, zq7, zq8, zq9, zq10, zq11, zq12] <;> omega) | rfl)) | (refine Cnd.ff ?_ ?_; focus (first | (apply decide_eq_false; omega) | (simp only [zq1, zq2, zq3, zq4, zq5, zq6, zq7, zq8, zq9, zq10, zq11, zq12] <;> omega) | rfl))))
                      conv => whnf
                      refine ⟨true, 30, [x, y], rfl, rfl, by simp, by simp, fun q hq => by simp at hq; rcases hq with rfl | rfl <;> assumption, ?_⟩
                      repeat ((conv => whnf); (first | refine Cnd.yes ?_ | refine Cnd.no ?_ | refine And.intro rfl ?_ | refine And.intro (by omega) ?_ | (refine And.intro ?_ ?_; focus (simp only [IntKind.wrap_i64, IntKind.wrap_u64, IntKind.wrap_u32]; omega)) | (refine And.intro ?_ ?_; focus (simp only [zl1, zl2, zl3, zl4, zl5, zl6, zl7, zl8, zl9] <;> omega)) | refine Alt.std ?_ | (refine Cnd.tt ?_ ?_; focus (first | (apply decide_eq_true; omega) | (simp only [zq1, zq2, zq3, zq4, zq5, zq6, zq7, zq8, zq9, zq10, zq11, zq12] <;> omega) | rfl)) | (refine Cnd.ff ?_ ?_; focus (first | (apply decide_eq_false; omega) | (simp only [zq1, zq2, zq3, zq4, zq5, zq6, zq7, zq8, zq9, zq10, zq11, zq12] <;> omega) | rfl))))
                      conv => whnf
                      refine ⟨[0, 1, 2, 3], tmk 145 0 ((fun s : Bool => [(0, .slc 0 13 0 l.length), (1, .slc 1 1 0 l.length), (2, .v (.int .i64 a)), (3, .v (.int .i64 b)), (9, .ptr 2 0 0 0), (10, .ptr 3 0 0 0), (11, .slc 0 13 (a + 1) (b - (a + 1))), (62, .v (.bool s))]) (w3 x y)), (fun s : Bool => wHp o e l o2 ps x y) (w3 x y), ?_⟩
                      repeat ((conv => whnf); (first | refine Cnd.yes ?_ | refine Cnd.no ?_ | refine And.intro rfl ?_ | refine And.intro (by omega) ?_ | (refine And.intro ?_ ?_; focus (simp only [IntKind.wrap_i64, IntKind.wrap_u64, IntKind.wrap_u32]; omega)) | (refine And.intro ?_ ?_; focus (simp only [zl1, zl2, zl3, zl4, zl5, zl6, zl7, zl8, zl9] <;> omega)) | refine Alt.std ?_))
                      conv => whnf
                      refine ⟨by rw [hW], ?_⟩
                      repeat ((conv => whnf); (first | refine Cnd.yes ?_ | refine Cnd.no ?_ | refine And.intro rfl ?_ | refine And.intro (by omega) ?_ | (refine And.intro ?_ ?_; focus (simp only [IntKind.wrap_i64, IntKind.wrap_u64, IntKind.wrap_u32]; omega)) | (refine And.intro ?_ ?_; focus (simp only [zl1, zl2, zl3, zl4, zl5, zl6, zl7, zl8, zl9] <;> omega)) | refine Alt.std ?_))
                      conv => whnf
                      exact ⟨w3 x y, rfl, rfl, (tmkK_eq _ _ _ _).mpr rfl, rfl⟩
                    | false =>
                      rw [q4, Bool.false_and] at hW
                      repeat ((conv => whnf); (first | refine Cnd.yes ?_ | refine Cnd.no ?_ | refine And.intro rfl ?_ | refine And.intro (by omega) ?_ | (refine And.intro ?_ ?_; focus (simp only [IntKind.wrap_i64, IntKind.wrap_u64, IntKind.wrap_u32]; omega)) | (refine And.intro ?_ ?_; focus (simp only [zl1, zl2, zl3, zl4, zl5, zl6, zl7, zl8, zl9] <;> omega)) | refine Alt.std ?_ | (refine Cnd.tt ?_ ?_; focus (first | (apply decide_eq_true; omega) | (simp only [zq1, zq2, zq3, zq4, zq5, zq6, zq7, zq8, zq9, zq10, zq11, zq12] <;> omega) | rfl)) | (refine Cnd.ff ?_ ?_; focus (first | (apply decide_eq_false; omega) | (simp only [zq1, zq2, zq3, zq4, zq5, zq6, zq7, zq8, zq9, zq10, zq11, zq12] <;> omega) | rfl))))
                      conv => whnf
                      refine ⟨[0, 1, 2, 3], tmk 145 0 ((fun s : Bool => [(0, .slc 0 13 0 l.length), (1, .slc 1 1 0 l.length), (2, .v (.int .i64 a)), (3, .v (.int .i64 b)), (9, .ptr 2 0 0 0), (10, .ptr 3 0 0 0), (11, .slc 0 13 (a + 1) (b - (a + 1))), (62, .v (.bool s))]) (w3 x y)), (fun s : Bool => wHp o e l o2 ps x y) (w3 x y), ?_⟩
                      repeat ((conv => whnf); (first | refine Cnd.yes ?_ | refine Cnd.no ?_ | refine And.intro rfl ?_ | refine And.intro (by omega) ?_ | (refine And.intro ?_ ?_; focus (simp only [IntKind.wrap_i64, IntKind.wrap_u64, IntKind.wrap_u32]; omega)) | (refine And.intro ?_ ?_; focus (simp only [zl1, zl2, zl3, zl4, zl5, zl6, zl7, zl8, zl9] <;> omega)) | refine Alt.std ?_))
                      conv => whnf
                      refine ⟨by rw [hW], ?_⟩
                      repeat ((conv => whnf); (first | refine Cnd.yes ?_ | refine Cnd.no ?_ | refine And.intro rfl ?_ | refine And.intro (by omega) ?_ | (refine And.intro ?_ ?_; focus (simp only [IntKind.wrap_i64, IntKind.wrap_u64, IntKind.wrap_u32]; omega)) | (refine And.intro ?_ ?_; focus (simp only [zl1, zl2, zl3, zl4, zl5, zl6, zl7, zl8, zl9] <;> omega)) | refine Alt.std ?_))
                      conv => whnf
                      exact ⟨w3 x y, rfl, rfl, (tmkK_eq _ _ _ _).mpr rfl, rfl⟩
                  | false =>
                    rw [q1, Bool.false_or] at hW
                    repeat ((conv => whnf); (first | refine Cnd.yes ?_ | refine Cnd.no ?_ | refine And.intro rfl ?_ | refine And.intro (by omega) ?_ | (refine And.intro ?_ ?_; focus (simp only [IntKind.wrap_i64, IntKind.wrap_u64, IntKind.wrap_u32]; omega)) | (refine And.intro ?_ ?_; focus (simp only [zl1, zl2, zl3, zl4, zl5, zl6, zl7, zl8, zl9] <;> omega)) | refine Alt.std ?_ | (refine Cnd.tt ?_ ?_; focus (first | (apply decide_eq_true; omega) | (simp only [zq1, zq2, zq3, zq4, zq5, zq6, zq7, zq8, zq9, zq10, zq11, zq12] <;> omega) | rfl)) | (refine Cnd.ff ?_ ?_; focus (first | (apply decide_eq_false; omega) | (simp only [zq1, zq2, zq3, zq4, zq5, zq6, zq7, zq8, zq9, zq10, zq11, zq12] <;> omega) | rfl))))
                    conv => whnf
                    cases q2 : x.pr with
                    | true =>
                      rw [q2, Bool.true_and] at hW
                      repeat ((conv => whnf); (first | refine Cnd.yes ?_ | refine Cnd.no ?_ | refine And.intro rfl ?_ | refine And.intro (by omega) ?_ | (refine And.intro ?_ ?_; focus (simp only [IntKind.wrap_i64, IntKind.wrap_u64, IntKind.wrap_u32]; omega)) | (refine And.intro ?_ ?_; focus (simp only [zl1, zl2, zl3, zl4, zl5, zl6, zl7, zl8, zl9] <;> omega)) | refine Alt.std ?_ | (refine Cnd.tt ?_ ?_; focus (first | (apply decide_eq_true; omega) | (simp only [zq1, zq2, zq3, zq4, zq5, zq6, zq7, zq8, zq9, zq10, zq11, zq12] <;> omega) | rfl)) | (refine Cnd.ff ?_ ?_; focus (first | (apply decide_eq_false; omega) | (simp only [zq1, zq2, zq3, zq4, zq5, zq6, zq7, zq8, zq9, zq10, zq11, zq12] <;> omega) | rfl))))
                      conv => whnf
                      refine ⟨x, rfl, rfl, ?_⟩
                      cases q3 : wr x with
                      | true =>
                        rw [q3, Bool.true_and] at hW
                        repeat ((conv => whnf); (first | refine Cnd.yes ?_ | refine Cnd.no ?_ | refine And.intro rfl ?_ | refine And.intro (by omega) ?_ | (refine And.intro ?_ ?_; focus (simp only [IntKind.wrap_i64, IntKind.wrap_u64, IntKind.wrap_u32]; omega)) | (refine And.intro ?_ ?_; focus (simp only [zl1, zl2, zl3, zl4, zl5, zl6, zl7, zl8, zl9] <;> omega)) | refine Alt.std ?_ | (refine Cnd.tt ?_ ?_; focus (first | (apply decide_eq_true; omega) | (simp only [zq1, zq2, zq3, zq4, zq5, zq6, zq7, zq8, zq9, zq10, zq11, zq12] <;> omega) | rfl)) | (refine Cnd.ff ?_ ?_; focus (first | (apply decide_eq_false; omega) | (simp only [zq1, zq2, zq3, zq4, zq5, zq6, zq7, zq8, zq9, zq10, zq11, zq12] <;> omega) | rfl))))
                        conv => whnf
                        refine ⟨y, rfl, rfl, ?_⟩
                        cases q4 : rd y with
                        | true =>
                          rw [q4, Bool.true_and] at hW
                          repeat ((conv => whnf); (first | refine Cnd.yes ?_ | refine Cnd.no ?_ | refine And.intro rfl ?_ | refine And.intro (by omega) ?_ | (refine And.intro ?_ ?_; focus (simp only [IntKind.wrap_i64, IntKind.wrap_u64, IntKind.wrap_u32]; omega)) | (refine And.intro ?_ ?_; focus (simp only [zl1, zl2, zl3, zl4, zl5, zl6, zl7, zl8, zl9] <;> omega)) | refine Alt.std ?_ | (refine Cnd.tt ?_ ?_; focus (first | (apply decide_eq_true; omega) | (simp only [zq1, zq2, zq3, zq4, zq5, zq6, zq7, zq8, zq9, zq10, zq11, zq12] <;> omega) | rfl)) | (refine Cnd.ff ?_ ?_; focus (first | (apply decide_eq_false; omega) | (simp only [zq1, zq2, zq3, zq4, zq5, zq6, zq7, zq8, zq9, zq10, zq11, zq12] <;> omega) | rfl))))
                          conv => whnf
                          refine ⟨true, 30, [x, y], rfl, rfl, by simp, by simp, fun q hq => by simp at hq; rcases hq with rfl | rfl <;> assumption, ?_⟩
                          repeat ((conv => whnf); (first | refine Cnd.yes ?_ | refine Cnd.no ?_ | refine And.intro rfl ?_ | refine And.intro (by omega) ?_ | (refine And.intro ?_ ?_; focus (simp only [IntKind.wrap_i64, IntKind.wrap_u64, IntKind.wrap_u32]; omega)) | (refine And.intro ?_ ?_; focus (simp only [zl1, zl2, zl3, zl4, zl5, zl6, zl7, zl8, zl9] <;> omega)) | refine Alt.std ?_ | (refine Cnd.tt ?_ ?_; focus (first | (apply decide_eq_true; omega) | (simp only [zq1, zq2, zq3, zq4, zq5, zq6, zq7, zq8, zq9, zq10, zq11, zq12] <;> omega) | rfl)) | (refine Cnd.ff ?_ ?_; focus (first | (apply decide_eq_false; omega) | (simp only [zq1, zq2, zq3, zq4, zq5, zq6, zq7, zq8, zq9, zq10, zq11, zq12] <;> omega) | rfl))))
                          conv => whnf
                          refine ⟨[0, 1, 2, 3], tmk 145 0 ((fun s : Bool => [(0, .slc 0 13 0 l.length), (1, .slc 1 1 0 l.length), (2, .v (.int .i64 a)), (3, .v (.int .i64 b)), (9, .ptr 2 0 0 0), (10, .ptr 3 0 0 0), (11, .slc 0 13 (a + 1) (b - (a + 1))), (62, .v (.bool s))]) (w3 x y)), (fun s : Bool => wHp o e l o2 ps x y) (w3 x y), ?_⟩
                          repeat ((conv => whnf); (first | refine Cnd.yes ?_ | refine Cnd.no ?_ | refine And.intro rfl ?_ | refine And.intro (by omega) ?_ | (refine And.intro ?_ ?_; focus (simp only [IntKind.wrap_i64, IntKind.wrap_u64, IntKind.wrap_u32]; omega)) | (refine And.intro ?_ ?_; focus (simp only [zl1, zl2, zl3, zl4, zl5, zl6, zl7, zl8, zl9] <;> omega)) | refine Alt.std ?_))
                          conv => whnf
                          refine ⟨by rw [hW], ?_⟩
                          repeat ((conv => whnf); (first | refine Cnd.yes ?_ | refine Cnd.no ?_ | refine And.intro rfl ?_ | refine And.intro (by omega) ?_ | (refine And.intro ?_ ?_; focus (simp only [IntKind.wrap_i64, IntKind.wrap_u64, IntKind.wrap_u32]; omega)) | (refine And.intro ?_ ?_; focus (simp only [zl1, zl2, zl3, zl4, zl5, zl6, zl7, zl8, zl9] <;> omega)) | refine Alt.std ?_))
                          conv => whnf
                          exact ⟨w3 x y, rfl, rfl, (tmkK_eq _ _ _ _).mpr rfl, rfl⟩
                        | false =>
                          rw [q4, Bool.false_and] at hW
                          repeat ((conv => whnf); (first | refine Cnd.yes ?_ | refine Cnd.no ?_ | refine And.intro rfl ?_ | refine And.intro (by omega) ?_ | (refine And.intro ?_ ?_; focus (simp only [IntKind.wrap_i64, IntKind.wrap_u64, IntKind.wrap_u32]; omega)) | (refine And.intro ?_ ?_; focus (simp only [zl1, zl2, zl3, zl4, zl5, zl6, zl7, zl8, zl9] <;> omega)) | refine Alt.std ?_ | (refine Cnd.tt ?_ ?_; focus (first | (apply decide_eq_true; omega) | (simp only [zq1, zq2, zq3, zq4, zq5, zq6, zq7, zq8, zq9, zq10, zq11, zq12] <;> omega) | rfl)) | (refine Cnd.ff ?_ ?_; focus (first | (apply decide_eq_false; omega) | (simp only [zq1, zq2, zq3, zq4, zq5, zq6, zq7, zq8, zq9, zq10, zq11, zq12] <;> omega) | rfl))))
                          conv => whnf
                          refine ⟨[0, 1, 2, 3], tmk 145 0 ((fun s : Bool => [(0, .slc 0 13 0 l.length), (1, .slc 1 1 0 l.length), (2, .v (.int .i64 a)), (3, .v (.int .i64 b)), (9, .ptr 2 0 0 0), (10, .ptr 3 0 0 0), (11, .slc 0 13 (a + 1) (b - (a + 1))), (62, .v (.bool s))]) (w3 x y)), (fun s : Bool => wHp o e l o2 ps x y) (w3 x y), ?_⟩
                          repeat ((conv => whnf); (first | refine Cnd.yes ?_ | refine Cnd.no ?_ | refine And.intro rfl ?_ | refine And.intro (by omega) ?_ | (refine And.intro ?_ ?_; focus (simp only [IntKind.wrap_i64, IntKind.wrap_u64, IntKind.wrap_u32]; omega)) | (refine And.intro ?_ ?_; focus (simp only [zl1, zl2, zl3, zl4, zl5, zl6, zl7, zl8, zl9] <;> omega)) | refine Alt.std ?_))
                          conv => whnf
                          refine ⟨by rw [hW], ?_⟩
                          repeat ((conv => whnf); (first | refine Cnd.yes ?_ | refine Cnd.no ?_ | refine And.intro rfl ?_ | refine And.intro (by omega) ?_ | (refine And.intro ?_ ?_; focus (simp only [IntKind.wrap_i64, IntKind.wrap_u64, IntKind.wrap_u32]; omega)) | (refine And.intro ?_ ?_; focus (simp only [zl1, zl2, zl3, zl4, zl5, zl6, zl7, zl8, zl9] <;> omega)) | refine Alt.std ?_))
                          conv => whnf
                          exact ⟨w3 x y, rfl, rfl, (tmkK_eq _ _ _ _).mpr rfl, rfl⟩
                      | false =>
                        rw [q3, Bool.false_and, Bool.false_and] at hW
                        repeat ((conv => whnf); (first | refine Cnd.yes ?_ | refine Cnd.no ?_ | refine And.intro rfl ?_ | refine And.intro (by omega) ?_ | (refine And.intro ?_ ?_; focus (simp only [IntKind.wrap_i64, IntKind.wrap_u64, IntKind.wrap_u32]; omega)) | (refine And.intro ?_ ?_; focus (simp only [zl1, zl2, zl3, zl4, zl5, zl6, zl7, zl8, zl9] <;> omega)) | refine Alt.std ?_ | (refine Cnd.tt ?_ ?_; focus (first | (apply decide_eq_true; omega) | (simp only [zq1, zq2, zq3, zq4, zq5, zq6, zq7, zq8, zq9, zq10, zq11, zq12] <;> omega) | rfl)) | (refine Cnd.ff ?_ ?_; focus (first | (apply decide_eq_false; omega) | (simp only [zq1, zq2, zq3, zq4, zq5, zq6, zq7, zq8, zq9, zq10, zq11, zq12] <;> omega) | rfl))))
                        conv => whnf
                        refine ⟨[0, 1, 2, 3], tmk 145 0 ((fun s : Bool => [(0, .slc 0 13 0 l.length), (1, .slc 1 1 0 l.length), (2, .v (.int .i64 a)), (3, .v (.int .i64 b)), (9, .ptr 2 0 0 0), (10, .ptr 3 0 0 0), (11, .slc 0 13 (a + 1) (b - (a + 1))), (62, .v (.bool s))]) (w3 x y)), (fun s : Bool => wHp o e l o2 ps x y) (w3 x y), ?_⟩
                        repeat ((conv => whnf); (first | refine Cnd.yes ?_ | refine Cnd.no ?_ | refine And.intro rfl ?_ | refine And.intro (by omega) ?_ | (refine And.intro ?_ ?_; focus (simp only [IntKind.wrap_i64, IntKind.wrap_u64, IntKind.wrap_u32]; omega)) | (refine And.intro ?_ ?_; focus (simp only [zl1, zl2, zl3, zl4, zl5, zl6, zl7, zl8, zl9] <;> omega)) | refine Alt.std ?_))
                        conv => whnf
                        refine ⟨by rw [hW], ?_⟩
                        repeat ((conv => whnf); (first | refine Cnd.yes ?_ | refine Cnd.no ?_ | refine And.intro rfl ?_ | refine And.intro (by omega) ?_ | (refine And.intro ?_ ?_; focus (simp only [IntKind.wrap_i64, IntKind.wrap_u64, IntKind.wrap_u32]; omega)) | (refine And.intro ?_ ?_; focus (simp only [zl1, zl2, zl3, zl4, zl5, zl6, zl7, zl8, zl9] <;> omega)) | refine Alt.std ?_))
                        conv => whnf
                        exact ⟨w3 x y, rfl, rfl, (tmkK_eq _ _ _ _).mpr rfl, rfl⟩
                    | false =>
                      rw [q2, Bool.false_and, Bool.false_and, Bool.false_and] at hW
                      repeat ((conv => whnf); (first | refine Cnd.yes ?_ | refine Cnd.no ?_ | refine And.intro rfl ?_ | refine And.intro (by omega) ?_ | (refine And.intro ?_ ?_; focus (simp only [IntKind.wrap_i64, IntKind.wrap_u64, IntKind.wrap_u32]; omega)) | (refine And.intro ?_ ?_; focus (simp only [zl1, zl2, zl3, zl4, zl5, zl6, zl7, zl8, zl9] <;> omega)) | refine Alt.std ?_ | (refine Cnd.tt ?_ ?_; focus (first | (apply decide_eq_true; omega) | (simp only [zq1, zq2, zq3, zq4, zq5, zq6, zq7, zq8, zq9, zq10, zq11, zq12] <;> omega) | rfl)) | (refine Cnd.ff ?_ ?_; focus (first | (apply decide_eq_false; omega) | (simp only [zq1, zq2, zq3, zq4, zq5, zq6, zq7, zq8, zq9, zq10, zq11, zq12] <;> omega) | rfl))))
                      conv => whnf
                      refine ⟨[0, 1, 2, 3], tmk 145 0 ((fun s : Bool => [(0, .slc 0 13 0 l.length), (1, .slc 1 1 0 l.length), (2, .v (.int .i64 a)), (3, .v (.int .i64 b)), (9, .ptr 2 0 0 0), (10, .ptr 3 0 0 0), (11, .slc 0 13 (a + 1) (b - (a + 1))), (62, .v (.bool s))]) (w3 x y)), (fun s : Bool => wHp o e l o2 ps x y) (w3 x y), ?_⟩
                      repeat ((conv => whnf); (first | refine Cnd.yes ?_ | refine Cnd.no ?_ | refine And.intro rfl ?_ | refine And.intro (by omega) ?_ | (refine And.intro ?_ ?_; focus (simp only [IntKind.wrap_i64, IntKind.wrap_u64, IntKind.wrap_u32]; omega)) | (refine And.intro ?_ ?_; focus (simp only [zl1, zl2, zl3, zl4, zl5, zl6, zl7, zl8, zl9] <;> omega)) | refine Alt.std ?_))
                      conv => whnf
                      refine ⟨by rw [hW], ?_⟩
                      repeat ((conv => whnf); (first | refine Cnd.yes ?_ | refine Cnd.no ?_ | refine And.intro rfl ?_ | refine And.intro (by omega) ?_ | (refine And.intro ?_ ?_; focus (simp only [IntKind.wrap_i64, IntKind.wrap_u64, IntKind.wrap_u32]; omega)) | (refine And.intro ?_ ?_; focus (simp only [zl1, zl2, zl3, zl4, zl5, zl6, zl7, zl8, zl9] <;> omega)) | refine Alt.std ?_))
                      conv => whnf
                      exact ⟨w3 x y, rfl, rfl, (tmkK_eq _ _ _ _).mpr rfl, rfl⟩
                · rintro tm hp M1 ⟨v3, hC_, rfl, htm, hhp_⟩
                  replace hC_ : v3 = w3 x y := hC_
                  have h3 := hC_
                  replace htm : tmkK 145 0 [(0, .slc 0 13 0 l.length), (1, .slc 1 1 0 l.length), (2, .v (.int .i64 a)), (3, .v (.int .i64 b)), (9, .ptr 2 0 0 0), (10, .ptr 3 0 0 0), (11, .slc 0 13 (a + 1) (b - (a + 1))), (62, .v (.bool v3))] (fun l => tm = l) := htm
                  conv at htm => whnf
                  subst htm
                  replace hhp_ : hp = wHp o e l o2 ps x y := hhp_
                  subst hhp_
                  rw [← h3] at hK
                  cases v3 with
                  | true =>
                    repeat ((conv => whnf); (first | refine Cnd.yes ?_ | refine Cnd.no ?_ | refine And.intro rfl ?_ | refine And.intro (by omega) ?_ | (refine And.intro ?_ ?_; focus (simp only [IntKind.wrap_i64, IntKind.wrap_u64, IntKind.wrap_u32]; omega)) | (refine And.intro ?_ ?_; focus (simp only [zl1, zl2, zl3, zl4, zl5, zl6, zl7, zl8, zl9] <;> omega)) | refine Alt.std ?_ | (refine Cnd.tt ?_ ?_; focus (first | (apply decide_eq_true; omega) | (simp only [zq1, zq2, zq3, zq4, zq5, zq6, zq7, zq8, zq9, zq10, zq11, zq12] <;> omega) | rfl)) | (refine Cnd.ff ?_ ?_; focus (first | (apply decide_eq_false; omega) | (simp only [zq1, zq2, zq3, zq4, zq5, zq6, zq7, zq8, zq9, zq10, zq11, zq12] <;> omega) | rfl))))
                    conv => whnf
                    refine ⟨[0, 1], .v (.int .i64 3), [.row o e ock (l.map orow), .row o2 3 [.int .i64] (ps.map irow)], ?_⟩
                    repeat ((conv => whnf); (first | refine Cnd.yes ?_ | refine Cnd.no ?_ | refine And.intro rfl ?_ | refine And.intro (by omega) ?_ | (refine And.intro ?_ ?_; focus (simp only [IntKind.wrap_i64, IntKind.wrap_u64, IntKind.wrap_u32]; omega)) | (refine And.intro ?_ ?_; focus (simp only [zl1, zl2, zl3, zl4, zl5, zl6, zl7, zl8, zl9] <;> omega)) | refine Alt.std ?_))
                    conv => whnf
                    exact hK
                  | false =>
                    repeat ((conv => whnf); (first | refine Cnd.yes ?_ | refine Cnd.no ?_ | refine And.intro rfl ?_ | refine And.intro (by omega) ?_ | (refine And.intro ?_ ?_; focus (simp only [IntKind.wrap_i64, IntKind.wrap_u64, IntKind.wrap_u32]; omega)) | (refine And.intro ?_ ?_; focus (simp only [zl1, zl2, zl3, zl4, zl5, zl6, zl7, zl8, zl9] <;> omega)) | refine Alt.std ?_ | (refine Cnd.tt ?_ ?_; focus (first | (apply decide_eq_true; omega) | (simp only [zq1, zq2, zq3, zq4, zq5, zq6, zq7, zq8, zq9, zq10, zq11, zq12] <;> omega) | rfl)) | (refine Cnd.ff ?_ ?_; focus (first | (apply decide_eq_false; omega) | (simp only [zq1, zq2, zq3, zq4, zq5, zq6, zq7, zq8, zq9, zq10, zq11, zq12] <;> omega) | rfl))))
                    conv => whnf
                    refine ⟨o, e, l, a + 1, b - (a + 1), x, y, rfl, rfl, by omega, hl, hF, ?_⟩
                    cases h4 : barB l (a + 1) (b - (a + 1)) x y with
                    | true =>
                      rw [h4] at hK
                      repeat ((conv => whnf); (first | refine Cnd.yes ?_ | refine Cnd.no ?_ | refine And.intro rfl ?_ | refine And.intro (by omega) ?_ | (refine And.intro ?_ ?_; focus (simp only [IntKind.wrap_i64, IntKind.wrap_u64, IntKind.wrap_u32]; omega)) | (refine And.intro ?_ ?_; focus (simp only [zl1, zl2, zl3, zl4, zl5, zl6, zl7, zl8, zl9] <;> omega)) | refine Alt.std ?_ | (refine Cnd.tt ?_ ?_; focus (first | (apply decide_eq_true; omega) | (simp only [zq1, zq2, zq3, zq4, zq5, zq6, zq7, zq8, zq9, zq10, zq11, zq12] <;> omega) | rfl)) | (refine Cnd.ff ?_ ?_; focus (first | (apply decide_eq_false; omega) | (simp only [zq1, zq2, zq3, zq4, zq5, zq6, zq7, zq8, zq9, zq10, zq11, zq12] <;> omega) | rfl))))
                      conv => whnf
                      refine ⟨[0, 1], .v (.int .i64 4), [.row o e ock (l.map orow), .row o2 3 [.int .i64] (ps.map irow)], ?_⟩
                      repeat ((conv => whnf); (first | refine Cnd.yes ?_ | refine Cnd.no ?_ | refine And.intro rfl ?_ | refine And.intro (by omega) ?_ | (refine And.intro ?_ ?_; focus (simp only [IntKind.wrap_i64, IntKind.wrap_u64, IntKind.wrap_u32]; omega)) | (refine And.intro ?_ ?_; focus (simp only [zl1, zl2, zl3, zl4, zl5, zl6, zl7, zl8, zl9] <;> omega)) | refine Alt.std ?_))
                      conv => whnf
                      exact hK
                    | false =>
                      rw [h4] at hK
                      repeat ((conv => whnf); (first | refine Cnd.yes ?_ | refine Cnd.no ?_ | refine And.intro rfl ?_ | refine And.intro (by omega) ?_ | (refine And.intro ?_ ?_; focus (simp only [IntKind.wrap_i64, IntKind.wrap_u64, IntKind.wrap_u32]; omega)) | (refine And.intro ?_ ?_; focus (simp only [zl1, zl2, zl3, zl4, zl5, zl6, zl7, zl8, zl9] <;> omega)) | refine Alt.std ?_ | (refine Cnd.tt ?_ ?_; focus (first | (apply decide_eq_true; omega) | (simp only [zq1, zq2, zq3, zq4, zq5, zq6, zq7, zq8, zq9, zq10, zq11, zq12] <;> omega) | rfl)) | (refine Cnd.ff ?_ ?_; focus (first | (apply decide_eq_false; omega) | (simp only [zq1, zq2, zq3, zq4, zq5, zq6, zq7, zq8, zq9, zq10, zq11, zq12] <;> omega) | rfl))))
                      conv => whnf
                      cases h5 : x.aq with
                      | true =>
                        rw [h5] at hK
                        repeat ((conv => whnf); (first | refine Cnd.yes ?_ | refine Cnd.no ?_ | refine And.intro rfl ?_ | refine And.intro (by omega) ?_ | (refine And.intro ?_ ?_; focus (simp only [IntKind.wrap_i64, IntKind.wrap_u64, IntKind.wrap_u32]; omega)) | (refine And.intro ?_ ?_; focus (simp only [zl1, zl2, zl3, zl4, zl5, zl6, zl7, zl8, zl9] <;> omega)) | refine Alt.std ?_ | (refine Cnd.tt ?_ ?_; focus (first | (apply decide_eq_true; omega) | (simp only [zq1, zq2, zq3, zq4, zq5, zq6, zq7, zq8, zq9, zq10, zq11, zq12] <;> omega) | rfl)) | (refine Cnd.ff ?_ ?_; focus (first | (apply decide_eq_false; omega) | (simp only [zq1, zq2, zq3, zq4, zq5, zq6, zq7, zq8, zq9, zq10, zq11, zq12] <;> omega) | rfl))))
                        conv => whnf
                        refine ⟨[0, 1], .v (.int .i64 5), [.row o e ock (l.map orow), .row o2 3 [.int .i64] (ps.map irow)], ?_⟩
                        repeat ((conv => whnf); (first | refine Cnd.yes ?_ | refine Cnd.no ?_ | refine And.intro rfl ?_ | refine And.intro (by omega) ?_ | (refine And.intro ?_ ?_; focus (simp only [IntKind.wrap_i64, IntKind.wrap_u64, IntKind.wrap_u32]; omega)) | (refine And.intro ?_ ?_; focus (simp only [zl1, zl2, zl3, zl4, zl5, zl6, zl7, zl8, zl9] <;> omega)) | refine Alt.std ?_))
                        conv => whnf
                        exact hK
                      | false =>
                        rw [h5] at hK
                        repeat ((conv => whnf); (first | refine Cnd.yes ?_ | refine Cnd.no ?_ | refine And.intro rfl ?_ | refine And.intro (by omega) ?_ | (refine And.intro ?_ ?_; focus (simp only [IntKind.wrap_i64, IntKind.wrap_u64, IntKind.wrap_u32]; omega)) | (refine And.intro ?_ ?_; focus (simp only [zl1, zl2, zl3, zl4, zl5, zl6, zl7, zl8, zl9] <;> omega)) | refine Alt.std ?_ | (refine Cnd.tt ?_ ?_; focus (first | (apply decide_eq_true; omega) | (simp only [zq1, zq2, zq3, zq4, zq5, zq6, zq7, zq8, zq9, zq10, zq11, zq12] <;> omega) | rfl)) | (refine Cnd.ff ?_ ?_; focus (first | (apply decide_eq_false; omega) | (simp only [zq1, zq2, zq3, zq4, zq5, zq6, zq7, zq8, zq9, zq10, zq11, zq12] <;> omega) | rfl))))
                        conv => whnf
                        cases h6 : y.rl with
                        | true =>
                          rw [h6] at hK
                          repeat ((conv => whnf); (first | refine Cnd.yes ?_ | refine Cnd.no ?_ | refine And.intro rfl ?_ | refine And.intro (by omega) ?_ | (refine And.intro ?_ ?_; focus (simp only [IntKind.wrap_i64, IntKind.wrap_u64, IntKind.wrap_u32]; omega)) | (refine And.intro ?_ ?_; focus (simp only [zl1, zl2, zl3, zl4, zl5, zl6, zl7, zl8, zl9] <;> omega)) | refine Alt.std ?_ | (refine Cnd.tt ?_ ?_; focus (first | (apply decide_eq_true; omega) | (simp only [zq1, zq2, zq3, zq4, zq5, zq6, zq7, zq8, zq9, zq10, zq11, zq12] <;> omega) | rfl)) | (refine Cnd.ff ?_ ?_; focus (first | (apply decide_eq_false; omega) | (simp only [zq1, zq2, zq3, zq4, zq5, zq6, zq7, zq8, zq9, zq10, zq11, zq12] <;> omega) | rfl))))
                          conv => whnf
                          refine ⟨[0, 1], .v (.int .i64 6), [.row o e ock (l.map orow), .row o2 3 [.int .i64] (ps.map irow)], ?_⟩
                          repeat ((conv => whnf); (first | refine Cnd.yes ?_ | refine Cnd.no ?_ | refine And.intro rfl ?_ | refine And.intro (by omega) ?_ | (refine And.intro ?_ ?_; focus (simp only [IntKind.wrap_i64, IntKind.wrap_u64, IntKind.wrap_u32]; omega)) | (refine And.intro ?_ ?_; focus (simp only [zl1, zl2, zl3, zl4, zl5, zl6, zl7, zl8, zl9] <;> omega)) | refine Alt.std ?_))
                          conv => whnf
                          exact hK
                        | false =>
                          rw [h6] at hK
                          repeat ((conv => whnf); (first | refine Cnd.yes ?_ | refine Cnd.no ?_ | refine And.intro rfl ?_ | refine And.intro (by omega) ?_ | (refine And.intro ?_ ?_; focus (simp only [IntKind.wrap_i64, IntKind.wrap_u64, IntKind.wrap_u32]; omega)) | (refine And.intro ?_ ?_; focus (simp only [zl1, zl2, zl3, zl4, zl5, zl6, zl7, zl8, zl9] <;> omega)) | refine Alt.std ?_ | (refine Cnd.tt ?_ ?_; focus (first | (apply decide_eq_true; omega) | (simp only [zq1, zq2, zq3, zq4, zq5, zq6, zq7, zq8, zq9, zq10, zq11, zq12] <;> omega) | rfl)) | (refine Cnd.ff ?_ ?_; focus (first | (apply decide_eq_false; omega) | (simp only [zq1, zq2, zq3, zq4, zq5, zq6, zq7, zq8, zq9, zq10, zq11, zq12] <;> omega) | rfl))))
                          conv => whnf
                          refine ⟨InvC 145 (fun s : Bool => s = w7 x y) (fun s : Bool => [(0, .slc 0 13 0 l.length), (1, .slc 1 1 0 l.length), (2, .v (.int .i64 a)), (3, .v (.int .i64 b)), (9, .ptr 2 0 0 0), (10, .ptr 3 0 0 0), (11, .slc 0 13 (a + 1) (b - (a + 1))), (95, .v (.bool s))]) (fun s : Bool => wHp o e l o2 ps x y) M1, ?_, ?_⟩
                          · have hW : w7 x y = (mk x && mk y) := rfl
                            repeat ((conv => whnf); (first | refine Cnd.yes ?_ | refine Cnd.no ?_ | refine And.intro rfl ?_ | refine And.intro (by omega) ?_ | (refine And.intro ?_ ?_; focus (simp only [IntKind.wrap_i64, IntKind.wrap_u64, IntKind.wrap_u32]; omega)) | (refine And.intro ?_ ?_; focus (simp only [zl1, zl2, zl3, zl4, zl5, zl6, zl7, zl8, zl9] <;> omega)) | refine Alt.std ?_ | (refine Cnd.tt ?_ ?_; focus (first | (apply decide_eq_true; omega) | (simp only [zq1, zq2, zq3, zq4, zq5, zq6, zq7, zq8, zq9, zq10, zq11, zq12] <;> omega) | rfl)) | (refine Cnd.ff ?_ ?_; focus (first | (apply decide_eq_false; omega) | (simp only [zq1, zq2, zq3, zq4, zq5, zq6, zq7, zq8, zq9, zq10, zq11, zq12] <;> omega) | rfl))))
                            conv => whnf
                            refine ⟨x, rfl, rfl, ?_⟩
                            cases q1 : mk x with
                            | true =>
                              rw [q1, Bool.true_and] at hW
                              repeat ((conv => whnf); (first | refine Cnd.yes ?_ | refine Cnd.no ?_ | refine And.intro rfl ?_ | refine And.intro (by omega) ?_ | (refine And.intro ?_ ?_; focus (simp only [IntKind.wrap_i64, IntKind.wrap_u64, IntKind.wrap_u32]; omega)) | (refine And.intro ?_ ?_; focus (simp only [zl1, zl2, zl3, zl4, zl5, zl6, zl7, zl8, zl9] <;> omega)) | refine Alt.std ?_ | (refine Cnd.tt ?_ ?_; focus (first | (apply decide_eq_true; omega) | (simp only [zq1, zq2, zq3, zq4, zq5, zq6, zq7, zq8, zq9, zq10, zq11, zq12] <;> omega) | rfl)) | (refine Cnd.ff ?_ ?_; focus (first | (apply decide_eq_false; omega) | (simp only [zq1, zq2, zq3, zq4, zq5, zq6, zq7, zq8, zq9, zq10, zq11, zq12] <;> omega) | rfl))))
                              conv => whnf
                              refine ⟨y, rfl, rfl, ?_⟩
                              repeat ((conv => whnf); (first | refine Cnd.yes ?_ | refine Cnd.no ?_ | refine And.intro rfl ?_ | refine And.intro (by omega) ?_ | (refine And.intro ?_ ?_; focus (simp only [IntKind.wrap_i64, IntKind.wrap_u64, IntKind.wrap_u32]; omega)) | (refine And.intro ?_ ?_; focus (simp only [zl1, zl2, zl3, zl4, zl5, zl6, zl7, zl8, zl9] <;> omega)) | refine Alt.std ?_ | (refine Cnd.tt ?_ ?_; focus (first | (apply decide_eq_true; omega) | (simp only [zq1, zq2, zq3, zq4, zq5, zq6, zq7, zq8, zq9, zq10, zq11, zq12] <;> omega) | rfl)) | (refine Cnd.ff ?_ ?_; focus (first | (apply decide_eq_false; omega) | (simp only [zq1, zq2, zq3, zq4, zq5, zq6, zq7, zq8, zq9, zq10, zq11, zq12] <;> omega) | rfl))))
                              conv => whnf
                              refine ⟨[0, 1, 2, 3], tmk 145 0 ((fun s : Bool => [(0, .slc 0 13 0 l.length), (1, .slc 1 1 0 l.length), (2, .v (.int .i64 a)), (3, .v (.int .i64 b)), (9, .ptr 2 0 0 0), (10, .ptr 3 0 0 0), (11, .slc 0 13 (a + 1) (b - (a + 1))), (95, .v (.bool s))]) (w7 x y)), (fun s : Bool => wHp o e l o2 ps x y) (w7 x y), ?_⟩
                              repeat ((conv => whnf); (first | refine Cnd.yes ?_ | refine Cnd.no ?_ | refine And.intro rfl ?_ | refine And.intro (by omega) ?_ | (refine And.intro ?_ ?_; focus (simp only [IntKind.wrap_i64, IntKind.wrap_u64, IntKind.wrap_u32]; omega)) | (refine And.intro ?_ ?_; focus (simp only [zl1, zl2, zl3, zl4, zl5, zl6, zl7, zl8, zl9] <;> omega)) | refine Alt.std ?_))
                              conv => whnf
                              refine ⟨by rw [hW], ?_⟩
                              repeat ((conv => whnf); (first | refine Cnd.yes ?_ | refine Cnd.no ?_ | refine And.intro rfl ?_ | refine And.intro (by omega) ?_ | (refine And.intro ?_ ?_; focus (simp only [IntKind.wrap_i64, IntKind.wrap_u64, IntKind.wrap_u32]; omega)) | (refine And.intro ?_ ?_; focus (simp only [zl1, zl2, zl3, zl4, zl5, zl6, zl7, zl8, zl9] <;> omega)) | refine Alt.std ?_))
                              conv => whnf
                              exact ⟨w7 x y, rfl, rfl, (tmkK_eq _ _ _ _).mpr rfl, rfl⟩
                            | false =>
                              rw [q1, Bool.false_and] at hW
                              repeat ((conv => whnf); (first | refine Cnd.yes ?_ | refine Cnd.no ?_ | refine And.intro rfl ?_ | refine And.intro (by omega) ?_ | (refine And.intro ?_ ?_; focus (simp only [IntKind.wrap_i64, IntKind.wrap_u64, IntKind.wrap_u32]; omega)) | (refine And.intro ?_ ?_; focus (simp only [zl1, zl2, zl3, zl4, zl5, zl6, zl7, zl8, zl9] <;> omega)) | refine Alt.std ?_ | (refine Cnd.tt ?_ ?_; focus (first | (apply decide_eq_true; omega) | (simp only [zq1, zq2, zq3, zq4, zq5, zq6, zq7, zq8, zq9, zq10, zq11, zq12] <;> omega) | rfl)) | (refine Cnd.ff ?_ ?_; focus (first | (apply decide_eq_false; omega) | (simp only [zq1, zq2, zq3, zq4, zq5, zq6, zq7, zq8, zq9, zq10, zq11, zq12] <;> omega) | rfl))))
                              conv => whnf
                              refine ⟨[0, 1, 2, 3], tmk 145 0 ((fun s : Bool => [(0, .slc 0 13 0 l.length), (1, .slc 1 1 0 l.length), (2, .v (.int .i64 a)), (3, .v (.int .i64 b)), (9, .ptr 2 0 0 0), (10, .ptr 3 0 0 0), (11, .slc 0 13 (a + 1) (b - (a + 1))), (95, .v (.bool s))]) (w7 x y)), (fun s : Bool => wHp o e l o2 ps x y) (w7 x y), ?_⟩
                              repeat ((conv => whnf); (first | refine Cnd.yes ?_ | refine Cnd.no ?_ | refine And.intro rfl ?_ | refine And.intro (by omega) ?_ | (refine And.intro ?_ ?_; focus (simp only [IntKind.wrap_i64, IntKind.wrap_u64, IntKind.wrap_u32]; omega)) | (refine And.intro ?_ ?_; focus (simp only [zl1, zl2, zl3, zl4, zl5, zl6, zl7, zl8, zl9] <;> omega)) | refine Alt.std ?_))
                              conv => whnf
                              refine ⟨by rw [hW], ?_⟩
                              repeat ((conv => whnf); (first | refine Cnd.yes ?_ | refine Cnd.no ?_ | refine And.intro rfl ?_ | refine And.intro (by omega) ?_ | (refine And.intro ?_ ?_; focus (simp only [IntKind.wrap_i64, IntKind.wrap_u64, IntKind.wrap_u32]; omega)) | (refine And.intro ?_ ?_; focus (simp only [zl1, zl2, zl3, zl4, zl5, zl6, zl7, zl8, zl9] <;> omega)) | refine Alt.std ?_))
                              conv => whnf
                              exact ⟨w7 x y, rfl, rfl, (tmkK_eq _ _ _ _).mpr rfl, rfl⟩
                          · rintro tm hp M1 ⟨v7, hC_, rfl, htm, hhp_⟩
                            replace hC_ : v7 = w7 x y := hC_
                            have h7 := hC_
                            replace htm : tmkK 145 0 [(0, .slc 0 13 0 l.length), (1, .slc 1 1 0 l.length), (2, .v (.int .i64 a)), (3, .v (.int .i64 b)), (9, .ptr 2 0 0 0), (10, .ptr 3 0 0 0), (11, .slc 0 13 (a + 1) (b - (a + 1))), (95, .v (.bool v7))] (fun l => tm = l) := htm
                            conv at htm => whnf
                            subst htm
                            replace hhp_ : hp = wHp o e l o2 ps x y := hhp_
                            subst hhp_
                            rw [← h7] at hK
                            cases v7 with
                            | true =>
                              repeat ((conv => whnf); (first | refine Cnd.yes ?_ | refine Cnd.no ?_ | refine And.intro rfl ?_ | refine And.intro (by omega) ?_ | (refine And.intro ?_ ?_; focus (simp only [IntKind.wrap_i64, IntKind.wrap_u64, IntKind.wrap_u32]; omega)) | (refine And.intro ?_ ?_; focus (simp only [zl1, zl2, zl3, zl4, zl5, zl6, zl7, zl8, zl9] <;> omega)) | refine Alt.std ?_ | (refine Cnd.tt ?_ ?_; focus (first | (apply decide_eq_true; omega) | (simp only [zq1, zq2, zq3, zq4, zq5, zq6, zq7, zq8, zq9, zq10, zq11, zq12] <;> omega) | rfl)) | (refine Cnd.ff ?_ ?_; focus (first | (apply decide_eq_false; omega) | (simp only [zq1, zq2, zq3, zq4, zq5, zq6, zq7, zq8, zq9, zq10, zq11, zq12] <;> omega) | rfl))))
                              conv => whnf
                              refine ⟨[0, 1], .v (.int .i64 7), [.row o e ock (l.map orow), .row o2 3 [.int .i64] (ps.map irow)], ?_⟩
                              repeat ((conv => whnf); (first | refine Cnd.yes ?_ | refine Cnd.no ?_ | refine And.intro rfl ?_ | refine And.intro (by omega) ?_ | (refine And.intro ?_ ?_; focus (simp only [IntKind.wrap_i64, IntKind.wrap_u64, IntKind.wrap_u32]; omega)) | (refine And.intro ?_ ?_; focus (simp only [zl1, zl2, zl3, zl4, zl5, zl6, zl7, zl8, zl9] <;> omega)) | refine Alt.std ?_))
                              conv => whnf
                              exact hK
                            | false =>
                              repeat ((conv => whnf); (first | refine Cnd.yes ?_ | refine Cnd.no ?_ | refine And.intro rfl ?_ | refine And.intro (by omega) ?_ | (refine And.intro ?_ ?_; focus (simp only [IntKind.wrap_i64, IntKind.wrap_u64, IntKind.wrap_u32]; omega)) | (refine And.intro ?_ ?_; focus (simp only [zl1, zl2, zl3, zl4, zl5, zl6, zl7, zl8, zl9] <;> omega)) | refine Alt.std ?_ | (refine Cnd.tt ?_ ?_; focus (first | (apply decide_eq_true; omega) | (simp only [zq1, zq2, zq3, zq4, zq5, zq6, zq7, zq8, zq9, zq10, zq11, zq12] <;> omega) | rfl)) | (refine Cnd.ff ?_ ?_; focus (first | (apply decide_eq_false; omega) | (simp only [zq1, zq2, zq3, zq4, zq5, zq6, zq7, zq8, zq9, zq10, zq11, zq12] <;> omega) | rfl))))
                              conv => whnf
                              rw [e8]
                              cases h8 : (ps.getD b 0 == (a : Int)) with
                              | true =>
                                rw [h8] at hK
                                repeat ((conv => whnf); (first | refine Cnd.yes ?_ | refine Cnd.no ?_ | refine And.intro rfl ?_ | refine And.intro (by omega) ?_ | (refine And.intro ?_ ?_; focus (simp only [IntKind.wrap_i64, IntKind.wrap_u64, IntKind.wrap_u32]; omega)) | (refine And.intro ?_ ?_; focus (simp only [zl1, zl2, zl3, zl4, zl5, zl6, zl7, zl8, zl9] <;> omega)) | refine Alt.std ?_ | (refine Cnd.tt ?_ ?_; focus (first | (apply decide_eq_true; omega) | (simp only [zq1, zq2, zq3, zq4, zq5, zq6, zq7, zq8, zq9, zq10, zq11, zq12] <;> omega) | rfl)) | (refine Cnd.ff ?_ ?_; focus (first | (apply decide_eq_false; omega) | (simp only [zq1, zq2, zq3, zq4, zq5, zq6, zq7, zq8, zq9, zq10, zq11, zq12] <;> omega) | rfl))))
                                conv => whnf
                                refine ⟨[0, 1], .v (.int .i64 8), [.row o e ock (l.map orow), .row o2 3 [.int .i64] (ps.map irow)], ?_⟩
                                repeat ((conv => whnf); (first | refine Cnd.yes ?_ | refine Cnd.no ?_ | refine And.intro rfl ?_ | refine And.intro (by omega) ?_ | (refine And.intro ?_ ?_; focus (simp only [IntKind.wrap_i64, IntKind.wrap_u64, IntKind.wrap_u32]; omega)) | (refine And.intro ?_ ?_; focus (simp only [zl1, zl2, zl3, zl4, zl5, zl6, zl7, zl8, zl9] <;> omega)) | refine Alt.std ?_))
                                conv => whnf
                                exact hK
                              | false =>
                                rw [h8] at hK
                                repeat ((conv => whnf); (first | refine Cnd.yes ?_ | refine Cnd.no ?_ | refine And.intro rfl ?_ | refine And.intro (by omega) ?_ | (refine And.intro ?_ ?_; focus (simp only [IntKind.wrap_i64, IntKind.wrap_u64, IntKind.wrap_u32]; omega)) | (refine And.intro ?_ ?_; focus (simp only [zl1, zl2, zl3, zl4, zl5, zl6, zl7, zl8, zl9] <;> omega)) | refine Alt.std ?_ | (refine Cnd.tt ?_ ?_; focus (first | (apply decide_eq_true; omega) | (simp only [zq1, zq2, zq3, zq4, zq5, zq6, zq7, zq8, zq9, zq10, zq11, zq12] <;> omega) | rfl)) | (refine Cnd.ff ?_ ?_; focus (first | (apply decide_eq_false; omega) | (simp only [zq1, zq2, zq3, zq4, zq5, zq6, zq7, zq8, zq9, zq10, zq11, zq12] <;> omega) | rfl))))
                                conv => whnf
                                refine ⟨y.ya, ra, _, _, rfl, hRa, ?_⟩
                                repeat ((conv => whnf); (first | refine Cnd.yes ?_ | refine Cnd.no ?_ | refine And.intro rfl ?_ | refine And.intro (by omega) ?_ | (refine And.intro ?_ ?_; focus (simp only [IntKind.wrap_i64, IntKind.wrap_u64, IntKind.wrap_u32]; omega)) | (refine And.intro ?_ ?_; focus (simp only [zl1, zl2, zl3, zl4, zl5, zl6, zl7, zl8, zl9] <;> omega)) | refine Alt.std ?_ | (refine Cnd.tt ?_ ?_; focus (first | (apply decide_eq_true; omega) | (simp only [zq1, zq2, zq3, zq4, zq5, zq6, zq7, zq8, zq9, zq10, zq11, zq12] <;> omega) | rfl)) | (refine Cnd.ff ?_ ?_; focus (first | (apply decide_eq_false; omega) | (simp only [zq1, zq2, zq3, zq4, zq5, zq6, zq7, zq8, zq9, zq10, zq11, zq12] <;> omega) | rfl))))
                                conv => whnf
                                refine ⟨false, ra, y.da, a, by simp, rfl, hDy.2.1, ?_⟩
                                cases h9 : decide ((a : Int) ∈ y.da) with
                                | true =>
                                  rw [h9] at hK
                                  repeat ((conv => whnf); (first | refine Cnd.yes ?_ | refine Cnd.no ?_ | refine And.intro rfl ?_ | refine And.intro (by omega) ?_ | (refine And.intro ?_ ?_; focus (simp only [IntKind.wrap_i64, IntKind.wrap_u64, IntKind.wrap_u32]; omega)) | (refine And.intro ?_ ?_; focus (simp only [zl1, zl2, zl3, zl4, zl5, zl6, zl7, zl8, zl9] <;> omega)) | refine Alt.std ?_ | (refine Cnd.tt ?_ ?_; focus (first | (apply decide_eq_true; omega) | (simp only [zq1, zq2, zq3, zq4, zq5, zq6, zq7, zq8, zq9, zq10, zq11, zq12] <;> omega) | rfl)) | (refine Cnd.ff ?_ ?_; focus (first | (apply decide_eq_false; omega) | (simp only [zq1, zq2, zq3, zq4, zq5, zq6, zq7, zq8, zq9, zq10, zq11, zq12] <;> omega) | rfl))))
                                  conv => whnf
                                  refine ⟨[0, 1], .v (.int .i64 9), [.row o e ock (l.map orow), .row o2 3 [.int .i64] (ps.map irow)], ?_⟩
                                  repeat ((conv => whnf); (first | refine Cnd.yes ?_ | refine Cnd.no ?_ | refine And.intro rfl ?_ | refine And.intro (by omega) ?_ | (refine And.intro ?_ ?_; focus (simp only [IntKind.wrap_i64, IntKind.wrap_u64, IntKind.wrap_u32]; omega)) | (refine And.intro ?_ ?_; focus (simp only [zl1, zl2, zl3, zl4, zl5, zl6, zl7, zl8, zl9] <;> omega)) | refine Alt.std ?_))
                                  conv => whnf
                                  exact hK
                                | false =>
                                  rw [h9] at hK
                                  repeat ((conv => whnf); (first | refine Cnd.yes ?_ | refine Cnd.no ?_ | refine And.intro rfl ?_ | refine And.intro (by omega) ?_ | (refine And.intro ?_ ?_; focus (simp only [IntKind.wrap_i64, IntKind.wrap_u64, IntKind.wrap_u32]; omega)) | (refine And.intro ?_ ?_; focus (simp only [zl1, zl2, zl3, zl4, zl5, zl6, zl7, zl8, zl9] <;> omega)) | refine Alt.std ?_ | (refine Cnd.tt ?_ ?_; focus (first | (apply decide_eq_true; omega) | (simp only [zq1, zq2, zq3, zq4, zq5, zq6, zq7, zq8, zq9, zq10, zq11, zq12] <;> omega) | rfl)) | (refine Cnd.ff ?_ ?_; focus (first | (apply decide_eq_false; omega) | (simp only [zq1, zq2, zq3, zq4, zq5, zq6, zq7, zq8, zq9, zq10, zq11, zq12] <;> omega) | rfl))))
                                  conv => whnf
                                  refine ⟨y.yd, rb, _, _, rfl, hRd, ?_⟩
                                  repeat ((conv => whnf); (first | refine Cnd.yes ?_ | refine Cnd.no ?_ | refine And.intro rfl ?_ | refine And.intro (by omega) ?_ | (refine And.intro ?_ ?_; focus (simp only [IntKind.wrap_i64, IntKind.wrap_u64, IntKind.wrap_u32]; omega)) | (refine And.intro ?_ ?_; focus (simp only [zl1, zl2, zl3, zl4, zl5, zl6, zl7, zl8, zl9] <;> omega)) | refine Alt.std ?_ | (refine Cnd.tt ?_ ?_; focus (first | (apply decide_eq_true; omega) | (simp only [zq1, zq2, zq3, zq4, zq5, zq6, zq7, zq8, zq9, zq10, zq11, zq12] <;> omega) | rfl)) | (refine Cnd.ff ?_ ?_; focus (first | (apply decide_eq_false; omega) | (simp only [zq1, zq2, zq3, zq4, zq5, zq6, zq7, zq8, zq9, zq10, zq11, zq12] <;> omega) | rfl))))
                                  conv => whnf
                                  refine ⟨false, rb, y.dd, a, by simp, rfl, hDy.2.2.1, ?_⟩
                                  cases h10 : decide ((a : Int) ∈ y.dd) with
                                  | true =>
                                    rw [h10] at hK
                                    repeat ((conv => whnf); (first | refine Cnd.yes ?_ | refine Cnd.no ?_ | refine And.intro rfl ?_ | refine And.intro (by omega) ?_ | (refine And.intro ?_ ?_; focus (simp only [IntKind.wrap_i64, IntKind.wrap_u64, IntKind.wrap_u32]; omega)) | (refine And.intro ?_ ?_; focus (simp only [zl1, zl2, zl3, zl4, zl5, zl6, zl7, zl8, zl9] <;> omega)) | refine Alt.std ?_ | (refine Cnd.tt ?_ ?_; focus (first | (apply decide_eq_true; omega) | (simp only [zq1, zq2, zq3, zq4, zq5, zq6, zq7, zq8, zq9, zq10, zq11, zq12] <;> omega) | rfl)) | (refine Cnd.ff ?_ ?_; focus (first | (apply decide_eq_false; omega) | (simp only [zq1, zq2, zq3, zq4, zq5, zq6, zq7, zq8, zq9, zq10, zq11, zq12] <;> omega) | rfl))))
                                    conv => whnf
                                    refine ⟨[0, 1], .v (.int .i64 10), [.row o e ock (l.map orow), .row o2 3 [.int .i64] (ps.map irow)], ?_⟩
                                    repeat ((conv => whnf); (first | refine Cnd.yes ?_ | refine Cnd.no ?_ | refine And.intro rfl ?_ | refine And.intro (by omega) ?_ | (refine And.intro ?_ ?_; focus (simp only [IntKind.wrap_i64, IntKind.wrap_u64, IntKind.wrap_u32]; omega)) | (refine And.intro ?_ ?_; focus (simp only [zl1, zl2, zl3, zl4, zl5, zl6, zl7, zl8, zl9] <;> omega)) | refine Alt.std ?_))
                                    conv => whnf
                                    exact hK
                                  | false =>
                                    rw [h10] at hK
                                    repeat ((conv => whnf); (first | refine Cnd.yes ?_ | refine Cnd.no ?_ | refine And.intro rfl ?_ | refine And.intro (by omega) ?_ | (refine And.intro ?_ ?_; focus (simp only [IntKind.wrap_i64, IntKind.wrap_u64, IntKind.wrap_u32]; omega)) | (refine And.intro ?_ ?_; focus (simp only [zl1, zl2, zl3, zl4, zl5, zl6, zl7, zl8, zl9] <;> omega)) | refine Alt.std ?_ | (refine Cnd.tt ?_ ?_; focus (first | (apply decide_eq_true; omega) | (simp only [zq1, zq2, zq3, zq4, zq5, zq6, zq7, zq8, zq9, zq10, zq11, zq12] <;> omega) | rfl)) | (refine Cnd.ff ?_ ?_; focus (first | (apply decide_eq_false; omega) | (simp only [zq1, zq2, zq3, zq4, zq5, zq6, zq7, zq8, zq9, zq10, zq11, zq12] <;> omega) | rfl))))
                                    conv => whnf
                                    refine ⟨InvC 145 (fun s : Bool => s = w11 a y) (fun s : Bool => [(0, .slc 0 13 0 l.length), (1, .slc 1 1 0 l.length), (2, .v (.int .i64 a)), (3, .v (.int .i64 b)), (9, .ptr 2 0 0 0), (10, .ptr 3 0 0 0), (11, .slc 0 13 (a + 1) (b - (a + 1))), (119, .v (.bool s))]) (fun s : Bool => wHp o e l o2 ps x y) M1, ?_, ?_⟩
                                    · have hW : w11 a y = (wr y && decide ((a : Int) ∈ y.dc)) := rfl
                                      repeat ((conv => whnf); (first | refine Cnd.yes ?_ | refine Cnd.no ?_ | refine And.intro rfl ?_ | refine And.intro (by omega) ?_ | (refine And.intro ?_ ?_; focus (simp only [IntKind.wrap_i64, IntKind.wrap_u64, IntKind.wrap_u32]; omega)) | (refine And.intro ?_ ?_; focus (simp only [zl1, zl2, zl3, zl4, zl5, zl6, zl7, zl8, zl9] <;> omega)) | refine Alt.std ?_ | (refine Cnd.tt ?_ ?_; focus (first | (apply decide_eq_true; omega) | (simp only [zq1, zq2, zq3, zq4, zq5, zq6, zq7, zq8, zq9, zq10, zq11, zq12] <;> omega) | rfl)) | (refine Cnd.ff ?_ ?_; focus (first | (apply decide_eq_false; omega) | (simp only [zq1, zq2, zq3, zq4, zq5, zq6, zq7, zq8, zq9, zq10, zq11, zq12] <;> omega) | rfl))))
                                      conv => whnf
                                      refine ⟨y, rfl, rfl, ?_⟩
                                      cases q1 : wr y with
                                      | true =>
                                        rw [q1, Bool.true_and] at hW
                                        repeat ((conv => whnf); (first | refine Cnd.yes ?_ | refine Cnd.no ?_ | refine And.intro rfl ?_ | refine And.intro (by omega) ?_ | (refine And.intro ?_ ?_; focus (simp only [IntKind.wrap_i64, IntKind.wrap_u64, IntKind.wrap_u32]; omega)) | (refine And.intro ?_ ?_; focus (simp only [zl1, zl2, zl3, zl4, zl5, zl6, zl7, zl8, zl9] <;> omega)) | refine Alt.std ?_ | (refine Cnd.tt ?_ ?_; focus (first | (apply decide_eq_true; omega) | (simp only [zq1, zq2, zq3, zq4, zq5, zq6, zq7, zq8, zq9, zq10, zq11, zq12] <;> omega) | rfl)) | (refine Cnd.ff ?_ ?_; focus (first | (apply decide_eq_false; omega) | (simp only [zq1, zq2, zq3, zq4, zq5, zq6, zq7, zq8, zq9, zq10, zq11, zq12] <;> omega) | rfl))))
                                        conv => whnf
                                        refine ⟨y.yc, rc, _, _, rfl, hRc, ?_⟩
                                        repeat ((conv => whnf); (first | refine Cnd.yes ?_ | refine Cnd.no ?_ | refine And.intro rfl ?_ | refine And.intro (by omega) ?_ | (refine And.intro ?_ ?_; focus (simp only [IntKind.wrap_i64, IntKind.wrap_u64, IntKind.wrap_u32]; omega)) | (refine And.intro ?_ ?_; focus (simp only [zl1, zl2, zl3, zl4, zl5, zl6, zl7, zl8, zl9] <;> omega)) | refine Alt.std ?_ | (refine Cnd.tt ?_ ?_; focus (first | (apply decide_eq_true; omega) | (simp only [zq1, zq2, zq3, zq4, zq5, zq6, zq7, zq8, zq9, zq10, zq11, zq12] <;> omega) | rfl)) | (refine Cnd.ff ?_ ?_; focus (first | (apply decide_eq_false; omega) | (simp only [zq1, zq2, zq3, zq4, zq5, zq6, zq7, zq8, zq9, zq10, zq11, zq12] <;> omega) | rfl))))
                                        conv => whnf
                                        refine ⟨false, rc, y.dc, a, by simp, rfl, hDy.2.2.2, ?_⟩
                                        repeat ((conv => whnf); (first | refine Cnd.yes ?_ | refine Cnd.no ?_ | refine And.intro rfl ?_ | refine And.intro (by omega) ?_ | (refine And.intro ?_ ?_; focus (simp only [IntKind.wrap_i64, IntKind.wrap_u64, IntKind.wrap_u32]; omega)) | (refine And.intro ?_ ?_; focus (simp only [zl1, zl2, zl3, zl4, zl5, zl6, zl7, zl8, zl9] <;> omega)) | refine Alt.std ?_ | (refine Cnd.tt ?_ ?_; focus (first | (apply decide_eq_true; omega) | (simp only [zq1, zq2, zq3, zq4, zq5, zq6, zq7, zq8, zq9, zq10, zq11, zq12] <;> omega) | rfl)) | (refine Cnd.ff ?_ ?_; focus (first | (apply decide_eq_false; omega) | (simp only [zq1, zq2, zq3, zq4, zq5, zq6, zq7, zq8, zq9, zq10, zq11, zq12] <;> omega) | rfl))))
                                        conv => whnf
                                        refine ⟨[0, 1, 2, 3], tmk 145 0 ((fun s : Bool => [(0, .slc 0 13 0 l.length), (1, .slc 1 1 0 l.length), (2, .v (.int .i64 a)), (3, .v (.int .i64 b)), (9, .ptr 2 0 0 0), (10, .ptr 3 0 0 0), (11, .slc 0 13 (a + 1) (b - (a + 1))), (119, .v (.bool s))]) (w11 a y)), (fun s : Bool => wHp o e l o2 ps x y) (w11 a y), ?_⟩
                                        repeat ((conv => whnf); (first | refine Cnd.yes ?_ | refine Cnd.no ?_ | refine And.intro rfl ?_ | refine And.intro (by omega) ?_ | (refine And.intro ?_ ?_; focus (simp only [IntKind.wrap_i64, IntKind.wrap_u64, IntKind.wrap_u32]; omega)) | (refine And.intro ?_ ?_; focus (simp only [zl1, zl2, zl3, zl4, zl5, zl6, zl7, zl8, zl9] <;> omega)) | refine Alt.std ?_))
                                        conv => whnf
                                        refine ⟨by rw [hW], ?_⟩
                                        repeat ((conv => whnf); (first | refine Cnd.yes ?_ | refine Cnd.no ?_ | refine And.intro rfl ?_ | refine And.intro (by omega) ?_ | (refine And.intro ?_ ?_; focus (simp only [IntKind.wrap_i64, IntKind.wrap_u64, IntKind.wrap_u32]; omega)) | (refine And.intro ?_ ?_; focus (simp only [zl1, zl2, zl3, zl4, zl5, zl6, zl7, zl8, zl9] <;> omega)) | refine Alt.std ?_))
                                        conv => whnf
                                        exact ⟨w11 a y, rfl, rfl, (tmkK_eq _ _ _ _).mpr rfl, rfl⟩
                                      | false =>
                                        rw [q1, Bool.false_and] at hW
                                        repeat ((conv => whnf); (first | refine Cnd.yes ?_ | refine Cnd.no ?_ | refine And.intro rfl ?_ | refine And.intro (by omega) ?_ | (refine And.intro ?_ ?_; focus (simp only [IntKind.wrap_i64, IntKind.wrap_u64, IntKind.wrap_u32]; omega)) | (refine And.intro ?_ ?_; focus (simp only [zl1, zl2, zl3, zl4, zl5, zl6, zl7, zl8, zl9] <;> omega)) | refine Alt.std ?_ | (refine Cnd.tt ?_ ?_; focus (first | (apply decide_eq_true; omega) | (simp only [zq1, zq2, zq3, zq4, zq5, zq6, zq7, zq8, zq9, zq10, zq11, zq12] <;> omega) | rfl)) | (refine Cnd.ff ?_ ?_; focus (first | (apply decide_eq_false; omega) | (simp only [zq1, zq2, zq3, zq4, zq5, zq6, zq7, zq8, zq9, zq10, zq11, zq12] <;> omega) | rfl))))
                                        conv => whnf
                                        refine ⟨[0, 1, 2, 3], tmk 145 0 ((fun s : Bool => [(0, .slc 0 13 0 l.length), (1, .slc 1 1 0 l.length), (2, .v (.int .i64 a)), (3, .v (.int .i64 b)), (9, .ptr 2 0 0 0), (10, .ptr 3 0 0 0), (11, .slc 0 13 (a + 1) (b - (a + 1))), (119, .v (.bool s))]) (w11 a y)), (fun s : Bool => wHp o e l o2 ps x y) (w11 a y), ?_⟩
                                        repeat ((conv => whnf); (first | refine Cnd.yes ?_ | refine Cnd.no ?_ | refine And.intro rfl ?_ | refine And.intro (by omega) ?_ | (refine And.intro ?_ ?_; focus (simp only [IntKind.wrap_i64, IntKind.wrap_u64, IntKind.wrap_u32]; omega)) | (refine And.intro ?_ ?_; focus (simp only [zl1, zl2, zl3, zl4, zl5, zl6, zl7, zl8, zl9] <;> omega)) | refine Alt.std ?_))
                                        conv => whnf
                                        refine ⟨by rw [hW], ?_⟩
                                        repeat ((conv => whnf); (first | refine Cnd.yes ?_ | refine Cnd.no ?_ | refine And.intro rfl ?_ | refine And.intro (by omega) ?_ | (refine And.intro ?_ ?_; focus (simp only [IntKind.wrap_i64, IntKind.wrap_u64, IntKind.wrap_u32]; omega)) | (refine And.intro ?_ ?_; focus (simp only [zl1, zl2, zl3, zl4, zl5, zl6, zl7, zl8, zl9] <;> omega)) | refine Alt.std ?_))
                                        conv => whnf
                                        exact ⟨w11 a y, rfl, rfl, (tmkK_eq _ _ _ _).mpr rfl, rfl⟩
                                    · rintro tm hp M1 ⟨v11, hC_, rfl, htm, hhp_⟩
                                      replace hC_ : v11 = w11 a y := hC_
                                      have h11 := hC_
                                      replace htm : tmkK 145 0 [(0, .slc 0 13 0 l.length), (1, .slc 1 1 0 l.length), (2, .v (.int .i64 a)), (3, .v (.int .i64 b)), (9, .ptr 2 0 0 0), (10, .ptr 3 0 0 0), (11, .slc 0 13 (a + 1) (b - (a + 1))), (119, .v (.bool v11))] (fun l => tm = l) := htm
                                      conv at htm => whnf
                                      subst htm
                                      replace hhp_ : hp = wHp o e l o2 ps x y := hhp_
                                      subst hhp_
                                      rw [← h11] at hK
                                      cases v11 with
                                      | true =>
                                        repeat ((conv => whnf); (first | refine Cnd.yes ?_ | refine Cnd.no ?_ | refine And.intro rfl ?_ | refine And.intro (by omega) ?_ | (refine And.intro ?_ ?_; focus (simp only [IntKind.wrap_i64, IntKind.wrap_u64, IntKind.wrap_u32]; omega)) | (refine And.intro ?_ ?_; focus (simp only [zl1, zl2, zl3, zl4, zl5, zl6, zl7, zl8, zl9] <;> omega)) | refine Alt.std ?_ | (refine Cnd.tt ?_ ?_; focus (first | (apply decide_eq_true; omega) | (simp only [zq1, zq2, zq3, zq4, zq5, zq6, zq7, zq8, zq9, zq10, zq11, zq12] <;> omega) | rfl)) | (refine Cnd.ff ?_ ?_; focus (first | (apply decide_eq_false; omega) | (simp only [zq1, zq2, zq3, zq4, zq5, zq6, zq7, zq8, zq9, zq10, zq11, zq12] <;> omega) | rfl))))
                                        conv => whnf
                                        refine ⟨[0, 1], .v (.int .i64 11), [.row o e ock (l.map orow), .row o2 3 [.int .i64] (ps.map irow)], ?_⟩
                                        repeat ((conv => whnf); (first | refine Cnd.yes ?_ | refine Cnd.no ?_ | refine And.intro rfl ?_ | refine And.intro (by omega) ?_ | (refine And.intro ?_ ?_; focus (simp only [IntKind.wrap_i64, IntKind.wrap_u64, IntKind.wrap_u32]; omega)) | (refine And.intro ?_ ?_; focus (simp only [zl1, zl2, zl3, zl4, zl5, zl6, zl7, zl8, zl9] <;> omega)) | refine Alt.std ?_))
                                        conv => whnf
                                        exact hK
                                      | false =>
                                        repeat ((conv => whnf); (first | refine Cnd.yes ?_ | refine Cnd.no ?_ | refine And.intro rfl ?_ | refine And.intro (by omega) ?_ | (refine And.intro ?_ ?_; focus (simp only [IntKind.wrap_i64, IntKind.wrap_u64, IntKind.wrap_u32]; omega)) | (refine And.intro ?_ ?_; focus (simp only [zl1, zl2, zl3, zl4, zl5, zl6, zl7, zl8, zl9] <;> omega)) | refine Alt.std ?_ | (refine Cnd.tt ?_ ?_; focus (first | (apply decide_eq_true; omega) | (simp only [zq1, zq2, zq3, zq4, zq5, zq6, zq7, zq8, zq9, zq10, zq11, zq12] <;> omega) | rfl)) | (refine Cnd.ff ?_ ?_; focus (first | (apply decide_eq_false; omega) | (simp only [zq1, zq2, zq3, zq4, zq5, zq6, zq7, zq8, zq9, zq10, zq11, zq12] <;> omega) | rfl))))
                                        conv => whnf
                                        refine ⟨InvC 145 (fun s : Bool => s = w12 l a b y) (fun s : Bool => [(0, .slc 0 13 0 l.length), (1, .slc 1 1 0 l.length), (2, .v (.int .i64 a)), (3, .v (.int .i64 b)), (9, .ptr 2 0 0 0), (10, .ptr 3 0 0 0), (11, .slc 0 13 (a + 1) (b - (a + 1))), (128, .v (.bool s))]) (fun s : Bool => wHp o e l o2 ps x y) M1, ?_, ?_⟩
                                        · have hW : w12 l a b y = (rd y && thB l a b) := rfl
                                          repeat ((conv => whnf); (first | refine Cnd.yes ?_ | refine Cnd.no ?_ | refine And.intro rfl ?_ | refine And.intro (by omega) ?_ | (refine And.intro ?_ ?_; focus (simp only [IntKind.wrap_i64, IntKind.wrap_u64, IntKind.wrap_u32]; omega)) | (refine And.intro ?_ ?_; focus (simp only [zl1, zl2, zl3, zl4, zl5, zl6, zl7, zl8, zl9] <;> omega)) | refine Alt.std ?_ | (refine Cnd.tt ?_ ?_; focus (first | (apply decide_eq_true; omega) | (simp only [zq1, zq2, zq3, zq4, zq5, zq6, zq7, zq8, zq9, zq10, zq11, zq12] <;> omega) | rfl)) | (refine Cnd.ff ?_ ?_; focus (first | (apply decide_eq_false; omega) | (simp only [zq1, zq2, zq3, zq4, zq5, zq6, zq7, zq8, zq9, zq10, zq11, zq12] <;> omega) | rfl))))
                                          conv => whnf
                                          refine ⟨y, rfl, rfl, ?_⟩
                                          cases q1 : rd y with
                                          | true =>
                                            rw [q1, Bool.true_and] at hW
                                            repeat ((conv => whnf); (first | refine Cnd.yes ?_ | refine Cnd.no ?_ | refine And.intro rfl ?_ | refine And.intro (by omega) ?_ | (refine And.intro ?_ ?_; focus (simp only [IntKind.wrap_i64, IntKind.wrap_u64, IntKind.wrap_u32]; omega)) | (refine And.intro ?_ ?_; focus (simp only [zl1, zl2, zl3, zl4, zl5, zl6, zl7, zl8, zl9] <;> omega)) | refine Alt.std ?_ | (refine Cnd.tt ?_ ?_; focus (first | (apply decide_eq_true; omega) | (simp only [zq1, zq2, zq3, zq4, zq5, zq6, zq7, zq8, zq9, zq10, zq11, zq12] <;> omega) | rfl)) | (refine Cnd.ff ?_ ?_; focus (first | (apply decide_eq_false; omega) | (simp only [zq1, zq2, zq3, zq4, zq5, zq6, zq7, zq8, zq9, zq10, zq11, zq12] <;> omega) | rfl))))
                                            conv => whnf
                                            refine ⟨o, e, l, a, b, rfl, rfl, hab, hbl, hl, hF, hD, ?_⟩
                                            repeat ((conv => whnf); (first | refine Cnd.yes ?_ | refine Cnd.no ?_ | refine And.intro rfl ?_ | refine And.intro (by omega) ?_ | (refine And.intro ?_ ?_; focus (simp only [IntKind.wrap_i64, IntKind.wrap_u64, IntKind.wrap_u32]; omega)) | (refine And.intro ?_ ?_; focus (simp only [zl1, zl2, zl3, zl4, zl5, zl6, zl7, zl8, zl9] <;> omega)) | refine Alt.std ?_ | (refine Cnd.tt ?_ ?_; focus (first | (apply decide_eq_true; omega) | (simp only [zq1, zq2, zq3, zq4, zq5, zq6, zq7, zq8, zq9, zq10, zq11, zq12] <;> omega) | rfl)) | (refine Cnd.ff ?_ ?_; focus (first | (apply decide_eq_false; omega) | (simp only [zq1, zq2, zq3, zq4, zq5, zq6, zq7, zq8, zq9, zq10, zq11, zq12] <;> omega) | rfl))))
                                            conv => whnf
                                            refine ⟨[0, 1, 2, 3], tmk 145 0 ((fun s : Bool => [(0, .slc 0 13 0 l.length), (1, .slc 1 1 0 l.length), (2, .v (.int .i64 a)), (3, .v (.int .i64 b)), (9, .ptr 2 0 0 0), (10, .ptr 3 0 0 0), (11, .slc 0 13 (a + 1) (b - (a + 1))), (128, .v (.bool s))]) (w12 l a b y)), (fun s : Bool => wHp o e l o2 ps x y) (w12 l a b y), ?_⟩
                                            repeat ((conv => whnf); (first | refine Cnd.yes ?_ | refine Cnd.no ?_ | refine And.intro rfl ?_ | refine And.intro (by omega) ?_ | (refine And.intro ?_ ?_; focus (simp only [IntKind.wrap_i64, IntKind.wrap_u64, IntKind.wrap_u32]; omega)) | (refine And.intro ?_ ?_; focus (simp only [zl1, zl2, zl3, zl4, zl5, zl6, zl7, zl8, zl9] <;> omega)) | refine Alt.std ?_))
                                            conv => whnf
                                            refine ⟨by rw [hW], ?_⟩
                                            repeat ((conv => whnf); (first | refine Cnd.yes ?_ | refine Cnd.no ?_ | refine And.intro rfl ?_ | refine And.intro (by omega) ?_ | (refine And.intro ?_ ?_; focus (simp only [IntKind.wrap_i64, IntKind.wrap_u64, IntKind.wrap_u32]; omega)) | (refine And.intro ?_ ?_; focus (simp only [zl1, zl2, zl3, zl4, zl5, zl6, zl7, zl8, zl9] <;> omega)) | refine Alt.std ?_))
                                            conv => whnf
                                            exact ⟨w12 l a b y, rfl, rfl, (tmkK_eq _ _ _ _).mpr rfl, rfl⟩
                                          | false =>
                                            rw [q1, Bool.false_and] at hW
                                            repeat ((conv => whnf); (first | refine Cnd.yes ?_ | refine Cnd.no ?_ | refine And.intro rfl ?_ | refine And.intro (by omega) ?_ | (refine And.intro ?_ ?_; focus (simp only [IntKind.wrap_i64, IntKind.wrap_u64, IntKind.wrap_u32]; omega)) | (refine And.intro ?_ ?_; focus (simp only [zl1, zl2, zl3, zl4, zl5, zl6, zl7, zl8, zl9] <;> omega)) | refine Alt.std ?_ | (refine Cnd.tt ?_ ?_; focus (first | (apply decide_eq_true; omega) | (simp only [zq1, zq2, zq3, zq4, zq5, zq6, zq7, zq8, zq9, zq10, zq11, zq12] <;> omega) | rfl)) | (refine Cnd.ff ?_ ?_; focus (first | (apply decide_eq_false; omega) | (simp only [zq1, zq2, zq3, zq4, zq5, zq6, zq7, zq8, zq9, zq10, zq11, zq12] <;> omega) | rfl))))
                                            conv => whnf
                                            refine ⟨[0, 1, 2, 3], tmk 145 0 ((fun s : Bool => [(0, .slc 0 13 0 l.length), (1, .slc 1 1 0 l.length), (2, .v (.int .i64 a)), (3, .v (.int .i64 b)), (9, .ptr 2 0 0 0), (10, .ptr 3 0 0 0), (11, .slc 0 13 (a + 1) (b - (a + 1))), (128, .v (.bool s))]) (w12 l a b y)), (fun s : Bool => wHp o e l o2 ps x y) (w12 l a b y), ?_⟩
                                            repeat ((conv => whnf); (first | refine Cnd.yes ?_ | refine Cnd.no ?_ | refine And.intro rfl ?_ | refine And.intro (by omega) ?_ | (refine And.intro ?_ ?_; focus (simp only [IntKind.wrap_i64, IntKind.wrap_u64, IntKind.wrap_u32]; omega)) | (refine And.intro ?_ ?_; focus (simp only [zl1, zl2, zl3, zl4, zl5, zl6, zl7, zl8, zl9] <;> omega)) | refine Alt.std ?_))
                                            conv => whnf
                                            refine ⟨by rw [hW], ?_⟩
                                            repeat ((conv => whnf); (first | refine Cnd.yes ?_ | refine Cnd.no ?_ | refine And.intro rfl ?_ | refine And.intro (by omega) ?_ | (refine And.intro ?_ ?_; focus (simp only [IntKind.wrap_i64, IntKind.wrap_u64, IntKind.wrap_u32]; omega)) | (refine And.intro ?_ ?_; focus (simp only [zl1, zl2, zl3, zl4, zl5, zl6, zl7, zl8, zl9] <;> omega)) | refine Alt.std ?_))
                                            conv => whnf
                                            exact ⟨w12 l a b y, rfl, rfl, (tmkK_eq _ _ _ _).mpr rfl, rfl⟩
                                        · rintro tm hp M1 ⟨v12, hC_, rfl, htm, hhp_⟩
                                          replace hC_ : v12 = w12 l a b y := hC_
                                          have h12 := hC_
                                          replace htm : tmkK 145 0 [(0, .slc 0 13 0 l.length), (1, .slc 1 1 0 l.length), (2, .v (.int .i64 a)), (3, .v (.int .i64 b)), (9, .ptr 2 0 0 0), (10, .ptr 3 0 0 0), (11, .slc 0 13 (a + 1) (b - (a + 1))), (128, .v (.bool v12))] (fun l => tm = l) := htm
                                          conv at htm => whnf
                                          subst htm
                                          replace hhp_ : hp = wHp o e l o2 ps x y := hhp_
                                          subst hhp_
                                          rw [← h12] at hK
                                          cases v12 with
                                          | true =>
                                            repeat ((conv => whnf); (first | refine Cnd.yes ?_ | refine Cnd.no ?_ | refine And.intro rfl ?_ | refine And.intro (by omega) ?_ | (refine And.intro ?_ ?_; focus (simp only [IntKind.wrap_i64, IntKind.wrap_u64, IntKind.wrap_u32]; omega)) | (refine And.intro ?_ ?_; focus (simp only [zl1, zl2, zl3, zl4, zl5, zl6, zl7, zl8, zl9] <;> omega)) | refine Alt.std ?_ | (refine Cnd.tt ?_ ?_; focus (first | (apply decide_eq_true; omega) | (simp only [zq1, zq2, zq3, zq4, zq5, zq6, zq7, zq8, zq9, zq10, zq11, zq12] <;> omega) | rfl)) | (refine Cnd.ff ?_ ?_; focus (first | (apply decide_eq_false; omega) | (simp only [zq1, zq2, zq3, zq4, zq5, zq6, zq7, zq8, zq9, zq10, zq11, zq12] <;> omega) | rfl))))
                                            conv => whnf
                                            refine ⟨[0, 1], .v (.int .i64 12), [.row o e ock (l.map orow), .row o2 3 [.int .i64] (ps.map irow)], ?_⟩
                                            repeat ((conv => whnf); (first | refine Cnd.yes ?_ | refine Cnd.no ?_ | refine And.intro rfl ?_ | refine And.intro (by omega) ?_ | (refine And.intro ?_ ?_; focus (simp only [IntKind.wrap_i64, IntKind.wrap_u64, IntKind.wrap_u32]; omega)) | (refine And.intro ?_ ?_; focus (simp only [zl1, zl2, zl3, zl4, zl5, zl6, zl7, zl8, zl9] <;> omega)) | refine Alt.std ?_))
                                            conv => whnf
                                            exact hK
                                          | false =>
                                            repeat ((conv => whnf); (first | refine Cnd.yes ?_ | refine Cnd.no ?_ | refine And.intro rfl ?_ | refine And.intro (by omega) ?_ | (refine And.intro ?_ ?_; focus (simp only [IntKind.wrap_i64, IntKind.wrap_u64, IntKind.wrap_u32]; omega)) | (refine And.intro ?_ ?_; focus (simp only [zl1, zl2, zl3, zl4, zl5, zl6, zl7, zl8, zl9] <;> omega)) | refine Alt.std ?_ | (refine Cnd.tt ?_ ?_; focus (first | (apply decide_eq_true; omega) | (simp only [zq1, zq2, zq3, zq4, zq5, zq6, zq7, zq8, zq9, zq10, zq11, zq12] <;> omega) | rfl)) | (refine Cnd.ff ?_ ?_; focus (first | (apply decide_eq_false; omega) | (simp only [zq1, zq2, zq3, zq4, zq5, zq6, zq7, zq8, zq9, zq10, zq11, zq12] <;> omega) | rfl))))
                                            conv => whnf
                                            refine ⟨InvC 145 (fun s : Bool => s = w13 l a b y) (fun s : Bool => [(0, .slc 0 13 0 l.length), (1, .slc 1 1 0 l.length), (2, .v (.int .i64 a)), (3, .v (.int .i64 b)), (9, .ptr 2 0 0 0), (10, .ptr 3 0 0 0), (11, .slc 0 13 (a + 1) (b - (a + 1))), (137, .v (.bool s))]) (fun s : Bool => wHp o e l o2 ps x y) M1, ?_, ?_⟩
                                            · have hW : w13 l a b y = (wr y && plB l (a + 1) (b - (a + 1)) a) := rfl
                                              repeat ((conv => whnf); (first | refine Cnd.yes ?_ | refine Cnd.no ?_ | refine And.intro rfl ?_ | refine And.intro (by omega) ?_ | (refine And.intro ?_ ?_; focus (simp only [IntKind.wrap_i64, IntKind.wrap_u64, IntKind.wrap_u32]; omega)) | (refine And.intro ?_ ?_; focus (simp only [zl1, zl2, zl3, zl4, zl5, zl6, zl7, zl8, zl9] <;> omega)) | refine Alt.std ?_ | (refine Cnd.tt ?_ ?_; focus (first | (apply decide_eq_true; omega) | (simp only [zq1, zq2, zq3, zq4, zq5, zq6, zq7, zq8, zq9, zq10, zq11, zq12] <;> omega) | rfl)) | (refine Cnd.ff ?_ ?_; focus (first | (apply decide_eq_false; omega) | (simp only [zq1, zq2, zq3, zq4, zq5, zq6, zq7, zq8, zq9, zq10, zq11, zq12] <;> omega) | rfl))))
                                              conv => whnf
                                              refine ⟨y, rfl, rfl, ?_⟩
                                              cases q1 : wr y with
                                              | true =>
                                                rw [q1, Bool.true_and] at hW
                                                repeat ((conv => whnf); (first | refine Cnd.yes ?_ | refine Cnd.no ?_ | refine And.intro rfl ?_ | refine And.intro (by omega) ?_ | (refine And.intro ?_ ?_; focus (simp only [IntKind.wrap_i64, IntKind.wrap_u64, IntKind.wrap_u32]; omega)) | (refine And.intro ?_ ?_; focus (simp only [zl1, zl2, zl3, zl4, zl5, zl6, zl7, zl8, zl9] <;> omega)) | refine Alt.std ?_ | (refine Cnd.tt ?_ ?_; focus (first | (apply decide_eq_true; omega) | (simp only [zq1, zq2, zq3, zq4, zq5, zq6, zq7, zq8, zq9, zq10, zq11, zq12] <;> omega) | rfl)) | (refine Cnd.ff ?_ ?_; focus (first | (apply decide_eq_false; omega) | (simp only [zq1, zq2, zq3, zq4, zq5, zq6, zq7, zq8, zq9, zq10, zq11, zq12] <;> omega) | rfl))))
                                                conv => whnf
                                                refine ⟨o, e, l, a + 1, b - (a + 1), a, rfl, rfl, by omega, hl, hF, hD, ?_⟩
                                                repeat ((conv => whnf); (first | refine Cnd.yes ?_ | refine Cnd.no ?_ | refine And.intro rfl ?_ | refine And.intro (by omega) ?_ | (refine And.intro ?_ ?_; focus (simp only [IntKind.wrap_i64, IntKind.wrap_u64, IntKind.wrap_u32]; omega)) | (refine And.intro ?_ ?_; focus (simp only [zl1, zl2, zl3, zl4, zl5, zl6, zl7, zl8, zl9] <;> omega)) | refine Alt.std ?_ | (refine Cnd.tt ?_ ?_; focus (first | (apply decide_eq_true; omega) | (simp only [zq1, zq2, zq3, zq4, zq5, zq6, zq7, zq8, zq9, zq10, zq11, zq12] <;> omega) | rfl)) | (refine Cnd.ff ?_ ?_; focus (first | (apply decide_eq_false; omega) | (simp only [zq1, zq2, zq3, zq4, zq5, zq6, zq7, zq8, zq9, zq10, zq11, zq12] <;> omega) | rfl))))
                                                conv => whnf
                                                refine ⟨[0, 1, 2, 3], tmk 145 0 ((fun s : Bool => [(0, .slc 0 13 0 l.length), (1, .slc 1 1 0 l.length), (2, .v (.int .i64 a)), (3, .v (.int .i64 b)), (9, .ptr 2 0 0 0), (10, .ptr 3 0 0 0), (11, .slc 0 13 (a + 1) (b - (a + 1))), (137, .v (.bool s))]) (w13 l a b y)), (fun s : Bool => wHp o e l o2 ps x y) (w13 l a b y), ?_⟩
                                                repeat ((conv => whnf); (first | refine Cnd.yes ?_ | refine Cnd.no ?_ | refine And.intro rfl ?_ | refine And.intro (by omega) ?_ | (refine And.intro ?_ ?_; focus (simp only [IntKind.wrap_i64, IntKind.wrap_u64, IntKind.wrap_u32]; omega)) | (refine And.intro ?_ ?_; focus (simp only [zl1, zl2, zl3, zl4, zl5, zl6, zl7, zl8, zl9] <;> omega)) | refine Alt.std ?_))
                                                conv => whnf
                                                refine ⟨by rw [hW], ?_⟩
                                                repeat ((conv => whnf); (first | refine Cnd.yes ?_ | refine Cnd.no ?_ | refine And.intro rfl ?_ | refine And.intro (by omega) ?_ | (refine And.intro ?_ ?_; focus (simp only [IntKind.wrap_i64, IntKind.wrap_u64, IntKind.wrap_u32]; omega)) | (refine And.intro ?_ ?_; focus (simp only [zl1, zl2, zl3, zl4, zl5, zl6, zl7, zl8, zl9] <;> omega)) | refine Alt.std ?_))
                                                conv => whnf
                                                exact ⟨w13 l a b y, rfl, rfl, (tmkK_eq _ _ _ _).mpr rfl, rfl⟩
                                              | false =>
                                                rw [q1, Bool.false_and] at hW
                                                repeat ((conv => whnf); (first | refine Cnd.yes ?_ | refine Cnd.no ?_ | refine And.intro rfl ?_ | refine And.intro (by omega) ?_ | (refine And.intro ?_ ?_; focus (simp only [IntKind.wrap_i64, IntKind.wrap_u64, IntKind.wrap_u32]; omega)) | (refine And.intro ?_ ?_; focus (simp only [zl1, zl2, zl3, zl4, zl5, zl6, zl7, zl8, zl9] <;> omega)) | refine Alt.std ?_ | (refine Cnd.tt ?_ ?_; focus (first | (apply decide_eq_true; omega) | (simp only [zq1, zq2, zq3, zq4, zq5, zq6, zq7, zq8, zq9, zq10, zq11, zq12] <;> omega) | rfl)) | (refine Cnd.ff ?_ ?_; focus (first | (apply decide_eq_false; omega) | (simp only [zq1, zq2, zq3, zq4, zq5, zq6, zq7, zq8, zq9, zq10, zq11, zq12] <;> omega) | rfl))))
                                                conv => whnf
                                                refine ⟨[0, 1, 2, 3], tmk 145 0 ((fun s : Bool => [(0, .slc 0 13 0 l.length), (1, .slc 1 1 0 l.length), (2, .v (.int .i64 a)), (3, .v (.int .i64 b)), (9, .ptr 2 0 0 0), (10, .ptr 3 0 0 0), (11, .slc 0 13 (a + 1) (b - (a + 1))), (137, .v (.bool s))]) (w13 l a b y)), (fun s : Bool => wHp o e l o2 ps x y) (w13 l a b y), ?_⟩
                                                repeat ((conv => whnf); (first | refine Cnd.yes ?_ | refine Cnd.no ?_ | refine And.intro rfl ?_ | refine And.intro (by omega) ?_ | (refine And.intro ?_ ?_; focus (simp only [IntKind.wrap_i64, IntKind.wrap_u64, IntKind.wrap_u32]; omega)) | (refine And.intro ?_ ?_; focus (simp only [zl1, zl2, zl3, zl4, zl5, zl6, zl7, zl8, zl9] <;> omega)) | refine Alt.std ?_))
                                                conv => whnf
                                                refine ⟨by rw [hW], ?_⟩
                                                repeat ((conv => whnf); (first | refine Cnd.yes ?_ | refine Cnd.no ?_ | refine And.intro rfl ?_ | refine And.intro (by omega) ?_ | (refine And.intro ?_ ?_; focus (simp only [IntKind.wrap_i64, IntKind.wrap_u64, IntKind.wrap_u32]; omega)) | (refine And.intro ?_ ?_; focus (simp only [zl1, zl2, zl3, zl4, zl5, zl6, zl7, zl8, zl9] <;> omega)) | refine Alt.std ?_))
                                                conv => whnf
                                                exact ⟨w13 l a b y, rfl, rfl, (tmkK_eq _ _ _ _).mpr rfl, rfl⟩
                                            · rintro tm hp M1 ⟨v13, hC_, rfl, htm, hhp_⟩
                                              replace hC_ : v13 = w13 l a b y := hC_
                                              have h13 := hC_
                                              replace htm : tmkK 145 0 [(0, .slc 0 13 0 l.length), (1, .slc 1 1 0 l.length), (2, .v (.int .i64 a)), (3, .v (.int .i64 b)), (9, .ptr 2 0 0 0), (10, .ptr 3 0 0 0), (11, .slc 0 13 (a + 1) (b - (a + 1))), (137, .v (.bool v13))] (fun l => tm = l) := htm
                                              conv at htm => whnf
                                              subst htm
                                              replace hhp_ : hp = wHp o e l o2 ps x y := hhp_
                                              subst hhp_
                                              rw [← h13] at hK
                                              cases v13 with
                                              | true =>
                                                repeat ((conv => whnf); (first | refine Cnd.yes ?_ | refine Cnd.no ?_ | refine And.intro rfl ?_ | refine And.intro (by omega) ?_ | (refine And.intro ?_ ?_; focus (simp only [IntKind.wrap_i64, IntKind.wrap_u64, IntKind.wrap_u32]; omega)) | (refine And.intro ?_ ?_; focus (simp only [zl1, zl2, zl3, zl4, zl5, zl6, zl7, zl8, zl9] <;> omega)) | refine Alt.std ?_ | (refine Cnd.tt ?_ ?_; focus (first | (apply decide_eq_true; omega) | (simp only [zq1, zq2, zq3, zq4, zq5, zq6, zq7, zq8, zq9, zq10, zq11, zq12] <;> omega) | rfl)) | (refine Cnd.ff ?_ ?_; focus (first | (apply decide_eq_false; omega) | (simp only [zq1, zq2, zq3, zq4, zq5, zq6, zq7, zq8, zq9, zq10, zq11, zq12] <;> omega) | rfl))))
                                                conv => whnf
                                                refine ⟨[0, 1], .v (.int .i64 13), [.row o e ock (l.map orow), .row o2 3 [.int .i64] (ps.map irow)], ?_⟩
                                                repeat ((conv => whnf); (first | refine Cnd.yes ?_ | refine Cnd.no ?_ | refine And.intro rfl ?_ | refine And.intro (by omega) ?_ | (refine And.intro ?_ ?_; focus (simp only [IntKind.wrap_i64, IntKind.wrap_u64, IntKind.wrap_u32]; omega)) | (refine And.intro ?_ ?_; focus (simp only [zl1, zl2, zl3, zl4, zl5, zl6, zl7, zl8, zl9] <;> omega)) | refine Alt.std ?_))
                                                conv => whnf
                                                exact hK
                                              | false =>
                                                repeat ((conv => whnf); (first | refine Cnd.yes ?_ | refine Cnd.no ?_ | refine And.intro rfl ?_ | refine And.intro (by omega) ?_ | (refine And.intro ?_ ?_; focus (simp only [IntKind.wrap_i64, IntKind.wrap_u64, IntKind.wrap_u32]; omega)) | (refine And.intro ?_ ?_; focus (simp only [zl1, zl2, zl3, zl4, zl5, zl6, zl7, zl8, zl9] <;> omega)) | refine Alt.std ?_ | (refine Cnd.tt ?_ ?_; focus (first | (apply decide_eq_true; omega) | (simp only [zq1, zq2, zq3, zq4, zq5, zq6, zq7, zq8, zq9, zq10, zq11, zq12] <;> omega) | rfl)) | (refine Cnd.ff ?_ ?_; focus (first | (apply decide_eq_false; omega) | (simp only [zq1, zq2, zq3, zq4, zq5, zq6, zq7, zq8, zq9, zq10, zq11, zq12] <;> omega) | rfl))))
                                                conv => whnf
                                                refine ⟨[0, 1], .v (.int .i64 0), [.row o e ock (l.map orow), .row o2 3 [.int .i64] (ps.map irow)], ?_⟩
                                                repeat ((conv => whnf); (first | refine Cnd.yes ?_ | refine Cnd.no ?_ | refine And.intro rfl ?_ | refine And.intro (by omega) ?_ | (refine And.intro ?_ ?_; focus (simp only [IntKind.wrap_i64, IntKind.wrap_u64, IntKind.wrap_u32]; omega)) | (refine And.intro ?_ ?_; focus (simp only [zl1, zl2, zl3, zl4, zl5, zl6, zl7, zl8, zl9] <;> omega)) | refine Alt.std ?_))
                                                conv => whnf
                                                exact hK
end Go.Proofs.Ytkfkoldaeplckaa
