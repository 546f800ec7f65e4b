/-
  With, Why, walked; their contracts.
-/
import Derived.Test.YtkfkoldaeplckaaDoorCf
set_option linter.unusedSimpArgs false
set_option linter.unusedVariables false

namespace Go.Proofs.YtkfkoldaeplckaaDoor
open Go Go.Vc
set_option maxRecDepth 100000
set_option linter.unusedSimpArgs false
set_option linter.unusedVariables false
set_option maxHeartbeats 4000000
noncomputable def specs5 : Nat → Option Vc.Trans := tget [(53, frameT pairsS), (74, frameT writesS), (75, frameT meetS), (76, frameT readsS), (77, frameT overS), (78, frameT barredS), (79, frameT markedS), (80, openAtG (frameT contS) 0), (81, frameT throughS), (82, frameT placedS)]
noncomputable def G5 : Nat → Option Vc.Trans := tabG specs5 (tget tab) 5
theorem G5_ok : GOK Tryd.prog G5 := tabG_ok (GOK.cons (frame_ok pairs_ok) (GOK.cons (frame_ok writes_ok) (GOK.cons (frame_ok meet_ok) (GOK.cons (frame_ok reads_ok) (GOK.cons (frame_ok over_ok) (GOK.cons (frame_ok barred_ok) (GOK.cons (frame_ok marked_ok) (GOK.cons (openAtG_ok (frame_ok cont_ok) 0) (GOK.cons (frame_ok through_ok) (GOK.cons (frame_ok placed_ok) .nil)))))))))) tab_ok 5
def w0 (x y : Op) : Bool := x.k == 4 || y.k == 4
def w1 (x y : Op) : Bool := wr y && meetB [x, y]
def w2 (l : List Op) (a b : Nat) (x y : Op) : Bool := rd x && rd y && meetB [x, y] && !overB l (a + 1) (b - (a + 1)) x y
def w3 (x y : Op) : Bool := (x.k == 3 || x.pr && wr x) && rd y && meetB [x, y]
def w7 (x y : Op) : Bool := mk x && mk y
def w8 (ps : List Int) (a b : Nat) : Bool := ps.getD b 0 == a
def w9 (a : Nat) (d : List Int) : Bool := decide ((a : Int) ∈ d)
def w11 (a : Nat) (y : Op) : Bool := wr y && decide ((a : Int) ∈ y.dc)
def w12 (l : List Op) (a b : Nat) (y : Op) : Bool := rd y && thB l a b
def w13 (l : List Op) (a b : Nat) (y : Op) : Bool := wr y && plB l (a + 1) (b - (a + 1)) a
/-- The first that holds. -/
def firstT : List (Bool × Int) → Int
  | [] => 0
  | (true, v) :: _ => v
  | (false, _) :: r => firstT r
def withN (l : List Op) (ps : List Int) (a b : Nat) (x y : Op) : Int := firstT [(w0 x y, 0), (w1 x y, 1), (w2 l a b x y, 2), (w3 x y, 3), (barB l (a + 1) (b - (a + 1)) x y, 4), (x.aq, 5), (y.rl, 6), (w7 x y, 7), (w8 ps a b, 8), (w9 a y.da, 9), (w9 a y.dd, 10), (w11 a y, 11), (w12 l a b y, 12), (w13 l a b y, 13)]
def wHp (o : Bool) (e : TypeId) (l : List Op) (o2 : Bool) (ps : List Int) (x y : Op) : List Ent := [.row o e ock (l.map orow), .row o2 3 [.int .i64] (ps.map irow), .cells 38 (osv x), .cells 38 (osv y)]
set_option maxHeartbeats 1000000 in
theorem with_run (M : HL) (K : SV → List Ent → HL → Prop) (o : Bool) (e : TypeId) (l : List Op) (o2 : Bool) (ps : List Int) (a b : Nat) (x y : Op) (hx : l.getD a default = x) (hy : l.getD b default = y) (hab : a < b) (hbl : b < l.length) (hpl : ps.length = l.length) (hl : l.length ≤ 1000) (hF : ∀ x ∈ l, Fit x) (hD : Deps M l) (hK : K (.v (.int .i64 (withN l ps a b x y))) [.row o e ock (l.map orow), .row o2 3 [.int .i64] (ps.map irow)] M) :
    runF G5 pf58 [.slc 0 13 0 l.length, .slc 1 1 0 l.length, .v (.int .i64 a), .v (.int .i64 b)] [.row o e ock (l.map orow), .row o2 3 [.int .i64] (ps.map irow)] M fun v hp2 M2 => ∃ m v' hp', Wk (llen [Ent.row o e ock (l.map orow), Ent.row o2 3 [.int .i64] (ps.map irow)]) m [v] hp2 [v'] hp' (K v' hp' M2) := by
  have hfx := hF (l.getD a default) (by simp [List.getD, show a < l.length by omega])
  have hfy := hF (l.getD b default) (by simp [List.getD, hbl])
  have hDy := hD (l.getD b default) (by simp [List.getD, hbl])
  rw [hx] at hfx
  rw [hy] at hfy hDy
  have ha0 : l.getD (0 + (a : Int).toNat) default = x := by rw [Nat.zero_add, Int.toNat_natCast]; exact hx
  have hb0 : l.getD (0 + (b : Int).toNat) default = y := by rw [Nat.zero_add, Int.toNat_natCast]; exact hy
  have ea : IntKind.i64.wrap ((a : Int) + 1) = ((a + 1 : Nat) : Int) := by rw [IntKind.wrap_i64]; omega
  unfold withN at hK
  obtain ⟨⟨ra, hRa⟩, ⟨rb, hRd⟩, ⟨rc, hRc⟩⟩ := hDy.1
  have e8 : toI (cellAt (ps.map irow) (0 + (b : Int).toNat) 0) = ps.getD b 0 := toI_i (by omega)
  unfold w8 w9 at hK
  repeat ((conv => whnf); (first | refine Cnd.yes ?_ | refine Cnd.no ?_ | refine And.intro rfl ?_ | refine aom ?_ | refine Alt.std ?_ | (show Ko_ _ _ _ _; subst hKo_) | refine ctt ?_ | refine cff ?_))
  conv => whnf
  refine ⟨InvC 145 (fun s : Bool => s = true) (fun s : Bool => [(0, .slc 0 13 0 l.length), (1, .slc 1 1 0 l.length), (2, .v (.int .i64 a)), (3, .v (.int .i64 b)), (8, .v (.int .i64 0)), (9, .ptr 2 0 0 0), (10, .ptr 3 0 0 0)]) (fun s : Bool => wHp o e l o2 ps x y) M, ?_, ?_⟩
  · repeat ((conv => whnf); (first | refine Cnd.yes ?_ | refine Cnd.no ?_ | refine And.intro rfl ?_ | refine aom ?_ | refine Alt.std ?_ | (show Ko_ _ _ _ _; subst hKo_) | refine ctt ?_ | refine cff ?_))
    conv => whnf
    refine ⟨?_, ?_⟩
    · repeat ((conv => whnf); (first | refine Cnd.yes ?_ | refine Cnd.no ?_ | refine And.intro rfl ?_ | refine aom ?_ | refine Alt.std ?_ | (show Ko_ _ _ _ _; subst hKo_) | refine ctt ?_ | refine cff ?_))
      conv => whnf
      intro Mr1 hMr1
      repeat ((conv => whnf); (first | refine Cnd.yes ?_ | refine Cnd.no ?_ | refine And.intro rfl ?_ | refine aom ?_ | refine Alt.std ?_ | (show Ko_ _ _ _ _; subst hKo_) | refine ctt ?_ | refine cff ?_))
      conv => whnf
      intro Mr2 hMr2
      repeat ((conv => whnf); (first | refine Cnd.yes ?_ | refine Cnd.no ?_ | refine And.intro rfl ?_ | refine aom ?_ | refine Alt.std ?_ | (show Ko_ _ _ _ _; subst hKo_) | refine ctt ?_ | refine cff ?_))
      conv => whnf
      have c0 : toI (cellAt (List.map orow l) (0 + (a : Int).toNat) 0) = Op.k x := by rw [ocell l (show 0 + (a : Int).toNat < l.length by omega), ha0]; rfl
      have c1 : toI (cellAt (List.map orow l) (0 + (a : Int).toNat) (0 + 1)) = Op.sz x := by rw [ocell l (show 0 + (a : Int).toNat < l.length by omega), ha0]; rfl
      have c2 : toI (cellAt (List.map orow l) (0 + (a : Int).toNat) (0 + 1 + 1)) = Op.ad x := by rw [ocell l (show 0 + (a : Int).toNat < l.length by omega), ha0]; rfl
      have c3 : toI (cellAt (List.map orow l) (0 + (a : Int).toNat) (0 + 1 + 1 + 1)) = Op.v x := by rw [ocell l (show 0 + (a : Int).toNat < l.length by omega), ha0]; rfl
      have c4 : toI (cellAt (List.map orow l) (0 + (a : Int).toNat) (0 + 1 + 1 + 1 + 1)) = Op.g x := by rw [ocell l (show 0 + (a : Int).toNat < l.length by omega), ha0]; rfl
      have c5 : toB (cellAt (List.map orow l) (0 + (a : Int).toNat) (0 + 1 + 1 + 1 + 1 + 1)) = Op.pr x := by rw [ocell l (show 0 + (a : Int).toNat < l.length by omega), ha0]; rfl
      have c6 : toB (cellAt (List.map orow l) (0 + (a : Int).toNat) (0 + 1 + 1 + 1 + 1 + 1 + 1)) = Op.aq x := by rw [ocell l (show 0 + (a : Int).toNat < l.length by omega), ha0]; rfl
      have c7 : toB (cellAt (List.map orow l) (0 + (a : Int).toNat) (0 + 1 + 1 + 1 + 1 + 1 + 1 + 1)) = Op.rl x := by rw [ocell l (show 0 + (a : Int).toNat < l.length by omega), ha0]; rfl
      have c8 : toI (cellAt (List.map orow l) (0 + (a : Int).toNat) (0 + 1 + 1 + 1 + 1 + 1 + 1 + 1 + 1)) = Op.pd x := by rw [ocell l (show 0 + (a : Int).toNat < l.length by omega), ha0]; rfl
      have c9 : toI (cellAt (List.map orow l) (0 + (a : Int).toNat) (0 + 1 + 1 + 1 + 1 + 1 + 1 + 1 + 1 + 1)) = Op.sc x := by rw [ocell l (show 0 + (a : Int).toNat < l.length by omega), ha0]; rfl
      have c10 : cellAt (List.map orow l) (0 + (a : Int).toNat) (0 + 1 + 1 + 1 + 1 + 1 + 1 + 1 + 1 + 1 + 1) = Op.ya x := by rw [ocell l (show 0 + (a : Int).toNat < l.length by omega), ha0]; rfl
      have c11 : cellAt (List.map orow l) (0 + (a : Int).toNat) (0 + 1 + 1 + 1 + 1 + 1 + 1 + 1 + 1 + 1 + 1 + 1) = Op.yd x := by rw [ocell l (show 0 + (a : Int).toNat < l.length by omega), ha0]; rfl
      have c12 : cellAt (List.map orow l) (0 + (a : Int).toNat) (0 + 1 + 1 + 1 + 1 + 1 + 1 + 1 + 1 + 1 + 1 + 1 + 1) = Op.yc x := by rw [ocell l (show 0 + (a : Int).toNat < l.length by omega), ha0]; rfl
      rw [c0, c1, c2, c3, c4, c5, c6, c7, c8, c9, c10, c11, c12]
      clear c0 c1 c2 c3 c4 c5 c6 c7 c8 c9 c10 c11 c12
      have c0 : toI (cellAt (List.map orow l) (0 + (b : Int).toNat) 0) = Op.k y := by rw [ocell l (show 0 + (b : Int).toNat < l.length by omega), hb0]; rfl
      have c1 : toI (cellAt (List.map orow l) (0 + (b : Int).toNat) (0 + 1)) = Op.sz y := by rw [ocell l (show 0 + (b : Int).toNat < l.length by omega), hb0]; rfl
      have c2 : toI (cellAt (List.map orow l) (0 + (b : Int).toNat) (0 + 1 + 1)) = Op.ad y := by rw [ocell l (show 0 + (b : Int).toNat < l.length by omega), hb0]; rfl
      have c3 : toI (cellAt (List.map orow l) (0 + (b : Int).toNat) (0 + 1 + 1 + 1)) = Op.v y := by rw [ocell l (show 0 + (b : Int).toNat < l.length by omega), hb0]; rfl
      have c4 : toI (cellAt (List.map orow l) (0 + (b : Int).toNat) (0 + 1 + 1 + 1 + 1)) = Op.g y := by rw [ocell l (show 0 + (b : Int).toNat < l.length by omega), hb0]; rfl
      have c5 : toB (cellAt (List.map orow l) (0 + (b : Int).toNat) (0 + 1 + 1 + 1 + 1 + 1)) = Op.pr y := by rw [ocell l (show 0 + (b : Int).toNat < l.length by omega), hb0]; rfl
      have c6 : toB (cellAt (List.map orow l) (0 + (b : Int).toNat) (0 + 1 + 1 + 1 + 1 + 1 + 1)) = Op.aq y := by rw [ocell l (show 0 + (b : Int).toNat < l.length by omega), hb0]; rfl
      have c7 : toB (cellAt (List.map orow l) (0 + (b : Int).toNat) (0 + 1 + 1 + 1 + 1 + 1 + 1 + 1)) = Op.rl y := by rw [ocell l (show 0 + (b : Int).toNat < l.length by omega), hb0]; rfl
      have c8 : toI (cellAt (List.map orow l) (0 + (b : Int).toNat) (0 + 1 + 1 + 1 + 1 + 1 + 1 + 1 + 1)) = Op.pd y := by rw [ocell l (show 0 + (b : Int).toNat < l.length by omega), hb0]; rfl
      have c9 : toI (cellAt (List.map orow l) (0 + (b : Int).toNat) (0 + 1 + 1 + 1 + 1 + 1 + 1 + 1 + 1 + 1)) = Op.sc y := by rw [ocell l (show 0 + (b : Int).toNat < l.length by omega), hb0]; rfl
      have c10 : cellAt (List.map orow l) (0 + (b : Int).toNat) (0 + 1 + 1 + 1 + 1 + 1 + 1 + 1 + 1 + 1 + 1) = Op.ya y := by rw [ocell l (show 0 + (b : Int).toNat < l.length by omega), hb0]; rfl
      have c11 : cellAt (List.map orow l) (0 + (b : Int).toNat) (0 + 1 + 1 + 1 + 1 + 1 + 1 + 1 + 1 + 1 + 1 + 1) = Op.yd y := by rw [ocell l (show 0 + (b : Int).toNat < l.length by omega), hb0]; rfl
      have c12 : cellAt (List.map orow l) (0 + (b : Int).toNat) (0 + 1 + 1 + 1 + 1 + 1 + 1 + 1 + 1 + 1 + 1 + 1 + 1) = Op.yc y := by rw [ocell l (show 0 + (b : Int).toNat < l.length by omega), hb0]; rfl
      rw [c0, c1, c2, c3, c4, c5, c6, c7, c8, c9, c10, c11, c12]
      clear c0 c1 c2 c3 c4 c5 c6 c7 c8 c9 c10 c11 c12
      refine ⟨[0, 1, 2, 3], tmk 145 0 ((fun s : Bool => [(0, .slc 0 13 0 l.length), (1, .slc 1 1 0 l.length), (2, .v (.int .i64 a)), (3, .v (.int .i64 b)), (8, .v (.int .i64 0)), (9, .ptr 2 0 0 0), (10, .ptr 3 0 0 0)]) (true)), (fun s : Bool => wHp o e l o2 ps x y) (true), ?_⟩
      repeat ((conv => whnf); (first | refine Cnd.yes ?_ | refine Cnd.no ?_ | refine And.intro rfl ?_ | refine aom ?_ | refine Alt.std ?_ | (show Ko_ _ _ _ _; subst hKo_)))
      conv => whnf
      exact ⟨true, rfl, rfl, (tmkK_eq _ _ _ _).mpr rfl, rfl⟩
    · repeat ((conv => whnf); (first | refine Cnd.yes ?_ | refine Cnd.no ?_ | refine And.intro rfl ?_ | refine aom ?_ | refine Alt.std ?_ | (show Ko_ _ _ _ _; subst hKo_) | refine ctt ?_ | refine cff ?_))
      conv => whnf
      intro Mr1 hMr1
      repeat ((conv => whnf); (first | refine Cnd.yes ?_ | refine Cnd.no ?_ | refine And.intro rfl ?_ | refine aom ?_ | refine Alt.std ?_ | (show Ko_ _ _ _ _; subst hKo_) | refine ctt ?_ | refine cff ?_))
      conv => whnf
      intro Mr2 hMr2
      repeat ((conv => whnf); (first | refine Cnd.yes ?_ | refine Cnd.no ?_ | refine And.intro rfl ?_ | refine aom ?_ | refine Alt.std ?_ | (show Ko_ _ _ _ _; subst hKo_) | refine ctt ?_ | refine cff ?_))
      conv => whnf
      have c0 : toI (cellAt (List.map orow l) (0 + (a : Int).toNat) 0) = Op.k x := by rw [ocell l (show 0 + (a : Int).toNat < l.length by omega), ha0]; rfl
      have c1 : toI (cellAt (List.map orow l) (0 + (a : Int).toNat) (0 + 1)) = Op.sz x := by rw [ocell l (show 0 + (a : Int).toNat < l.length by omega), ha0]; rfl
      have c2 : toI (cellAt (List.map orow l) (0 + (a : Int).toNat) (0 + 1 + 1)) = Op.ad x := by rw [ocell l (show 0 + (a : Int).toNat < l.length by omega), ha0]; rfl
      have c3 : toI (cellAt (List.map orow l) (0 + (a : Int).toNat) (0 + 1 + 1 + 1)) = Op.v x := by rw [ocell l (show 0 + (a : Int).toNat < l.length by omega), ha0]; rfl
      have c4 : toI (cellAt (List.map orow l) (0 + (a : Int).toNat) (0 + 1 + 1 + 1 + 1)) = Op.g x := by rw [ocell l (show 0 + (a : Int).toNat < l.length by omega), ha0]; rfl
      have c5 : toB (cellAt (List.map orow l) (0 + (a : Int).toNat) (0 + 1 + 1 + 1 + 1 + 1)) = Op.pr x := by rw [ocell l (show 0 + (a : Int).toNat < l.length by omega), ha0]; rfl
      have c6 : toB (cellAt (List.map orow l) (0 + (a : Int).toNat) (0 + 1 + 1 + 1 + 1 + 1 + 1)) = Op.aq x := by rw [ocell l (show 0 + (a : Int).toNat < l.length by omega), ha0]; rfl
      have c7 : toB (cellAt (List.map orow l) (0 + (a : Int).toNat) (0 + 1 + 1 + 1 + 1 + 1 + 1 + 1)) = Op.rl x := by rw [ocell l (show 0 + (a : Int).toNat < l.length by omega), ha0]; rfl
      have c8 : toI (cellAt (List.map orow l) (0 + (a : Int).toNat) (0 + 1 + 1 + 1 + 1 + 1 + 1 + 1 + 1)) = Op.pd x := by rw [ocell l (show 0 + (a : Int).toNat < l.length by omega), ha0]; rfl
      have c9 : toI (cellAt (List.map orow l) (0 + (a : Int).toNat) (0 + 1 + 1 + 1 + 1 + 1 + 1 + 1 + 1 + 1)) = Op.sc x := by rw [ocell l (show 0 + (a : Int).toNat < l.length by omega), ha0]; rfl
      have c10 : cellAt (List.map orow l) (0 + (a : Int).toNat) (0 + 1 + 1 + 1 + 1 + 1 + 1 + 1 + 1 + 1 + 1) = Op.ya x := by rw [ocell l (show 0 + (a : Int).toNat < l.length by omega), ha0]; rfl
      have c11 : cellAt (List.map orow l) (0 + (a : Int).toNat) (0 + 1 + 1 + 1 + 1 + 1 + 1 + 1 + 1 + 1 + 1 + 1) = Op.yd x := by rw [ocell l (show 0 + (a : Int).toNat < l.length by omega), ha0]; rfl
      have c12 : cellAt (List.map orow l) (0 + (a : Int).toNat) (0 + 1 + 1 + 1 + 1 + 1 + 1 + 1 + 1 + 1 + 1 + 1 + 1) = Op.yc x := by rw [ocell l (show 0 + (a : Int).toNat < l.length by omega), ha0]; rfl
      rw [c0, c1, c2, c3, c4, c5, c6, c7, c8, c9, c10, c11, c12]
      clear c0 c1 c2 c3 c4 c5 c6 c7 c8 c9 c10 c11 c12
      have c0 : toI (cellAt (List.map orow l) (0 + (b : Int).toNat) 0) = Op.k y := by rw [ocell l (show 0 + (b : Int).toNat < l.length by omega), hb0]; rfl
      have c1 : toI (cellAt (List.map orow l) (0 + (b : Int).toNat) (0 + 1)) = Op.sz y := by rw [ocell l (show 0 + (b : Int).toNat < l.length by omega), hb0]; rfl
      have c2 : toI (cellAt (List.map orow l) (0 + (b : Int).toNat) (0 + 1 + 1)) = Op.ad y := by rw [ocell l (show 0 + (b : Int).toNat < l.length by omega), hb0]; rfl
      have c3 : toI (cellAt (List.map orow l) (0 + (b : Int).toNat) (0 + 1 + 1 + 1)) = Op.v y := by rw [ocell l (show 0 + (b : Int).toNat < l.length by omega), hb0]; rfl
      have c4 : toI (cellAt (List.map orow l) (0 + (b : Int).toNat) (0 + 1 + 1 + 1 + 1)) = Op.g y := by rw [ocell l (show 0 + (b : Int).toNat < l.length by omega), hb0]; rfl
      have c5 : toB (cellAt (List.map orow l) (0 + (b : Int).toNat) (0 + 1 + 1 + 1 + 1 + 1)) = Op.pr y := by rw [ocell l (show 0 + (b : Int).toNat < l.length by omega), hb0]; rfl
      have c6 : toB (cellAt (List.map orow l) (0 + (b : Int).toNat) (0 + 1 + 1 + 1 + 1 + 1 + 1)) = Op.aq y := by rw [ocell l (show 0 + (b : Int).toNat < l.length by omega), hb0]; rfl
      have c7 : toB (cellAt (List.map orow l) (0 + (b : Int).toNat) (0 + 1 + 1 + 1 + 1 + 1 + 1 + 1)) = Op.rl y := by rw [ocell l (show 0 + (b : Int).toNat < l.length by omega), hb0]; rfl
      have c8 : toI (cellAt (List.map orow l) (0 + (b : Int).toNat) (0 + 1 + 1 + 1 + 1 + 1 + 1 + 1 + 1)) = Op.pd y := by rw [ocell l (show 0 + (b : Int).toNat < l.length by omega), hb0]; rfl
      have c9 : toI (cellAt (List.map orow l) (0 + (b : Int).toNat) (0 + 1 + 1 + 1 + 1 + 1 + 1 + 1 + 1 + 1)) = Op.sc y := by rw [ocell l (show 0 + (b : Int).toNat < l.length by omega), hb0]; rfl
      have c10 : cellAt (List.map orow l) (0 + (b : Int).toNat) (0 + 1 + 1 + 1 + 1 + 1 + 1 + 1 + 1 + 1 + 1) = Op.ya y := by rw [ocell l (show 0 + (b : Int).toNat < l.length by omega), hb0]; rfl
      have c11 : cellAt (List.map orow l) (0 + (b : Int).toNat) (0 + 1 + 1 + 1 + 1 + 1 + 1 + 1 + 1 + 1 + 1 + 1) = Op.yd y := by rw [ocell l (show 0 + (b : Int).toNat < l.length by omega), hb0]; rfl
      have c12 : cellAt (List.map orow l) (0 + (b : Int).toNat) (0 + 1 + 1 + 1 + 1 + 1 + 1 + 1 + 1 + 1 + 1 + 1 + 1) = Op.yc y := by rw [ocell l (show 0 + (b : Int).toNat < l.length by omega), hb0]; rfl
      rw [c0, c1, c2, c3, c4, c5, c6, c7, c8, c9, c10, c11, c12]
      clear c0 c1 c2 c3 c4 c5 c6 c7 c8 c9 c10 c11 c12
      refine ⟨[0, 1, 3, 2], tmk 145 0 ((fun s : Bool => [(0, .slc 0 13 0 l.length), (1, .slc 1 1 0 l.length), (2, .v (.int .i64 a)), (3, .v (.int .i64 b)), (8, .v (.int .i64 0)), (9, .ptr 2 0 0 0), (10, .ptr 3 0 0 0)]) (true)), (fun s : Bool => wHp o e l o2 ps x y) (true), ?_⟩
      repeat ((conv => whnf); (first | refine Cnd.yes ?_ | refine Cnd.no ?_ | refine And.intro rfl ?_ | refine aom ?_ | refine Alt.std ?_ | (show Ko_ _ _ _ _; subst hKo_)))
      conv => whnf
      exact ⟨true, rfl, rfl, (tmkK_eq _ _ _ _).mpr rfl, rfl⟩
  · rintro tm hp M1 ⟨b0, hC_, rfl, htm, hhp_⟩
    replace hC_ : b0 = true := hC_
    have _h := hC_
    replace htm : tmkK 145 0 [(0, .slc 0 13 0 l.length), (1, .slc 1 1 0 l.length), (2, .v (.int .i64 a)), (3, .v (.int .i64 b)), (8, .v (.int .i64 0)), (9, .ptr 2 0 0 0), (10, .ptr 3 0 0 0)] (fun l => tm = l) := htm
    conv at htm => whnf
    subst htm
    replace hhp_ : hp = wHp o e l o2 ps x y := hhp_
    subst hhp_
    repeat ((conv => whnf); (first | refine Cnd.yes ?_ | refine Cnd.no ?_ | refine And.intro rfl ?_ | refine aom ?_ | refine Alt.std ?_ | (show Ko_ _ _ _ _; subst hKo_) | refine ctt ?_ | refine cff ?_))
    conv => whnf
    refine ⟨InvC 145 (fun s : Bool => s = w0 x y) (fun s : Bool => [(0, .slc 0 13 0 l.length), (1, .slc 1 1 0 l.length), (2, .v (.int .i64 a)), (3, .v (.int .i64 b)), (9, .ptr 2 0 0 0), (10, .ptr 3 0 0 0), (27, .v (.bool s))]) (fun s : Bool => wHp o e l o2 ps x y) M1, ?_, ?_⟩
    · have hW : w0 x y = (x.k == 4 || y.k == 4) := rfl
      repeat ((conv => whnf); (first | refine Cnd.yes ?_ | refine Cnd.no ?_ | refine And.intro rfl ?_ | refine aom ?_ | refine Alt.std ?_ | (show Ko_ _ _ _ _; subst hKo_) | refine ctt ?_ | refine cff ?_))
      conv => whnf
      cases q1 : x.k == 4 with
      | true =>
        rw [q1, Bool.true_or] at hW
        repeat ((conv => whnf); (first | refine Cnd.yes ?_ | refine Cnd.no ?_ | refine And.intro rfl ?_ | refine aom ?_ | refine Alt.std ?_ | (show Ko_ _ _ _ _; subst hKo_) | refine ctt ?_ | refine cff ?_))
        conv => whnf
        refine ⟨[0, 1, 2, 3], tmk 145 0 ((fun s : Bool => [(0, .slc 0 13 0 l.length), (1, .slc 1 1 0 l.length), (2, .v (.int .i64 a)), (3, .v (.int .i64 b)), (9, .ptr 2 0 0 0), (10, .ptr 3 0 0 0), (27, .v (.bool s))]) (w0 x y)), (fun s : Bool => wHp o e l o2 ps x y) (w0 x y), ?_⟩
        repeat ((conv => whnf); (first | refine Cnd.yes ?_ | refine Cnd.no ?_ | refine And.intro rfl ?_ | refine aom ?_ | refine Alt.std ?_ | (show Ko_ _ _ _ _; subst hKo_)))
        conv => whnf
        refine ⟨by rw [hW], ?_⟩
        repeat ((conv => whnf); (first | refine Cnd.yes ?_ | refine Cnd.no ?_ | refine And.intro rfl ?_ | refine aom ?_ | refine Alt.std ?_ | (show Ko_ _ _ _ _; subst hKo_)))
        conv => whnf
        exact ⟨w0 x y, rfl, rfl, (tmkK_eq _ _ _ _).mpr rfl, rfl⟩
      | false =>
        rw [q1, Bool.false_or] at hW
        repeat ((conv => whnf); (first | refine Cnd.yes ?_ | refine Cnd.no ?_ | refine And.intro rfl ?_ | refine aom ?_ | refine Alt.std ?_ | (show Ko_ _ _ _ _; subst hKo_) | refine ctt ?_ | refine cff ?_))
        conv => whnf
        refine ⟨[0, 1, 2, 3], tmk 145 0 ((fun s : Bool => [(0, .slc 0 13 0 l.length), (1, .slc 1 1 0 l.length), (2, .v (.int .i64 a)), (3, .v (.int .i64 b)), (9, .ptr 2 0 0 0), (10, .ptr 3 0 0 0), (27, .v (.bool s))]) (w0 x y)), (fun s : Bool => wHp o e l o2 ps x y) (w0 x y), ?_⟩
        repeat ((conv => whnf); (first | refine Cnd.yes ?_ | refine Cnd.no ?_ | refine And.intro rfl ?_ | refine aom ?_ | refine Alt.std ?_ | (show Ko_ _ _ _ _; subst hKo_)))
        conv => whnf
        refine ⟨by rw [hW], ?_⟩
        repeat ((conv => whnf); (first | refine Cnd.yes ?_ | refine Cnd.no ?_ | refine And.intro rfl ?_ | refine aom ?_ | refine Alt.std ?_ | (show Ko_ _ _ _ _; subst hKo_)))
        conv => whnf
        exact ⟨w0 x y, rfl, rfl, (tmkK_eq _ _ _ _).mpr rfl, rfl⟩
    · rintro tm hp M1 ⟨v0, hC_, rfl, htm, hhp_⟩
      replace hC_ : v0 = w0 x y := hC_
      have h0 := hC_
      replace htm : tmkK 145 0 [(0, .slc 0 13 0 l.length), (1, .slc 1 1 0 l.length), (2, .v (.int .i64 a)), (3, .v (.int .i64 b)), (9, .ptr 2 0 0 0), (10, .ptr 3 0 0 0), (27, .v (.bool v0))] (fun l => tm = l) := htm
      conv at htm => whnf
      subst htm
      replace hhp_ : hp = wHp o e l o2 ps x y := hhp_
      subst hhp_
      rw [← h0] at hK
      cases v0 with
      | true =>
        repeat ((conv => whnf); (first | refine Cnd.yes ?_ | refine Cnd.no ?_ | refine And.intro rfl ?_ | refine aom ?_ | refine Alt.std ?_ | (show Ko_ _ _ _ _; subst hKo_) | refine ctt ?_ | refine cff ?_))
        conv => whnf
        refine ⟨[0, 1], .v (.int .i64 0), [.row o e ock (l.map orow), .row o2 3 [.int .i64] (ps.map irow)], ?_⟩
        repeat ((conv => whnf); (first | refine Cnd.yes ?_ | refine Cnd.no ?_ | refine And.intro rfl ?_ | refine aom ?_ | refine Alt.std ?_ | (show Ko_ _ _ _ _; subst hKo_)))
        conv => whnf
        exact hK
      | false =>
        repeat ((conv => whnf); (first | refine Cnd.yes ?_ | refine Cnd.no ?_ | refine And.intro rfl ?_ | refine aom ?_ | refine Alt.std ?_ | (show Ko_ _ _ _ _; subst hKo_) | refine ctt ?_ | refine cff ?_))
        conv => whnf
        refine ⟨InvC 145 (fun s : Bool => s = w1 x y) (fun s : Bool => [(0, .slc 0 13 0 l.length), (1, .slc 1 1 0 l.length), (2, .v (.int .i64 a)), (3, .v (.int .i64 b)), (9, .ptr 2 0 0 0), (10, .ptr 3 0 0 0), (11, .slc 0 13 (a + 1) (b - (a + 1))), (33, .v (.bool s))]) (fun s : Bool => wHp o e l o2 ps x y) M1, ?_, ?_⟩
        · have hW : w1 x y = (wr y && meetB [x, y]) := rfl
          repeat ((conv => whnf); (first | refine Cnd.yes ?_ | refine Cnd.no ?_ | refine And.intro rfl ?_ | refine aom ?_ | refine Alt.std ?_ | (show Ko_ _ _ _ _; subst hKo_) | refine ctt ?_ | refine cff ?_))
          conv => whnf
          refine ⟨y, rfl, rfl, ?_⟩
          cases q1 : wr y with
          | true =>
            rw [q1, Bool.true_and] at hW
            repeat ((conv => whnf); (first | refine Cnd.yes ?_ | refine Cnd.no ?_ | refine And.intro rfl ?_ | refine aom ?_ | refine Alt.std ?_ | (show Ko_ _ _ _ _; subst hKo_) | refine ctt ?_ | refine cff ?_))
            conv => whnf
            refine ⟨true, 38, [x, y], rfl, rfl, by simp, by simp, fun q hq => by simp at hq; rcases hq with rfl | rfl <;> assumption, ?_⟩
            repeat ((conv => whnf); (first | refine Cnd.yes ?_ | refine Cnd.no ?_ | refine And.intro rfl ?_ | refine aom ?_ | refine Alt.std ?_ | (show Ko_ _ _ _ _; subst hKo_) | refine ctt ?_ | refine cff ?_))
            conv => whnf
            refine ⟨[0, 1, 2, 3], tmk 145 0 ((fun s : Bool => [(0, .slc 0 13 0 l.length), (1, .slc 1 1 0 l.length), (2, .v (.int .i64 a)), (3, .v (.int .i64 b)), (9, .ptr 2 0 0 0), (10, .ptr 3 0 0 0), (11, .slc 0 13 (a + 1) (b - (a + 1))), (33, .v (.bool s))]) (w1 x y)), (fun s : Bool => wHp o e l o2 ps x y) (w1 x y), ?_⟩
            repeat ((conv => whnf); (first | refine Cnd.yes ?_ | refine Cnd.no ?_ | refine And.intro rfl ?_ | refine aom ?_ | refine Alt.std ?_ | (show Ko_ _ _ _ _; subst hKo_)))
            conv => whnf
            refine ⟨by rw [hW], ?_⟩
            repeat ((conv => whnf); (first | refine Cnd.yes ?_ | refine Cnd.no ?_ | refine And.intro rfl ?_ | refine aom ?_ | refine Alt.std ?_ | (show Ko_ _ _ _ _; subst hKo_)))
            conv => whnf
            exact ⟨w1 x y, rfl, rfl, (tmkK_eq _ _ _ _).mpr rfl, rfl⟩
          | false =>
            rw [q1, Bool.false_and] at hW
            repeat ((conv => whnf); (first | refine Cnd.yes ?_ | refine Cnd.no ?_ | refine And.intro rfl ?_ | refine aom ?_ | refine Alt.std ?_ | (show Ko_ _ _ _ _; subst hKo_) | refine ctt ?_ | refine cff ?_))
            conv => whnf
            refine ⟨[0, 1, 2, 3], tmk 145 0 ((fun s : Bool => [(0, .slc 0 13 0 l.length), (1, .slc 1 1 0 l.length), (2, .v (.int .i64 a)), (3, .v (.int .i64 b)), (9, .ptr 2 0 0 0), (10, .ptr 3 0 0 0), (11, .slc 0 13 (a + 1) (b - (a + 1))), (33, .v (.bool s))]) (w1 x y)), (fun s : Bool => wHp o e l o2 ps x y) (w1 x y), ?_⟩
            repeat ((conv => whnf); (first | refine Cnd.yes ?_ | refine Cnd.no ?_ | refine And.intro rfl ?_ | refine aom ?_ | refine Alt.std ?_ | (show Ko_ _ _ _ _; subst hKo_)))
            conv => whnf
            refine ⟨by rw [hW], ?_⟩
            repeat ((conv => whnf); (first | refine Cnd.yes ?_ | refine Cnd.no ?_ | refine And.intro rfl ?_ | refine aom ?_ | refine Alt.std ?_ | (show Ko_ _ _ _ _; subst hKo_)))
            conv => whnf
            exact ⟨w1 x y, rfl, rfl, (tmkK_eq _ _ _ _).mpr rfl, rfl⟩
        · rintro tm hp M1 ⟨v1, hC_, rfl, htm, hhp_⟩
          replace hC_ : v1 = w1 x y := hC_
          have h1 := hC_
          replace htm : tmkK 145 0 [(0, .slc 0 13 0 l.length), (1, .slc 1 1 0 l.length), (2, .v (.int .i64 a)), (3, .v (.int .i64 b)), (9, .ptr 2 0 0 0), (10, .ptr 3 0 0 0), (11, .slc 0 13 (a + 1) (b - (a + 1))), (33, .v (.bool v1))] (fun l => tm = l) := htm
          conv at htm => whnf
          subst htm
          replace hhp_ : hp = wHp o e l o2 ps x y := hhp_
          subst hhp_
          rw [← h1] at hK
          cases v1 with
          | true =>
            repeat ((conv => whnf); (first | refine Cnd.yes ?_ | refine Cnd.no ?_ | refine And.intro rfl ?_ | refine aom ?_ | refine Alt.std ?_ | (show Ko_ _ _ _ _; subst hKo_) | refine ctt ?_ | refine cff ?_))
            conv => whnf
            refine ⟨[0, 1], .v (.int .i64 1), [.row o e ock (l.map orow), .row o2 3 [.int .i64] (ps.map irow)], ?_⟩
            repeat ((conv => whnf); (first | refine Cnd.yes ?_ | refine Cnd.no ?_ | refine And.intro rfl ?_ | refine aom ?_ | refine Alt.std ?_ | (show Ko_ _ _ _ _; subst hKo_)))
            conv => whnf
            exact hK
          | false =>
            repeat ((conv => whnf); (first | refine Cnd.yes ?_ | refine Cnd.no ?_ | refine And.intro rfl ?_ | refine aom ?_ | refine Alt.std ?_ | (show Ko_ _ _ _ _; subst hKo_) | refine ctt ?_ | refine cff ?_))
            conv => whnf
            refine ⟨InvC 145 (fun s : Bool => s = w2 l a b x y) (fun s : Bool => [(0, .slc 0 13 0 l.length), (1, .slc 1 1 0 l.length), (2, .v (.int .i64 a)), (3, .v (.int .i64 b)), (9, .ptr 2 0 0 0), (10, .ptr 3 0 0 0), (11, .slc 0 13 (a + 1) (b - (a + 1))), (42, .v (.bool s))]) (fun s : Bool => wHp o e l o2 ps x y) M1, ?_, ?_⟩
            · have hW : w2 l a b x y = (rd x && rd y && meetB [x, y] && !overB l (a + 1) (b - (a + 1)) x y) := rfl
              repeat ((conv => whnf); (first | refine Cnd.yes ?_ | refine Cnd.no ?_ | refine And.intro rfl ?_ | refine aom ?_ | refine Alt.std ?_ | (show Ko_ _ _ _ _; subst hKo_) | refine ctt ?_ | refine cff ?_))
              conv => whnf
              refine ⟨x, rfl, rfl, ?_⟩
              cases q1 : rd x with
              | true =>
                rw [q1, Bool.true_and] at hW
                repeat ((conv => whnf); (first | refine Cnd.yes ?_ | refine Cnd.no ?_ | refine And.intro rfl ?_ | refine aom ?_ | refine Alt.std ?_ | (show Ko_ _ _ _ _; subst hKo_) | refine ctt ?_ | refine cff ?_))
                conv => whnf
                refine ⟨y, rfl, rfl, ?_⟩
                cases q2 : rd y with
                | true =>
                  rw [q2, Bool.true_and] at hW
                  repeat ((conv => whnf); (first | refine Cnd.yes ?_ | refine Cnd.no ?_ | refine And.intro rfl ?_ | refine aom ?_ | refine Alt.std ?_ | (show Ko_ _ _ _ _; subst hKo_) | refine ctt ?_ | refine cff ?_))
                  conv => whnf
                  refine ⟨true, 38, [x, y], rfl, rfl, by simp, by simp, fun q hq => by simp at hq; rcases hq with rfl | rfl <;> assumption, ?_⟩
                  cases q3 : meetB [x, y] with
                  | true =>
                    rw [q3, Bool.true_and] at hW
                    repeat ((conv => whnf); (first | refine Cnd.yes ?_ | refine Cnd.no ?_ | refine And.intro rfl ?_ | refine aom ?_ | refine Alt.std ?_ | (show Ko_ _ _ _ _; subst hKo_) | refine ctt ?_ | refine cff ?_))
                    conv => whnf
                    refine ⟨o, e, l, a + 1, b - (a + 1), x, y, rfl, rfl, by omega, hl, hF, hfx, hfy, ?_⟩
                    repeat ((conv => whnf); (first | refine Cnd.yes ?_ | refine Cnd.no ?_ | refine And.intro rfl ?_ | refine aom ?_ | refine Alt.std ?_ | (show Ko_ _ _ _ _; subst hKo_) | refine ctt ?_ | refine cff ?_))
                    conv => whnf
                    refine ⟨[0, 1, 2, 3], tmk 145 0 ((fun s : Bool => [(0, .slc 0 13 0 l.length), (1, .slc 1 1 0 l.length), (2, .v (.int .i64 a)), (3, .v (.int .i64 b)), (9, .ptr 2 0 0 0), (10, .ptr 3 0 0 0), (11, .slc 0 13 (a + 1) (b - (a + 1))), (42, .v (.bool s))]) (w2 l a b x y)), (fun s : Bool => wHp o e l o2 ps x y) (w2 l a b x y), ?_⟩
                    repeat ((conv => whnf); (first | refine Cnd.yes ?_ | refine Cnd.no ?_ | refine And.intro rfl ?_ | refine aom ?_ | refine Alt.std ?_ | (show Ko_ _ _ _ _; subst hKo_)))
                    conv => whnf
                    refine ⟨by rw [hW], ?_⟩
                    repeat ((conv => whnf); (first | refine Cnd.yes ?_ | refine Cnd.no ?_ | refine And.intro rfl ?_ | refine aom ?_ | refine Alt.std ?_ | (show Ko_ _ _ _ _; subst hKo_)))
                    conv => whnf
                    exact ⟨w2 l a b x y, rfl, rfl, (tmkK_eq _ _ _ _).mpr rfl, rfl⟩
                  | false =>
                    rw [q3, Bool.false_and] at hW
                    repeat ((conv => whnf); (first | refine Cnd.yes ?_ | refine Cnd.no ?_ | refine And.intro rfl ?_ | refine aom ?_ | refine Alt.std ?_ | (show Ko_ _ _ _ _; subst hKo_) | refine ctt ?_ | refine cff ?_))
                    conv => whnf
                    refine ⟨[0, 1, 2, 3], tmk 145 0 ((fun s : Bool => [(0, .slc 0 13 0 l.length), (1, .slc 1 1 0 l.length), (2, .v (.int .i64 a)), (3, .v (.int .i64 b)), (9, .ptr 2 0 0 0), (10, .ptr 3 0 0 0), (11, .slc 0 13 (a + 1) (b - (a + 1))), (42, .v (.bool s))]) (w2 l a b x y)), (fun s : Bool => wHp o e l o2 ps x y) (w2 l a b x y), ?_⟩
                    repeat ((conv => whnf); (first | refine Cnd.yes ?_ | refine Cnd.no ?_ | refine And.intro rfl ?_ | refine aom ?_ | refine Alt.std ?_ | (show Ko_ _ _ _ _; subst hKo_)))
                    conv => whnf
                    refine ⟨by rw [hW], ?_⟩
                    repeat ((conv => whnf); (first | refine Cnd.yes ?_ | refine Cnd.no ?_ | refine And.intro rfl ?_ | refine aom ?_ | refine Alt.std ?_ | (show Ko_ _ _ _ _; subst hKo_)))
                    conv => whnf
                    exact ⟨w2 l a b x y, rfl, rfl, (tmkK_eq _ _ _ _).mpr rfl, rfl⟩
                | false =>
                  rw [q2, Bool.false_and, Bool.false_and] at hW
                  repeat ((conv => whnf); (first | refine Cnd.yes ?_ | refine Cnd.no ?_ | refine And.intro rfl ?_ | refine aom ?_ | refine Alt.std ?_ | (show Ko_ _ _ _ _; subst hKo_) | refine ctt ?_ | refine cff ?_))
                  conv => whnf
                  refine ⟨[0, 1, 2, 3], tmk 145 0 ((fun s : Bool => [(0, .slc 0 13 0 l.length), (1, .slc 1 1 0 l.length), (2, .v (.int .i64 a)), (3, .v (.int .i64 b)), (9, .ptr 2 0 0 0), (10, .ptr 3 0 0 0), (11, .slc 0 13 (a + 1) (b - (a + 1))), (42, .v (.bool s))]) (w2 l a b x y)), (fun s : Bool => wHp o e l o2 ps x y) (w2 l a b x y), ?_⟩
                  repeat ((conv => whnf); (first | refine Cnd.yes ?_ | refine Cnd.no ?_ | refine And.intro rfl ?_ | refine aom ?_ | refine Alt.std ?_ | (show Ko_ _ _ _ _; subst hKo_)))
                  conv => whnf
                  refine ⟨by rw [hW], ?_⟩
                  repeat ((conv => whnf); (first | refine Cnd.yes ?_ | refine Cnd.no ?_ | refine And.intro rfl ?_ | refine aom ?_ | refine Alt.std ?_ | (show Ko_ _ _ _ _; subst hKo_)))
                  conv => whnf
                  exact ⟨w2 l a b x y, rfl, rfl, (tmkK_eq _ _ _ _).mpr rfl, rfl⟩
              | false =>
                rw [q1, Bool.false_and, Bool.false_and, Bool.false_and] at hW
                repeat ((conv => whnf); (first | refine Cnd.yes ?_ | refine Cnd.no ?_ | refine And.intro rfl ?_ | refine aom ?_ | refine Alt.std ?_ | (show Ko_ _ _ _ _; subst hKo_) | refine ctt ?_ | refine cff ?_))
                conv => whnf
                refine ⟨[0, 1, 2, 3], tmk 145 0 ((fun s : Bool => [(0, .slc 0 13 0 l.length), (1, .slc 1 1 0 l.length), (2, .v (.int .i64 a)), (3, .v (.int .i64 b)), (9, .ptr 2 0 0 0), (10, .ptr 3 0 0 0), (11, .slc 0 13 (a + 1) (b - (a + 1))), (42, .v (.bool s))]) (w2 l a b x y)), (fun s : Bool => wHp o e l o2 ps x y) (w2 l a b x y), ?_⟩
                repeat ((conv => whnf); (first | refine Cnd.yes ?_ | refine Cnd.no ?_ | refine And.intro rfl ?_ | refine aom ?_ | refine Alt.std ?_ | (show Ko_ _ _ _ _; subst hKo_)))
                conv => whnf
                refine ⟨by rw [hW], ?_⟩
                repeat ((conv => whnf); (first | refine Cnd.yes ?_ | refine Cnd.no ?_ | refine And.intro rfl ?_ | refine aom ?_ | refine Alt.std ?_ | (show Ko_ _ _ _ _; subst hKo_)))
                conv => whnf
                exact ⟨w2 l a b x y, rfl, rfl, (tmkK_eq _ _ _ _).mpr rfl, rfl⟩
            · rintro tm hp M1 ⟨v2, hC_, rfl, htm, hhp_⟩
              replace hC_ : v2 = w2 l a b x y := hC_
              have h2 := hC_
              replace htm : tmkK 145 0 [(0, .slc 0 13 0 l.length), (1, .slc 1 1 0 l.length), (2, .v (.int .i64 a)), (3, .v (.int .i64 b)), (9, .ptr 2 0 0 0), (10, .ptr 3 0 0 0), (11, .slc 0 13 (a + 1) (b - (a + 1))), (42, .v (.bool v2))] (fun l => tm = l) := htm
              conv at htm => whnf
              subst htm
              replace hhp_ : hp = wHp o e l o2 ps x y := hhp_
              subst hhp_
              rw [← h2] at hK
              cases v2 with
              | true =>
                repeat ((conv => whnf); (first | refine Cnd.yes ?_ | refine Cnd.no ?_ | refine And.intro rfl ?_ | refine aom ?_ | refine Alt.std ?_ | (show Ko_ _ _ _ _; subst hKo_) | refine ctt ?_ | refine cff ?_))
                conv => whnf
                refine ⟨[0, 1], .v (.int .i64 2), [.row o e ock (l.map orow), .row o2 3 [.int .i64] (ps.map irow)], ?_⟩
                repeat ((conv => whnf); (first | refine Cnd.yes ?_ | refine Cnd.no ?_ | refine And.intro rfl ?_ | refine aom ?_ | refine Alt.std ?_ | (show Ko_ _ _ _ _; subst hKo_)))
                conv => whnf
                exact hK
              | false =>
                repeat ((conv => whnf); (first | refine Cnd.yes ?_ | refine Cnd.no ?_ | refine And.intro rfl ?_ | refine aom ?_ | refine Alt.std ?_ | (show Ko_ _ _ _ _; subst hKo_) | refine ctt ?_ | refine cff ?_))
                conv => whnf
                refine ⟨InvC 145 (fun s : Bool => s = w3 x y) (fun s : Bool => [(0, .slc 0 13 0 l.length), (1, .slc 1 1 0 l.length), (2, .v (.int .i64 a)), (3, .v (.int .i64 b)), (9, .ptr 2 0 0 0), (10, .ptr 3 0 0 0), (11, .slc 0 13 (a + 1) (b - (a + 1))), (62, .v (.bool s))]) (fun s : Bool => wHp o e l o2 ps x y) M1, ?_, ?_⟩
                · have hW : w3 x y = ((x.k == 3 || x.pr && wr x) && rd y && meetB [x, y]) := rfl
                  repeat ((conv => whnf); (first | refine Cnd.yes ?_ | refine Cnd.no ?_ | refine And.intro rfl ?_ | refine aom ?_ | refine Alt.std ?_ | (show Ko_ _ _ _ _; subst hKo_) | refine ctt ?_ | refine cff ?_))
                  conv => whnf
                  cases q1 : x.k == 3 with
                  | true =>
                    rw [q1, Bool.true_or, Bool.true_and] at hW
                    repeat ((conv => whnf); (first | refine Cnd.yes ?_ | refine Cnd.no ?_ | refine And.intro rfl ?_ | refine aom ?_ | refine Alt.std ?_ | (show Ko_ _ _ _ _; subst hKo_) | refine ctt ?_ | refine cff ?_))
                    conv => whnf
                    refine ⟨y, rfl, rfl, ?_⟩
                    cases q4 : rd y with
                    | true =>
                      rw [q4, Bool.true_and] at hW
                      repeat ((conv => whnf); (first | refine Cnd.yes ?_ | refine Cnd.no ?_ | refine And.intro rfl ?_ | refine aom ?_ | refine Alt.std ?_ | (show Ko_ _ _ _ _; subst hKo_) | refine ctt ?_ | refine cff ?_))
                      conv => whnf
                      refine ⟨true, 38, [x, y], rfl, rfl, by simp, by simp, fun q hq => by simp at hq; rcases hq with rfl | rfl <;> assumption, ?_⟩
                      repeat ((conv => whnf); (first | refine Cnd.yes ?_ | refine Cnd.no ?_ | refine And.intro rfl ?_ | refine aom ?_ | refine Alt.std ?_ | (show Ko_ _ _ _ _; subst hKo_) | refine ctt ?_ | refine cff ?_))
                      conv => whnf
                      refine ⟨[0, 1, 2, 3], tmk 145 0 ((fun s : Bool => [(0, .slc 0 13 0 l.length), (1, .slc 1 1 0 l.length), (2, .v (.int .i64 a)), (3, .v (.int .i64 b)), (9, .ptr 2 0 0 0), (10, .ptr 3 0 0 0), (11, .slc 0 13 (a + 1) (b - (a + 1))), (62, .v (.bool s))]) (w3 x y)), (fun s : Bool => wHp o e l o2 ps x y) (w3 x y), ?_⟩
                      repeat ((conv => whnf); (first | refine Cnd.yes ?_ | refine Cnd.no ?_ | refine And.intro rfl ?_ | refine aom ?_ | refine Alt.std ?_ | (show Ko_ _ _ _ _; subst hKo_)))
                      conv => whnf
                      refine ⟨by rw [hW], ?_⟩
                      repeat ((conv => whnf); (first | refine Cnd.yes ?_ | refine Cnd.no ?_ | refine And.intro rfl ?_ | refine aom ?_ | refine Alt.std ?_ | (show Ko_ _ _ _ _; subst hKo_)))
                      conv => whnf
                      exact ⟨w3 x y, rfl, rfl, (tmkK_eq _ _ _ _).mpr rfl, rfl⟩
                    | false =>
                      rw [q4, Bool.false_and] at hW
                      repeat ((conv => whnf); (first | refine Cnd.yes ?_ | refine Cnd.no ?_ | refine And.intro rfl ?_ | refine aom ?_ | refine Alt.std ?_ | (show Ko_ _ _ _ _; subst hKo_) | refine ctt ?_ | refine cff ?_))
                      conv => whnf
                      refine ⟨[0, 1, 2, 3], tmk 145 0 ((fun s : Bool => [(0, .slc 0 13 0 l.length), (1, .slc 1 1 0 l.length), (2, .v (.int .i64 a)), (3, .v (.int .i64 b)), (9, .ptr 2 0 0 0), (10, .ptr 3 0 0 0), (11, .slc 0 13 (a + 1) (b - (a + 1))), (62, .v (.bool s))]) (w3 x y)), (fun s : Bool => wHp o e l o2 ps x y) (w3 x y), ?_⟩
                      repeat ((conv => whnf); (first | refine Cnd.yes ?_ | refine Cnd.no ?_ | refine And.intro rfl ?_ | refine aom ?_ | refine Alt.std ?_ | (show Ko_ _ _ _ _; subst hKo_)))
                      conv => whnf
                      refine ⟨by rw [hW], ?_⟩
                      repeat ((conv => whnf); (first | refine Cnd.yes ?_ | refine Cnd.no ?_ | refine And.intro rfl ?_ | refine aom ?_ | refine Alt.std ?_ | (show Ko_ _ _ _ _; subst hKo_)))
                      conv => whnf
                      exact ⟨w3 x y, rfl, rfl, (tmkK_eq _ _ _ _).mpr rfl, rfl⟩
                  | false =>
                    rw [q1, Bool.false_or] at hW
                    repeat ((conv => whnf); (first | refine Cnd.yes ?_ | refine Cnd.no ?_ | refine And.intro rfl ?_ | refine aom ?_ | refine Alt.std ?_ | (show Ko_ _ _ _ _; subst hKo_) | refine ctt ?_ | refine cff ?_))
                    conv => whnf
                    cases q2 : x.pr with
                    | true =>
                      rw [q2, Bool.true_and] at hW
                      repeat ((conv => whnf); (first | refine Cnd.yes ?_ | refine Cnd.no ?_ | refine And.intro rfl ?_ | refine aom ?_ | refine Alt.std ?_ | (show Ko_ _ _ _ _; subst hKo_) | refine ctt ?_ | refine cff ?_))
                      conv => whnf
                      refine ⟨x, rfl, rfl, ?_⟩
                      cases q3 : wr x with
                      | true =>
                        rw [q3, Bool.true_and] at hW
                        repeat ((conv => whnf); (first | refine Cnd.yes ?_ | refine Cnd.no ?_ | refine And.intro rfl ?_ | refine aom ?_ | refine Alt.std ?_ | (show Ko_ _ _ _ _; subst hKo_) | refine ctt ?_ | refine cff ?_))
                        conv => whnf
                        refine ⟨y, rfl, rfl, ?_⟩
                        cases q4 : rd y with
                        | true =>
                          rw [q4, Bool.true_and] at hW
                          repeat ((conv => whnf); (first | refine Cnd.yes ?_ | refine Cnd.no ?_ | refine And.intro rfl ?_ | refine aom ?_ | refine Alt.std ?_ | (show Ko_ _ _ _ _; subst hKo_) | refine ctt ?_ | refine cff ?_))
                          conv => whnf
                          refine ⟨true, 38, [x, y], rfl, rfl, by simp, by simp, fun q hq => by simp at hq; rcases hq with rfl | rfl <;> assumption, ?_⟩
                          repeat ((conv => whnf); (first | refine Cnd.yes ?_ | refine Cnd.no ?_ | refine And.intro rfl ?_ | refine aom ?_ | refine Alt.std ?_ | (show Ko_ _ _ _ _; subst hKo_) | refine ctt ?_ | refine cff ?_))
                          conv => whnf
                          refine ⟨[0, 1, 2, 3], tmk 145 0 ((fun s : Bool => [(0, .slc 0 13 0 l.length), (1, .slc 1 1 0 l.length), (2, .v (.int .i64 a)), (3, .v (.int .i64 b)), (9, .ptr 2 0 0 0), (10, .ptr 3 0 0 0), (11, .slc 0 13 (a + 1) (b - (a + 1))), (62, .v (.bool s))]) (w3 x y)), (fun s : Bool => wHp o e l o2 ps x y) (w3 x y), ?_⟩
                          repeat ((conv => whnf); (first | refine Cnd.yes ?_ | refine Cnd.no ?_ | refine And.intro rfl ?_ | refine aom ?_ | refine Alt.std ?_ | (show Ko_ _ _ _ _; subst hKo_)))
                          conv => whnf
                          refine ⟨by rw [hW], ?_⟩
                          repeat ((conv => whnf); (first | refine Cnd.yes ?_ | refine Cnd.no ?_ | refine And.intro rfl ?_ | refine aom ?_ | refine Alt.std ?_ | (show Ko_ _ _ _ _; subst hKo_)))
                          conv => whnf
                          exact ⟨w3 x y, rfl, rfl, (tmkK_eq _ _ _ _).mpr rfl, rfl⟩
                        | false =>
                          rw [q4, Bool.false_and] at hW
                          repeat ((conv => whnf); (first | refine Cnd.yes ?_ | refine Cnd.no ?_ | refine And.intro rfl ?_ | refine aom ?_ | refine Alt.std ?_ | (show Ko_ _ _ _ _; subst hKo_) | refine ctt ?_ | refine cff ?_))
                          conv => whnf
                          refine ⟨[0, 1, 2, 3], tmk 145 0 ((fun s : Bool => [(0, .slc 0 13 0 l.length), (1, .slc 1 1 0 l.length), (2, .v (.int .i64 a)), (3, .v (.int .i64 b)), (9, .ptr 2 0 0 0), (10, .ptr 3 0 0 0), (11, .slc 0 13 (a + 1) (b - (a + 1))), (62, .v (.bool s))]) (w3 x y)), (fun s : Bool => wHp o e l o2 ps x y) (w3 x y), ?_⟩
                          repeat ((conv => whnf); (first | refine Cnd.yes ?_ | refine Cnd.no ?_ | refine And.intro rfl ?_ | refine aom ?_ | refine Alt.std ?_ | (show Ko_ _ _ _ _; subst hKo_)))
                          conv => whnf
                          refine ⟨by rw [hW], ?_⟩
                          repeat ((conv => whnf); (first | refine Cnd.yes ?_ | refine Cnd.no ?_ | refine And.intro rfl ?_ | refine aom ?_ | refine Alt.std ?_ | (show Ko_ _ _ _ _; subst hKo_)))
                          conv => whnf
                          exact ⟨w3 x y, rfl, rfl, (tmkK_eq _ _ _ _).mpr rfl, rfl⟩
                      | false =>
                        rw [q3, Bool.false_and, Bool.false_and] at hW
                        repeat ((conv => whnf); (first | refine Cnd.yes ?_ | refine Cnd.no ?_ | refine And.intro rfl ?_ | refine aom ?_ | refine Alt.std ?_ | (show Ko_ _ _ _ _; subst hKo_) | refine ctt ?_ | refine cff ?_))
                        conv => whnf
                        refine ⟨[0, 1, 2, 3], tmk 145 0 ((fun s : Bool => [(0, .slc 0 13 0 l.length), (1, .slc 1 1 0 l.length), (2, .v (.int .i64 a)), (3, .v (.int .i64 b)), (9, .ptr 2 0 0 0), (10, .ptr 3 0 0 0), (11, .slc 0 13 (a + 1) (b - (a + 1))), (62, .v (.bool s))]) (w3 x y)), (fun s : Bool => wHp o e l o2 ps x y) (w3 x y), ?_⟩
                        repeat ((conv => whnf); (first | refine Cnd.yes ?_ | refine Cnd.no ?_ | refine And.intro rfl ?_ | refine aom ?_ | refine Alt.std ?_ | (show Ko_ _ _ _ _; subst hKo_)))
                        conv => whnf
                        refine ⟨by rw [hW], ?_⟩
                        repeat ((conv => whnf); (first | refine Cnd.yes ?_ | refine Cnd.no ?_ | refine And.intro rfl ?_ | refine aom ?_ | refine Alt.std ?_ | (show Ko_ _ _ _ _; subst hKo_)))
                        conv => whnf
                        exact ⟨w3 x y, rfl, rfl, (tmkK_eq _ _ _ _).mpr rfl, rfl⟩
                    | false =>
                      rw [q2, Bool.false_and, Bool.false_and, Bool.false_and] at hW
                      repeat ((conv => whnf); (first | refine Cnd.yes ?_ | refine Cnd.no ?_ | refine And.intro rfl ?_ | refine aom ?_ | refine Alt.std ?_ | (show Ko_ _ _ _ _; subst hKo_) | refine ctt ?_ | refine cff ?_))
                      conv => whnf
                      refine ⟨[0, 1, 2, 3], tmk 145 0 ((fun s : Bool => [(0, .slc 0 13 0 l.length), (1, .slc 1 1 0 l.length), (2, .v (.int .i64 a)), (3, .v (.int .i64 b)), (9, .ptr 2 0 0 0), (10, .ptr 3 0 0 0), (11, .slc 0 13 (a + 1) (b - (a + 1))), (62, .v (.bool s))]) (w3 x y)), (fun s : Bool => wHp o e l o2 ps x y) (w3 x y), ?_⟩
                      repeat ((conv => whnf); (first | refine Cnd.yes ?_ | refine Cnd.no ?_ | refine And.intro rfl ?_ | refine aom ?_ | refine Alt.std ?_ | (show Ko_ _ _ _ _; subst hKo_)))
                      conv => whnf
                      refine ⟨by rw [hW], ?_⟩
                      repeat ((conv => whnf); (first | refine Cnd.yes ?_ | refine Cnd.no ?_ | refine And.intro rfl ?_ | refine aom ?_ | refine Alt.std ?_ | (show Ko_ _ _ _ _; subst hKo_)))
                      conv => whnf
                      exact ⟨w3 x y, rfl, rfl, (tmkK_eq _ _ _ _).mpr rfl, rfl⟩
                · rintro tm hp M1 ⟨v3, hC_, rfl, htm, hhp_⟩
                  replace hC_ : v3 = w3 x y := hC_
                  have h3 := hC_
                  replace htm : tmkK 145 0 [(0, .slc 0 13 0 l.length), (1, .slc 1 1 0 l.length), (2, .v (.int .i64 a)), (3, .v (.int .i64 b)), (9, .ptr 2 0 0 0), (10, .ptr 3 0 0 0), (11, .slc 0 13 (a + 1) (b - (a + 1))), (62, .v (.bool v3))] (fun l => tm = l) := htm
                  conv at htm => whnf
                  subst htm
                  replace hhp_ : hp = wHp o e l o2 ps x y := hhp_
                  subst hhp_
                  rw [← h3] at hK
                  cases v3 with
                  | true =>
                    repeat ((conv => whnf); (first | refine Cnd.yes ?_ | refine Cnd.no ?_ | refine And.intro rfl ?_ | refine aom ?_ | refine Alt.std ?_ | (show Ko_ _ _ _ _; subst hKo_) | refine ctt ?_ | refine cff ?_))
                    conv => whnf
                    refine ⟨[0, 1], .v (.int .i64 3), [.row o e ock (l.map orow), .row o2 3 [.int .i64] (ps.map irow)], ?_⟩
                    repeat ((conv => whnf); (first | refine Cnd.yes ?_ | refine Cnd.no ?_ | refine And.intro rfl ?_ | refine aom ?_ | refine Alt.std ?_ | (show Ko_ _ _ _ _; subst hKo_)))
                    conv => whnf
                    exact hK
                  | false =>
                    repeat ((conv => whnf); (first | refine Cnd.yes ?_ | refine Cnd.no ?_ | refine And.intro rfl ?_ | refine aom ?_ | refine Alt.std ?_ | (show Ko_ _ _ _ _; subst hKo_) | refine ctt ?_ | refine cff ?_))
                    conv => whnf
                    refine ⟨o, e, l, a + 1, b - (a + 1), x, y, rfl, rfl, by omega, hl, hF, ?_⟩
                    cases h4 : barB l (a + 1) (b - (a + 1)) x y with
                    | true =>
                      rw [h4] at hK
                      repeat ((conv => whnf); (first | refine Cnd.yes ?_ | refine Cnd.no ?_ | refine And.intro rfl ?_ | refine aom ?_ | refine Alt.std ?_ | (show Ko_ _ _ _ _; subst hKo_) | refine ctt ?_ | refine cff ?_))
                      conv => whnf
                      refine ⟨[0, 1], .v (.int .i64 4), [.row o e ock (l.map orow), .row o2 3 [.int .i64] (ps.map irow)], ?_⟩
                      repeat ((conv => whnf); (first | refine Cnd.yes ?_ | refine Cnd.no ?_ | refine And.intro rfl ?_ | refine aom ?_ | refine Alt.std ?_ | (show Ko_ _ _ _ _; subst hKo_)))
                      conv => whnf
                      exact hK
                    | false =>
                      rw [h4] at hK
                      repeat ((conv => whnf); (first | refine Cnd.yes ?_ | refine Cnd.no ?_ | refine And.intro rfl ?_ | refine aom ?_ | refine Alt.std ?_ | (show Ko_ _ _ _ _; subst hKo_) | refine ctt ?_ | refine cff ?_))
                      conv => whnf
                      cases h5 : x.aq with
                      | true =>
                        rw [h5] at hK
                        repeat ((conv => whnf); (first | refine Cnd.yes ?_ | refine Cnd.no ?_ | refine And.intro rfl ?_ | refine aom ?_ | refine Alt.std ?_ | (show Ko_ _ _ _ _; subst hKo_) | refine ctt ?_ | refine cff ?_))
                        conv => whnf
                        refine ⟨[0, 1], .v (.int .i64 5), [.row o e ock (l.map orow), .row o2 3 [.int .i64] (ps.map irow)], ?_⟩
                        repeat ((conv => whnf); (first | refine Cnd.yes ?_ | refine Cnd.no ?_ | refine And.intro rfl ?_ | refine aom ?_ | refine Alt.std ?_ | (show Ko_ _ _ _ _; subst hKo_)))
                        conv => whnf
                        exact hK
                      | false =>
                        rw [h5] at hK
                        repeat ((conv => whnf); (first | refine Cnd.yes ?_ | refine Cnd.no ?_ | refine And.intro rfl ?_ | refine aom ?_ | refine Alt.std ?_ | (show Ko_ _ _ _ _; subst hKo_) | refine ctt ?_ | refine cff ?_))
                        conv => whnf
                        cases h6 : y.rl with
                        | true =>
                          rw [h6] at hK
                          repeat ((conv => whnf); (first | refine Cnd.yes ?_ | refine Cnd.no ?_ | refine And.intro rfl ?_ | refine aom ?_ | refine Alt.std ?_ | (show Ko_ _ _ _ _; subst hKo_) | refine ctt ?_ | refine cff ?_))
                          conv => whnf
                          refine ⟨[0, 1], .v (.int .i64 6), [.row o e ock (l.map orow), .row o2 3 [.int .i64] (ps.map irow)], ?_⟩
                          repeat ((conv => whnf); (first | refine Cnd.yes ?_ | refine Cnd.no ?_ | refine And.intro rfl ?_ | refine aom ?_ | refine Alt.std ?_ | (show Ko_ _ _ _ _; subst hKo_)))
                          conv => whnf
                          exact hK
                        | false =>
                          rw [h6] at hK
                          repeat ((conv => whnf); (first | refine Cnd.yes ?_ | refine Cnd.no ?_ | refine And.intro rfl ?_ | refine aom ?_ | refine Alt.std ?_ | (show Ko_ _ _ _ _; subst hKo_) | refine ctt ?_ | refine cff ?_))
                          conv => whnf
                          refine ⟨InvC 145 (fun s : Bool => s = w7 x y) (fun s : Bool => [(0, .slc 0 13 0 l.length), (1, .slc 1 1 0 l.length), (2, .v (.int .i64 a)), (3, .v (.int .i64 b)), (9, .ptr 2 0 0 0), (10, .ptr 3 0 0 0), (11, .slc 0 13 (a + 1) (b - (a + 1))), (95, .v (.bool s))]) (fun s : Bool => wHp o e l o2 ps x y) M1, ?_, ?_⟩
                          · have hW : w7 x y = (mk x && mk y) := rfl
                            repeat ((conv => whnf); (first | refine Cnd.yes ?_ | refine Cnd.no ?_ | refine And.intro rfl ?_ | refine aom ?_ | refine Alt.std ?_ | (show Ko_ _ _ _ _; subst hKo_) | refine ctt ?_ | refine cff ?_))
                            conv => whnf
                            refine ⟨x, rfl, rfl, ?_⟩
                            cases q1 : mk x with
                            | true =>
                              rw [q1, Bool.true_and] at hW
                              repeat ((conv => whnf); (first | refine Cnd.yes ?_ | refine Cnd.no ?_ | refine And.intro rfl ?_ | refine aom ?_ | refine Alt.std ?_ | (show Ko_ _ _ _ _; subst hKo_) | refine ctt ?_ | refine cff ?_))
                              conv => whnf
                              refine ⟨y, rfl, rfl, ?_⟩
                              repeat ((conv => whnf); (first | refine Cnd.yes ?_ | refine Cnd.no ?_ | refine And.intro rfl ?_ | refine aom ?_ | refine Alt.std ?_ | (show Ko_ _ _ _ _; subst hKo_) | refine ctt ?_ | refine cff ?_))
                              conv => whnf
                              refine ⟨[0, 1, 2, 3], tmk 145 0 ((fun s : Bool => [(0, .slc 0 13 0 l.length), (1, .slc 1 1 0 l.length), (2, .v (.int .i64 a)), (3, .v (.int .i64 b)), (9, .ptr 2 0 0 0), (10, .ptr 3 0 0 0), (11, .slc 0 13 (a + 1) (b - (a + 1))), (95, .v (.bool s))]) (w7 x y)), (fun s : Bool => wHp o e l o2 ps x y) (w7 x y), ?_⟩
                              repeat ((conv => whnf); (first | refine Cnd.yes ?_ | refine Cnd.no ?_ | refine And.intro rfl ?_ | refine aom ?_ | refine Alt.std ?_ | (show Ko_ _ _ _ _; subst hKo_)))
                              conv => whnf
                              refine ⟨by rw [hW], ?_⟩
                              repeat ((conv => whnf); (first | refine Cnd.yes ?_ | refine Cnd.no ?_ | refine And.intro rfl ?_ | refine aom ?_ | refine Alt.std ?_ | (show Ko_ _ _ _ _; subst hKo_)))
                              conv => whnf
                              exact ⟨w7 x y, rfl, rfl, (tmkK_eq _ _ _ _).mpr rfl, rfl⟩
                            | false =>
                              rw [q1, Bool.false_and] at hW
                              repeat ((conv => whnf); (first | refine Cnd.yes ?_ | refine Cnd.no ?_ | refine And.intro rfl ?_ | refine aom ?_ | refine Alt.std ?_ | (show Ko_ _ _ _ _; subst hKo_) | refine ctt ?_ | refine cff ?_))
                              conv => whnf
                              refine ⟨[0, 1, 2, 3], tmk 145 0 ((fun s : Bool => [(0, .slc 0 13 0 l.length), (1, .slc 1 1 0 l.length), (2, .v (.int .i64 a)), (3, .v (.int .i64 b)), (9, .ptr 2 0 0 0), (10, .ptr 3 0 0 0), (11, .slc 0 13 (a + 1) (b - (a + 1))), (95, .v (.bool s))]) (w7 x y)), (fun s : Bool => wHp o e l o2 ps x y) (w7 x y), ?_⟩
                              repeat ((conv => whnf); (first | refine Cnd.yes ?_ | refine Cnd.no ?_ | refine And.intro rfl ?_ | refine aom ?_ | refine Alt.std ?_ | (show Ko_ _ _ _ _; subst hKo_)))
                              conv => whnf
                              refine ⟨by rw [hW], ?_⟩
                              repeat ((conv => whnf); (first | refine Cnd.yes ?_ | refine Cnd.no ?_ | refine And.intro rfl ?_ | refine aom ?_ | refine Alt.std ?_ | (show Ko_ _ _ _ _; subst hKo_)))
                              conv => whnf
                              exact ⟨w7 x y, rfl, rfl, (tmkK_eq _ _ _ _).mpr rfl, rfl⟩
                          · rintro tm hp M1 ⟨v7, hC_, rfl, htm, hhp_⟩
                            replace hC_ : v7 = w7 x y := hC_
                            have h7 := hC_
                            replace htm : tmkK 145 0 [(0, .slc 0 13 0 l.length), (1, .slc 1 1 0 l.length), (2, .v (.int .i64 a)), (3, .v (.int .i64 b)), (9, .ptr 2 0 0 0), (10, .ptr 3 0 0 0), (11, .slc 0 13 (a + 1) (b - (a + 1))), (95, .v (.bool v7))] (fun l => tm = l) := htm
                            conv at htm => whnf
                            subst htm
                            replace hhp_ : hp = wHp o e l o2 ps x y := hhp_
                            subst hhp_
                            rw [← h7] at hK
                            cases v7 with
                            | true =>
                              repeat ((conv => whnf); (first | refine Cnd.yes ?_ | refine Cnd.no ?_ | refine And.intro rfl ?_ | refine aom ?_ | refine Alt.std ?_ | (show Ko_ _ _ _ _; subst hKo_) | refine ctt ?_ | refine cff ?_))
                              conv => whnf
                              refine ⟨[0, 1], .v (.int .i64 7), [.row o e ock (l.map orow), .row o2 3 [.int .i64] (ps.map irow)], ?_⟩
                              repeat ((conv => whnf); (first | refine Cnd.yes ?_ | refine Cnd.no ?_ | refine And.intro rfl ?_ | refine aom ?_ | refine Alt.std ?_ | (show Ko_ _ _ _ _; subst hKo_)))
                              conv => whnf
                              exact hK
                            | false =>
                              repeat ((conv => whnf); (first | refine Cnd.yes ?_ | refine Cnd.no ?_ | refine And.intro rfl ?_ | refine aom ?_ | refine Alt.std ?_ | (show Ko_ _ _ _ _; subst hKo_) | refine ctt ?_ | refine cff ?_))
                              conv => whnf
                              rw [e8]
                              cases h8 : (ps.getD b 0 == (a : Int)) with
                              | true =>
                                rw [h8] at hK
                                repeat ((conv => whnf); (first | refine Cnd.yes ?_ | refine Cnd.no ?_ | refine And.intro rfl ?_ | refine aom ?_ | refine Alt.std ?_ | (show Ko_ _ _ _ _; subst hKo_) | refine ctt ?_ | refine cff ?_))
                                conv => whnf
                                refine ⟨[0, 1], .v (.int .i64 8), [.row o e ock (l.map orow), .row o2 3 [.int .i64] (ps.map irow)], ?_⟩
                                repeat ((conv => whnf); (first | refine Cnd.yes ?_ | refine Cnd.no ?_ | refine And.intro rfl ?_ | refine aom ?_ | refine Alt.std ?_ | (show Ko_ _ _ _ _; subst hKo_)))
                                conv => whnf
                                exact hK
                              | false =>
                                rw [h8] at hK
                                repeat ((conv => whnf); (first | refine Cnd.yes ?_ | refine Cnd.no ?_ | refine And.intro rfl ?_ | refine aom ?_ | refine Alt.std ?_ | (show Ko_ _ _ _ _; subst hKo_) | refine ctt ?_ | refine cff ?_))
                                conv => whnf
                                refine ⟨y.ya, ra, _, _, rfl, hRa, ?_⟩
                                repeat ((conv => whnf); (first | refine Cnd.yes ?_ | refine Cnd.no ?_ | refine And.intro rfl ?_ | refine aom ?_ | refine Alt.std ?_ | (show Ko_ _ _ _ _; subst hKo_) | refine ctt ?_ | refine cff ?_))
                                conv => whnf
                                refine ⟨false, ra, y.da, a, by simp, rfl, hDy.2.1, ?_⟩
                                cases h9 : decide ((a : Int) ∈ y.da) with
                                | true =>
                                  rw [h9] at hK
                                  repeat ((conv => whnf); (first | refine Cnd.yes ?_ | refine Cnd.no ?_ | refine And.intro rfl ?_ | refine aom ?_ | refine Alt.std ?_ | (show Ko_ _ _ _ _; subst hKo_) | refine ctt ?_ | refine cff ?_))
                                  conv => whnf
                                  refine ⟨[0, 1], .v (.int .i64 9), [.row o e ock (l.map orow), .row o2 3 [.int .i64] (ps.map irow)], ?_⟩
                                  repeat ((conv => whnf); (first | refine Cnd.yes ?_ | refine Cnd.no ?_ | refine And.intro rfl ?_ | refine aom ?_ | refine Alt.std ?_ | (show Ko_ _ _ _ _; subst hKo_)))
                                  conv => whnf
                                  exact hK
                                | false =>
                                  rw [h9] at hK
                                  repeat ((conv => whnf); (first | refine Cnd.yes ?_ | refine Cnd.no ?_ | refine And.intro rfl ?_ | refine aom ?_ | refine Alt.std ?_ | (show Ko_ _ _ _ _; subst hKo_) | refine ctt ?_ | refine cff ?_))
                                  conv => whnf
                                  refine ⟨y.yd, rb, _, _, rfl, hRd, ?_⟩
                                  repeat ((conv => whnf); (first | refine Cnd.yes ?_ | refine Cnd.no ?_ | refine And.intro rfl ?_ | refine aom ?_ | refine Alt.std ?_ | (show Ko_ _ _ _ _; subst hKo_) | refine ctt ?_ | refine cff ?_))
                                  conv => whnf
                                  refine ⟨false, rb, y.dd, a, by simp, rfl, hDy.2.2.1, ?_⟩
                                  cases h10 : decide ((a : Int) ∈ y.dd) with
                                  | true =>
                                    rw [h10] at hK
                                    repeat ((conv => whnf); (first | refine Cnd.yes ?_ | refine Cnd.no ?_ | refine And.intro rfl ?_ | refine aom ?_ | refine Alt.std ?_ | (show Ko_ _ _ _ _; subst hKo_) | refine ctt ?_ | refine cff ?_))
                                    conv => whnf
                                    refine ⟨[0, 1], .v (.int .i64 10), [.row o e ock (l.map orow), .row o2 3 [.int .i64] (ps.map irow)], ?_⟩
                                    repeat ((conv => whnf); (first | refine Cnd.yes ?_ | refine Cnd.no ?_ | refine And.intro rfl ?_ | refine aom ?_ | refine Alt.std ?_ | (show Ko_ _ _ _ _; subst hKo_)))
                                    conv => whnf
                                    exact hK
                                  | false =>
                                    rw [h10] at hK
                                    repeat ((conv => whnf); (first | refine Cnd.yes ?_ | refine Cnd.no ?_ | refine And.intro rfl ?_ | refine aom ?_ | refine Alt.std ?_ | (show Ko_ _ _ _ _; subst hKo_) | refine ctt ?_ | refine cff ?_))
                                    conv => whnf
                                    refine ⟨InvC 145 (fun s : Bool => s = w11 a y) (fun s : Bool => [(0, .slc 0 13 0 l.length), (1, .slc 1 1 0 l.length), (2, .v (.int .i64 a)), (3, .v (.int .i64 b)), (9, .ptr 2 0 0 0), (10, .ptr 3 0 0 0), (11, .slc 0 13 (a + 1) (b - (a + 1))), (119, .v (.bool s))]) (fun s : Bool => wHp o e l o2 ps x y) M1, ?_, ?_⟩
                                    · have hW : w11 a y = (wr y && decide ((a : Int) ∈ y.dc)) := rfl
                                      repeat ((conv => whnf); (first | refine Cnd.yes ?_ | refine Cnd.no ?_ | refine And.intro rfl ?_ | refine aom ?_ | refine Alt.std ?_ | (show Ko_ _ _ _ _; subst hKo_) | refine ctt ?_ | refine cff ?_))
                                      conv => whnf
                                      refine ⟨y, rfl, rfl, ?_⟩
                                      cases q1 : wr y with
                                      | true =>
                                        rw [q1, Bool.true_and] at hW
                                        repeat ((conv => whnf); (first | refine Cnd.yes ?_ | refine Cnd.no ?_ | refine And.intro rfl ?_ | refine aom ?_ | refine Alt.std ?_ | (show Ko_ _ _ _ _; subst hKo_) | refine ctt ?_ | refine cff ?_))
                                        conv => whnf
                                        refine ⟨y.yc, rc, _, _, rfl, hRc, ?_⟩
                                        repeat ((conv => whnf); (first | refine Cnd.yes ?_ | refine Cnd.no ?_ | refine And.intro rfl ?_ | refine aom ?_ | refine Alt.std ?_ | (show Ko_ _ _ _ _; subst hKo_) | refine ctt ?_ | refine cff ?_))
                                        conv => whnf
                                        refine ⟨false, rc, y.dc, a, by simp, rfl, hDy.2.2.2, ?_⟩
                                        repeat ((conv => whnf); (first | refine Cnd.yes ?_ | refine Cnd.no ?_ | refine And.intro rfl ?_ | refine aom ?_ | refine Alt.std ?_ | (show Ko_ _ _ _ _; subst hKo_) | refine ctt ?_ | refine cff ?_))
                                        conv => whnf
                                        refine ⟨[0, 1, 2, 3], tmk 145 0 ((fun s : Bool => [(0, .slc 0 13 0 l.length), (1, .slc 1 1 0 l.length), (2, .v (.int .i64 a)), (3, .v (.int .i64 b)), (9, .ptr 2 0 0 0), (10, .ptr 3 0 0 0), (11, .slc 0 13 (a + 1) (b - (a + 1))), (119, .v (.bool s))]) (w11 a y)), (fun s : Bool => wHp o e l o2 ps x y) (w11 a y), ?_⟩
                                        repeat ((conv => whnf); (first | refine Cnd.yes ?_ | refine Cnd.no ?_ | refine And.intro rfl ?_ | refine aom ?_ | refine Alt.std ?_ | (show Ko_ _ _ _ _; subst hKo_)))
                                        conv => whnf
                                        refine ⟨by rw [hW], ?_⟩
                                        repeat ((conv => whnf); (first | refine Cnd.yes ?_ | refine Cnd.no ?_ | refine And.intro rfl ?_ | refine aom ?_ | refine Alt.std ?_ | (show Ko_ _ _ _ _; subst hKo_)))
                                        conv => whnf
                                        exact ⟨w11 a y, rfl, rfl, (tmkK_eq _ _ _ _).mpr rfl, rfl⟩
                                      | false =>
                                        rw [q1, Bool.false_and] at hW
                                        repeat ((conv => whnf); (first | refine Cnd.yes ?_ | refine Cnd.no ?_ | refine And.intro rfl ?_ | refine aom ?_ | refine Alt.std ?_ | (show Ko_ _ _ _ _; subst hKo_) | refine ctt ?_ | refine cff ?_))
                                        conv => whnf
                                        refine ⟨[0, 1, 2, 3], tmk 145 0 ((fun s : Bool => [(0, .slc 0 13 0 l.length), (1, .slc 1 1 0 l.length), (2, .v (.int .i64 a)), (3, .v (.int .i64 b)), (9, .ptr 2 0 0 0), (10, .ptr 3 0 0 0), (11, .slc 0 13 (a + 1) (b - (a + 1))), (119, .v (.bool s))]) (w11 a y)), (fun s : Bool => wHp o e l o2 ps x y) (w11 a y), ?_⟩
                                        repeat ((conv => whnf); (first | refine Cnd.yes ?_ | refine Cnd.no ?_ | refine And.intro rfl ?_ | refine aom ?_ | refine Alt.std ?_ | (show Ko_ _ _ _ _; subst hKo_)))
                                        conv => whnf
                                        refine ⟨by rw [hW], ?_⟩
                                        repeat ((conv => whnf); (first | refine Cnd.yes ?_ | refine Cnd.no ?_ | refine And.intro rfl ?_ | refine aom ?_ | refine Alt.std ?_ | (show Ko_ _ _ _ _; subst hKo_)))
                                        conv => whnf
                                        exact ⟨w11 a y, rfl, rfl, (tmkK_eq _ _ _ _).mpr rfl, rfl⟩
                                    · rintro tm hp M1 ⟨v11, hC_, rfl, htm, hhp_⟩
                                      replace hC_ : v11 = w11 a y := hC_
                                      have h11 := hC_
                                      replace htm : tmkK 145 0 [(0, .slc 0 13 0 l.length), (1, .slc 1 1 0 l.length), (2, .v (.int .i64 a)), (3, .v (.int .i64 b)), (9, .ptr 2 0 0 0), (10, .ptr 3 0 0 0), (11, .slc 0 13 (a + 1) (b - (a + 1))), (119, .v (.bool v11))] (fun l => tm = l) := htm
                                      conv at htm => whnf
                                      subst htm
                                      replace hhp_ : hp = wHp o e l o2 ps x y := hhp_
                                      subst hhp_
                                      rw [← h11] at hK
                                      cases v11 with
                                      | true =>
                                        repeat ((conv => whnf); (first | refine Cnd.yes ?_ | refine Cnd.no ?_ | refine And.intro rfl ?_ | refine aom ?_ | refine Alt.std ?_ | (show Ko_ _ _ _ _; subst hKo_) | refine ctt ?_ | refine cff ?_))
                                        conv => whnf
                                        refine ⟨[0, 1], .v (.int .i64 11), [.row o e ock (l.map orow), .row o2 3 [.int .i64] (ps.map irow)], ?_⟩
                                        repeat ((conv => whnf); (first | refine Cnd.yes ?_ | refine Cnd.no ?_ | refine And.intro rfl ?_ | refine aom ?_ | refine Alt.std ?_ | (show Ko_ _ _ _ _; subst hKo_)))
                                        conv => whnf
                                        exact hK
                                      | false =>
                                        repeat ((conv => whnf); (first | refine Cnd.yes ?_ | refine Cnd.no ?_ | refine And.intro rfl ?_ | refine aom ?_ | refine Alt.std ?_ | (show Ko_ _ _ _ _; subst hKo_) | refine ctt ?_ | refine cff ?_))
                                        conv => whnf
                                        refine ⟨InvC 145 (fun s : Bool => s = w12 l a b y) (fun s : Bool => [(0, .slc 0 13 0 l.length), (1, .slc 1 1 0 l.length), (2, .v (.int .i64 a)), (3, .v (.int .i64 b)), (9, .ptr 2 0 0 0), (10, .ptr 3 0 0 0), (11, .slc 0 13 (a + 1) (b - (a + 1))), (128, .v (.bool s))]) (fun s : Bool => wHp o e l o2 ps x y) M1, ?_, ?_⟩
                                        · have hW : w12 l a b y = (rd y && thB l a b) := rfl
                                          repeat ((conv => whnf); (first | refine Cnd.yes ?_ | refine Cnd.no ?_ | refine And.intro rfl ?_ | refine aom ?_ | refine Alt.std ?_ | (show Ko_ _ _ _ _; subst hKo_) | refine ctt ?_ | refine cff ?_))
                                          conv => whnf
                                          refine ⟨y, rfl, rfl, ?_⟩
                                          cases q1 : rd y with
                                          | true =>
                                            rw [q1, Bool.true_and] at hW
                                            repeat ((conv => whnf); (first | refine Cnd.yes ?_ | refine Cnd.no ?_ | refine And.intro rfl ?_ | refine aom ?_ | refine Alt.std ?_ | (show Ko_ _ _ _ _; subst hKo_) | refine ctt ?_ | refine cff ?_))
                                            conv => whnf
                                            refine ⟨o, e, l, a, b, rfl, rfl, hab, hbl, hl, hF, hD, ?_⟩
                                            repeat ((conv => whnf); (first | refine Cnd.yes ?_ | refine Cnd.no ?_ | refine And.intro rfl ?_ | refine aom ?_ | refine Alt.std ?_ | (show Ko_ _ _ _ _; subst hKo_) | refine ctt ?_ | refine cff ?_))
                                            conv => whnf
                                            refine ⟨[0, 1, 2, 3], tmk 145 0 ((fun s : Bool => [(0, .slc 0 13 0 l.length), (1, .slc 1 1 0 l.length), (2, .v (.int .i64 a)), (3, .v (.int .i64 b)), (9, .ptr 2 0 0 0), (10, .ptr 3 0 0 0), (11, .slc 0 13 (a + 1) (b - (a + 1))), (128, .v (.bool s))]) (w12 l a b y)), (fun s : Bool => wHp o e l o2 ps x y) (w12 l a b y), ?_⟩
                                            repeat ((conv => whnf); (first | refine Cnd.yes ?_ | refine Cnd.no ?_ | refine And.intro rfl ?_ | refine aom ?_ | refine Alt.std ?_ | (show Ko_ _ _ _ _; subst hKo_)))
                                            conv => whnf
                                            refine ⟨by rw [hW], ?_⟩
                                            repeat ((conv => whnf); (first | refine Cnd.yes ?_ | refine Cnd.no ?_ | refine And.intro rfl ?_ | refine aom ?_ | refine Alt.std ?_ | (show Ko_ _ _ _ _; subst hKo_)))
                                            conv => whnf
                                            exact ⟨w12 l a b y, rfl, rfl, (tmkK_eq _ _ _ _).mpr rfl, rfl⟩
                                          | false =>
                                            rw [q1, Bool.false_and] at hW
                                            repeat ((conv => whnf); (first | refine Cnd.yes ?_ | refine Cnd.no ?_ | refine And.intro rfl ?_ | refine aom ?_ | refine Alt.std ?_ | (show Ko_ _ _ _ _; subst hKo_) | refine ctt ?_ | refine cff ?_))
                                            conv => whnf
                                            refine ⟨[0, 1, 2, 3], tmk 145 0 ((fun s : Bool => [(0, .slc 0 13 0 l.length), (1, .slc 1 1 0 l.length), (2, .v (.int .i64 a)), (3, .v (.int .i64 b)), (9, .ptr 2 0 0 0), (10, .ptr 3 0 0 0), (11, .slc 0 13 (a + 1) (b - (a + 1))), (128, .v (.bool s))]) (w12 l a b y)), (fun s : Bool => wHp o e l o2 ps x y) (w12 l a b y), ?_⟩
                                            repeat ((conv => whnf); (first | refine Cnd.yes ?_ | refine Cnd.no ?_ | refine And.intro rfl ?_ | refine aom ?_ | refine Alt.std ?_ | (show Ko_ _ _ _ _; subst hKo_)))
                                            conv => whnf
                                            refine ⟨by rw [hW], ?_⟩
                                            repeat ((conv => whnf); (first | refine Cnd.yes ?_ | refine Cnd.no ?_ | refine And.intro rfl ?_ | refine aom ?_ | refine Alt.std ?_ | (show Ko_ _ _ _ _; subst hKo_)))
                                            conv => whnf
                                            exact ⟨w12 l a b y, rfl, rfl, (tmkK_eq _ _ _ _).mpr rfl, rfl⟩
                                        · rintro tm hp M1 ⟨v12, hC_, rfl, htm, hhp_⟩
                                          replace hC_ : v12 = w12 l a b y := hC_
                                          have h12 := hC_
                                          replace htm : tmkK 145 0 [(0, .slc 0 13 0 l.length), (1, .slc 1 1 0 l.length), (2, .v (.int .i64 a)), (3, .v (.int .i64 b)), (9, .ptr 2 0 0 0), (10, .ptr 3 0 0 0), (11, .slc 0 13 (a + 1) (b - (a + 1))), (128, .v (.bool v12))] (fun l => tm = l) := htm
                                          conv at htm => whnf
                                          subst htm
                                          replace hhp_ : hp = wHp o e l o2 ps x y := hhp_
                                          subst hhp_
                                          rw [← h12] at hK
                                          cases v12 with
                                          | true =>
                                            repeat ((conv => whnf); (first | refine Cnd.yes ?_ | refine Cnd.no ?_ | refine And.intro rfl ?_ | refine aom ?_ | refine Alt.std ?_ | (show Ko_ _ _ _ _; subst hKo_) | refine ctt ?_ | refine cff ?_))
                                            conv => whnf
                                            refine ⟨[0, 1], .v (.int .i64 12), [.row o e ock (l.map orow), .row o2 3 [.int .i64] (ps.map irow)], ?_⟩
                                            repeat ((conv => whnf); (first | refine Cnd.yes ?_ | refine Cnd.no ?_ | refine And.intro rfl ?_ | refine aom ?_ | refine Alt.std ?_ | (show Ko_ _ _ _ _; subst hKo_)))
                                            conv => whnf
                                            exact hK
                                          | false =>
                                            repeat ((conv => whnf); (first | refine Cnd.yes ?_ | refine Cnd.no ?_ | refine And.intro rfl ?_ | refine aom ?_ | refine Alt.std ?_ | (show Ko_ _ _ _ _; subst hKo_) | refine ctt ?_ | refine cff ?_))
                                            conv => whnf
                                            refine ⟨InvC 145 (fun s : Bool => s = w13 l a b y) (fun s : Bool => [(0, .slc 0 13 0 l.length), (1, .slc 1 1 0 l.length), (2, .v (.int .i64 a)), (3, .v (.int .i64 b)), (9, .ptr 2 0 0 0), (10, .ptr 3 0 0 0), (11, .slc 0 13 (a + 1) (b - (a + 1))), (137, .v (.bool s))]) (fun s : Bool => wHp o e l o2 ps x y) M1, ?_, ?_⟩
                                            · have hW : w13 l a b y = (wr y && plB l (a + 1) (b - (a + 1)) a) := rfl
                                              repeat ((conv => whnf); (first | refine Cnd.yes ?_ | refine Cnd.no ?_ | refine And.intro rfl ?_ | refine aom ?_ | refine Alt.std ?_ | (show Ko_ _ _ _ _; subst hKo_) | refine ctt ?_ | refine cff ?_))
                                              conv => whnf
                                              refine ⟨y, rfl, rfl, ?_⟩
                                              cases q1 : wr y with
                                              | true =>
                                                rw [q1, Bool.true_and] at hW
                                                repeat ((conv => whnf); (first | refine Cnd.yes ?_ | refine Cnd.no ?_ | refine And.intro rfl ?_ | refine aom ?_ | refine Alt.std ?_ | (show Ko_ _ _ _ _; subst hKo_) | refine ctt ?_ | refine cff ?_))
                                                conv => whnf
                                                refine ⟨o, e, l, a + 1, b - (a + 1), a, rfl, rfl, by omega, hl, hF, hD, ?_⟩
                                                repeat ((conv => whnf); (first | refine Cnd.yes ?_ | refine Cnd.no ?_ | refine And.intro rfl ?_ | refine aom ?_ | refine Alt.std ?_ | (show Ko_ _ _ _ _; subst hKo_) | refine ctt ?_ | refine cff ?_))
                                                conv => whnf
                                                refine ⟨[0, 1, 2, 3], tmk 145 0 ((fun s : Bool => [(0, .slc 0 13 0 l.length), (1, .slc 1 1 0 l.length), (2, .v (.int .i64 a)), (3, .v (.int .i64 b)), (9, .ptr 2 0 0 0), (10, .ptr 3 0 0 0), (11, .slc 0 13 (a + 1) (b - (a + 1))), (137, .v (.bool s))]) (w13 l a b y)), (fun s : Bool => wHp o e l o2 ps x y) (w13 l a b y), ?_⟩
                                                repeat ((conv => whnf); (first | refine Cnd.yes ?_ | refine Cnd.no ?_ | refine And.intro rfl ?_ | refine aom ?_ | refine Alt.std ?_ | (show Ko_ _ _ _ _; subst hKo_)))
                                                conv => whnf
                                                refine ⟨by rw [hW], ?_⟩
                                                repeat ((conv => whnf); (first | refine Cnd.yes ?_ | refine Cnd.no ?_ | refine And.intro rfl ?_ | refine aom ?_ | refine Alt.std ?_ | (show Ko_ _ _ _ _; subst hKo_)))
                                                conv => whnf
                                                exact ⟨w13 l a b y, rfl, rfl, (tmkK_eq _ _ _ _).mpr rfl, rfl⟩
                                              | false =>
                                                rw [q1, Bool.false_and] at hW
                                                repeat ((conv => whnf); (first | refine Cnd.yes ?_ | refine Cnd.no ?_ | refine And.intro rfl ?_ | refine aom ?_ | refine Alt.std ?_ | (show Ko_ _ _ _ _; subst hKo_) | refine ctt ?_ | refine cff ?_))
                                                conv => whnf
                                                refine ⟨[0, 1, 2, 3], tmk 145 0 ((fun s : Bool => [(0, .slc 0 13 0 l.length), (1, .slc 1 1 0 l.length), (2, .v (.int .i64 a)), (3, .v (.int .i64 b)), (9, .ptr 2 0 0 0), (10, .ptr 3 0 0 0), (11, .slc 0 13 (a + 1) (b - (a + 1))), (137, .v (.bool s))]) (w13 l a b y)), (fun s : Bool => wHp o e l o2 ps x y) (w13 l a b y), ?_⟩
                                                repeat ((conv => whnf); (first | refine Cnd.yes ?_ | refine Cnd.no ?_ | refine And.intro rfl ?_ | refine aom ?_ | refine Alt.std ?_ | (show Ko_ _ _ _ _; subst hKo_)))
                                                conv => whnf
                                                refine ⟨by rw [hW], ?_⟩
                                                repeat ((conv => whnf); (first | refine Cnd.yes ?_ | refine Cnd.no ?_ | refine And.intro rfl ?_ | refine aom ?_ | refine Alt.std ?_ | (show Ko_ _ _ _ _; subst hKo_)))
                                                conv => whnf
                                                exact ⟨w13 l a b y, rfl, rfl, (tmkK_eq _ _ _ _).mpr rfl, rfl⟩
                                            · rintro tm hp M1 ⟨v13, hC_, rfl, htm, hhp_⟩
                                              replace hC_ : v13 = w13 l a b y := hC_
                                              have h13 := hC_
                                              replace htm : tmkK 145 0 [(0, .slc 0 13 0 l.length), (1, .slc 1 1 0 l.length), (2, .v (.int .i64 a)), (3, .v (.int .i64 b)), (9, .ptr 2 0 0 0), (10, .ptr 3 0 0 0), (11, .slc 0 13 (a + 1) (b - (a + 1))), (137, .v (.bool v13))] (fun l => tm = l) := htm
                                              conv at htm => whnf
                                              subst htm
                                              replace hhp_ : hp = wHp o e l o2 ps x y := hhp_
                                              subst hhp_
                                              rw [← h13] at hK
                                              cases v13 with
                                              | true =>
                                                repeat ((conv => whnf); (first | refine Cnd.yes ?_ | refine Cnd.no ?_ | refine And.intro rfl ?_ | refine aom ?_ | refine Alt.std ?_ | (show Ko_ _ _ _ _; subst hKo_) | refine ctt ?_ | refine cff ?_))
                                                conv => whnf
                                                refine ⟨[0, 1], .v (.int .i64 13), [.row o e ock (l.map orow), .row o2 3 [.int .i64] (ps.map irow)], ?_⟩
                                                repeat ((conv => whnf); (first | refine Cnd.yes ?_ | refine Cnd.no ?_ | refine And.intro rfl ?_ | refine aom ?_ | refine Alt.std ?_ | (show Ko_ _ _ _ _; subst hKo_)))
                                                conv => whnf
                                                exact hK
                                              | false =>
                                                repeat ((conv => whnf); (first | refine Cnd.yes ?_ | refine Cnd.no ?_ | refine And.intro rfl ?_ | refine aom ?_ | refine Alt.std ?_ | (show Ko_ _ _ _ _; subst hKo_) | refine ctt ?_ | refine cff ?_))
                                                conv => whnf
                                                refine ⟨[0, 1], .v (.int .i64 0), [.row o e ock (l.map orow), .row o2 3 [.int .i64] (ps.map irow)], ?_⟩
                                                repeat ((conv => whnf); (first | refine Cnd.yes ?_ | refine Cnd.no ?_ | refine And.intro rfl ?_ | refine aom ?_ | refine Alt.std ?_ | (show Ko_ _ _ _ _; subst hKo_)))
                                                conv => whnf
                                                exact hK
end Go.Proofs.YtkfkoldaeplckaaDoor
/-
  Why, first, walked; their contracts.
-/
namespace Go.Proofs.YtkfkoldaeplckaaDoor
open Go Go.Vc
set_option maxRecDepth 100000
set_option linter.unusedSimpArgs false
set_option linter.unusedVariables false
set_option maxHeartbeats 4000000
def withS : Vc.Spec := fun args hp M K => ∃ (o : Bool) (e : TypeId) (l : List Op) (o2 : Bool) (ps : List Int) (a b : Nat), args = [.slc 0 13 0 l.length, .slc 1 1 0 l.length, .v (.int .i64 a), .v (.int .i64 b)] ∧ hp = [.row o e ock (l.map orow), .row o2 3 [.int .i64] (ps.map irow)] ∧ a < b ∧ b < l.length ∧ ps.length = l.length ∧ l.length ≤ 1000 ∧ (∀ x ∈ l, Fit x) ∧ Deps M l ∧
  K (.v (.int .i64 (withN l ps a b (l.getD a default) (l.getD b default)))) [.row o e ock (l.map orow), .row o2 3 [.int .i64] (ps.map irow)]
theorem with_ok : SOK Tryd.prog 58 withS := by
  refine TOK.weaken (TOK.out (runF_eq G5_ok mixed at58.1 at58.2 pf58_eq)) fun args hp M K h => ?_
  obtain ⟨o, e, l, o2, ps, a, b, rfl, rfl, h1, h2, h3, h4, h5, h6, h7⟩ := h
  exact with_run M K o e l o2 ps a b _ _ rfl rfl h1 h2 h3 h4 h5 h6 h7
noncomputable def specs6 : Nat → Option Vc.Trans := tget [(53, frameT pairsS), (58, frameT withS)]
noncomputable def G6 : Nat → Option Vc.Trans := tabG specs6 (tget tab) 5
theorem G6_ok : GOK Tryd.prog G6 := tabG_ok (GOK.cons (frame_ok pairs_ok) (GOK.cons (frame_ok with_ok) .nil)) tab_ok 5
end Go.Proofs.YtkfkoldaeplckaaDoor
