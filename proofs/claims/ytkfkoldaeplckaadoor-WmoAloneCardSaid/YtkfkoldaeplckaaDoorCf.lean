/-
  through, walked; its contract.
-/
import Derived.Test.YtkfkoldaeplckaaDoorCd
set_option linter.unusedSimpArgs false
set_option linter.unusedVariables false

namespace Go.Proofs.YtkfkoldaeplckaaDoor
open Go Go.Vc
set_option maxRecDepth 100000
set_option linter.unusedSimpArgs false
set_option linter.unusedVariables false
set_option maxHeartbeats 4000000
noncomputable def specs4 : Nat → Option Vc.Trans := tget [(74, frameT writesS), (75, frameT meetS), (76, frameT readsS), (77, frameT overS), (78, frameT barredS), (79, frameT markedS), (80, openAtG (frameT contS) 0), (82, frameT placedS)]
noncomputable def G4 : Nat → Option Vc.Trans := tabG specs4 (tget tab) 5
theorem G4_ok : GOK Tryd.prog G4 := tabG_ok (GOK.cons (frame_ok writes_ok) (GOK.cons (frame_ok meet_ok) (GOK.cons (frame_ok reads_ok) (GOK.cons (frame_ok over_ok) (GOK.cons (frame_ok barred_ok) (GOK.cons (frame_ok marked_ok) (GOK.cons (openAtG_ok (frame_ok cont_ok) 0) (GOK.cons (frame_ok placed_ok) .nil)))))))) tab_ok 5
def thP (l : List Op) (a : Int) (b i : Nat) : Bool := wr (l.getD i default) && (decide (a ∈ (l.getD i default).da) || decide (a ∈ (l.getD i default).dd)) && meetB [l.getD i default, l.getD b default] && !overB l (i + 1) (b - (i + 1)) (l.getD i default) (l.getD b default)
def thB (l : List Op) (a b : Nat) : Bool := anyB (b - (a + 1)) fun j => thP l a b (a + 1 + j)
theorem through_run (M : HL) (K : SV → List Ent → HL → Prop) (o : Bool) (e : TypeId) (l : List Op) (a b : Nat) (hab : a < b) (hbl : b < l.length) (hl : l.length ≤ 1000) (hF : ∀ x ∈ l, Fit x) (hD : Deps M l) (hK : K (.v (.bool (thB l a b))) [.row o e ock (l.map orow)] M) :
    runF G4 pf81 [.slc 0 13 0 l.length, .v (.int .i64 a), .v (.int .i64 b)] [.row o e ock (l.map orow)] M fun v hp2 M2 => ∃ m v' hp', Wk (llen [Ent.row o e ock (l.map orow)]) m [v] hp2 [v'] hp' (K v' hp' M2) := by
  unfold thB at hK
  have ea : IntKind.i64.wrap ((a : Int) + 1) = ((a + 1 : Nat) : Int) := by rw [IntKind.wrap_i64]; omega
  obtain ⟨y, hy⟩ : ∃ y, l.getD b default = y := ⟨_, rfl⟩
  have hfy := hF (l.getD b default) (by simp [List.getD, hbl])
  rw [hy] at hfy
  repeat ((conv => whnf); (first | refine Cnd.yes ?_ | refine Cnd.no ?_ | refine And.intro rfl ?_ | refine aom ?_ | refine Alt.std ?_ | (show Ko_ _ _ _ _; subst hKo_) | refine ctt ?_ | refine cff ?_))
  conv => whnf
  refine ⟨InvS 57 (fun s : Nat => b - s) (fun s : Nat => a + 1 ≤ s ∧ s ≤ b ∧ ∀ j, j < s - (a + 1) → thP l a b (a + 1 + j) = false) (fun s : Nat => [(0, .slc 0 13 0 l.length), (1, .v (.int .i64 a)), (2, .v (.int .i64 b)), (7, .v (.int .i64 s))]) (fun s : Nat => [Ent.row o e ock (l.map orow)]) M, ⟨(fun s : Nat => b - s) (a + 1), [0], tmk 57 0 ((fun s : Nat => [(0, .slc 0 13 0 l.length), (1, .v (.int .i64 a)), (2, .v (.int .i64 b)), (7, .v (.int .i64 s))]) (a + 1)), (fun s : Nat => [Ent.row o e ock (l.map orow)]) (a + 1), ?_⟩, ?_⟩
  · repeat ((conv => whnf); (first | refine Cnd.yes ?_ | refine Cnd.no ?_ | refine And.intro rfl ?_ | refine aom ?_ | refine Alt.std ?_ | (show Ko_ _ _ _ _; subst hKo_)))
    conv => whnf
    exact ⟨(a + 1), ⟨Nat.le_refl _, hab, fun j hj => by omega⟩, rfl, rfl, (tmkK_eq _ _ _ _).mpr rfl, rfl⟩
  · rintro Ko_ hKo_ cnt tm hp M1 ⟨i, hC_, rfl, rfl, htm, hhp_⟩
    replace hC_ : a + 1 ≤ i ∧ i ≤ b ∧ ∀ j, j < i - (a + 1) → thP l a b (a + 1 + j) = false := hC_
    obtain ⟨hi0, hi, hall⟩ := hC_
    replace htm : tmkK 57 0 [(0, .slc 0 13 0 l.length), (1, .v (.int .i64 a)), (2, .v (.int .i64 b)), (7, .v (.int .i64 i))] (fun l => tm = l) := htm
    conv at htm => whnf
    subst htm
    replace hhp_ : hp = [Ent.row o e ock (l.map orow)] := hhp_
    subst hhp_
    repeat ((conv => whnf); (first | refine Cnd.yes ?_ | refine Cnd.no ?_ | refine And.intro rfl ?_ | refine aom ?_ | refine Alt.std ?_ | (show Ko_ _ _ _ _; subst hKo_) | refine ctt ?_ | refine cff ?_))
    conv => whnf
    refine Cnd.mk (fun hlt => ?_) fun hge => ?_
    · have hin : i < b := by have := of_decide_eq_true hlt; omega
      have hfi := hF (l.getD i default) (by simp [List.getD, show i < l.length by omega])
      obtain ⟨z, hz⟩ : ∃ z, l.getD i default = z := ⟨_, rfl⟩
      have hz0 : l.getD (0 + (i : Int).toNat) default = z := by rw [Nat.zero_add, Int.toNat_natCast]; exact hz
      have hDi := hD (l.getD i default) (by simp [List.getD, show i < l.length by omega])
      rw [hz] at hfi hDi
      have ei : IntKind.i64.wrap ((i : Int) + 1) = ((i + 1 : Nat) : Int) := by rw [IntKind.wrap_i64]; omega
      have c0 : toI (cellAt (List.map orow l) (0 + (i : Int).toNat) 0) = Op.k z := by rw [ocell l (show 0 + (i : Int).toNat < l.length by omega), hz0]; rfl
      have c1 : toI (cellAt (List.map orow l) (0 + (i : Int).toNat) (0 + 1)) = Op.sz z := by rw [ocell l (show 0 + (i : Int).toNat < l.length by omega), hz0]; rfl
      have c2 : toI (cellAt (List.map orow l) (0 + (i : Int).toNat) (0 + 1 + 1)) = Op.ad z := by rw [ocell l (show 0 + (i : Int).toNat < l.length by omega), hz0]; rfl
      have c3 : toI (cellAt (List.map orow l) (0 + (i : Int).toNat) (0 + 1 + 1 + 1)) = Op.v z := by rw [ocell l (show 0 + (i : Int).toNat < l.length by omega), hz0]; rfl
      have c4 : toI (cellAt (List.map orow l) (0 + (i : Int).toNat) (0 + 1 + 1 + 1 + 1)) = Op.g z := by rw [ocell l (show 0 + (i : Int).toNat < l.length by omega), hz0]; rfl
      have c5 : toB (cellAt (List.map orow l) (0 + (i : Int).toNat) (0 + 1 + 1 + 1 + 1 + 1)) = Op.pr z := by rw [ocell l (show 0 + (i : Int).toNat < l.length by omega), hz0]; rfl
      have c6 : toB (cellAt (List.map orow l) (0 + (i : Int).toNat) (0 + 1 + 1 + 1 + 1 + 1 + 1)) = Op.aq z := by rw [ocell l (show 0 + (i : Int).toNat < l.length by omega), hz0]; rfl
      have c7 : toB (cellAt (List.map orow l) (0 + (i : Int).toNat) (0 + 1 + 1 + 1 + 1 + 1 + 1 + 1)) = Op.rl z := by rw [ocell l (show 0 + (i : Int).toNat < l.length by omega), hz0]; rfl
      have c8 : toI (cellAt (List.map orow l) (0 + (i : Int).toNat) (0 + 1 + 1 + 1 + 1 + 1 + 1 + 1 + 1)) = Op.pd z := by rw [ocell l (show 0 + (i : Int).toNat < l.length by omega), hz0]; rfl
      have c9 : toI (cellAt (List.map orow l) (0 + (i : Int).toNat) (0 + 1 + 1 + 1 + 1 + 1 + 1 + 1 + 1 + 1)) = Op.sc z := by rw [ocell l (show 0 + (i : Int).toNat < l.length by omega), hz0]; rfl
      have c10 : cellAt (List.map orow l) (0 + (i : Int).toNat) (0 + 1 + 1 + 1 + 1 + 1 + 1 + 1 + 1 + 1 + 1) = Op.ya z := by rw [ocell l (show 0 + (i : Int).toNat < l.length by omega), hz0]; rfl
      have c11 : cellAt (List.map orow l) (0 + (i : Int).toNat) (0 + 1 + 1 + 1 + 1 + 1 + 1 + 1 + 1 + 1 + 1 + 1) = Op.yd z := by rw [ocell l (show 0 + (i : Int).toNat < l.length by omega), hz0]; rfl
      have c12 : cellAt (List.map orow l) (0 + (i : Int).toNat) (0 + 1 + 1 + 1 + 1 + 1 + 1 + 1 + 1 + 1 + 1 + 1 + 1) = Op.yc z := by rw [ocell l (show 0 + (i : Int).toNat < l.length by omega), hz0]; rfl
      repeat ((conv => whnf); (first | refine Cnd.yes ?_ | refine Cnd.no ?_ | refine And.intro rfl ?_ | refine aom ?_ | refine Alt.std ?_ | (show Ko_ _ _ _ _; subst hKo_) | refine ctt ?_ | refine cff ?_))
      conv => whnf
      rw [c0, c1, c2, c3, c4, c5, c6, c7, c8, c9, c10, c11, c12]
      clear c0 c1 c2 c3 c4 c5 c6 c7 c8 c9 c10 c11 c12
      repeat ((conv => whnf); (first | refine Cnd.yes ?_ | refine Cnd.no ?_ | refine And.intro rfl ?_ | refine aom ?_ | refine Alt.std ?_ | (show Ko_ _ _ _ _; subst hKo_) | refine ctt ?_ | refine cff ?_))
      conv => whnf
      refine ⟨InvC 57 (fun s : Bool => s = thP l a b i) (fun s : Bool => [(0, .slc 0 13 0 l.length), (1, .v (.int .i64 a)), (2, .v (.int .i64 b)), (7, .v (.int .i64 i)), (56, .v (.bool s))]) (fun s : Bool => [Ent.row o e ock (l.map orow)]) M1, ?_, ?_⟩
      · have hP : thP l a b i = (wr z && (decide ((a : Int) ∈ z.da) || decide ((a : Int) ∈ z.dd)) && meetB [z, y] && !overB l (i + 1) (b - (i + 1)) z y) := by unfold thP; rw [hz, hy]
        have hy0 : l.getD (0 + (b : Int).toNat) default = y := by rw [Nat.zero_add, Int.toNat_natCast]; exact hy
        have c0 : toI (cellAt (List.map orow l) (0 + (b : Int).toNat) 0) = Op.k y := by rw [ocell l (show 0 + (b : Int).toNat < l.length by omega), hy0]; rfl
        have c1 : toI (cellAt (List.map orow l) (0 + (b : Int).toNat) (0 + 1)) = Op.sz y := by rw [ocell l (show 0 + (b : Int).toNat < l.length by omega), hy0]; rfl
        have c2 : toI (cellAt (List.map orow l) (0 + (b : Int).toNat) (0 + 1 + 1)) = Op.ad y := by rw [ocell l (show 0 + (b : Int).toNat < l.length by omega), hy0]; rfl
        have c3 : toI (cellAt (List.map orow l) (0 + (b : Int).toNat) (0 + 1 + 1 + 1)) = Op.v y := by rw [ocell l (show 0 + (b : Int).toNat < l.length by omega), hy0]; rfl
        have c4 : toI (cellAt (List.map orow l) (0 + (b : Int).toNat) (0 + 1 + 1 + 1 + 1)) = Op.g y := by rw [ocell l (show 0 + (b : Int).toNat < l.length by omega), hy0]; rfl
        have c5 : toB (cellAt (List.map orow l) (0 + (b : Int).toNat) (0 + 1 + 1 + 1 + 1 + 1)) = Op.pr y := by rw [ocell l (show 0 + (b : Int).toNat < l.length by omega), hy0]; rfl
        have c6 : toB (cellAt (List.map orow l) (0 + (b : Int).toNat) (0 + 1 + 1 + 1 + 1 + 1 + 1)) = Op.aq y := by rw [ocell l (show 0 + (b : Int).toNat < l.length by omega), hy0]; rfl
        have c7 : toB (cellAt (List.map orow l) (0 + (b : Int).toNat) (0 + 1 + 1 + 1 + 1 + 1 + 1 + 1)) = Op.rl y := by rw [ocell l (show 0 + (b : Int).toNat < l.length by omega), hy0]; rfl
        have c8 : toI (cellAt (List.map orow l) (0 + (b : Int).toNat) (0 + 1 + 1 + 1 + 1 + 1 + 1 + 1 + 1)) = Op.pd y := by rw [ocell l (show 0 + (b : Int).toNat < l.length by omega), hy0]; rfl
        have c9 : toI (cellAt (List.map orow l) (0 + (b : Int).toNat) (0 + 1 + 1 + 1 + 1 + 1 + 1 + 1 + 1 + 1)) = Op.sc y := by rw [ocell l (show 0 + (b : Int).toNat < l.length by omega), hy0]; rfl
        have c10 : cellAt (List.map orow l) (0 + (b : Int).toNat) (0 + 1 + 1 + 1 + 1 + 1 + 1 + 1 + 1 + 1 + 1) = Op.ya y := by rw [ocell l (show 0 + (b : Int).toNat < l.length by omega), hy0]; rfl
        have c11 : cellAt (List.map orow l) (0 + (b : Int).toNat) (0 + 1 + 1 + 1 + 1 + 1 + 1 + 1 + 1 + 1 + 1 + 1) = Op.yd y := by rw [ocell l (show 0 + (b : Int).toNat < l.length by omega), hy0]; rfl
        have c12 : cellAt (List.map orow l) (0 + (b : Int).toNat) (0 + 1 + 1 + 1 + 1 + 1 + 1 + 1 + 1 + 1 + 1 + 1 + 1) = Op.yc y := by rw [ocell l (show 0 + (b : Int).toNat < l.length by omega), hy0]; rfl
        obtain ⟨⟨ra, hRa⟩, ⟨rd, hRd⟩, _⟩ := hDi.1
        repeat ((conv => whnf); (first | refine Cnd.yes ?_ | refine Cnd.no ?_ | refine And.intro rfl ?_ | refine aom ?_ | refine Alt.std ?_ | (show Ko_ _ _ _ _; subst hKo_) | refine ctt ?_ | refine cff ?_))
        conv => whnf
        intro Mr1 hMr1
        repeat ((conv => whnf); (first | refine Cnd.yes ?_ | refine Cnd.no ?_ | refine And.intro rfl ?_ | refine aom ?_ | refine Alt.std ?_ | (show Ko_ _ _ _ _; subst hKo_) | refine ctt ?_ | refine cff ?_))
        conv => whnf
        refine ⟨z, rfl, rfl, ?_⟩
        cases hw : wr z with
        | false =>
          rw [hw, Bool.false_and, Bool.false_and, Bool.false_and] at hP
          repeat ((conv => whnf); (first | refine Cnd.yes ?_ | refine Cnd.no ?_ | refine And.intro rfl ?_ | refine aom ?_ | refine Alt.std ?_ | (show Ko_ _ _ _ _; subst hKo_) | refine ctt ?_ | refine cff ?_))
          conv => whnf
          refine ⟨[0], tmk 57 0 ((fun s : Bool => [(0, .slc 0 13 0 l.length), (1, .v (.int .i64 a)), (2, .v (.int .i64 b)), (7, .v (.int .i64 i)), (56, .v (.bool s))]) (thP l a b i)), (fun s : Bool => [Ent.row o e ock (l.map orow)]) (thP l a b i), ?_⟩
          repeat ((conv => whnf); (first | refine Cnd.yes ?_ | refine Cnd.no ?_ | refine And.intro rfl ?_ | refine aom ?_ | refine Alt.std ?_ | (show Ko_ _ _ _ _; subst hKo_)))
          conv => whnf
          refine ⟨by rw [hP], ?_⟩
          repeat ((conv => whnf); (first | refine Cnd.yes ?_ | refine Cnd.no ?_ | refine And.intro rfl ?_ | refine aom ?_ | refine Alt.std ?_ | (show Ko_ _ _ _ _; subst hKo_)))
          conv => whnf
          exact ⟨thP l a b i, rfl, rfl, (tmkK_eq _ _ _ _).mpr rfl, rfl⟩
        | true =>
          rw [hw, Bool.true_and] at hP
          repeat ((conv => whnf); (first | refine Cnd.yes ?_ | refine Cnd.no ?_ | refine And.intro rfl ?_ | refine aom ?_ | refine Alt.std ?_ | (show Ko_ _ _ _ _; subst hKo_) | refine ctt ?_ | refine cff ?_))
          conv => whnf
          intro Mr2 hMr2
          repeat ((conv => whnf); (first | refine Cnd.yes ?_ | refine Cnd.no ?_ | refine And.intro rfl ?_ | refine aom ?_ | refine Alt.std ?_ | (show Ko_ _ _ _ _; subst hKo_) | refine ctt ?_ | refine cff ?_))
          conv => whnf
          refine ⟨z.ya, ra, _, _, rfl, hRa.mono hMr2, ?_⟩
          repeat ((conv => whnf); (first | refine Cnd.yes ?_ | refine Cnd.no ?_ | refine And.intro rfl ?_ | refine aom ?_ | refine Alt.std ?_ | (show Ko_ _ _ _ _; subst hKo_) | refine ctt ?_ | refine cff ?_))
          conv => whnf
          refine ⟨false, ra, z.da, a, by simp, rfl, hDi.2.1, ?_⟩
          cases hda : decide ((a : Int) ∈ z.da) with
          | true =>
            rw [hda, Bool.true_or, Bool.true_and] at hP
            repeat ((conv => whnf); (first | refine Cnd.yes ?_ | refine Cnd.no ?_ | refine And.intro rfl ?_ | refine aom ?_ | refine Alt.std ?_ | (show Ko_ _ _ _ _; subst hKo_) | refine ctt ?_ | refine cff ?_))
            conv => whnf
            rw [c0, c1, c2, c3, c4, c5, c6, c7, c8, c9, c10, c11, c12]
            clear c0 c1 c2 c3 c4 c5 c6 c7 c8 c9 c10 c11 c12
            repeat ((conv => whnf); (first | refine Cnd.yes ?_ | refine Cnd.no ?_ | refine And.intro rfl ?_ | refine aom ?_ | refine Alt.std ?_ | (show Ko_ _ _ _ _; subst hKo_) | refine ctt ?_ | refine cff ?_))
            conv => whnf
            intro Mr4 hMr4
            repeat ((conv => whnf); (first | refine Cnd.yes ?_ | refine Cnd.no ?_ | refine And.intro rfl ?_ | refine aom ?_ | refine Alt.std ?_ | (show Ko_ _ _ _ _; subst hKo_) | refine ctt ?_ | refine cff ?_))
            conv => whnf
            refine ⟨false, 38, [z, y], rfl, rfl, by simp, by simp, fun q hq => by simp at hq; rcases hq with rfl | rfl <;> assumption, ?_⟩
            cases hm : meetB [z, y] with
            | false =>
              rw [hm, Bool.false_and] at hP
              repeat ((conv => whnf); (first | refine Cnd.yes ?_ | refine Cnd.no ?_ | refine And.intro rfl ?_ | refine aom ?_ | refine Alt.std ?_ | (show Ko_ _ _ _ _; subst hKo_) | refine ctt ?_ | refine cff ?_))
              conv => whnf
              refine ⟨[0], tmk 57 0 ((fun s : Bool => [(0, .slc 0 13 0 l.length), (1, .v (.int .i64 a)), (2, .v (.int .i64 b)), (7, .v (.int .i64 i)), (56, .v (.bool s))]) (thP l a b i)), (fun s : Bool => [Ent.row o e ock (l.map orow)]) (thP l a b i), ?_⟩
              repeat ((conv => whnf); (first | refine Cnd.yes ?_ | refine Cnd.no ?_ | refine And.intro rfl ?_ | refine aom ?_ | refine Alt.std ?_ | (show Ko_ _ _ _ _; subst hKo_)))
              conv => whnf
              refine ⟨by rw [hP], ?_⟩
              repeat ((conv => whnf); (first | refine Cnd.yes ?_ | refine Cnd.no ?_ | refine And.intro rfl ?_ | refine aom ?_ | refine Alt.std ?_ | (show Ko_ _ _ _ _; subst hKo_)))
              conv => whnf
              exact ⟨thP l a b i, rfl, rfl, (tmkK_eq _ _ _ _).mpr rfl, rfl⟩
            | true =>
              rw [hm, Bool.true_and] at hP
              repeat ((conv => whnf); (first | refine Cnd.yes ?_ | refine Cnd.no ?_ | refine And.intro rfl ?_ | refine aom ?_ | refine Alt.std ?_ | (show Ko_ _ _ _ _; subst hKo_) | refine ctt ?_ | refine cff ?_))
              conv => whnf
              intro Mr5 hMr5
              have c0 : toI (cellAt (List.map orow l) (0 + (b : Int).toNat) 0) = Op.k y := by rw [ocell l (show 0 + (b : Int).toNat < l.length by omega), hy0]; rfl
              have c1 : toI (cellAt (List.map orow l) (0 + (b : Int).toNat) (0 + 1)) = Op.sz y := by rw [ocell l (show 0 + (b : Int).toNat < l.length by omega), hy0]; rfl
              have c2 : toI (cellAt (List.map orow l) (0 + (b : Int).toNat) (0 + 1 + 1)) = Op.ad y := by rw [ocell l (show 0 + (b : Int).toNat < l.length by omega), hy0]; rfl
              have c3 : toI (cellAt (List.map orow l) (0 + (b : Int).toNat) (0 + 1 + 1 + 1)) = Op.v y := by rw [ocell l (show 0 + (b : Int).toNat < l.length by omega), hy0]; rfl
              have c4 : toI (cellAt (List.map orow l) (0 + (b : Int).toNat) (0 + 1 + 1 + 1 + 1)) = Op.g y := by rw [ocell l (show 0 + (b : Int).toNat < l.length by omega), hy0]; rfl
              have c5 : toB (cellAt (List.map orow l) (0 + (b : Int).toNat) (0 + 1 + 1 + 1 + 1 + 1)) = Op.pr y := by rw [ocell l (show 0 + (b : Int).toNat < l.length by omega), hy0]; rfl
              have c6 : toB (cellAt (List.map orow l) (0 + (b : Int).toNat) (0 + 1 + 1 + 1 + 1 + 1 + 1)) = Op.aq y := by rw [ocell l (show 0 + (b : Int).toNat < l.length by omega), hy0]; rfl
              have c7 : toB (cellAt (List.map orow l) (0 + (b : Int).toNat) (0 + 1 + 1 + 1 + 1 + 1 + 1 + 1)) = Op.rl y := by rw [ocell l (show 0 + (b : Int).toNat < l.length by omega), hy0]; rfl
              have c8 : toI (cellAt (List.map orow l) (0 + (b : Int).toNat) (0 + 1 + 1 + 1 + 1 + 1 + 1 + 1 + 1)) = Op.pd y := by rw [ocell l (show 0 + (b : Int).toNat < l.length by omega), hy0]; rfl
              have c9 : toI (cellAt (List.map orow l) (0 + (b : Int).toNat) (0 + 1 + 1 + 1 + 1 + 1 + 1 + 1 + 1 + 1)) = Op.sc y := by rw [ocell l (show 0 + (b : Int).toNat < l.length by omega), hy0]; rfl
              have c10 : cellAt (List.map orow l) (0 + (b : Int).toNat) (0 + 1 + 1 + 1 + 1 + 1 + 1 + 1 + 1 + 1 + 1) = Op.ya y := by rw [ocell l (show 0 + (b : Int).toNat < l.length by omega), hy0]; rfl
              have c11 : cellAt (List.map orow l) (0 + (b : Int).toNat) (0 + 1 + 1 + 1 + 1 + 1 + 1 + 1 + 1 + 1 + 1 + 1) = Op.yd y := by rw [ocell l (show 0 + (b : Int).toNat < l.length by omega), hy0]; rfl
              have c12 : cellAt (List.map orow l) (0 + (b : Int).toNat) (0 + 1 + 1 + 1 + 1 + 1 + 1 + 1 + 1 + 1 + 1 + 1 + 1) = Op.yc y := by rw [ocell l (show 0 + (b : Int).toNat < l.length by omega), hy0]; rfl
              repeat ((conv => whnf); (first | refine Cnd.yes ?_ | refine Cnd.no ?_ | refine And.intro rfl ?_ | refine aom ?_ | refine Alt.std ?_ | (show Ko_ _ _ _ _; subst hKo_) | refine ctt ?_ | refine cff ?_))
              conv => whnf
              rw [c0, c1, c2, c3, c4, c5, c6, c7, c8, c9, c10, c11, c12]
              clear c0 c1 c2 c3 c4 c5 c6 c7 c8 c9 c10 c11 c12
              rw [ei, Nat.zero_add, Int.toNat_natCast, Int.toNat_natCast]
              refine ⟨false, e, l, i + 1, b - (i + 1), z, y, rfl, rfl, by omega, hl, hF, hfi, hfy, ?_⟩
              repeat ((conv => whnf); (first | refine Cnd.yes ?_ | refine Cnd.no ?_ | refine And.intro rfl ?_ | refine aom ?_ | refine Alt.std ?_ | (show Ko_ _ _ _ _; subst hKo_) | refine ctt ?_ | refine cff ?_))
              conv => whnf
              refine ⟨[0], tmk 57 0 ((fun s : Bool => [(0, .slc 0 13 0 l.length), (1, .v (.int .i64 a)), (2, .v (.int .i64 b)), (7, .v (.int .i64 i)), (56, .v (.bool s))]) (thP l a b i)), (fun s : Bool => [Ent.row o e ock (l.map orow)]) (thP l a b i), ?_⟩
              repeat ((conv => whnf); (first | refine Cnd.yes ?_ | refine Cnd.no ?_ | refine And.intro rfl ?_ | refine aom ?_ | refine Alt.std ?_ | (show Ko_ _ _ _ _; subst hKo_)))
              conv => whnf
              refine ⟨by rw [hP], ?_⟩
              repeat ((conv => whnf); (first | refine Cnd.yes ?_ | refine Cnd.no ?_ | refine And.intro rfl ?_ | refine aom ?_ | refine Alt.std ?_ | (show Ko_ _ _ _ _; subst hKo_)))
              conv => whnf
              exact ⟨thP l a b i, rfl, rfl, (tmkK_eq _ _ _ _).mpr rfl, rfl⟩
          | false =>
            rw [hda, Bool.false_or] at hP
            repeat ((conv => whnf); (first | refine Cnd.yes ?_ | refine Cnd.no ?_ | refine And.intro rfl ?_ | refine aom ?_ | refine Alt.std ?_ | (show Ko_ _ _ _ _; subst hKo_) | refine ctt ?_ | refine cff ?_))
            conv => whnf
            intro Mr3 hMr3
            repeat ((conv => whnf); (first | refine Cnd.yes ?_ | refine Cnd.no ?_ | refine And.intro rfl ?_ | refine aom ?_ | refine Alt.std ?_ | (show Ko_ _ _ _ _; subst hKo_) | refine ctt ?_ | refine cff ?_))
            conv => whnf
            refine ⟨z.yd, rd, _, _, rfl, hRd.mono hMr3, ?_⟩
            repeat ((conv => whnf); (first | refine Cnd.yes ?_ | refine Cnd.no ?_ | refine And.intro rfl ?_ | refine aom ?_ | refine Alt.std ?_ | (show Ko_ _ _ _ _; subst hKo_) | refine ctt ?_ | refine cff ?_))
            conv => whnf
            refine ⟨false, rd, z.dd, a, by simp, rfl, hDi.2.2.1, ?_⟩
            cases hdd : decide ((a : Int) ∈ z.dd) with
            | true =>
              rw [hdd, Bool.true_and] at hP
              repeat ((conv => whnf); (first | refine Cnd.yes ?_ | refine Cnd.no ?_ | refine And.intro rfl ?_ | refine aom ?_ | refine Alt.std ?_ | (show Ko_ _ _ _ _; subst hKo_) | refine ctt ?_ | refine cff ?_))
              conv => whnf
              rw [c0, c1, c2, c3, c4, c5, c6, c7, c8, c9, c10, c11, c12]
              clear c0 c1 c2 c3 c4 c5 c6 c7 c8 c9 c10 c11 c12
              repeat ((conv => whnf); (first | refine Cnd.yes ?_ | refine Cnd.no ?_ | refine And.intro rfl ?_ | refine aom ?_ | refine Alt.std ?_ | (show Ko_ _ _ _ _; subst hKo_) | refine ctt ?_ | refine cff ?_))
              conv => whnf
              intro Mr4 hMr4
              repeat ((conv => whnf); (first | refine Cnd.yes ?_ | refine Cnd.no ?_ | refine And.intro rfl ?_ | refine aom ?_ | refine Alt.std ?_ | (show Ko_ _ _ _ _; subst hKo_) | refine ctt ?_ | refine cff ?_))
              conv => whnf
              refine ⟨false, 38, [z, y], rfl, rfl, by simp, by simp, fun q hq => by simp at hq; rcases hq with rfl | rfl <;> assumption, ?_⟩
              cases hm : meetB [z, y] with
              | false =>
                rw [hm, Bool.false_and] at hP
                repeat ((conv => whnf); (first | refine Cnd.yes ?_ | refine Cnd.no ?_ | refine And.intro rfl ?_ | refine aom ?_ | refine Alt.std ?_ | (show Ko_ _ _ _ _; subst hKo_) | refine ctt ?_ | refine cff ?_))
                conv => whnf
                refine ⟨[0], tmk 57 0 ((fun s : Bool => [(0, .slc 0 13 0 l.length), (1, .v (.int .i64 a)), (2, .v (.int .i64 b)), (7, .v (.int .i64 i)), (56, .v (.bool s))]) (thP l a b i)), (fun s : Bool => [Ent.row o e ock (l.map orow)]) (thP l a b i), ?_⟩
                repeat ((conv => whnf); (first | refine Cnd.yes ?_ | refine Cnd.no ?_ | refine And.intro rfl ?_ | refine aom ?_ | refine Alt.std ?_ | (show Ko_ _ _ _ _; subst hKo_)))
                conv => whnf
                refine ⟨by rw [hP], ?_⟩
                repeat ((conv => whnf); (first | refine Cnd.yes ?_ | refine Cnd.no ?_ | refine And.intro rfl ?_ | refine aom ?_ | refine Alt.std ?_ | (show Ko_ _ _ _ _; subst hKo_)))
                conv => whnf
                exact ⟨thP l a b i, rfl, rfl, (tmkK_eq _ _ _ _).mpr rfl, rfl⟩
              | true =>
                rw [hm, Bool.true_and] at hP
                repeat ((conv => whnf); (first | refine Cnd.yes ?_ | refine Cnd.no ?_ | refine And.intro rfl ?_ | refine aom ?_ | refine Alt.std ?_ | (show Ko_ _ _ _ _; subst hKo_) | refine ctt ?_ | refine cff ?_))
                conv => whnf
                intro Mr5 hMr5
                have c0 : toI (cellAt (List.map orow l) (0 + (b : Int).toNat) 0) = Op.k y := by rw [ocell l (show 0 + (b : Int).toNat < l.length by omega), hy0]; rfl
                have c1 : toI (cellAt (List.map orow l) (0 + (b : Int).toNat) (0 + 1)) = Op.sz y := by rw [ocell l (show 0 + (b : Int).toNat < l.length by omega), hy0]; rfl
                have c2 : toI (cellAt (List.map orow l) (0 + (b : Int).toNat) (0 + 1 + 1)) = Op.ad y := by rw [ocell l (show 0 + (b : Int).toNat < l.length by omega), hy0]; rfl
                have c3 : toI (cellAt (List.map orow l) (0 + (b : Int).toNat) (0 + 1 + 1 + 1)) = Op.v y := by rw [ocell l (show 0 + (b : Int).toNat < l.length by omega), hy0]; rfl
                have c4 : toI (cellAt (List.map orow l) (0 + (b : Int).toNat) (0 + 1 + 1 + 1 + 1)) = Op.g y := by rw [ocell l (show 0 + (b : Int).toNat < l.length by omega), hy0]; rfl
                have c5 : toB (cellAt (List.map orow l) (0 + (b : Int).toNat) (0 + 1 + 1 + 1 + 1 + 1)) = Op.pr y := by rw [ocell l (show 0 + (b : Int).toNat < l.length by omega), hy0]; rfl
                have c6 : toB (cellAt (List.map orow l) (0 + (b : Int).toNat) (0 + 1 + 1 + 1 + 1 + 1 + 1)) = Op.aq y := by rw [ocell l (show 0 + (b : Int).toNat < l.length by omega), hy0]; rfl
                have c7 : toB (cellAt (List.map orow l) (0 + (b : Int).toNat) (0 + 1 + 1 + 1 + 1 + 1 + 1 + 1)) = Op.rl y := by rw [ocell l (show 0 + (b : Int).toNat < l.length by omega), hy0]; rfl
                have c8 : toI (cellAt (List.map orow l) (0 + (b : Int).toNat) (0 + 1 + 1 + 1 + 1 + 1 + 1 + 1 + 1)) = Op.pd y := by rw [ocell l (show 0 + (b : Int).toNat < l.length by omega), hy0]; rfl
                have c9 : toI (cellAt (List.map orow l) (0 + (b : Int).toNat) (0 + 1 + 1 + 1 + 1 + 1 + 1 + 1 + 1 + 1)) = Op.sc y := by rw [ocell l (show 0 + (b : Int).toNat < l.length by omega), hy0]; rfl
                have c10 : cellAt (List.map orow l) (0 + (b : Int).toNat) (0 + 1 + 1 + 1 + 1 + 1 + 1 + 1 + 1 + 1 + 1) = Op.ya y := by rw [ocell l (show 0 + (b : Int).toNat < l.length by omega), hy0]; rfl
                have c11 : cellAt (List.map orow l) (0 + (b : Int).toNat) (0 + 1 + 1 + 1 + 1 + 1 + 1 + 1 + 1 + 1 + 1 + 1) = Op.yd y := by rw [ocell l (show 0 + (b : Int).toNat < l.length by omega), hy0]; rfl
                have c12 : cellAt (List.map orow l) (0 + (b : Int).toNat) (0 + 1 + 1 + 1 + 1 + 1 + 1 + 1 + 1 + 1 + 1 + 1 + 1) = Op.yc y := by rw [ocell l (show 0 + (b : Int).toNat < l.length by omega), hy0]; rfl
                repeat ((conv => whnf); (first | refine Cnd.yes ?_ | refine Cnd.no ?_ | refine And.intro rfl ?_ | refine aom ?_ | refine Alt.std ?_ | (show Ko_ _ _ _ _; subst hKo_) | refine ctt ?_ | refine cff ?_))
                conv => whnf
                rw [c0, c1, c2, c3, c4, c5, c6, c7, c8, c9, c10, c11, c12]
                clear c0 c1 c2 c3 c4 c5 c6 c7 c8 c9 c10 c11 c12
                rw [ei, Nat.zero_add, Int.toNat_natCast, Int.toNat_natCast]
                refine ⟨false, e, l, i + 1, b - (i + 1), z, y, rfl, rfl, by omega, hl, hF, hfi, hfy, ?_⟩
                repeat ((conv => whnf); (first | refine Cnd.yes ?_ | refine Cnd.no ?_ | refine And.intro rfl ?_ | refine aom ?_ | refine Alt.std ?_ | (show Ko_ _ _ _ _; subst hKo_) | refine ctt ?_ | refine cff ?_))
                conv => whnf
                refine ⟨[0], tmk 57 0 ((fun s : Bool => [(0, .slc 0 13 0 l.length), (1, .v (.int .i64 a)), (2, .v (.int .i64 b)), (7, .v (.int .i64 i)), (56, .v (.bool s))]) (thP l a b i)), (fun s : Bool => [Ent.row o e ock (l.map orow)]) (thP l a b i), ?_⟩
                repeat ((conv => whnf); (first | refine Cnd.yes ?_ | refine Cnd.no ?_ | refine And.intro rfl ?_ | refine aom ?_ | refine Alt.std ?_ | (show Ko_ _ _ _ _; subst hKo_)))
                conv => whnf
                refine ⟨by rw [hP], ?_⟩
                repeat ((conv => whnf); (first | refine Cnd.yes ?_ | refine Cnd.no ?_ | refine And.intro rfl ?_ | refine aom ?_ | refine Alt.std ?_ | (show Ko_ _ _ _ _; subst hKo_)))
                conv => whnf
                exact ⟨thP l a b i, rfl, rfl, (tmkK_eq _ _ _ _).mpr rfl, rfl⟩
            | false =>
              rw [hdd, Bool.false_and, Bool.false_and] at hP
              repeat ((conv => whnf); (first | refine Cnd.yes ?_ | refine Cnd.no ?_ | refine And.intro rfl ?_ | refine aom ?_ | refine Alt.std ?_ | (show Ko_ _ _ _ _; subst hKo_) | refine ctt ?_ | refine cff ?_))
              conv => whnf
              refine ⟨[0], tmk 57 0 ((fun s : Bool => [(0, .slc 0 13 0 l.length), (1, .v (.int .i64 a)), (2, .v (.int .i64 b)), (7, .v (.int .i64 i)), (56, .v (.bool s))]) (thP l a b i)), (fun s : Bool => [Ent.row o e ock (l.map orow)]) (thP l a b i), ?_⟩
              repeat ((conv => whnf); (first | refine Cnd.yes ?_ | refine Cnd.no ?_ | refine And.intro rfl ?_ | refine aom ?_ | refine Alt.std ?_ | (show Ko_ _ _ _ _; subst hKo_)))
              conv => whnf
              refine ⟨by rw [hP], ?_⟩
              repeat ((conv => whnf); (first | refine Cnd.yes ?_ | refine Cnd.no ?_ | refine And.intro rfl ?_ | refine aom ?_ | refine Alt.std ?_ | (show Ko_ _ _ _ _; subst hKo_)))
              conv => whnf
              exact ⟨thP l a b i, rfl, rfl, (tmkK_eq _ _ _ _).mpr rfl, rfl⟩
      · rintro tm hp M1 ⟨b1, hC_, rfl, htm, hhp_⟩
        replace hC_ : b1 = thP l a b i := hC_
        have hb1 := hC_
        replace htm : tmkK 57 0 [(0, .slc 0 13 0 l.length), (1, .v (.int .i64 a)), (2, .v (.int .i64 b)), (7, .v (.int .i64 i)), (56, .v (.bool b1))] (fun l => tm = l) := htm
        conv at htm => whnf
        subst htm
        replace hhp_ : hp = [Ent.row o e ock (l.map orow)] := hhp_
        subst hhp_
        cases b1 with
        | true =>
          rw [anyB_true (j := i - (a + 1)) (by omega) (by rw [show a + 1 + (i - (a + 1)) = i by omega]; exact hb1.symm)] at hK
          repeat ((conv => whnf); (first | refine Cnd.yes ?_ | refine Cnd.no ?_ | refine And.intro rfl ?_ | refine aom ?_ | refine Alt.std ?_ | (show Ko_ _ _ _ _; subst hKo_) | refine ctt ?_ | refine cff ?_))
          conv => whnf
          refine ⟨[0], .v (.bool true), [.row o e ock (l.map orow)], ?_⟩
          repeat ((conv => whnf); (first | refine Cnd.yes ?_ | refine Cnd.no ?_ | refine And.intro rfl ?_ | refine aom ?_ | refine Alt.std ?_ | (show Ko_ _ _ _ _; subst hKo_)))
          conv => whnf
          exact hK
        | false =>
          have hall2 : ∀ j, j < i + 1 - (a + 1) → thP l a b (a + 1 + j) = false := fun j hj => by
            by_cases h : j < i - (a + 1)
            · exact hall j h
            · rw [show a + 1 + j = i by omega]; exact hb1.symm
          repeat ((conv => whnf); (first | refine Cnd.yes ?_ | refine Cnd.no ?_ | refine And.intro rfl ?_ | refine aom ?_ | refine Alt.std ?_ | (show Ko_ _ _ _ _; subst hKo_) | refine ctt ?_ | refine cff ?_))
          conv => whnf
          (refine ⟨(fun s : Nat => b - s) (i + 1), [0], tmk 57 0 ((fun s : Nat => [(0, .slc 0 13 0 l.length), (1, .v (.int .i64 a)), (2, .v (.int .i64 b)), (7, .v (.int .i64 s))]) (i + 1)), (fun s : Nat => [Ent.row o e ock (l.map orow)]) (i + 1), ?_, ?_⟩; focus (first | (simp only []; omega) | omega))
          repeat ((conv => whnf); (first | refine Cnd.yes ?_ | refine Cnd.no ?_ | refine And.intro rfl ?_ | refine aom ?_ | refine Alt.std ?_ | (show Ko_ _ _ _ _; subst hKo_)))
          conv => whnf
          exact ⟨i + 1, ⟨by omega, hin, hall2⟩, rfl, rfl, (tmkK_eq _ _ _ _).mpr rfl, rfl⟩
    · have hin : i = b := by have := of_decide_eq_false hge; omega
      subst hin
      rw [anyB_false hall] at hK
      repeat ((conv => whnf); (first | refine Cnd.yes ?_ | refine Cnd.no ?_ | refine And.intro rfl ?_ | refine aom ?_ | refine Alt.std ?_ | (show Ko_ _ _ _ _; subst hKo_) | refine ctt ?_ | refine cff ?_))
      conv => whnf
      refine ⟨[0], .v (.bool false), [.row o e ock (l.map orow)], ?_⟩
      repeat ((conv => whnf); (first | refine Cnd.yes ?_ | refine Cnd.no ?_ | refine And.intro rfl ?_ | refine aom ?_ | refine Alt.std ?_ | (show Ko_ _ _ _ _; subst hKo_)))
      conv => whnf
      exact hK
def throughS : Vc.Spec := fun args hp M K => ∃ (o : Bool) (e : TypeId) (l : List Op) (a b : Nat), args = [.slc 0 13 0 l.length, .v (.int .i64 a), .v (.int .i64 b)] ∧ hp = [.row o e ock (l.map orow)] ∧ a < b ∧ b < l.length ∧ l.length ≤ 1000 ∧ (∀ x ∈ l, Fit x) ∧ Deps M l ∧ K (.v (.bool (thB l a b))) [.row o e ock (l.map orow)]
theorem through_ok : SOK Tryd.prog 81 throughS := by
  refine TOK.weaken (TOK.out (runF_eq G4_ok mixed at81.1 at81.2 pf81_eq)) fun args hp M K h => ?_
  obtain ⟨o, e, l, a, b, rfl, rfl, h1, h2, h3, h4, h5, h6⟩ := h
  exact through_run M K o e l a b h1 h2 h3 h4 h5 h6
end Go.Proofs.YtkfkoldaeplckaaDoor
/-
  Pairs, With, walked; their contracts.
-/
namespace Go.Proofs.YtkfkoldaeplckaaDoor
open Go Go.Vc
set_option maxRecDepth 100000
set_option linter.unusedSimpArgs false
set_option linter.unusedVariables false
set_option maxHeartbeats 4000000
def lastN (l : List Op) : Nat → Int
  | 0 => -1
  | i + 1 => if (l.getD i default).pr = true then (i : Int) else lastN l i
theorem lastN_lt (l : List Op) : ∀ i, -1 ≤ lastN l i ∧ lastN l i < i
  | 0 => by simp [lastN]
  | i + 1 => by
    have := lastN_lt l i
    unfold lastN
    split <;> omega
def pairN (l : List Op) (i : Nat) : Int := if (l.getD i default).pr = true ∧ (l.getD i default).k = 2 ∧ 0 ≤ lastN l i ∧ (l.getD (lastN l i).toNat default).k = 1 then lastN l i else -1
def pairsL (l : List Op) : List Int := (List.range l.length).map (pairN l)
def pT (l : List Op) (i j : Nat) : Int := if j < i then pairN l j else 0
def pR (l : List Op) (f : Nat → Int) : List (List Value) := tblOf (fun j => irow (f j)) l.length
theorem pR_set (l : List Op) (f : Nat → Int) {i : Nat} (hi : i < l.length) (x : Int) : (pR l f).set (0 + (i : Int).toNat) (over ((pR l f).getD (0 + (i : Int).toNat) []) 0 [.int .i64 x]) = pR l (fun j => if j = i then x else f j) := by
  unfold pR
  rw [Nat.zero_add, Int.toNat_natCast, tblOf_get _ hi, tblOf_set _ hi]
  refine tblOf_congr fun j _ => ?_
  show _ = irow (if j = i then x else f j)
  by_cases h : j = i
  · rw [if_pos h, if_pos h]; rfl
  · rw [if_neg h, if_neg h]
theorem pR_len (l : List Op) (f : Nat → Int) : (pR l f).length = l.length := tblOf_len _ _
theorem pR_congr (l : List Op) {f g : Nat → Int} (h : ∀ j, f j = g j) : pR l f = pR l g := by rw [show f = g from funext h]
theorem pT_next (l : List Op) (i : Nat) (x : Int) (hx : x = pairN l i) (j : Nat) : (if j = i then x else pT l i j) = pT l (i + 1) j := by
  unfold pT
  by_cases h : j = i
  · rw [if_pos h, if_pos (by omega), h, hx]
  · rw [if_neg h]
    by_cases h2 : j < i
    · rw [if_pos h2, if_pos (by omega)]
    · rw [if_neg h2, if_neg (by omega)]
theorem pT_end (l : List Op) : pR l (pT l l.length) = (pairsL l).map irow := by
  unfold pR pairsL tblOf
  rw [List.map_map]
  refine List.map_congr_left fun j hj => ?_
  rw [pT, if_pos (List.mem_range.1 hj)]
  rfl
theorem pairs_run (M : HL) (K : SV → List Ent → HL → Prop) (o : Bool) (e : TypeId) (l : List Op) (hl : l.length ≤ 1000) (hK : K (.slc 1 1 0 (pairsL l).length) [.row o e ock (l.map orow), .row true 3 [.int .i64] ((pairsL l).map irow)] M) :
    runF G4 pf53 [.slc 0 13 0 l.length] [.row o e ock (l.map orow)] M fun v hp2 M2 => ∃ m v' hp', Wk (llen [Ent.row o e ock (l.map orow)]) m [v] hp2 [v'] hp' (K v' hp' M2) := by
  have hpl : (pairsL l).length = l.length := by simp [pairsL]
  have hr0 : List.replicate l.length [Value.int .i64 0] = pR l (pT l 0) := by
    unfold pR tblOf
    apply List.ext_getElem
    · simp
    · intro j h1 h2; simp [pT, irow]
  rw [hpl] at hK
  repeat ((conv => whnf); (first | refine Cnd.yes ?_ | refine Cnd.no ?_ | refine And.intro rfl ?_ | refine aom ?_ | refine Alt.std ?_ | (show Ko_ _ _ _ _; subst hKo_) | refine ctt ?_ | refine cff ?_))
  conv => whnf
  rw [Int.toNat_natCast, hr0]
  refine ⟨InvS 45 (fun s : Nat => l.length - s) (fun s : Nat => s ≤ l.length) (fun s : Nat => [(0, .slc 0 13 0 l.length), (3, .slc 1 1 0 l.length), (4, .v (.int .i64 (lastN l s))), (10, .slc 0 13 0 l.length), (11, .v (.int .i64 l.length)), (12, .v (.int .i64 s))]) (fun s : Nat => [Ent.row o e ock (l.map orow), .row true 3 [.int .i64] (pR l (pT l s))]) M, ⟨(fun s : Nat => l.length - s) 0, [0, 1], tmk 45 0 ((fun s : Nat => [(0, .slc 0 13 0 l.length), (3, .slc 1 1 0 l.length), (4, .v (.int .i64 (lastN l s))), (10, .slc 0 13 0 l.length), (11, .v (.int .i64 l.length)), (12, .v (.int .i64 s))]) 0), (fun s : Nat => [Ent.row o e ock (l.map orow), .row true 3 [.int .i64] (pR l (pT l s))]) 0, ?_⟩, ?_⟩
  · repeat ((conv => whnf); (first | refine Cnd.yes ?_ | refine Cnd.no ?_ | refine And.intro rfl ?_ | refine aom ?_ | refine Alt.std ?_ | (show Ko_ _ _ _ _; subst hKo_)))
    conv => whnf
    exact ⟨0, Nat.zero_le _, rfl, rfl, (tmkK_eq _ _ _ _).mpr rfl, rfl⟩
  · rintro Ko_ hKo_ cnt tm hp M1 ⟨i, hC_, rfl, rfl, htm, hhp_⟩
    replace hC_ : i ≤ l.length := hC_
    have hi := hC_
    replace htm : tmkK 45 0 [(0, .slc 0 13 0 l.length), (3, .slc 1 1 0 l.length), (4, .v (.int .i64 (lastN l i))), (10, .slc 0 13 0 l.length), (11, .v (.int .i64 l.length)), (12, .v (.int .i64 i))] (fun l => tm = l) := htm
    conv at htm => whnf
    subst htm
    replace hhp_ : hp = [Ent.row o e ock (l.map orow), .row true 3 [.int .i64] (pR l (pT l i))] := hhp_
    subst hhp_
    repeat ((conv => whnf); (first | refine Cnd.yes ?_ | refine Cnd.no ?_ | refine And.intro rfl ?_ | refine aom ?_ | refine Alt.std ?_ | (show Ko_ _ _ _ _; subst hKo_) | refine ctt ?_ | refine cff ?_))
    conv => whnf
    refine Cnd.mk (fun hlt => ?_) fun hge => ?_
    · have hin : i < l.length := by have := of_decide_eq_true hlt; omega
      obtain ⟨z, hz⟩ : ∃ z, l.getD i default = z := ⟨_, rfl⟩
      have hz0 : l.getD (0 + (i : Int).toNat) default = z := by rw [Nat.zero_add, Int.toNat_natCast]; exact hz
      have hpr := pR_len l (pT l i)
      have hset := pR_set l (pT l i) hin (-1)
      have hll := lastN_lt l i
      have hl1 : lastN l (i + 1) = if z.pr = true then (i : Int) else lastN l i := by rw [lastN, hz]
      have hPN : pairN l i = if z.pr = true ∧ z.k = 2 ∧ 0 ≤ lastN l i ∧ (l.getD (lastN l i).toNat default).k = 1 then lastN l i else -1 := by unfold pairN; rw [hz]
      have c0 : toI (cellAt (List.map orow l) (0 + (i : Int).toNat) 0) = Op.k z := by rw [ocell l (show 0 + (i : Int).toNat < l.length by omega), hz0]; rfl
      have c1 : toI (cellAt (List.map orow l) (0 + (i : Int).toNat) (0 + 1)) = Op.sz z := by rw [ocell l (show 0 + (i : Int).toNat < l.length by omega), hz0]; rfl
      have c2 : toI (cellAt (List.map orow l) (0 + (i : Int).toNat) (0 + 1 + 1)) = Op.ad z := by rw [ocell l (show 0 + (i : Int).toNat < l.length by omega), hz0]; rfl
      have c3 : toI (cellAt (List.map orow l) (0 + (i : Int).toNat) (0 + 1 + 1 + 1)) = Op.v z := by rw [ocell l (show 0 + (i : Int).toNat < l.length by omega), hz0]; rfl
      have c4 : toI (cellAt (List.map orow l) (0 + (i : Int).toNat) (0 + 1 + 1 + 1 + 1)) = Op.g z := by rw [ocell l (show 0 + (i : Int).toNat < l.length by omega), hz0]; rfl
      have c5 : toB (cellAt (List.map orow l) (0 + (i : Int).toNat) (0 + 1 + 1 + 1 + 1 + 1)) = Op.pr z := by rw [ocell l (show 0 + (i : Int).toNat < l.length by omega), hz0]; rfl
      have c6 : toB (cellAt (List.map orow l) (0 + (i : Int).toNat) (0 + 1 + 1 + 1 + 1 + 1 + 1)) = Op.aq z := by rw [ocell l (show 0 + (i : Int).toNat < l.length by omega), hz0]; rfl
      have c7 : toB (cellAt (List.map orow l) (0 + (i : Int).toNat) (0 + 1 + 1 + 1 + 1 + 1 + 1 + 1)) = Op.rl z := by rw [ocell l (show 0 + (i : Int).toNat < l.length by omega), hz0]; rfl
      have c8 : toI (cellAt (List.map orow l) (0 + (i : Int).toNat) (0 + 1 + 1 + 1 + 1 + 1 + 1 + 1 + 1)) = Op.pd z := by rw [ocell l (show 0 + (i : Int).toNat < l.length by omega), hz0]; rfl
      have c9 : toI (cellAt (List.map orow l) (0 + (i : Int).toNat) (0 + 1 + 1 + 1 + 1 + 1 + 1 + 1 + 1 + 1)) = Op.sc z := by rw [ocell l (show 0 + (i : Int).toNat < l.length by omega), hz0]; rfl
      have c10 : cellAt (List.map orow l) (0 + (i : Int).toNat) (0 + 1 + 1 + 1 + 1 + 1 + 1 + 1 + 1 + 1 + 1) = Op.ya z := by rw [ocell l (show 0 + (i : Int).toNat < l.length by omega), hz0]; rfl
      have c11 : cellAt (List.map orow l) (0 + (i : Int).toNat) (0 + 1 + 1 + 1 + 1 + 1 + 1 + 1 + 1 + 1 + 1 + 1) = Op.yd z := by rw [ocell l (show 0 + (i : Int).toNat < l.length by omega), hz0]; rfl
      have c12 : cellAt (List.map orow l) (0 + (i : Int).toNat) (0 + 1 + 1 + 1 + 1 + 1 + 1 + 1 + 1 + 1 + 1 + 1 + 1) = Op.yc z := by rw [ocell l (show 0 + (i : Int).toNat < l.length by omega), hz0]; rfl
      repeat ((conv => whnf); (first | refine Cnd.yes ?_ | refine Cnd.no ?_ | refine And.intro rfl ?_ | refine aom ?_ | refine Alt.std ?_ | (show Ko_ _ _ _ _; subst hKo_) | refine ctt ?_ | refine cff ?_))
      conv => whnf
      rw [c0, c1, c2, c3, c4, c5, c6, c7, c8, c9, c10, c11, c12]
      clear c0 c1 c2 c3 c4 c5 c6 c7 c8 c9 c10 c11 c12
      repeat ((conv => whnf); (first | refine Cnd.yes ?_ | refine Cnd.no ?_ | refine And.intro rfl ?_ | refine aom ?_ | refine Alt.std ?_ | (show Ko_ _ _ _ _; subst hKo_) | refine ctt ?_ | refine cff ?_))
      conv => whnf
      rw [hset]
      cases hp : z.pr with
      | false =>
        rw [if_neg (by rw [hp]; simp)] at hl1
        rw [if_neg (by rw [hp]; simp)] at hPN
        have hfin := pR_congr l (pT_next l i (-1) hPN.symm)
        repeat ((conv => whnf); (first | refine Cnd.yes ?_ | refine Cnd.no ?_ | refine And.intro rfl ?_ | refine aom ?_ | refine Alt.std ?_ | (show Ko_ _ _ _ _; subst hKo_) | refine ctt ?_ | refine cff ?_))
        conv => whnf
        (refine ⟨(fun s : Nat => l.length - s) (i + 1), [0, 1], tmk 45 0 ((fun s : Nat => [(0, .slc 0 13 0 l.length), (3, .slc 1 1 0 l.length), (4, .v (.int .i64 (lastN l s))), (10, .slc 0 13 0 l.length), (11, .v (.int .i64 l.length)), (12, .v (.int .i64 s))]) (i + 1)), (fun s : Nat => [Ent.row o e ock (l.map orow), .row true 3 [.int .i64] (pR l (pT l s))]) (i + 1), ?_, ?_⟩; focus (first | (simp only []; omega) | omega))
        repeat ((conv => whnf); (first | refine Cnd.yes ?_ | refine Cnd.no ?_ | refine And.intro rfl ?_ | refine aom ?_ | refine Alt.std ?_ | (show Ko_ _ _ _ _; subst hKo_)))
        conv => whnf
        exact ⟨i + 1, hin, rfl, rfl, (tmkK_eq _ _ _ _).mpr rfl, rfl⟩
      | true =>
        rw [if_pos hp] at hl1
        repeat ((conv => whnf); (first | refine Cnd.yes ?_ | refine Cnd.no ?_ | refine And.intro rfl ?_ | refine aom ?_ | refine Alt.std ?_ | (show Ko_ _ _ _ _; subst hKo_) | refine ctt ?_ | refine cff ?_))
        conv => whnf
        by_cases h2 : z.k = 2 ∧ 0 ≤ lastN l i ∧ (l.getD (lastN l i).toNat default).k = 1
        · rw [if_pos ⟨hp, h2⟩] at hPN
          obtain ⟨h2, h3, h4⟩ := h2
          have c0 : toI (cellAt (List.map orow l) (0 + (lastN l i).toNat) (0 + 0)) = 1 := by
            rw [Nat.zero_add, ocell l (by omega)]
            exact h4
          have hset2 := pR_set l (fun j => if j = i then -1 else pT l i j) hin (lastN l i)
          have hlen2 := pR_len l (fun j => if j = i then -1 else pT l i j)
          have hfin := pR_congr l (f := fun j => if j = i then lastN l i else if j = i then -1 else pT l i j) (g := pT l (i + 1)) fun j => by
            rw [← pT_next l i (lastN l i) hPN.symm j]
            by_cases h : j = i
            · rw [if_pos h, if_pos h]
            · rw [if_neg h, if_neg h, if_neg h]
          repeat ((conv => whnf); (first | refine Cnd.yes ?_ | refine Cnd.no ?_ | refine And.intro rfl ?_ | refine aom ?_ | refine Alt.std ?_ | (show Ko_ _ _ _ _; subst hKo_) | refine ctt ?_ | refine cff ?_))
          conv => whnf
          rw [c0]
          repeat ((conv => whnf); (first | refine Cnd.yes ?_ | refine Cnd.no ?_ | refine And.intro rfl ?_ | refine aom ?_ | refine Alt.std ?_ | (show Ko_ _ _ _ _; subst hKo_) | refine ctt ?_ | refine cff ?_))
          conv => whnf
          rw [hset2]
          (refine ⟨(fun s : Nat => l.length - s) (i + 1), [0, 1], tmk 45 0 ((fun s : Nat => [(0, .slc 0 13 0 l.length), (3, .slc 1 1 0 l.length), (4, .v (.int .i64 (lastN l s))), (10, .slc 0 13 0 l.length), (11, .v (.int .i64 l.length)), (12, .v (.int .i64 s))]) (i + 1)), (fun s : Nat => [Ent.row o e ock (l.map orow), .row true 3 [.int .i64] (pR l (pT l s))]) (i + 1), ?_, ?_⟩; focus (first | (simp only []; omega) | omega))
          repeat ((conv => whnf); (first | refine Cnd.yes ?_ | refine Cnd.no ?_ | refine And.intro rfl ?_ | refine aom ?_ | refine Alt.std ?_ | (show Ko_ _ _ _ _; subst hKo_)))
          conv => whnf
          exact ⟨i + 1, hin, rfl, rfl, (tmkK_eq _ _ _ _).mpr rfl, rfl⟩
        · rw [if_neg (fun h => h2 h.2)] at hPN
          have hfin := pR_congr l (pT_next l i (-1) hPN.symm)
          by_cases h5 : z.k = 2
          · by_cases h6 : 0 ≤ lastN l i
            · have h7 : ¬ (l.getD (lastN l i).toNat default).k = 1 := fun h => h2 ⟨h5, h6, h⟩
              have c0 : toI (cellAt (List.map orow l) (0 + (lastN l i).toNat) (0 + 0)) = (l.getD (lastN l i).toNat default).k := by
                rw [Nat.zero_add, ocell l (by omega)]
                rfl
              repeat ((conv => whnf); (first | refine Cnd.yes ?_ | refine Cnd.no ?_ | refine And.intro rfl ?_ | refine aom ?_ | refine Alt.std ?_ | (show Ko_ _ _ _ _; subst hKo_) | refine ctt ?_ | refine cff ?_))
              conv => whnf
              rw [c0]
              repeat ((conv => whnf); (first | refine Cnd.yes ?_ | refine Cnd.no ?_ | refine And.intro rfl ?_ | refine aom ?_ | refine Alt.std ?_ | (show Ko_ _ _ _ _; subst hKo_) | refine ctt ?_ | refine cff ?_))
              conv => whnf
              (refine ⟨(fun s : Nat => l.length - s) (i + 1), [0, 1], tmk 45 0 ((fun s : Nat => [(0, .slc 0 13 0 l.length), (3, .slc 1 1 0 l.length), (4, .v (.int .i64 (lastN l s))), (10, .slc 0 13 0 l.length), (11, .v (.int .i64 l.length)), (12, .v (.int .i64 s))]) (i + 1)), (fun s : Nat => [Ent.row o e ock (l.map orow), .row true 3 [.int .i64] (pR l (pT l s))]) (i + 1), ?_, ?_⟩; focus (first | (simp only []; omega) | omega))
              repeat ((conv => whnf); (first | refine Cnd.yes ?_ | refine Cnd.no ?_ | refine And.intro rfl ?_ | refine aom ?_ | refine Alt.std ?_ | (show Ko_ _ _ _ _; subst hKo_)))
              conv => whnf
              exact ⟨i + 1, hin, rfl, rfl, (tmkK_eq _ _ _ _).mpr rfl, rfl⟩
            · repeat ((conv => whnf); (first | refine Cnd.yes ?_ | refine Cnd.no ?_ | refine And.intro rfl ?_ | refine aom ?_ | refine Alt.std ?_ | (show Ko_ _ _ _ _; subst hKo_) | refine ctt ?_ | refine cff ?_))
              conv => whnf
              (refine ⟨(fun s : Nat => l.length - s) (i + 1), [0, 1], tmk 45 0 ((fun s : Nat => [(0, .slc 0 13 0 l.length), (3, .slc 1 1 0 l.length), (4, .v (.int .i64 (lastN l s))), (10, .slc 0 13 0 l.length), (11, .v (.int .i64 l.length)), (12, .v (.int .i64 s))]) (i + 1)), (fun s : Nat => [Ent.row o e ock (l.map orow), .row true 3 [.int .i64] (pR l (pT l s))]) (i + 1), ?_, ?_⟩; focus (first | (simp only []; omega) | omega))
              repeat ((conv => whnf); (first | refine Cnd.yes ?_ | refine Cnd.no ?_ | refine And.intro rfl ?_ | refine aom ?_ | refine Alt.std ?_ | (show Ko_ _ _ _ _; subst hKo_)))
              conv => whnf
              exact ⟨i + 1, hin, rfl, rfl, (tmkK_eq _ _ _ _).mpr rfl, rfl⟩
          · repeat ((conv => whnf); (first | refine Cnd.yes ?_ | refine Cnd.no ?_ | refine And.intro rfl ?_ | refine aom ?_ | refine Alt.std ?_ | (show Ko_ _ _ _ _; subst hKo_) | refine ctt ?_ | refine cff ?_))
            conv => whnf
            (refine ⟨(fun s : Nat => l.length - s) (i + 1), [0, 1], tmk 45 0 ((fun s : Nat => [(0, .slc 0 13 0 l.length), (3, .slc 1 1 0 l.length), (4, .v (.int .i64 (lastN l s))), (10, .slc 0 13 0 l.length), (11, .v (.int .i64 l.length)), (12, .v (.int .i64 s))]) (i + 1)), (fun s : Nat => [Ent.row o e ock (l.map orow), .row true 3 [.int .i64] (pR l (pT l s))]) (i + 1), ?_, ?_⟩; focus (first | (simp only []; omega) | omega))
            repeat ((conv => whnf); (first | refine Cnd.yes ?_ | refine Cnd.no ?_ | refine And.intro rfl ?_ | refine aom ?_ | refine Alt.std ?_ | (show Ko_ _ _ _ _; subst hKo_)))
            conv => whnf
            exact ⟨i + 1, hin, rfl, rfl, (tmkK_eq _ _ _ _).mpr rfl, rfl⟩
    · have hin : i = l.length := by have := of_decide_eq_false hge; omega
      subst hin
      rw [pT_end]
      repeat ((conv => whnf); (first | refine Cnd.yes ?_ | refine Cnd.no ?_ | refine And.intro rfl ?_ | refine aom ?_ | refine Alt.std ?_ | (show Ko_ _ _ _ _; subst hKo_) | refine ctt ?_ | refine cff ?_))
      conv => whnf
      refine ⟨[0, 1], .slc 1 1 0 l.length, [.row o e ock (l.map orow), .row true 3 [.int .i64] ((pairsL l).map irow)], ?_⟩
      repeat ((conv => whnf); (first | refine Cnd.yes ?_ | refine Cnd.no ?_ | refine And.intro rfl ?_ | refine aom ?_ | refine Alt.std ?_ | (show Ko_ _ _ _ _; subst hKo_)))
      conv => whnf
      exact hK
def pairsS : Vc.Spec := fun args hp _ K => ∃ (o : Bool) (e : TypeId) (l : List Op), args = [.slc 0 13 0 l.length] ∧ hp = [.row o e ock (l.map orow)] ∧ l.length ≤ 1000 ∧ K (.slc 1 1 0 (pairsL l).length) [.row o e ock (l.map orow), .row true 3 [.int .i64] ((pairsL l).map irow)]
theorem pairs_ok : SOK Tryd.prog 53 pairsS := by
  refine TOK.weaken (TOK.out (runF_eq G4_ok mixed at53.1 at53.2 pf53_eq)) fun args hp M K h => ?_
  obtain ⟨o, e, l, rfl, rfl, h1, h2⟩ := h
  exact pairs_run M K o e l h1 h2
end Go.Proofs.YtkfkoldaeplckaaDoor
