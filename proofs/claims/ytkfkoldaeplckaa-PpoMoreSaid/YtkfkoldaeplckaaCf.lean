/-
  Pairs, With, walked; their contracts.
-/
import Derived.Test.YtkfkoldaeplckaaCe
namespace Go.Proofs.Ytkfkoldaeplckaa
open Go Go.Vc
set_option maxRecDepth 100000
set_option linter.unusedSimpArgs false
set_option linter.unusedVariables false
set_option maxHeartbeats 4000000
def lastN (l : List Op) : Nat → Int
  | 0 => -1
  | i + 1 => if (l.getD i default).pr = true then (i : Int) else lastN l i
theorem lastN_lt (l : List Op) : ∀ i, -1 ≤ lastN l i ∧ lastN l i < i
  | 0 => by simp [lastN]
  | i + 1 => by
    have := lastN_lt l i
    unfold lastN
    split <;> omega
def pairN (l : List Op) (i : Nat) : Int := if (l.getD i default).pr = true ∧ (l.getD i default).k = 2 ∧ 0 ≤ lastN l i ∧ (l.getD (lastN l i).toNat default).k = 1 then lastN l i else -1
def pairsL (l : List Op) : List Int := (List.range l.length).map (pairN l)
def pT (l : List Op) (i j : Nat) : Int := if j < i then pairN l j else 0
def pR (l : List Op) (f : Nat → Int) : List (List Value) := tblOf (fun j => irow (f j)) l.length
theorem pR_set (l : List Op) (f : Nat → Int) {i : Nat} (hi : i < l.length) (x : Int) : (pR l f).set (0 + (i : Int).toNat) (over ((pR l f).getD (0 + (i : Int).toNat) []) 0 [.int .i64 x]) = pR l (fun j => if j = i then x else f j) := by
  unfold pR
  rw [Nat.zero_add, Int.toNat_natCast, tblOf_get _ hi, tblOf_set _ hi]
  refine tblOf_congr fun j _ => ?_
  show _ = irow (if j = i then x else f j)
  by_cases h : j = i
  · rw [if_pos h, if_pos h]; rfl
  · rw [if_neg h, if_neg h]
theorem pR_len (l : List Op) (f : Nat → Int) : (pR l f).length = l.length := tblOf_len _ _
theorem pR_congr (l : List Op) {f g : Nat → Int} (h : ∀ j, f j = g j) : pR l f = pR l g := by rw [show f = g from funext h]
theorem pT_next (l : List Op) (i : Nat) (x : Int) (hx : x = pairN l i) (j : Nat) : (if j = i then x else pT l i j) = pT l (i + 1) j := by
  unfold pT
  by_cases h : j = i
  · rw [if_pos h, if_pos (by omega), h, hx]
  · rw [if_neg h]
    by_cases h2 : j < i
    · rw [if_pos h2, if_pos (by omega)]
    · rw [if_neg h2, if_neg (by omega)]
theorem pT_end (l : List Op) : pR l (pT l l.length) = (pairsL l).map irow := by
  unfold pR pairsL tblOf
  rw [List.map_map]
  refine List.map_congr_left fun j hj => ?_
  rw [pT, if_pos (List.mem_range.1 hj)]
  rfl
theorem pairs_run (M : HL) (K : SV → List Ent → HL → Prop) (o : Bool) (e : TypeId) (l : List Op) (hl : l.length ≤ 1000) (hK : K (.slc 1 1 0 (pairsL l).length) [.row o e ock (l.map orow), .row true 3 [.int .i64] ((pairsL l).map irow)] M) :
    runF G4 pf13 [.slc 0 13 0 l.length] [.row o e ock (l.map orow)] M fun v hp2 M2 => ∃ m v' hp', Wk (llen [Ent.row o e ock (l.map orow)]) m [v] hp2 [v'] hp' (K v' hp' M2) := by
  have hpl : (pairsL l).length = l.length := by simp [pairsL]
  have hr0 : List.replicate l.length [Value.int .i64 0] = pR l (pT l 0) := by
    unfold pR tblOf
    apply List.ext_getElem
    · simp
    · intro j h1 h2; simp [pT, irow]
  rw [hpl] at hK
  repeat ((conv => whnf); (first | refine Cnd.yes ?_ | refine Cnd.no ?_ | refine And.intro rfl ?_ | refine And.intro (by omega) ?_ | (refine And.intro ?_ ?_; focus (simp only [IntKind.wrap_i64, IntKind.wrap_u64, IntKind.wrap_u32]; omega)) | (refine And.intro ?_ ?_; focus (simp only [zl1, zl2, zl3, zl4, zl5, zl6, zl7, zl8, zl9] <;> omega)) | refine Alt.std ?_ | (refine Cnd.tt ?_ ?_; focus (first | (apply decide_eq_true; omega) | (simp only [zq1, zq2, zq3, zq4, zq5, zq6, zq7, zq8, zq9, zq10, zq11, zq12] <;> omega) | rfl)) | (refine Cnd.ff ?_ ?_; focus (first | (apply decide_eq_false; omega) | (simp only [zq1, zq2, zq3, zq4, zq5, zq6, zq7, zq8, zq9, zq10, zq11, zq12] <;> omega) | rfl))))
  conv => whnf
  rw [Int.toNat_natCast, hr0]
  refine ⟨InvS 45 (fun s : Nat => l.length - s) (fun s : Nat => s ≤ l.length) (fun s : Nat => [(0, .slc 0 13 0 l.length), (3, .slc 1 1 0 l.length), (4, .v (.int .i64 (lastN l s))), (10, .slc 0 13 0 l.length), (11, .v (.int .i64 l.length)), (12, .v (.int .i64 s))]) (fun s : Nat => [Ent.row o e ock (l.map orow), .row true 3 [.int .i64] (pR l (pT l s))]) M, ⟨(fun s : Nat => l.length - s) 0, [0, 1], tmk 45 0 ((fun s : Nat => [(0, .slc 0 13 0 l.length), (3, .slc 1 1 0 l.length), (4, .v (.int .i64 (lastN l s))), (10, .slc 0 13 0 l.length), (11, .v (.int .i64 l.length)), (12, .v (.int .i64 s))]) 0), (fun s : Nat => [Ent.row o e ock (l.map orow), .row true 3 [.int .i64] (pR l (pT l s))]) 0, ?_⟩, ?_⟩
  · repeat ((conv => whnf); (first | refine Cnd.yes ?_ | refine Cnd.no ?_ | refine And.intro rfl ?_ | refine And.intro (by omega) ?_ | (refine And.intro ?_ ?_; focus (simp only [IntKind.wrap_i64, IntKind.wrap_u64, IntKind.wrap_u32]; omega)) | (refine And.intro ?_ ?_; focus (simp only [zl1, zl2, zl3, zl4, zl5, zl6, zl7, zl8, zl9] <;> omega)) | refine Alt.std ?_))
    conv => whnf
    exact ⟨0, Nat.zero_le _, rfl, rfl, (tmkK_eq _ _ _ _).mpr rfl, rfl⟩
  · rintro cnt tm hp M1 ⟨i, hC_, rfl, rfl, htm, hhp_⟩
    replace hC_ : i ≤ l.length := hC_
    have hi := hC_
    replace htm : tmkK 45 0 [(0, .slc 0 13 0 l.length), (3, .slc 1 1 0 l.length), (4, .v (.int .i64 (lastN l i))), (10, .slc 0 13 0 l.length), (11, .v (.int .i64 l.length)), (12, .v (.int .i64 i))] (fun l => tm = l) := htm
    conv at htm => whnf
    subst htm
    replace hhp_ : hp = [Ent.row o e ock (l.map orow), .row true 3 [.int .i64] (pR l (pT l i))] := hhp_
    subst hhp_
    repeat ((conv => whnf); (first | refine Cnd.yes ?_ | refine Cnd.no ?_ | refine And.intro rfl ?_ | refine And.intro (by omega) ?_ | (refine And.intro ?_ ?_; focus (simp only [IntKind.wrap_i64, IntKind.wrap_u64, IntKind.wrap_u32]; omega)) | (refine And.intro ?_ ?_; focus (simp only [zl1, zl2, zl3, zl4, zl5, zl6, zl7, zl8, zl9] <;> omega)) | refine Alt.std ?_ | (refine Cnd.tt ?_ ?_; focus (first | (apply decide_eq_true; omega) | (simp only [zq1, zq2, zq3, zq4, zq5, zq6, zq7, zq8, zq9, zq10, zq11, zq12] <;> omega) | rfl)) | (refine Cnd.ff ?_ ?_; focus (first | (apply decide_eq_false; omega) | (simp only [zq1, zq2, zq3, zq4, zq5, zq6, zq7, zq8, zq9, zq10, zq11, zq12] <;> omega) | rfl))))
    conv => whnf
    refine Cnd.mk (fun hlt => ?_) fun hge => ?_
    · have hin : i < l.length := by have := of_decide_eq_true hlt; omega
      obtain ⟨z, hz⟩ : ∃ z, l.getD i default = z := ⟨_, rfl⟩
      have hz0 : l.getD (0 + (i : Int).toNat) default = z := by rw [Nat.zero_add, Int.toNat_natCast]; exact hz
      have hpr := pR_len l (pT l i)
      have hset := pR_set l (pT l i) hin (-1)
      have hll := lastN_lt l i
      have hl1 : lastN l (i + 1) = if z.pr = true then (i : Int) else lastN l i := by rw [lastN, hz]
      have hPN : pairN l i = if z.pr = true ∧ z.k = 2 ∧ 0 ≤ lastN l i ∧ (l.getD (lastN l i).toNat default).k = 1 then lastN l i else -1 := by unfold pairN; rw [hz]
      have c0 : toI (cellAt (List.map orow l) (0 + (i : Int).toNat) 0) = Op.k z := by rw [ocell l (show 0 + (i : Int).toNat < l.length by omega), hz0]; rfl
      have c1 : toI (cellAt (List.map orow l) (0 + (i : Int).toNat) (0 + 1)) = Op.sz z := by rw [ocell l (show 0 + (i : Int).toNat < l.length by omega), hz0]; rfl
      have c2 : toI (cellAt (List.map orow l) (0 + (i : Int).toNat) (0 + 1 + 1)) = Op.ad z := by rw [ocell l (show 0 + (i : Int).toNat < l.length by omega), hz0]; rfl
      have c3 : toI (cellAt (List.map orow l) (0 + (i : Int).toNat) (0 + 1 + 1 + 1)) = Op.v z := by rw [ocell l (show 0 + (i : Int).toNat < l.length by omega), hz0]; rfl
      have c4 : toI (cellAt (List.map orow l) (0 + (i : Int).toNat) (0 + 1 + 1 + 1 + 1)) = Op.g z := by rw [ocell l (show 0 + (i : Int).toNat < l.length by omega), hz0]; rfl
      have c5 : toB (cellAt (List.map orow l) (0 + (i : Int).toNat) (0 + 1 + 1 + 1 + 1 + 1)) = Op.pr z := by rw [ocell l (show 0 + (i : Int).toNat < l.length by omega), hz0]; rfl
      have c6 : toB (cellAt (List.map orow l) (0 + (i : Int).toNat) (0 + 1 + 1 + 1 + 1 + 1 + 1)) = Op.aq z := by rw [ocell l (show 0 + (i : Int).toNat < l.length by omega), hz0]; rfl
      have c7 : toB (cellAt (List.map orow l) (0 + (i : Int).toNat) (0 + 1 + 1 + 1 + 1 + 1 + 1 + 1)) = Op.rl z := by rw [ocell l (show 0 + (i : Int).toNat < l.length by omega), hz0]; rfl
      have c8 : toI (cellAt (List.map orow l) (0 + (i : Int).toNat) (0 + 1 + 1 + 1 + 1 + 1 + 1 + 1 + 1)) = Op.pd z := by rw [ocell l (show 0 + (i : Int).toNat < l.length by omega), hz0]; rfl
      have c9 : toI (cellAt (List.map orow l) (0 + (i : Int).toNat) (0 + 1 + 1 + 1 + 1 + 1 + 1 + 1 + 1 + 1)) = Op.sc z := by rw [ocell l (show 0 + (i : Int).toNat < l.length by omega), hz0]; rfl
      have c10 : cellAt (List.map orow l) (0 + (i : Int).toNat) (0 + 1 + 1 + 1 + 1 + 1 + 1 + 1 + 1 + 1 + 1) = Op.ya z := by rw [ocell l (show 0 + (i : Int).toNat < l.length by omega), hz0]; rfl
      have c11 : cellAt (List.map orow l) (0 + (i : Int).toNat) (0 + 1 + 1 + 1 + 1 + 1 + 1 + 1 + 1 + 1 + 1 + 1) = Op.yd z := by rw [ocell l (show 0 + (i : Int).toNat < l.length by omega), hz0]; rfl
      have c12 : cellAt (List.map orow l) (0 + (i : Int).toNat) (0 + 1 + 1 + 1 + 1 + 1 + 1 + 1 + 1 + 1 + 1 + 1 + 1) = Op.yc z := by rw [ocell l (show 0 + (i : Int).toNat < l.length by omega), hz0]; rfl
      repeat ((conv => whnf); (first | refine Cnd.yes ?_ | refine Cnd.no ?_ | refine And.intro rfl ?_ | refine And.intro (by omega) ?_ | (refine And.intro ?_ ?_; focus (simp only [IntKind.wrap_i64, IntKind.wrap_u64, IntKind.wrap_u32]; omega)) | (refine And.intro ?_ ?_; focus (simp only [zl1, zl2, zl3, zl4, zl5, zl6, zl7, zl8, zl9] <;> omega)) | refine Alt.std ?_ | (refine Cnd.tt ?_ ?_; focus (first | (apply decide_eq_true; omega) | (simp only [zq1, zq2, zq3, zq4, zq5, zq6, zq7, zq8, zq9, zq10, zq11, zq12] <;> omega) | rfl)) | (refine Cnd.ff ?_ ?_; focus (first | (apply decide_eq_false; omega) | (simp only [zq1, zq2, zq3, zq4, zq5, zq6, zq7, zq8, zq9, zq10, zq11, zq12] <;> omega) | rfl))))
      conv => whnf
      rw [c0, c1, c2, c3, c4, c5, c6, c7, c8, c9, c10, c11, c12]
      clear c0 c1 c2 c3 c4 c5 c6 c7 c8 c9 c10 c11 c12
      repeat ((conv => whnf); (first | refine Cnd.yes ?_ | refine Cnd.no ?_ | refine And.intro rfl ?_ | refine And.intro (by omega) ?_ | (refine And.intro ?_ ?_; focus (simp only [IntKind.wrap_i64, IntKind.wrap_u64, IntKind.wrap_u32]; omega)) | (refine And.intro ?_ ?_; focus (simp only [zl1, zl2, zl3, zl4, zl5, zl6, zl7, zl8, zl9] <;> omega)) | refine Alt.std ?_ | (refine Cnd.tt ?_ ?_; focus (first | (apply decide_eq_true; omega) | (simp only [zq1, zq2, zq3, zq4, zq5, zq6, zq7, zq8, zq9, zq10, zq11, zq12] <;> omega) | rfl)) | (refine Cnd.ff ?_ ?_; focus (first | (apply decide_eq_false; omega) | (simp only [zq1, zq2, zq3, zq4, zq5, zq6, zq7, zq8, zq9, zq10, zq11, zq12] <;> omega) | rfl))))
      conv => whnf
      rw [hset]
      cases hp : z.pr with
      | false =>
        rw [if_neg (by rw [hp]; simp)] at hl1
        rw [if_neg (by rw [hp]; simp)] at hPN
        have hfin := pR_congr l (pT_next l i (-1) hPN.symm)
        repeat ((conv => whnf); (first | refine Cnd.yes ?_ | refine Cnd.no ?_ | refine And.intro rfl ?_ | refine And.intro (by omega) ?_ | (refine And.intro ?_ ?_; focus (simp only [IntKind.wrap_i64, IntKind.wrap_u64, IntKind.wrap_u32]; omega)) | (refine And.intro ?_ ?_; focus (simp only [zl1, zl2, zl3, zl4, zl5, zl6, zl7, zl8, zl9] <;> omega)) | refine Alt.std ?_ | (refine Cnd.tt ?_ ?_; focus (first | (apply decide_eq_true; omega) | (simp only [zq1, zq2, zq3, zq4, zq5, zq6, zq7, zq8, zq9, zq10, zq11, zq12] <;> omega) | rfl)) | (refine Cnd.ff ?_ ?_; focus (first | (apply decide_eq_false; omega) | (simp only [zq1, zq2, zq3, zq4, zq5, zq6, zq7, zq8, zq9, zq10, zq11, zq12] <;> omega) | rfl))))
        conv => whnf
        (refine ⟨(fun s : Nat => l.length - s) (i + 1), [0, 1], tmk 45 0 ((fun s : Nat => [(0, .slc 0 13 0 l.length), (3, .slc 1 1 0 l.length), (4, .v (.int .i64 (lastN l s))), (10, .slc 0 13 0 l.length), (11, .v (.int .i64 l.length)), (12, .v (.int .i64 s))]) (i + 1)), (fun s : Nat => [Ent.row o e ock (l.map orow), .row true 3 [.int .i64] (pR l (pT l s))]) (i + 1), ?_, ?_⟩; focus (first | (simp only []; omega) | omega))
        repeat ((conv => whnf); (first | refine Cnd.yes ?_ | refine Cnd.no ?_ | refine And.intro rfl ?_ | refine And.intro (by omega) ?_ | (refine And.intro ?_ ?_; focus (simp only [IntKind.wrap_i64, IntKind.wrap_u64, IntKind.wrap_u32]; omega)) | (refine And.intro ?_ ?_; focus (simp only [zl1, zl2, zl3, zl4, zl5, zl6, zl7, zl8, zl9] <;> omega)) | refine Alt.std ?_))
        conv => whnf
        exact ⟨i + 1, hin, rfl, rfl, (tmkK_eq _ _ _ _).mpr rfl, rfl⟩
      | true =>
        rw [if_pos hp] at hl1
        repeat ((conv => whnf); (first | refine Cnd.yes ?_ | refine Cnd.no ?_ | refine And.intro rfl ?_ | refine And.intro (by omega) ?_ | (refine And.intro ?_ ?_; focus (simp only [IntKind.wrap_i64, IntKind.wrap_u64, IntKind.wrap_u32]; omega)) | (refine And.intro ?_ ?_; focus (simp only [zl1, zl2, zl3, zl4, zl5, zl6, zl7, zl8, zl9] <;> omega)) | refine Alt.std ?_ | (refine Cnd.tt ?_ ?_; focus (first | (apply decide_eq_true; omega) | (simp only [zq1, zq2, zq3, zq4, zq5, zq6, zq7, zq8, zq9, zq10, zq11, zq12] <;> omega) | rfl)) | (refine Cnd.ff ?_ ?_; focus (first | (apply decide_eq_false; omega) | (simp only [zq1, zq2, zq3, zq4, zq5, zq6, zq7, zq8, zq9, zq10, zq11, zq12] <;> omega) | rfl))))
        conv => whnf
        by_cases h2 : z.k = 2 ∧ 0 ≤ lastN l i ∧ (l.getD (lastN l i).toNat default).k = 1
        · rw [if_pos ⟨hp, h2⟩] at hPN
          obtain ⟨h2, h3, h4⟩ := h2
          have c0 : toI (cellAt (List.map orow l) (0 + (lastN l i).toNat) (0 + 0)) = 1 := by
            rw [Nat.zero_add, ocell l (by omega)]
            exact h4
          have hset2 := pR_set l (fun j => if j = i then -1 else pT l i j) hin (lastN l i)
          have hlen2 := pR_len l (fun j => if j = i then -1 else pT l i j)
          have hfin := pR_congr l (f := fun j => if j = i then lastN l i else if j = i then -1 else pT l i j) (g := pT l (i + 1)) fun j => by
            rw [← pT_next l i (lastN l i) hPN.symm j]
            by_cases h : j = i
            · rw [if_pos h, if_pos h]
            · rw [if_neg h, if_neg h, if_neg h]
          repeat ((conv => whnf); (first | refine Cnd.yes ?_ | refine Cnd.no ?_ | refine And.intro rfl ?_ | refine And.intro (by omega) ?_ | (refine And.intro ?_ ?_; focus (simp only [IntKind.wrap_i64, IntKind.wrap_u64, IntKind.wrap_u32]; omega)) | (refine And.intro ?_ ?_; focus (simp only [zl1, zl2, zl3, zl4, zl5, zl6, zl7, zl8, zl9] <;> omega)) | refine Alt.std ?_ | (refine Cnd.tt ?_ ?_; focus (first | (apply decide_eq_true; omega) | (simp only [zq1, zq2, zq3, zq4, zq5, zq6, zq7, zq8, zq9, zq10, zq11, zq12] <;> omega) | rfl)) | (refine Cnd.ff ?_ ?_; focus (first | (apply decide_eq_false; omega) | (simp only [zq1, zq2, zq3, zq4, zq5, zq6, zq7, zq8, zq9, zq10, zq11, zq12] <;> omega) | rfl))))
          conv => whnf
          rw [c0]
          repeat ((conv => whnf); (first | refine Cnd.yes ?_ | refine Cnd.no ?_ | refine And.intro rfl ?_ | refine And.intro (by omega) ?_ | (refine And.intro ?_ ?_; focus (simp only [IntKind.wrap_i64, IntKind.wrap_u64, IntKind.wrap_u32]; omega)) | (refine And.intro ?_ ?_; focus (simp only [zl1, zl2, zl3, zl4, zl5, zl6, zl7, zl8, zl9] <;> omega)) | refine Alt.std ?_ | (refine Cnd.tt ?_ ?_; focus (first | (apply decide_eq_true; omega) | (simp only [zq1, zq2, zq3, zq4, zq5, zq6, zq7, zq8, zq9, zq10, zq11, zq12] <;> omega) | rfl)) | (refine Cnd.ff ?_ ?_; focus (first | (apply decide_eq_false; omega) | (simp only [zq1, zq2, zq3, zq4, zq5, zq6, zq7, zq8, zq9, zq10, zq11, zq12] <;> omega) | rfl))))
          conv => whnf
          rw [hset2]
          (refine ⟨(fun s : Nat => l.length - s) (i + 1), [0, 1], tmk 45 0 ((fun s : Nat => [(0, .slc 0 13 0 l.length), (3, .slc 1 1 0 l.length), (4, .v (.int .i64 (lastN l s))), (10, .slc 0 13 0 l.length), (11, .v (.int .i64 l.length)), (12, .v (.int .i64 s))]) (i + 1)), (fun s : Nat => [Ent.row o e ock (l.map orow), .row true 3 [.int .i64] (pR l (pT l s))]) (i + 1), ?_, ?_⟩; focus (first | (simp only []; omega) | omega))
          repeat ((conv => whnf); (first | refine Cnd.yes ?_ | refine Cnd.no ?_ | refine And.intro rfl ?_ | refine And.intro (by omega) ?_ | (refine And.intro ?_ ?_; focus (simp only [IntKind.wrap_i64, IntKind.wrap_u64, IntKind.wrap_u32]; omega)) | (refine And.intro ?_ ?_; focus (simp only [zl1, zl2, zl3, zl4, zl5, zl6, zl7, zl8, zl9] <;> omega)) | refine Alt.std ?_))
          conv => whnf
          exact ⟨i + 1, hin, rfl, rfl, (tmkK_eq _ _ _ _).mpr rfl, rfl⟩
        · rw [if_neg (fun h => h2 h.2)] at hPN
          have hfin := pR_congr l (pT_next l i (-1) hPN.symm)
          by_cases h5 : z.k = 2
          · by_cases h6 : 0 ≤ lastN l i
            · have h7 : ¬ (l.getD (lastN l i).toNat default).k = 1 := fun h => h2 ⟨h5, h6, h⟩
              have c0 : toI (cellAt (List.map orow l) (0 + (lastN l i).toNat) (0 + 0)) = (l.getD (lastN l i).toNat default).k := by
                rw [Nat.zero_add, ocell l (by omega)]
                rfl
              repeat ((conv => whnf); (first | refine Cnd.yes ?_ | refine Cnd.no ?_ | refine And.intro rfl ?_ | refine And.intro (by omega) ?_ | (refine And.intro ?_ ?_; focus (simp only [IntKind.wrap_i64, IntKind.wrap_u64, IntKind.wrap_u32]; omega)) | (refine And.intro ?_ ?_; focus (simp only [zl1, zl2, zl3, zl4, zl5, zl6, zl7, zl8, zl9] <;> omega)) | refine Alt.std ?_ | (refine Cnd.tt ?_ ?_; focus (first | (apply decide_eq_true; omega) | (simp only [zq1, zq2, zq3, zq4, zq5, zq6, zq7, zq8, zq9, zq10, zq11, zq12] <;> omega) | rfl)) | (refine Cnd.ff ?_ ?_; focus (first | (apply decide_eq_false; omega) | (simp only [zq1, zq2, zq3, zq4, zq5, zq6, zq7, zq8, zq9, zq10, zq11, zq12] <;> omega) | rfl))))
              conv => whnf
              rw [c0]
              repeat ((conv => whnf); (first | refine Cnd.yes ?_ | refine Cnd.no ?_ | refine And.intro rfl ?_ | refine And.intro (by omega) ?_ | (refine And.intro ?_ ?_; focus (simp only [IntKind.wrap_i64, IntKind.wrap_u64, IntKind.wrap_u32]; omega)) | (refine And.intro ?_ ?_; focus (simp only [zl1, zl2, zl3, zl4, zl5, zl6, zl7, zl8, zl9] <;> omega)) | refine Alt.std ?_ | (refine Cnd.tt ?_ ?_; focus (first | (apply decide_eq_true; omega) | (simp only [zq1, zq2, zq3, zq4, zq5, zq6, zq7, zq8, zq9, zq10, zq11, zq12] <;> omega) | rfl)) | (refine Cnd.ff ?_ ?_; focus (first | (apply decide_eq_false; omega) | (simp only [zq1, zq2, zq3, zq4, zq5, zq6, zq7, zq8, zq9, zq10, zq11, zq12] <;> omega) | rfl))))
              conv => whnf
              (refine ⟨(fun s : Nat => l.length - s) (i + 1), [0, 1], tmk 45 0 ((fun s : Nat => [(0, .slc 0 13 0 l.length), (3, .slc 1 1 0 l.length), (4, .v (.int .i64 (lastN l s))), (10, .slc 0 13 0 l.length), (11, .v (.int .i64 l.length)), (12, .v (.int .i64 s))]) (i + 1)), (fun s : Nat => [Ent.row o e ock (l.map orow), .row true 3 [.int .i64] (pR l (pT l s))]) (i + 1), ?_, ?_⟩; focus (first | (simp only []; omega) | omega))
              repeat ((conv => whnf); (first | refine Cnd.yes ?_ | refine Cnd.no ?_ | refine And.intro rfl ?_ | refine And.intro (by omega) ?_ | (refine And.intro ?_ ?_; focus (simp only [IntKind.wrap_i64, IntKind.wrap_u64, IntKind.wrap_u32]; omega)) | (refine And.intro ?_ ?_; focus (simp only [zl1, zl2, zl3, zl4, zl5, zl6, zl7, zl8, zl9] <;> omega)) | refine Alt.std ?_))
              conv => whnf
              exact ⟨i + 1, hin, rfl, rfl, (tmkK_eq _ _ _ _).mpr rfl, rfl⟩
            · repeat ((conv => whnf); (first | refine Cnd.yes ?_ | refine Cnd.no ?_ | refine And.intro rfl ?_ | refine And.intro (by omega) ?_ | (refine And.intro ?_ ?_; focus (simp only [IntKind.wrap_i64, IntKind.wrap_u64, IntKind.wrap_u32]; omega)) | (refine And.intro ?_ ?_; focus (simp only [zl1, zl2, zl3, zl4, zl5, zl6, zl7, zl8, zl9] <;> omega)) | refine Alt.std ?_ | (refine Cnd.tt ?_ ?_; focus (first | (apply decide_eq_true; omega) | (simp only [zq1, zq2, zq3, zq4, zq5, zq6, zq7, zq8, zq9, zq10, zq11, zq12] <;> omega) | rfl)) | (refine Cnd.ff ?_ ?_; focus (first | (apply decide_eq_false; omega) | (simp only [zq1, zq2, zq3, zq4, zq5, zq6, zq7, zq8, zq9, zq10, zq11, zq12] <;> omega) | rfl))))
              conv => whnf
              (refine ⟨(fun s : Nat => l.length - s) (i + 1), [0, 1], tmk 45 0 ((fun s : Nat => [(0, .slc 0 13 0 l.length), (3, .slc 1 1 0 l.length), (4, .v (.int .i64 (lastN l s))), (10, .slc 0 13 0 l.length), (11, .v (.int .i64 l.length)), (12, .v (.int .i64 s))]) (i + 1)), (fun s : Nat => [Ent.row o e ock (l.map orow), .row true 3 [.int .i64] (pR l (pT l s))]) (i + 1), ?_, ?_⟩; focus (first | (simp only []; omega) | omega))
              repeat ((conv => whnf); (first | refine Cnd.yes ?_ | refine Cnd.no ?_ | refine And.intro rfl ?_ | refine And.intro (by omega) ?_ | (refine And.intro ?_ ?_; focus (simp only [IntKind.wrap_i64, IntKind.wrap_u64, IntKind.wrap_u32]; omega)) | (refine And.intro ?_ ?_; focus (simp only [zl1, zl2, zl3, zl4, zl5, zl6, zl7, zl8, zl9] <;> omega)) | refine Alt.std ?_))
              conv => whnf
              exact ⟨i + 1, hin, rfl, rfl, (tmkK_eq _ _ _ _).mpr rfl, rfl⟩
          · repeat ((conv => whnf); (first | refine Cnd.yes ?_ | refine Cnd.no ?_ | refine And.intro rfl ?_ | refine And.intro (by omega) ?_ | (refine And.intro ?_ ?_; focus (simp only [IntKind.wrap_i64, IntKind.wrap_u64, IntKind.wrap_u32]; omega)) | (refine And.intro ?_ ?_; focus (simp only [zl1, zl2, zl3, zl4, zl5, zl6, zl7, zl8, zl9] <;> omega)) | refine Alt.std ?_ | (refine Cnd.tt ?_ ?_; focus (first | (apply decide_eq_true; omega) | (simp only [zq1, zq2, zq3, zq4, zq5, zq6, zq7, zq8, zq9, zq10, zq11, zq12] <;> omega) | rfl)) | (refine Cnd.ff ?_ ?_; focus (first | (apply decide_eq_false; omega) | (simp only [zq1, zq2, zq3, zq4, zq5, zq6, zq7, zq8, zq9, zq10, zq11, zq12] <;> omega) | rfl))))
            conv => whnf
            (refine ⟨(fun s : Nat => l.length - s) (i + 1), [0, 1], tmk 45 0 ((fun s : Nat => [(0, .slc 0 13 0 l.length), (3, .slc 1 1 0 l.length), (4, .v (.int .i64 (lastN l s))), (10, .slc 0 13 0 l.length), (11, .v (.int .i64 l.length)), (12, .v (.int .i64 s))]) (i + 1)), (fun s : Nat => [Ent.row o e ock (l.map orow), .row true 3 [.int .i64] (pR l (pT l s))]) (i + 1), ?_, ?_⟩; focus (first | (simp only []; omega) | omega))
            repeat ((conv => whnf); (first | refine Cnd.yes ?_ | refine Cnd.no ?_ | refine And.intro rfl ?_ | refine And.intro (by omega) ?_ | (refine And.intro ?_ ?_; focus (simp only [IntKind.wrap_i64, IntKind.wrap_u64, IntKind.wrap_u32]; omega)) | (refine And.intro ?_ ?_; focus (simp only [zl1, zl2, zl3, zl4, zl5, zl6, zl7, zl8, zl9] <;> omega)) | refine Alt.std ?_))
            conv => whnf
            exact ⟨i + 1, hin, rfl, rfl, (tmkK_eq _ _ _ _).mpr rfl, rfl⟩
    · have hin : i = l.length := by have := of_decide_eq_false hge; omega
      subst hin
      rw [pT_end]
      repeat ((conv => whnf); (first | refine Cnd.yes ?_ | refine Cnd.no ?_ | refine And.intro rfl ?_ | refine And.intro (by omega) ?_ | (refine And.intro ?_ ?_; focus (simp only [IntKind.wrap_i64, IntKind.wrap_u64, IntKind.wrap_u32]; omega)) | (refine And.intro ?_ ?_; focus (simp only [zl1, zl2, zl3, zl4, zl5, zl6, zl7, zl8, zl9] <;> omega)) | refine Alt.std ?_ | (refine Cnd.tt ?_ ?_; focus (first | (apply decide_eq_true; omega) | (simp only [zq1, zq2, zq3, zq4, zq5, zq6, zq7, zq8, zq9, zq10, zq11, zq12] <;> omega) | rfl)) | (refine Cnd.ff ?_ ?_; focus (first | (apply decide_eq_false; omega) | (simp only [zq1, zq2, zq3, zq4, zq5, zq6, zq7, zq8, zq9, zq10, zq11, zq12] <;> omega) | rfl))))
      conv => whnf
      refine ⟨[0, 1], .slc 1 1 0 l.length, [.row o e ock (l.map orow), .row true 3 [.int .i64] ((pairsL l).map irow)], ?_⟩
      repeat ((conv => whnf); (first | refine Cnd.yes ?_ | refine Cnd.no ?_ | refine And.intro rfl ?_ | refine And.intro (by omega) ?_ | (refine And.intro ?_ ?_; focus (simp only [IntKind.wrap_i64, IntKind.wrap_u64, IntKind.wrap_u32]; omega)) | (refine And.intro ?_ ?_; focus (simp only [zl1, zl2, zl3, zl4, zl5, zl6, zl7, zl8, zl9] <;> omega)) | refine Alt.std ?_))
      conv => whnf
      exact hK
def pairsS : Vc.Spec := fun args hp _ K => ∃ (o : Bool) (e : TypeId) (l : List Op), args = [.slc 0 13 0 l.length] ∧ hp = [.row o e ock (l.map orow)] ∧ l.length ≤ 1000 ∧ K (.slc 1 1 0 (pairsL l).length) [.row o e ock (l.map orow), .row true 3 [.int .i64] ((pairsL l).map irow)]
theorem pairs_ok : SOK Try.prog 13 pairsS := by
  refine TOK.weaken (TOK.out (runF_eq G4_ok mixed at13.1 at13.2 pf13_eq)) fun args hp M K h => ?_
  obtain ⟨o, e, l, rfl, rfl, h1, h2⟩ := h
  exact pairs_run M K o e l h1 h2
end Go.Proofs.Ytkfkoldaeplckaa
