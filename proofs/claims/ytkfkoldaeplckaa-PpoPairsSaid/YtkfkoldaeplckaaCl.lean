/-
  PpoPairs, walked.
-/
import Derived.Test.YtkfkoldaeplckaaCk
namespace Go.Proofs.Ytkfkoldaeplckaa
open Go Go.Vc
set_option maxRecDepth 100000
set_option linter.unusedSimpArgs false
set_option linter.unusedVariables false
def brow (b : Bool) : List Value := [.bool b]
theorem toB_b {l : List Bool} {i : Nat} (hi : i < l.length) : toB (cellAt (l.map brow) (0 + (i : Int).toNat) 0) = l.getD i false := by
  rw [Nat.zero_add, Int.toNat_natCast]
  simp [cellAt, List.getD, hi, brow, toB]
def pOp (b : Bool) (j : Nat) : Op := ⟨if b = true then 2 else 1, 4, ((4 * j : Nat) : Int), 0, 0, true, false, false, 0, 0, nilV, nilV, nilV, [], [], []⟩
def pOps (g : Nat → Bool) (i : Nat) : List Op := (List.range i).map fun j => pOp (g j) j
def lastW (g : Nat → Bool) : Nat → Int
  | 0 => -1
  | i + 1 => if g i = true then -1 else (i : Int)
def wn (g : Nat → Bool) (j : Nat) : Int := if g j = true then lastW g j else -1
def wantP (g : Nat → Bool) (i : Nat) : List Int := (List.range i).map (wn g)
theorem pOps_len (g : Nat → Bool) (i : Nat) : (pOps g i).length = i := by simp [pOps]
theorem wantP_len (g : Nat → Bool) (i : Nat) : (wantP g i).length = i := by simp [wantP]
theorem pOps_next (g : Nat → Bool) (i : Nat) : pOps g (i + 1) = pOps g i ++ [pOp (g i) i] := by unfold pOps; rw [List.range_succ, List.map_append]; rfl
theorem wantP_next (g : Nat → Bool) (i : Nat) : wantP g (i + 1) = wantP g i ++ [wn g i] := by unfold wantP; rw [List.range_succ, List.map_append]; rfl
theorem pOps_get (g : Nat → Bool) {i n : Nat} (h : i < n) : (pOps g n).getD i default = pOp (g i) i := by simp [pOps, List.getD, h]
theorem wantP_get (g : Nat → Bool) {i n : Nat} (h : i < n) : (wantP g n).getD i 0 = wn g i := by simp [wantP, List.getD, h]
theorem pOps_last (g : Nat → Bool) (n : Nat) : ∀ i, i ≤ n → lastN (pOps g n) i = (i : Int) - 1
  | 0, _ => by simp [lastN]
  | i + 1, h => by
    unfold lastN
    rw [pOps_get g (by omega), if_pos (show (pOp (g i) i).pr = true from rfl)]
    omega
theorem pOps_pair (g : Nat → Bool) {n i : Nat} (h : i < n) : pairN (pOps g n) i = wn g i := by
  unfold pairN wn
  rw [pOps_get g h, pOps_last g n i (by omega)]
  cases i with
  | zero =>
    rw [if_neg (by rintro ⟨_, _, h, _⟩; simp at h)]
    split <;> rfl
  | succ i =>
    rw [show ((((i + 1 : Nat) : Int) - 1)).toNat = i by omega, pOps_get g (by omega)]
    unfold lastW pOp
    cases h1 : g (i + 1) with
    | false => simp
    | true =>
      cases h2 : g i with
      | false => simp; omega
      | true => simp [h2]
theorem pOps_fit (g : Nat → Bool) (n : Nat) (hn : n ≤ 20) : ∀ x ∈ pOps g n, Fit x := by
  intro x hx
  obtain ⟨j, hj, rfl⟩ := List.mem_map.1 hx
  have := List.mem_range.1 hj
  exact ⟨by show (0 : Int) ≤ ((4 * j : Nat) : Int); omega, by show ((4 * j : Nat) : Int) < 4294967296; omega, fun _ => by show (0 : Int) ≤ 4 ∧ (4 : Int) ≤ 4; omega⟩
theorem pOps_dep (M : HL) (g : Nat → Bool) (n : Nat) : Deps M (pOps g n) := by
  intro x hx
  obtain ⟨j, hj, rfl⟩ := List.mem_map.1 hx
  exact dep0 ⟨rfl, rfl⟩ ⟨rfl, rfl⟩ ⟨rfl, rfl⟩
theorem pOps_why (g : Nat → Bool) {n i : Nat} (h : i < n) (hw : 0 ≤ wn g i) : whyN (pOps g n) (wn g i) i = 8 := by
  have hl := pOps_len g n
  cases i with
  | zero =>
    have h0 : wn g 0 = -1 := by unfold wn; split <;> rfl
    rw [h0] at hw
    omega
  | succ i =>
    cases h1 : g (i + 1) with
    | false => unfold wn at hw; rw [h1] at hw; simp at hw
    | true =>
      have hwn : wn g (i + 1) = if g i = true then -1 else (i : Int) := by unfold wn; rw [h1, if_pos rfl]; rfl
      cases h2 : g i with
      | true => rw [hwn, h2] at hw; simp at hw
      | false =>
        rw [hwn, h2, if_neg (by simp), whyN_in (show i < i + 1 by omega) (show i + 1 < (pOps g n).length by omega), pOps_get g (show i < n by omega), pOps_get g h, h1, h2]
        have hm : meetB [pOp false i, pOp true (i + 1)] = false := meet_disj (.inl (by
          show (if (1 : Int) = 4 then 0 else ((4 * i : Nat) : Int) + 4) ≤ (if (2 : Int) = 4 then 0 else ((4 * (i + 1) : Nat) : Int))
          rw [if_neg (by omega), if_neg (by omega)]; omega))
        have hb : barB (pOps g n) (i + 1) (i + 1 - (i + 1)) (pOp false i) (pOp true (i + 1)) = false := anyB_false fun j hj => by omega
        have hp : w8 (pairsL (pOps g n)) i (i + 1) = true := by
          unfold w8
          rw [pairsL_get (show i + 1 < (pOps g n).length by omega), pOps_pair g h, hwn, h2]
          simp
        unfold withN w0 w1 w2 w3 w7 mk
        rw [hm, hb, hp]
        rfl
set_option maxHeartbeats 1000000 in
theorem ppairs_run (M : HL) (K : SV → List Ent → HL → Prop) (e : TypeId) (kl : List Bool) (g : Nat → Bool) (hg : ∀ j, kl.getD j false = g j) (hK : ∀ hp M', K (.v (.bool true)) hp M') :
    runF G8 pf7 [.slc 0 1 0 kl.length] [.row false e [.bool] (kl.map brow)] M K := by
  repeat ((conv => whnf); (first | refine Cnd.yes ?_ | refine Cnd.no ?_ | refine And.intro rfl ?_ | refine And.intro (by omega) ?_ | (refine And.intro ?_ ?_; focus (simp only [IntKind.wrap_i64, IntKind.wrap_u64, IntKind.wrap_u32]; omega)) | (refine And.intro ?_ ?_; focus (simp only [zl1, zl2, zl3, zl4, zl5, zl6, zl7, zl8, zl9] <;> omega)) | (refine Cnd.tt ?_ ?_; focus (first | (apply decide_eq_true; omega) | (simp only [zq1, zq2, zq3, zq4, zq5, zq6, zq7, zq8, zq9, zq10, zq11, zq12] <;> omega) | rfl)) | (refine Cnd.ff ?_ ?_; focus (first | (apply decide_eq_false; omega) | (simp only [zq1, zq2, zq3, zq4, zq5, zq6, zq7, zq8, zq9, zq10, zq11, zq12] <;> omega) | rfl))))
  conv => whnf
  by_cases hbig : 20 < kl.length
  · repeat ((conv => whnf); (first | refine Cnd.yes ?_ | refine Cnd.no ?_ | refine And.intro rfl ?_ | refine And.intro (by omega) ?_ | (refine And.intro ?_ ?_; focus (simp only [IntKind.wrap_i64, IntKind.wrap_u64, IntKind.wrap_u32]; omega)) | (refine And.intro ?_ ?_; focus (simp only [zl1, zl2, zl3, zl4, zl5, zl6, zl7, zl8, zl9] <;> omega)) | (refine Cnd.tt ?_ ?_; focus (first | (apply decide_eq_true; omega) | (simp only [zq1, zq2, zq3, zq4, zq5, zq6, zq7, zq8, zq9, zq10, zq11, zq12] <;> omega) | rfl)) | (refine Cnd.ff ?_ ?_; focus (first | (apply decide_eq_false; omega) | (simp only [zq1, zq2, zq3, zq4, zq5, zq6, zq7, zq8, zq9, zq10, zq11, zq12] <;> omega) | rfl))))
    conv => whnf
    exact hK _ _
  · repeat ((conv => whnf); (first | refine Cnd.yes ?_ | refine Cnd.no ?_ | refine And.intro rfl ?_ | refine And.intro (by omega) ?_ | (refine And.intro ?_ ?_; focus (simp only [IntKind.wrap_i64, IntKind.wrap_u64, IntKind.wrap_u32]; omega)) | (refine And.intro ?_ ?_; focus (simp only [zl1, zl2, zl3, zl4, zl5, zl6, zl7, zl8, zl9] <;> omega)) | (refine Cnd.tt ?_ ?_; focus (first | (apply decide_eq_true; omega) | (simp only [zq1, zq2, zq3, zq4, zq5, zq6, zq7, zq8, zq9, zq10, zq11, zq12] <;> omega) | rfl)) | (refine Cnd.ff ?_ ?_; focus (first | (apply decide_eq_false; omega) | (simp only [zq1, zq2, zq3, zq4, zq5, zq6, zq7, zq8, zq9, zq10, zq11, zq12] <;> omega) | rfl))))
    conv => whnf
    refine ⟨InvS 89 (fun s : Nat => kl.length - s) (fun s : Nat => s ≤ kl.length) (fun s : Nat => [(0, .slc 0 1 0 kl.length), (4, .slc 1 13 0 s), (5, .v (.int .i64 (lastW g s))), (6, .slc 2 1 0 s), (7, .v (.int .i64 s))]) (fun s : Nat => [Ent.row false e [.bool] (kl.map brow), .row true 30 ock ((pOps g s).map orow), .row true 3 [.int .i64] ((wantP g s).map irow)]) M, ⟨(fun s : Nat => kl.length - s) 0, [0, 9, 9], tmk 89 0 ((fun s : Nat => [(0, .slc 0 1 0 kl.length), (4, .slc 1 13 0 s), (5, .v (.int .i64 (lastW g s))), (6, .slc 2 1 0 s), (7, .v (.int .i64 s))]) 0), (fun s : Nat => [Ent.row false e [.bool] (kl.map brow), .row true 30 ock ((pOps g s).map orow), .row true 3 [.int .i64] ((wantP g s).map irow)]) 0, ?_⟩, ?_⟩
    · repeat ((conv => whnf); (first | refine Cnd.yes ?_ | refine Cnd.no ?_ | refine And.intro rfl ?_ | refine And.intro (by omega) ?_ | (refine And.intro ?_ ?_; focus (simp only [IntKind.wrap_i64, IntKind.wrap_u64, IntKind.wrap_u32]; omega)) | (refine And.intro ?_ ?_; focus (simp only [zl1, zl2, zl3, zl4, zl5, zl6, zl7, zl8, zl9] <;> omega))))
      conv => whnf
      exact ⟨0, Nat.zero_le _, rfl, rfl, (tmkK_eq _ _ _ _).mpr rfl, rfl⟩
    · rintro cnt tm hp M1 ⟨i, hC_, rfl, rfl, htm, hhp_⟩
      replace hC_ : i ≤ kl.length := hC_
      have hi := hC_
      replace htm : tmkK 89 0 [(0, .slc 0 1 0 kl.length), (4, .slc 1 13 0 i), (5, .v (.int .i64 (lastW g i))), (6, .slc 2 1 0 i), (7, .v (.int .i64 i))] (fun l => tm = l) := htm
      conv at htm => whnf
      subst htm
      replace hhp_ : hp = [Ent.row false e [.bool] (kl.map brow), .row true 30 ock ((pOps g i).map orow), .row true 3 [.int .i64] ((wantP g i).map irow)] := hhp_
      subst hhp_
      repeat ((conv => whnf); (first | refine Cnd.yes ?_ | refine Cnd.no ?_ | refine And.intro rfl ?_ | refine And.intro (by omega) ?_ | (refine And.intro ?_ ?_; focus (simp only [IntKind.wrap_i64, IntKind.wrap_u64, IntKind.wrap_u32]; omega)) | (refine And.intro ?_ ?_; focus (simp only [zl1, zl2, zl3, zl4, zl5, zl6, zl7, zl8, zl9] <;> omega)) | (refine Cnd.tt ?_ ?_; focus (first | (apply decide_eq_true; omega) | (simp only [zq1, zq2, zq3, zq4, zq5, zq6, zq7, zq8, zq9, zq10, zq11, zq12] <;> omega) | rfl)) | (refine Cnd.ff ?_ ?_; focus (first | (apply decide_eq_false; omega) | (simp only [zq1, zq2, zq3, zq4, zq5, zq6, zq7, zq8, zq9, zq10, zq11, zq12] <;> omega) | rfl))))
      conv => whnf
      refine Cnd.mk (fun hlt => ?_) fun hge => ?_
      · have hin : i < kl.length := by have := of_decide_eq_true hlt; omega
        have e4 : IntKind.u32.wrap (IntKind.i64.wrap (4 * (i : Int))) = ((4 * i : Nat) : Int) := by rw [IntKind.wrap_i64, IntKind.wrap_u32]; omega
        have e0 := toB_b hin
        rw [hg] at e0
        have l1 := pOps_len g i
        have l2 := wantP_len g i
        have n1 : List.take i (List.drop 0 ((pOps g i).map orow)) ++ List.take 1 (List.drop 0 [orow (pOp (g i) i)]) = (pOps g (i + 1)).map orow := by
          rw [List.drop_zero, List.take_of_length_le (by simp [l1]), pOps_next, List.map_append]; rfl
        have n2 : List.take i (List.drop 0 ((wantP g i).map irow)) ++ List.take 1 (List.drop 0 [irow (wn g i)]) = (wantP g (i + 1)).map irow := by
          rw [List.drop_zero, List.take_of_length_le (by simp [l2]), wantP_next, List.map_append]; rfl
        have hwn : wn g i = if g i = true then lastW g i else -1 := rfl
        have hlw : lastW g (i + 1) = if g i = true then -1 else (i : Int) := rfl
        repeat ((conv => whnf); (first | refine Cnd.yes ?_ | refine Cnd.no ?_ | refine And.intro rfl ?_ | refine And.intro (by omega) ?_ | (refine And.intro ?_ ?_; focus (simp only [IntKind.wrap_i64, IntKind.wrap_u64, IntKind.wrap_u32]; omega)) | (refine And.intro ?_ ?_; focus (simp only [zl1, zl2, zl3, zl4, zl5, zl6, zl7, zl8, zl9] <;> omega)) | (refine Cnd.tt ?_ ?_; focus (first | (apply decide_eq_true; omega) | (simp only [zq1, zq2, zq3, zq4, zq5, zq6, zq7, zq8, zq9, zq10, zq11, zq12] <;> omega) | rfl)) | (refine Cnd.ff ?_ ?_; focus (first | (apply decide_eq_false; omega) | (simp only [zq1, zq2, zq3, zq4, zq5, zq6, zq7, zq8, zq9, zq10, zq11, zq12] <;> omega) | rfl))))
        conv => whnf
        rw [e0]
        cases hb : g i with
        | true =>
          rw [hb, if_pos rfl] at hwn hlw
          rw [hb] at n1
          rw [hwn] at n2
          repeat ((conv => whnf); (first | refine Cnd.yes ?_ | refine Cnd.no ?_ | refine And.intro rfl ?_ | refine And.intro (by omega) ?_ | (refine And.intro ?_ ?_; focus (simp only [IntKind.wrap_i64, IntKind.wrap_u64, IntKind.wrap_u32]; omega)) | (refine And.intro ?_ ?_; focus (simp only [zl1, zl2, zl3, zl4, zl5, zl6, zl7, zl8, zl9] <;> omega)) | (refine Cnd.tt ?_ ?_; focus (first | (apply decide_eq_true; omega) | (simp only [zq1, zq2, zq3, zq4, zq5, zq6, zq7, zq8, zq9, zq10, zq11, zq12] <;> omega) | rfl)) | (refine Cnd.ff ?_ ?_; focus (first | (apply decide_eq_false; omega) | (simp only [zq1, zq2, zq3, zq4, zq5, zq6, zq7, zq8, zq9, zq10, zq11, zq12] <;> omega) | rfl))))
          conv => whnf
          rw [e4]
          (refine ⟨(fun s : Nat => kl.length - s) (i + 1), [0, 5, 7], tmk 89 0 ((fun s : Nat => [(0, .slc 0 1 0 kl.length), (4, .slc 1 13 0 s), (5, .v (.int .i64 (lastW g s))), (6, .slc 2 1 0 s), (7, .v (.int .i64 s))]) (i + 1)), (fun s : Nat => [Ent.row false e [.bool] (kl.map brow), .row true 30 ock ((pOps g s).map orow), .row true 3 [.int .i64] ((wantP g s).map irow)]) (i + 1), ?_, ?_⟩; focus (first | (simp only []; omega) | omega))
          repeat ((conv => whnf); (first | refine Cnd.yes ?_ | refine Cnd.no ?_ | refine And.intro rfl ?_ | refine And.intro (by omega) ?_ | (refine And.intro ?_ ?_; focus (simp only [IntKind.wrap_i64, IntKind.wrap_u64, IntKind.wrap_u32]; omega)) | (refine And.intro ?_ ?_; focus (simp only [zl1, zl2, zl3, zl4, zl5, zl6, zl7, zl8, zl9] <;> omega))))
          conv => whnf
          refine ⟨n1, ?_⟩
          repeat ((conv => whnf); (first | refine Cnd.yes ?_ | refine Cnd.no ?_ | refine And.intro rfl ?_ | refine And.intro (by omega) ?_ | (refine And.intro ?_ ?_; focus (simp only [IntKind.wrap_i64, IntKind.wrap_u64, IntKind.wrap_u32]; omega)) | (refine And.intro ?_ ?_; focus (simp only [zl1, zl2, zl3, zl4, zl5, zl6, zl7, zl8, zl9] <;> omega))))
          conv => whnf
          refine ⟨n2, ?_⟩
          repeat ((conv => whnf); (first | refine Cnd.yes ?_ | refine Cnd.no ?_ | refine And.intro rfl ?_ | refine And.intro (by omega) ?_ | (refine And.intro ?_ ?_; focus (simp only [IntKind.wrap_i64, IntKind.wrap_u64, IntKind.wrap_u32]; omega)) | (refine And.intro ?_ ?_; focus (simp only [zl1, zl2, zl3, zl4, zl5, zl6, zl7, zl8, zl9] <;> omega))))
          conv => whnf
          exact ⟨i + 1, hin, rfl, rfl, (tmkK_eq _ _ _ _).mpr rfl, rfl⟩
        | false =>
          rw [hb, if_neg (by simp)] at hwn hlw
          rw [hb] at n1
          rw [hwn] at n2
          repeat ((conv => whnf); (first | refine Cnd.yes ?_ | refine Cnd.no ?_ | refine And.intro rfl ?_ | refine And.intro (by omega) ?_ | (refine And.intro ?_ ?_; focus (simp only [IntKind.wrap_i64, IntKind.wrap_u64, IntKind.wrap_u32]; omega)) | (refine And.intro ?_ ?_; focus (simp only [zl1, zl2, zl3, zl4, zl5, zl6, zl7, zl8, zl9] <;> omega)) | (refine Cnd.tt ?_ ?_; focus (first | (apply decide_eq_true; omega) | (simp only [zq1, zq2, zq3, zq4, zq5, zq6, zq7, zq8, zq9, zq10, zq11, zq12] <;> omega) | rfl)) | (refine Cnd.ff ?_ ?_; focus (first | (apply decide_eq_false; omega) | (simp only [zq1, zq2, zq3, zq4, zq5, zq6, zq7, zq8, zq9, zq10, zq11, zq12] <;> omega) | rfl))))
          conv => whnf
          rw [e4]
          (refine ⟨(fun s : Nat => kl.length - s) (i + 1), [0, 5, 7], tmk 89 0 ((fun s : Nat => [(0, .slc 0 1 0 kl.length), (4, .slc 1 13 0 s), (5, .v (.int .i64 (lastW g s))), (6, .slc 2 1 0 s), (7, .v (.int .i64 s))]) (i + 1)), (fun s : Nat => [Ent.row false e [.bool] (kl.map brow), .row true 30 ock ((pOps g s).map orow), .row true 3 [.int .i64] ((wantP g s).map irow)]) (i + 1), ?_, ?_⟩; focus (first | (simp only []; omega) | omega))
          repeat ((conv => whnf); (first | refine Cnd.yes ?_ | refine Cnd.no ?_ | refine And.intro rfl ?_ | refine And.intro (by omega) ?_ | (refine And.intro ?_ ?_; focus (simp only [IntKind.wrap_i64, IntKind.wrap_u64, IntKind.wrap_u32]; omega)) | (refine And.intro ?_ ?_; focus (simp only [zl1, zl2, zl3, zl4, zl5, zl6, zl7, zl8, zl9] <;> omega))))
          conv => whnf
          refine ⟨n1, ?_⟩
          repeat ((conv => whnf); (first | refine Cnd.yes ?_ | refine Cnd.no ?_ | refine And.intro rfl ?_ | refine And.intro (by omega) ?_ | (refine And.intro ?_ ?_; focus (simp only [IntKind.wrap_i64, IntKind.wrap_u64, IntKind.wrap_u32]; omega)) | (refine And.intro ?_ ?_; focus (simp only [zl1, zl2, zl3, zl4, zl5, zl6, zl7, zl8, zl9] <;> omega))))
          conv => whnf
          refine ⟨n2, ?_⟩
          repeat ((conv => whnf); (first | refine Cnd.yes ?_ | refine Cnd.no ?_ | refine And.intro rfl ?_ | refine And.intro (by omega) ?_ | (refine And.intro ?_ ?_; focus (simp only [IntKind.wrap_i64, IntKind.wrap_u64, IntKind.wrap_u32]; omega)) | (refine And.intro ?_ ?_; focus (simp only [zl1, zl2, zl3, zl4, zl5, zl6, zl7, zl8, zl9] <;> omega))))
          conv => whnf
          exact ⟨i + 1, hin, rfl, rfl, (tmkK_eq _ _ _ _).mpr rfl, rfl⟩
      · have hin : i = kl.length := by have := of_decide_eq_false hge; omega
        subst hin
        have l1 := pOps_len g kl.length
        have l2 := wantP_len g kl.length
        have l3 : (pairsL (pOps g kl.length)).length = kl.length := by simp [pairsL, l1]
        repeat ((conv => whnf); (first | refine Cnd.yes ?_ | refine Cnd.no ?_ | refine And.intro rfl ?_ | refine And.intro (by omega) ?_ | (refine And.intro ?_ ?_; focus (simp only [IntKind.wrap_i64, IntKind.wrap_u64, IntKind.wrap_u32]; omega)) | (refine And.intro ?_ ?_; focus (simp only [zl1, zl2, zl3, zl4, zl5, zl6, zl7, zl8, zl9] <;> omega)) | (refine Cnd.tt ?_ ?_; focus (first | (apply decide_eq_true; omega) | (simp only [zq1, zq2, zq3, zq4, zq5, zq6, zq7, zq8, zq9, zq10, zq11, zq12] <;> omega) | rfl)) | (refine Cnd.ff ?_ ?_; focus (first | (apply decide_eq_false; omega) | (simp only [zq1, zq2, zq3, zq4, zq5, zq6, zq7, zq8, zq9, zq10, zq11, zq12] <;> omega) | rfl))))
        conv => whnf
        refine ⟨true, 30, pOps g kl.length, by rw [l1], rfl, by omega, ?_⟩
        rw [l3]
        repeat ((conv => whnf); (first | refine Cnd.yes ?_ | refine Cnd.no ?_ | refine And.intro rfl ?_ | refine And.intro (by omega) ?_ | (refine And.intro ?_ ?_; focus (simp only [IntKind.wrap_i64, IntKind.wrap_u64, IntKind.wrap_u32]; omega)) | (refine And.intro ?_ ?_; focus (simp only [zl1, zl2, zl3, zl4, zl5, zl6, zl7, zl8, zl9] <;> omega)) | (refine Cnd.tt ?_ ?_; focus (first | (apply decide_eq_true; omega) | (simp only [zq1, zq2, zq3, zq4, zq5, zq6, zq7, zq8, zq9, zq10, zq11, zq12] <;> omega) | rfl)) | (refine Cnd.ff ?_ ?_; focus (first | (apply decide_eq_false; omega) | (simp only [zq1, zq2, zq3, zq4, zq5, zq6, zq7, zq8, zq9, zq10, zq11, zq12] <;> omega) | rfl))))
        conv => whnf
        refine ⟨InvS 89 (fun s : Nat => kl.length - s) (fun s : Nat => s ≤ kl.length) (fun s : Nat => [(4, .slc 1 13 0 kl.length), (6, .slc 2 1 0 kl.length), (10, .slc 3 1 0 kl.length), (11, .v (.int .i64 s))]) (fun s : Nat => [Ent.row false e [.bool] (kl.map brow), .row true 30 ock ((pOps g kl.length).map orow), .row true 3 [.int .i64] ((wantP g kl.length).map irow), .row true 3 [.int .i64] ((pairsL (pOps g kl.length)).map irow)]) M1, ⟨(fun s : Nat => kl.length - s) 0, [0, 1, 2, 3], tmk 89 0 ((fun s : Nat => [(4, .slc 1 13 0 kl.length), (6, .slc 2 1 0 kl.length), (10, .slc 3 1 0 kl.length), (11, .v (.int .i64 s))]) 0), (fun s : Nat => [Ent.row false e [.bool] (kl.map brow), .row true 30 ock ((pOps g kl.length).map orow), .row true 3 [.int .i64] ((wantP g kl.length).map irow), .row true 3 [.int .i64] ((pairsL (pOps g kl.length)).map irow)]) 0, ?_⟩, ?_⟩
        · repeat ((conv => whnf); (first | refine Cnd.yes ?_ | refine Cnd.no ?_ | refine And.intro rfl ?_ | refine And.intro (by omega) ?_ | (refine And.intro ?_ ?_; focus (simp only [IntKind.wrap_i64, IntKind.wrap_u64, IntKind.wrap_u32]; omega)) | (refine And.intro ?_ ?_; focus (simp only [zl1, zl2, zl3, zl4, zl5, zl6, zl7, zl8, zl9] <;> omega))))
          conv => whnf
          exact ⟨0, Nat.zero_le _, rfl, rfl, (tmkK_eq _ _ _ _).mpr rfl, rfl⟩
        · rintro cnt tm hp M1 ⟨j, hC_, rfl, rfl, htm, hhp_⟩
          replace hC_ : j ≤ kl.length := hC_
          have hj := hC_
          replace htm : tmkK 89 0 [(4, .slc 1 13 0 kl.length), (6, .slc 2 1 0 kl.length), (10, .slc 3 1 0 kl.length), (11, .v (.int .i64 j))] (fun l => tm = l) := htm
          conv at htm => whnf
          subst htm
          replace hhp_ : hp = [Ent.row false e [.bool] (kl.map brow), .row true 30 ock ((pOps g kl.length).map orow), .row true 3 [.int .i64] ((wantP g kl.length).map irow), .row true 3 [.int .i64] ((pairsL (pOps g kl.length)).map irow)] := hhp_
          subst hhp_
          repeat ((conv => whnf); (first | refine Cnd.yes ?_ | refine Cnd.no ?_ | refine And.intro rfl ?_ | refine And.intro (by omega) ?_ | (refine And.intro ?_ ?_; focus (simp only [IntKind.wrap_i64, IntKind.wrap_u64, IntKind.wrap_u32]; omega)) | (refine And.intro ?_ ?_; focus (simp only [zl1, zl2, zl3, zl4, zl5, zl6, zl7, zl8, zl9] <;> omega)) | (refine Cnd.tt ?_ ?_; focus (first | (apply decide_eq_true; omega) | (simp only [zq1, zq2, zq3, zq4, zq5, zq6, zq7, zq8, zq9, zq10, zq11, zq12] <;> omega) | rfl)) | (refine Cnd.ff ?_ ?_; focus (first | (apply decide_eq_false; omega) | (simp only [zq1, zq2, zq3, zq4, zq5, zq6, zq7, zq8, zq9, zq10, zq11, zq12] <;> omega) | rfl))))
          conv => whnf
          refine Cnd.mk (fun hlt => ?_) fun hge => ?_
          · have hjn : j < kl.length := by have := of_decide_eq_true hlt; omega
            have e1 : toI (cellAt ((pairsL (pOps g kl.length)).map irow) (0 + (j : Int).toNat) 0) = wn g j := by
              rw [toI_i (by omega), pairsL_get (by omega), pOps_pair g hjn]
            have e2 : toI (cellAt ((wantP g kl.length).map irow) (0 + (j : Int).toNat) 0) = wn g j := by
              rw [toI_i (by omega), wantP_get g hjn]
            have hwy := pOps_why g hjn
            repeat ((conv => whnf); (first | refine Cnd.yes ?_ | refine Cnd.no ?_ | refine And.intro rfl ?_ | refine And.intro (by omega) ?_ | (refine And.intro ?_ ?_; focus (simp only [IntKind.wrap_i64, IntKind.wrap_u64, IntKind.wrap_u32]; omega)) | (refine And.intro ?_ ?_; focus (simp only [zl1, zl2, zl3, zl4, zl5, zl6, zl7, zl8, zl9] <;> omega)) | (refine Cnd.tt ?_ ?_; focus (first | (apply decide_eq_true; omega) | (simp only [zq1, zq2, zq3, zq4, zq5, zq6, zq7, zq8, zq9, zq10, zq11, zq12] <;> omega) | rfl)) | (refine Cnd.ff ?_ ?_; focus (first | (apply decide_eq_false; omega) | (simp only [zq1, zq2, zq3, zq4, zq5, zq6, zq7, zq8, zq9, zq10, zq11, zq12] <;> omega) | rfl))))
            conv => whnf
            rw [e1, e2]
            repeat ((conv => whnf); (first | refine Cnd.yes ?_ | refine Cnd.no ?_ | refine And.intro rfl ?_ | refine And.intro (by omega) ?_ | (refine And.intro ?_ ?_; focus (simp only [IntKind.wrap_i64, IntKind.wrap_u64, IntKind.wrap_u32]; omega)) | (refine And.intro ?_ ?_; focus (simp only [zl1, zl2, zl3, zl4, zl5, zl6, zl7, zl8, zl9] <;> omega)) | (refine Cnd.tt ?_ ?_; focus (first | (apply decide_eq_true; omega) | (simp only [zq1, zq2, zq3, zq4, zq5, zq6, zq7, zq8, zq9, zq10, zq11, zq12] <;> omega) | rfl)) | (refine Cnd.ff ?_ ?_; focus (first | (apply decide_eq_false; omega) | (simp only [zq1, zq2, zq3, zq4, zq5, zq6, zq7, zq8, zq9, zq10, zq11, zq12] <;> omega) | rfl))))
            conv => whnf
            by_cases h0 : 0 ≤ wn g j
            · repeat ((conv => whnf); (first | refine Cnd.yes ?_ | refine Cnd.no ?_ | refine And.intro rfl ?_ | refine And.intro (by omega) ?_ | (refine And.intro ?_ ?_; focus (simp only [IntKind.wrap_i64, IntKind.wrap_u64, IntKind.wrap_u32]; omega)) | (refine And.intro ?_ ?_; focus (simp only [zl1, zl2, zl3, zl4, zl5, zl6, zl7, zl8, zl9] <;> omega)) | (refine Cnd.tt ?_ ?_; focus (first | (apply decide_eq_true; omega) | (simp only [zq1, zq2, zq3, zq4, zq5, zq6, zq7, zq8, zq9, zq10, zq11, zq12] <;> omega) | rfl)) | (refine Cnd.ff ?_ ?_; focus (first | (apply decide_eq_false; omega) | (simp only [zq1, zq2, zq3, zq4, zq5, zq6, zq7, zq8, zq9, zq10, zq11, zq12] <;> omega) | rfl))))
              conv => whnf
              rw [e2]
              intro Mr hMr
              repeat ((conv => whnf); (first | refine Cnd.yes ?_ | refine Cnd.no ?_ | refine And.intro rfl ?_ | refine And.intro (by omega) ?_ | (refine And.intro ?_ ?_; focus (simp only [IntKind.wrap_i64, IntKind.wrap_u64, IntKind.wrap_u32]; omega)) | (refine And.intro ?_ ?_; focus (simp only [zl1, zl2, zl3, zl4, zl5, zl6, zl7, zl8, zl9] <;> omega)) | (refine Cnd.tt ?_ ?_; focus (first | (apply decide_eq_true; omega) | (simp only [zq1, zq2, zq3, zq4, zq5, zq6, zq7, zq8, zq9, zq10, zq11, zq12] <;> omega) | rfl)) | (refine Cnd.ff ?_ ?_; focus (first | (apply decide_eq_false; omega) | (simp only [zq1, zq2, zq3, zq4, zq5, zq6, zq7, zq8, zq9, zq10, zq11, zq12] <;> omega) | rfl))))
              conv => whnf
              refine ⟨false, 30, pOps g kl.length, wn g j, j, by rw [l1], rfl, by omega, pOps_fit g _ (by omega), pOps_dep _ g _, ?_⟩
              rw [hwy h0]
              repeat ((conv => whnf); (first | refine Cnd.yes ?_ | refine Cnd.no ?_ | refine And.intro rfl ?_ | refine And.intro (by omega) ?_ | (refine And.intro ?_ ?_; focus (simp only [IntKind.wrap_i64, IntKind.wrap_u64, IntKind.wrap_u32]; omega)) | (refine And.intro ?_ ?_; focus (simp only [zl1, zl2, zl3, zl4, zl5, zl6, zl7, zl8, zl9] <;> omega)) | (refine Cnd.tt ?_ ?_; focus (first | (apply decide_eq_true; omega) | (simp only [zq1, zq2, zq3, zq4, zq5, zq6, zq7, zq8, zq9, zq10, zq11, zq12] <;> omega) | rfl)) | (refine Cnd.ff ?_ ?_; focus (first | (apply decide_eq_false; omega) | (simp only [zq1, zq2, zq3, zq4, zq5, zq6, zq7, zq8, zq9, zq10, zq11, zq12] <;> omega) | rfl))))
              conv => whnf
              (refine ⟨(fun s : Nat => kl.length - s) (j + 1), [0, 1, 2, 3], tmk 89 0 ((fun s : Nat => [(4, .slc 1 13 0 kl.length), (6, .slc 2 1 0 kl.length), (10, .slc 3 1 0 kl.length), (11, .v (.int .i64 s))]) (j + 1)), (fun s : Nat => [Ent.row false e [.bool] (kl.map brow), .row true 30 ock ((pOps g kl.length).map orow), .row true 3 [.int .i64] ((wantP g kl.length).map irow), .row true 3 [.int .i64] ((pairsL (pOps g kl.length)).map irow)]) (j + 1), ?_, ?_⟩; focus (first | (simp only []; omega) | omega))
              repeat ((conv => whnf); (first | refine Cnd.yes ?_ | refine Cnd.no ?_ | refine And.intro rfl ?_ | refine And.intro (by omega) ?_ | (refine And.intro ?_ ?_; focus (simp only [IntKind.wrap_i64, IntKind.wrap_u64, IntKind.wrap_u32]; omega)) | (refine And.intro ?_ ?_; focus (simp only [zl1, zl2, zl3, zl4, zl5, zl6, zl7, zl8, zl9] <;> omega))))
              conv => whnf
              exact ⟨j + 1, hjn, rfl, rfl, (tmkK_eq _ _ _ _).mpr rfl, rfl⟩
            · repeat ((conv => whnf); (first | refine Cnd.yes ?_ | refine Cnd.no ?_ | refine And.intro rfl ?_ | refine And.intro (by omega) ?_ | (refine And.intro ?_ ?_; focus (simp only [IntKind.wrap_i64, IntKind.wrap_u64, IntKind.wrap_u32]; omega)) | (refine And.intro ?_ ?_; focus (simp only [zl1, zl2, zl3, zl4, zl5, zl6, zl7, zl8, zl9] <;> omega)) | (refine Cnd.tt ?_ ?_; focus (first | (apply decide_eq_true; omega) | (simp only [zq1, zq2, zq3, zq4, zq5, zq6, zq7, zq8, zq9, zq10, zq11, zq12] <;> omega) | rfl)) | (refine Cnd.ff ?_ ?_; focus (first | (apply decide_eq_false; omega) | (simp only [zq1, zq2, zq3, zq4, zq5, zq6, zq7, zq8, zq9, zq10, zq11, zq12] <;> omega) | rfl))))
              conv => whnf
              (refine ⟨(fun s : Nat => kl.length - s) (j + 1), [0, 1, 2, 3], tmk 89 0 ((fun s : Nat => [(4, .slc 1 13 0 kl.length), (6, .slc 2 1 0 kl.length), (10, .slc 3 1 0 kl.length), (11, .v (.int .i64 s))]) (j + 1)), (fun s : Nat => [Ent.row false e [.bool] (kl.map brow), .row true 30 ock ((pOps g kl.length).map orow), .row true 3 [.int .i64] ((wantP g kl.length).map irow), .row true 3 [.int .i64] ((pairsL (pOps g kl.length)).map irow)]) (j + 1), ?_, ?_⟩; focus (first | (simp only []; omega) | omega))
              repeat ((conv => whnf); (first | refine Cnd.yes ?_ | refine Cnd.no ?_ | refine And.intro rfl ?_ | refine And.intro (by omega) ?_ | (refine And.intro ?_ ?_; focus (simp only [IntKind.wrap_i64, IntKind.wrap_u64, IntKind.wrap_u32]; omega)) | (refine And.intro ?_ ?_; focus (simp only [zl1, zl2, zl3, zl4, zl5, zl6, zl7, zl8, zl9] <;> omega))))
              conv => whnf
              exact ⟨j + 1, hjn, rfl, rfl, (tmkK_eq _ _ _ _).mpr rfl, rfl⟩
          · have hjn : j = kl.length := by have := of_decide_eq_false hge; omega
            repeat ((conv => whnf); (first | refine Cnd.yes ?_ | refine Cnd.no ?_ | refine And.intro rfl ?_ | refine And.intro (by omega) ?_ | (refine And.intro ?_ ?_; focus (simp only [IntKind.wrap_i64, IntKind.wrap_u64, IntKind.wrap_u32]; omega)) | (refine And.intro ?_ ?_; focus (simp only [zl1, zl2, zl3, zl4, zl5, zl6, zl7, zl8, zl9] <;> omega)) | (refine Cnd.tt ?_ ?_; focus (first | (apply decide_eq_true; omega) | (simp only [zq1, zq2, zq3, zq4, zq5, zq6, zq7, zq8, zq9, zq10, zq11, zq12] <;> omega) | rfl)) | (refine Cnd.ff ?_ ?_; focus (first | (apply decide_eq_false; omega) | (simp only [zq1, zq2, zq3, zq4, zq5, zq6, zq7, zq8, zq9, zq10, zq11, zq12] <;> omega) | rfl))))
            conv => whnf
            exact hK _ _
end Go.Proofs.Ytkfkoldaeplckaa
