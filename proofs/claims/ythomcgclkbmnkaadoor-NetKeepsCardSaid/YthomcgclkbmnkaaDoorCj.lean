/-
  NetKeeps, walked.
-/
import Derived.Test.YthomcgclkbmnkaaDoorCi
namespace Go.Proofs.YthomcgclkbmnkaaDoor
open Go Go.Vc
set_option maxRecDepth 100000
set_option linter.unusedSimpArgs false
set_option linter.unusedVariables false
set_option maxHeartbeats 10000000
def k1Hp (e e2 : TypeId) (l : List Msg) (od : List Int) (S : List Msg) : List Ent := [.row false e mck (l.map mrow), .row false e2 [.int .i64] (od.map irow), .cells 69 [.v (.int .i64 4), .v (.int .i64 64), .v (.int .i64 S.length), .slc 3 12 0 (flA S fun _ => false).length], .row true 44 fck ((flA S fun _ => false).map frow), .row true 33 mck (S.map mrow)]
def boolr (f : Nat → Bool) (j : Nat) : List Value := [.bool (f j)]
theorem boolr_zero (i : Nat) : List.replicate i [Value.bool false] = tblOf (boolr fun _ => false) i := by
  have h : (boolr fun _ => false) = fun _ => [Value.bool false] := rfl
  rw [h, tblOf, List.map_const', List.length_range]
theorem boolr_set (f : Nat → Bool) {k n : Nat} (h : k < n) : (tblOf (boolr f) n).set (0 + (k : Int).toNat) (over ((tblOf (boolr f) n).getD (0 + (k : Int).toNat) []) 0 [.bool true]) = tblOf (boolr (setG f k)) n := by
  rw [Nat.zero_add, Int.toNat_natCast, tblOf_get _ h, tblOf_set _ h]
  refine tblOf_congr fun j _ => ?_
  simp only [boolr, setG]
  by_cases hj : j = k
  · rw [if_pos hj, if_pos hj]; rfl
  · rw [if_neg hj, if_neg hj]
theorem boolr_get (f : Nat → Bool) {k n : Nat} (h : k < n) : toB (cellAt (tblOf (boolr f) n) (0 + (k : Int).toNat) 0) = f k := by
  rw [Nat.zero_add, Int.toNat_natCast, tblOf_cell _ h]
  rfl
def k2Hp (e e2 : TypeId) (l : List Msg) (od : List Int) (S : List Msg) (g : Nat → Bool) : List Ent := [.row false e mck (l.map mrow), .row false e2 [.int .i64] (od.map irow), .cells 69 [.v (.int .i64 4), .v (.int .i64 64), .v (.int .i64 S.length), .slc 3 12 0 (flA S g).length], .row true 44 fck ((flA S g).map frow), .row true 33 mck (S.map mrow), .row true 4 [.bool] (tblOf (boolr g) S.length)]
theorem flA_none (S : List Msg) : (flA S fun _ => false).length = S.length := by
  rw [flA, List.length_map, show (List.range S.length).filter (fun _ => !false) = List.range S.length from List.filter_eq_self.2 (fun _ _ => rfl), List.length_range]
theorem w_left {a b c : Nat} (h1 : a = b) (h2 : b = c + 1) (h3 : c ≤ 1000) : IntKind.i64.wrap ((a : Int) - 1) = (c : Int) := by rw [IntKind.wrap_i64]; omega
theorem keeps_run (M : HL) (K : SV → List Ent → HL → Prop) (ad : Nat → Addr) (hS : Sents M ad) (e e2 : TypeId) (l : List Msg) (od : List Int) (hK : ∀ hp M', K (.v (.bool true)) hp M') :
    runF GK pf5 [.slc 0 11 0 l.length, .slc 1 1 0 od.length] [.row false e mck (l.map mrow), .row false e2 [.int .i64] (od.map irow)] M K := by
  repeat ((conv => whnf); (first | refine Cnd.yes ?_ | refine Cnd.no ?_ | refine And.intro rfl ?_ | refine And.intro (by omega) ?_ | (refine And.intro ?_ ?_; focus (simp only [IntKind.wrap_i64, IntKind.wrap_u64, IntKind.wrap_u32]; omega)) | (refine And.intro ?_ ?_; focus (simp only [zl1, zl2, zl3, zl4, zl5, zl6, zl7, zl8, zl9] <;> omega)) | (refine Cnd.tt ?_ ?_; focus (first | (apply decide_eq_true; omega) | (simp only [zq1, zq2, zq3, zq4, zq5, zq6, zq7, zq8, zq9, zq10, zq11, zq12] <;> omega) | rfl)) | (refine Cnd.ff ?_ ?_; focus (first | (apply decide_eq_false; omega) | (simp only [zq1, zq2, zq3, zq4, zq5, zq6, zq7, zq8, zq9, zq10, zq11, zq12] <;> omega) | rfl))))
  conv => whnf
  refine ⟨ad, hS, rfl, rfl, ?_⟩
  repeat ((conv => whnf); (first | refine Cnd.yes ?_ | refine Cnd.no ?_ | refine And.intro rfl ?_ | refine And.intro (by omega) ?_ | (refine And.intro ?_ ?_; focus (simp only [IntKind.wrap_i64, IntKind.wrap_u64, IntKind.wrap_u32]; omega)) | (refine And.intro ?_ ?_; focus (simp only [zl1, zl2, zl3, zl4, zl5, zl6, zl7, zl8, zl9] <;> omega)) | (refine Cnd.tt ?_ ?_; focus (first | (apply decide_eq_true; omega) | (simp only [zq1, zq2, zq3, zq4, zq5, zq6, zq7, zq8, zq9, zq10, zq11, zq12] <;> omega) | rfl)) | (refine Cnd.ff ?_ ?_; focus (first | (apply decide_eq_false; omega) | (simp only [zq1, zq2, zq3, zq4, zq5, zq6, zq7, zq8, zq9, zq10, zq11, zq12] <;> omega) | rfl))))
  conv => whnf
  by_cases hbig : 60 < l.length
  · repeat ((conv => whnf); (first | refine Cnd.yes ?_ | refine Cnd.no ?_ | refine And.intro rfl ?_ | refine And.intro (by omega) ?_ | (refine And.intro ?_ ?_; focus (simp only [IntKind.wrap_i64, IntKind.wrap_u64, IntKind.wrap_u32]; omega)) | (refine And.intro ?_ ?_; focus (simp only [zl1, zl2, zl3, zl4, zl5, zl6, zl7, zl8, zl9] <;> omega)) | (refine Cnd.tt ?_ ?_; focus (first | (apply decide_eq_true; omega) | (simp only [zq1, zq2, zq3, zq4, zq5, zq6, zq7, zq8, zq9, zq10, zq11, zq12] <;> omega) | rfl)) | (refine Cnd.ff ?_ ?_; focus (first | (apply decide_eq_false; omega) | (simp only [zq1, zq2, zq3, zq4, zq5, zq6, zq7, zq8, zq9, zq10, zq11, zq12] <;> omega) | rfl))))
    conv => whnf
    exact hK _ _
  · by_cases hbig2 : 60 < od.length
    · repeat ((conv => whnf); (first | refine Cnd.yes ?_ | refine Cnd.no ?_ | refine And.intro rfl ?_ | refine And.intro (by omega) ?_ | (refine And.intro ?_ ?_; focus (simp only [IntKind.wrap_i64, IntKind.wrap_u64, IntKind.wrap_u32]; omega)) | (refine And.intro ?_ ?_; focus (simp only [zl1, zl2, zl3, zl4, zl5, zl6, zl7, zl8, zl9] <;> omega)) | (refine Cnd.tt ?_ ?_; focus (first | (apply decide_eq_true; omega) | (simp only [zq1, zq2, zq3, zq4, zq5, zq6, zq7, zq8, zq9, zq10, zq11, zq12] <;> omega) | rfl)) | (refine Cnd.ff ?_ ?_; focus (first | (apply decide_eq_false; omega) | (simp only [zq1, zq2, zq3, zq4, zq5, zq6, zq7, zq8, zq9, zq10, zq11, zq12] <;> omega) | rfl))))
      conv => whnf
      exact hK _ _
    · repeat ((conv => whnf); (first | refine Cnd.yes ?_ | refine Cnd.no ?_ | refine And.intro rfl ?_ | refine And.intro (by omega) ?_ | (refine And.intro ?_ ?_; focus (simp only [IntKind.wrap_i64, IntKind.wrap_u64, IntKind.wrap_u32]; omega)) | (refine And.intro ?_ ?_; focus (simp only [zl1, zl2, zl3, zl4, zl5, zl6, zl7, zl8, zl9] <;> omega)) | (refine Cnd.tt ?_ ?_; focus (first | (apply decide_eq_true; omega) | (simp only [zq1, zq2, zq3, zq4, zq5, zq6, zq7, zq8, zq9, zq10, zq11, zq12] <;> omega) | rfl)) | (refine Cnd.ff ?_ ?_; focus (first | (apply decide_eq_false; omega) | (simp only [zq1, zq2, zq3, zq4, zq5, zq6, zq7, zq8, zq9, zq10, zq11, zq12] <;> omega) | rfl))))
      conv => whnf
      refine ⟨4, 64, rfl, rfl, by omega, by omega, ?_⟩
      repeat ((conv => whnf); (first | refine Cnd.yes ?_ | refine Cnd.no ?_ | refine And.intro rfl ?_ | refine And.intro (by omega) ?_ | (refine And.intro ?_ ?_; focus (simp only [IntKind.wrap_i64, IntKind.wrap_u64, IntKind.wrap_u32]; omega)) | (refine And.intro ?_ ?_; focus (simp only [zl1, zl2, zl3, zl4, zl5, zl6, zl7, zl8, zl9] <;> omega)) | (refine Cnd.tt ?_ ?_; focus (first | (apply decide_eq_true; omega) | (simp only [zq1, zq2, zq3, zq4, zq5, zq6, zq7, zq8, zq9, zq10, zq11, zq12] <;> omega) | rfl)) | (refine Cnd.ff ?_ ?_; focus (first | (apply decide_eq_false; omega) | (simp only [zq1, zq2, zq3, zq4, zq5, zq6, zq7, zq8, zq9, zq10, zq11, zq12] <;> omega) | rfl))))
      conv => whnf
      refine ⟨InvS 130 (fun s : Nat × List Msg => l.length - s.1) (fun s : Nat × List Msg => s.1 ≤ l.length ∧ s.2.length ≤ s.1) (fun s : Nat × List Msg => [(0, .slc 0 11 0 l.length), (1, .slc 1 1 0 od.length), (6, .ptr 2 0 0 0), (8, .slc 4 11 0 s.2.length), (9, .v (.int .i64 s.1))]) (fun s : Nat × List Msg => k1Hp e e2 l od s.2) M, ⟨(fun s : Nat × List Msg => l.length - s.1) (0, []), [0, 1, 2, 3, 99], tmk 130 0 ((fun s : Nat × List Msg => [(0, .slc 0 11 0 l.length), (1, .slc 1 1 0 od.length), (6, .ptr 2 0 0 0), (8, .slc 4 11 0 s.2.length), (9, .v (.int .i64 s.1))]) (0, [])), (fun s : Nat × List Msg => k1Hp e e2 l od s.2) (0, []), ?_⟩, ?_⟩
      · repeat ((conv => whnf); (first | refine Cnd.yes ?_ | refine Cnd.no ?_ | refine And.intro rfl ?_ | refine And.intro (by omega) ?_ | (refine And.intro ?_ ?_; focus (simp only [IntKind.wrap_i64, IntKind.wrap_u64, IntKind.wrap_u32]; omega)) | (refine And.intro ?_ ?_; focus (simp only [zl1, zl2, zl3, zl4, zl5, zl6, zl7, zl8, zl9] <;> omega))))
        conv => whnf
        exact ⟨(0, []), ⟨Nat.zero_le _, Nat.le_refl _⟩, rfl, rfl, (tmkK_eq _ _ _ _).mpr rfl, rfl⟩
      · rintro cnt tm hp M1 ⟨⟨i,S⟩, hC_, rfl, rfl, htm, hhp_⟩
        replace hC_ : i ≤ l.length ∧ S.length ≤ i := hC_
        obtain ⟨hi, hSl⟩ := hC_
        replace htm : tmkK 130 0 [(0, .slc 0 11 0 l.length), (1, .slc 1 1 0 od.length), (6, .ptr 2 0 0 0), (8, .slc 4 11 0 S.length), (9, .v (.int .i64 i))] (fun l => tm = l) := htm
        conv at htm => whnf
        subst htm
        replace hhp_ : hp = k1Hp e e2 l od S := hhp_
        subst hhp_
        repeat ((conv => whnf); (first | refine Cnd.yes ?_ | refine Cnd.no ?_ | refine And.intro rfl ?_ | refine And.intro (by omega) ?_ | (refine And.intro ?_ ?_; focus (simp only [IntKind.wrap_i64, IntKind.wrap_u64, IntKind.wrap_u32]; omega)) | (refine And.intro ?_ ?_; focus (simp only [zl1, zl2, zl3, zl4, zl5, zl6, zl7, zl8, zl9] <;> omega)) | (refine Cnd.tt ?_ ?_; focus (first | (apply decide_eq_true; omega) | (simp only [zq1, zq2, zq3, zq4, zq5, zq6, zq7, zq8, zq9, zq10, zq11, zq12] <;> omega) | rfl)) | (refine Cnd.ff ?_ ?_; focus (first | (apply decide_eq_false; omega) | (simp only [zq1, zq2, zq3, zq4, zq5, zq6, zq7, zq8, zq9, zq10, zq11, zq12] <;> omega) | rfl))))
        conv => whnf
        refine Cnd.mk (fun hlt => ?_) fun hge => ?_
        · have hin : i < l.length := by have := of_decide_eq_true hlt; omega
          have hc := fun k => cell_map mrow l default hin k
          generalize l.getD i default = x at *
          have hfl := flA_len S fun _ => false
          have hfp := flA_push S x
          obtain ⟨kind, line, xf, xt, d0, d1, d2, d3, b0, b1, b2⟩ := x
          have e0 : toI (cellAt (l.map mrow) (0 + (i : Int).toNat) 0) = kind := by rw [hc]; rfl
          have e1 : toI (cellAt (l.map mrow) (0 + (i : Int).toNat) (0 + 1)) = line := by rw [hc]; rfl
          have e2' : toI (cellAt (l.map mrow) (0 + (i : Int).toNat) (0 + 1 + 1)) = xf := by rw [hc]; rfl
          have e3 : toI (cellAt (l.map mrow) (0 + (i : Int).toNat) (0 + 1 + 1 + 1)) = xt := by rw [hc]; rfl
          have e4 : toI (cellAt (l.map mrow) (0 + (i : Int).toNat) (0 + 1 + 1 + 1 + 1)) = d0 := by rw [hc]; rfl
          have e5 : toI (cellAt (l.map mrow) (0 + (i : Int).toNat) (0 + 1 + 1 + 1 + 1 + 1)) = d1 := by rw [hc]; rfl
          have e6 : toI (cellAt (l.map mrow) (0 + (i : Int).toNat) (0 + 1 + 1 + 1 + 1 + 1 + 1)) = d2 := by rw [hc]; rfl
          have e7 : toI (cellAt (l.map mrow) (0 + (i : Int).toNat) (0 + 1 + 1 + 1 + 1 + 1 + 1 + 1)) = d3 := by rw [hc]; rfl
          have e8 : toB (cellAt (l.map mrow) (0 + (i : Int).toNat) (0 + 1 + 1 + 1 + 1 + 1 + 1 + 1 + 1)) = b0 := by rw [hc]; rfl
          have e9 : toB (cellAt (l.map mrow) (0 + (i : Int).toNat) (0 + 1 + 1 + 1 + 1 + 1 + 1 + 1 + 1 + 1)) = b1 := by rw [hc]; rfl
          have e10 : toB (cellAt (l.map mrow) (0 + (i : Int).toNat) (0 + 1 + 1 + 1 + 1 + 1 + 1 + 1 + 1 + 1 + 1)) = b2 := by rw [hc]; rfl
          repeat ((conv => whnf); (first | refine Cnd.yes ?_ | refine Cnd.no ?_ | refine And.intro rfl ?_ | refine And.intro (by omega) ?_ | (refine And.intro ?_ ?_; focus (simp only [IntKind.wrap_i64, IntKind.wrap_u64, IntKind.wrap_u32]; omega)) | (refine And.intro ?_ ?_; focus (simp only [zl1, zl2, zl3, zl4, zl5, zl6, zl7, zl8, zl9] <;> omega)) | (refine Cnd.tt ?_ ?_; focus (first | (apply decide_eq_true; omega) | (simp only [zq1, zq2, zq3, zq4, zq5, zq6, zq7, zq8, zq9, zq10, zq11, zq12] <;> omega) | rfl)) | (refine Cnd.ff ?_ ?_; focus (first | (apply decide_eq_false; omega) | (simp only [zq1, zq2, zq3, zq4, zq5, zq6, zq7, zq8, zq9, zq10, zq11, zq12] <;> omega) | rfl))))
          conv => whnf
          rw [e0, e1, e2', e3, e4, e5, e6, e7, e8, e9, e10]
          refine ⟨ad, 4, 64, S.length, flA S (fun _ => false), true, 33, [⟨kind, line, xf, xt, d0, d1, d2, d3, b0, b1, b2⟩], hS, rfl, rfl, by omega, by simp, by omega, ?_⟩
          cases hb : badM 4 64 (flA S fun _ => false) ⟨kind, line, xf, xt, d0, d1, d2, d3, b0, b1, b2⟩ with
          | some p =>
            rw [show sendL 4 64 S.length (flA S fun _ => false) 0 [⟨kind, line, xf, xt, d0, d1, d2, d3, b0, b1, b2⟩] = .inl (0, p) by simp only [sendL, hb]]
            repeat ((conv => whnf); (first | refine Cnd.yes ?_ | refine Cnd.no ?_ | refine And.intro rfl ?_ | refine And.intro (by omega) ?_ | (refine And.intro ?_ ?_; focus (simp only [IntKind.wrap_i64, IntKind.wrap_u64, IntKind.wrap_u32]; omega)) | (refine And.intro ?_ ?_; focus (simp only [zl1, zl2, zl3, zl4, zl5, zl6, zl7, zl8, zl9] <;> omega)) | (refine Cnd.tt ?_ ?_; focus (first | (apply decide_eq_true; omega) | (simp only [zq1, zq2, zq3, zq4, zq5, zq6, zq7, zq8, zq9, zq10, zq11, zq12] <;> omega) | rfl)) | (refine Cnd.ff ?_ ?_; focus (first | (apply decide_eq_false; omega) | (simp only [zq1, zq2, zq3, zq4, zq5, zq6, zq7, zq8, zq9, zq10, zq11, zq12] <;> omega) | rfl))))
            conv => whnf
            (refine ⟨(fun s : Nat × List Msg => l.length - s.1) ((i + 1, S)), [0, 1, 2, 3, 4], tmk 130 0 ((fun s : Nat × List Msg => [(0, .slc 0 11 0 l.length), (1, .slc 1 1 0 od.length), (6, .ptr 2 0 0 0), (8, .slc 4 11 0 s.2.length), (9, .v (.int .i64 s.1))]) ((i + 1, S))), (fun s : Nat × List Msg => k1Hp e e2 l od s.2) ((i + 1, S)), ?_, ?_⟩; focus (first | (simp only []; omega) | omega))
            repeat ((conv => whnf); (first | refine Cnd.yes ?_ | refine Cnd.no ?_ | refine And.intro rfl ?_ | refine And.intro (by omega) ?_ | (refine And.intro ?_ ?_; focus (simp only [IntKind.wrap_i64, IntKind.wrap_u64, IntKind.wrap_u32]; omega)) | (refine And.intro ?_ ?_; focus (simp only [zl1, zl2, zl3, zl4, zl5, zl6, zl7, zl8, zl9] <;> omega))))
            conv => whnf
            exact ⟨(i + 1, S), ⟨hin, Nat.le_succ_of_le hSl⟩, rfl, rfl, (tmkK_eq _ _ _ _).mpr rfl, rfl⟩
          | none =>
            rw [show sendL 4 64 S.length (flA S fun _ => false) 0 [⟨kind, line, xf, xt, d0, d1, d2, d3, b0, b1, b2⟩] = .inr (flA S (fun _ => false) ++ [((S.length : Int), ⟨kind, line, xf, xt, d0, d1, d2, d3, b0, b1, b2⟩)]) by simp only [sendL, hb]; simp]
            repeat ((conv => whnf); (first | refine Cnd.yes ?_ | refine Cnd.no ?_ | refine And.intro rfl ?_ | refine And.intro (by omega) ?_ | (refine And.intro ?_ ?_; focus (simp only [IntKind.wrap_i64, IntKind.wrap_u64, IntKind.wrap_u32]; omega)) | (refine And.intro ?_ ?_; focus (simp only [zl1, zl2, zl3, zl4, zl5, zl6, zl7, zl8, zl9] <;> omega)) | (refine Cnd.tt ?_ ?_; focus (first | (apply decide_eq_true; omega) | (simp only [zq1, zq2, zq3, zq4, zq5, zq6, zq7, zq8, zq9, zq10, zq11, zq12] <;> omega) | rfl)) | (refine Cnd.ff ?_ ?_; focus (first | (apply decide_eq_false; omega) | (simp only [zq1, zq2, zq3, zq4, zq5, zq6, zq7, zq8, zq9, zq10, zq11, zq12] <;> omega) | rfl))))
            conv => whnf
            have hfr : (flA S (fun _ => false) ++ [((S.length : Int), (⟨kind, line, xf, xt, d0, d1, d2, d3, b0, b1, b2⟩ : Msg))]).map frow = (flA (S ++ [⟨kind, line, xf, xt, d0, d1, d2, d3, b0, b1, b2⟩]) fun _ => false).map frow := by rw [hfp]
            have hfn : (flA (S ++ [⟨kind, line, xf, xt, d0, d1, d2, d3, b0, b1, b2⟩]) fun _ => false).length = (flA S fun _ => false).length + 1 := by rw [hfp]; simp
            (refine ⟨(fun s : Nat × List Msg => l.length - s.1) ((i + 1, S ++ [⟨kind, line, xf, xt, d0, d1, d2, d3, b0, b1, b2⟩])), [0, 1, 2, 6, 8], tmk 130 0 ((fun s : Nat × List Msg => [(0, .slc 0 11 0 l.length), (1, .slc 1 1 0 od.length), (6, .ptr 2 0 0 0), (8, .slc 4 11 0 s.2.length), (9, .v (.int .i64 s.1))]) ((i + 1, S ++ [⟨kind, line, xf, xt, d0, d1, d2, d3, b0, b1, b2⟩]))), (fun s : Nat × List Msg => k1Hp e e2 l od s.2) ((i + 1, S ++ [⟨kind, line, xf, xt, d0, d1, d2, d3, b0, b1, b2⟩])), ?_, ?_⟩; focus (first | (simp only []; omega) | omega))
            repeat ((conv => whnf); (first | refine Cnd.yes ?_ | refine Cnd.no ?_ | refine And.intro rfl ?_ | refine And.intro (by omega) ?_ | (refine And.intro ?_ ?_; focus (simp only [IntKind.wrap_i64, IntKind.wrap_u64, IntKind.wrap_u32]; omega)) | (refine And.intro ?_ ?_; focus (simp only [zl1, zl2, zl3, zl4, zl5, zl6, zl7, zl8, zl9] <;> omega))))
            conv => whnf
            refine ⟨by rw [e0, e1, e2', e3, e4, e5, e6, e7, e8, e9, e10, List.drop_zero, List.take_of_length_le (by simp), List.map_append]; rfl, ?_⟩
            repeat ((conv => whnf); (first | refine Cnd.yes ?_ | refine Cnd.no ?_ | refine And.intro rfl ?_ | refine And.intro (by omega) ?_ | (refine And.intro ?_ ?_; focus (simp only [IntKind.wrap_i64, IntKind.wrap_u64, IntKind.wrap_u32]; omega)) | (refine And.intro ?_ ?_; focus (simp only [zl1, zl2, zl3, zl4, zl5, zl6, zl7, zl8, zl9] <;> omega))))
            conv => whnf
            exact ⟨(i + 1, S ++ [⟨kind, line, xf, xt, d0, d1, d2, d3, b0, b1, b2⟩]), ⟨hin, by rw [List.length_append]; show S.length + 1 ≤ i + 1; omega⟩, rfl, rfl, (tmkK_eq _ _ _ _).mpr rfl, rfl⟩
        · repeat ((conv => whnf); (first | refine Cnd.yes ?_ | refine Cnd.no ?_ | refine And.intro rfl ?_ | refine And.intro (by omega) ?_ | (refine And.intro ?_ ?_; focus (simp only [IntKind.wrap_i64, IntKind.wrap_u64, IntKind.wrap_u32]; omega)) | (refine And.intro ?_ ?_; focus (simp only [zl1, zl2, zl3, zl4, zl5, zl6, zl7, zl8, zl9] <;> omega)) | (refine Cnd.tt ?_ ?_; focus (first | (apply decide_eq_true; omega) | (simp only [zq1, zq2, zq3, zq4, zq5, zq6, zq7, zq8, zq9, zq10, zq11, zq12] <;> omega) | rfl)) | (refine Cnd.ff ?_ ?_; focus (first | (apply decide_eq_false; omega) | (simp only [zq1, zq2, zq3, zq4, zq5, zq6, zq7, zq8, zq9, zq10, zq11, zq12] <;> omega) | rfl))))
          conv => whnf
          refine ⟨InvG 130 (fun s : Nat × (Nat → Bool) => od.length + S.length - s.1) (fun (s : Nat × (Nat → Bool)) (M2 : HL) => FLe M1 M2 ∧ ∀ j, od.length ≤ j → j < s.1 → s.2 (j % S.length) = true) (fun s : Nat × (Nat → Bool) => [(1, .slc 1 1 0 od.length), (6, .ptr 2 0 0 0), (8, .slc 4 11 0 S.length), (10, .slc 5 1 0 S.length), (11, .v (.int .i64 (flA S s.2).length)), (12, .v (.int .i64 s.1))]) (fun s : Nat × (Nat → Bool) => k2Hp e e2 l od S s.2), ⟨(fun s : Nat × (Nat → Bool) => od.length + S.length - s.1) (0, fun _ => false), [0, 1, 2, 3, 4, 5], tmk 130 0 ((fun s : Nat × (Nat → Bool) => [(1, .slc 1 1 0 od.length), (6, .ptr 2 0 0 0), (8, .slc 4 11 0 S.length), (10, .slc 5 1 0 S.length), (11, .v (.int .i64 (flA S s.2).length)), (12, .v (.int .i64 s.1))]) (0, fun _ => false)), (fun s : Nat × (Nat → Bool) => k2Hp e e2 l od S s.2) (0, fun _ => false), ?_⟩, ?_⟩
          · repeat ((conv => whnf); (first | refine Cnd.yes ?_ | refine Cnd.no ?_ | refine And.intro rfl ?_ | refine And.intro (by omega) ?_ | (refine And.intro ?_ ?_; focus (simp only [IntKind.wrap_i64, IntKind.wrap_u64, IntKind.wrap_u32]; omega)) | (refine And.intro ?_ ?_; focus (simp only [zl1, zl2, zl3, zl4, zl5, zl6, zl7, zl8, zl9] <;> omega))))
            conv => whnf
            refine ⟨by show (S.length : Int) = ((flA S fun _ => false).length : Nat); rw [flA_none], ?_⟩
            repeat ((conv => whnf); (first | refine Cnd.yes ?_ | refine Cnd.no ?_ | refine And.intro rfl ?_ | refine And.intro (by omega) ?_ | (refine And.intro ?_ ?_; focus (simp only [IntKind.wrap_i64, IntKind.wrap_u64, IntKind.wrap_u32]; omega)) | (refine And.intro ?_ ?_; focus (simp only [zl1, zl2, zl3, zl4, zl5, zl6, zl7, zl8, zl9] <;> omega))))
            conv => whnf
            refine ⟨boolr_zero _, ?_⟩
            repeat ((conv => whnf); (first | refine Cnd.yes ?_ | refine Cnd.no ?_ | refine And.intro rfl ?_ | refine And.intro (by omega) ?_ | (refine And.intro ?_ ?_; focus (simp only [IntKind.wrap_i64, IntKind.wrap_u64, IntKind.wrap_u32]; omega)) | (refine And.intro ?_ ?_; focus (simp only [zl1, zl2, zl3, zl4, zl5, zl6, zl7, zl8, zl9] <;> omega))))
            conv => whnf
            exact ⟨(0, fun _ => false), ⟨FLe.refl _, fun j h1 h2 => by omega⟩, rfl, (tmkK_eq _ _ _ _).mpr rfl, rfl⟩
          · rintro cnt tm hp M2 ⟨⟨i,g⟩, hC_, rfl, htm, hhp_⟩
            replace hC_ : FLe M1 M2 ∧ ∀ j, od.length ≤ j → j < i → g (j % S.length) = true := hC_
            obtain ⟨hM2, hg⟩ := hC_
            replace htm : tmkK 130 0 [(1, .slc 1 1 0 od.length), (6, .ptr 2 0 0 0), (8, .slc 4 11 0 S.length), (10, .slc 5 1 0 S.length), (11, .v (.int .i64 (flA S g).length)), (12, .v (.int .i64 i))] (fun l => tm = l) := htm
            conv at htm => whnf
            subst htm
            replace hhp_ : hp = k2Hp e e2 l od S g := hhp_
            subst hhp_
            repeat ((conv => whnf); (first | refine Cnd.yes ?_ | refine Cnd.no ?_ | refine And.intro rfl ?_ | refine And.intro (by omega) ?_ | (refine And.intro ?_ ?_; focus (simp only [IntKind.wrap_i64, IntKind.wrap_u64, IntKind.wrap_u32]; omega)) | (refine And.intro ?_ ?_; focus (simp only [zl1, zl2, zl3, zl4, zl5, zl6, zl7, zl8, zl9] <;> omega)) | (refine Cnd.tt ?_ ?_; focus (first | (apply decide_eq_true; omega) | (simp only [zq1, zq2, zq3, zq4, zq5, zq6, zq7, zq8, zq9, zq10, zq11, zq12] <;> omega) | rfl)) | (refine Cnd.ff ?_ ?_; focus (first | (apply decide_eq_false; omega) | (simp only [zq1, zq2, zq3, zq4, zq5, zq6, zq7, zq8, zq9, zq10, zq11, zq12] <;> omega) | rfl))))
            conv => whnf
            refine Cnd.mk (fun hlt => ?_) fun hge => ?_
            · have hpos : 0 < (flA S g).length := by have := of_decide_eq_true hlt; omega
              have hfl := flA_len S g
              have hn : 0 < S.length := by omega
              have hir : i < od.length + S.length := by
                by_cases h : i < od.length + S.length
                · exact h
                · have := flA_done (S := S) (g := g) fun r hr => round_all hn (by omega) hg r hr
                  omega
              have e1 : (i : Int).tmod (S.length : Int) = ((i % S.length : Nat) : Int) := by rw [Int.tmod_eq_emod_of_nonneg (by omega)]; omega
              have hmod := Nat.mod_lt i hn
              repeat ((conv => whnf); (first | refine Cnd.yes ?_ | refine Cnd.no ?_ | refine And.intro rfl ?_ | refine And.intro (by omega) ?_ | (refine And.intro ?_ ?_; focus (simp only [IntKind.wrap_i64, IntKind.wrap_u64, IntKind.wrap_u32]; omega)) | (refine And.intro ?_ ?_; focus (simp only [zl1, zl2, zl3, zl4, zl5, zl6, zl7, zl8, zl9] <;> omega)) | (refine Cnd.tt ?_ ?_; focus (first | (apply decide_eq_true; omega) | (simp only [zq1, zq2, zq3, zq4, zq5, zq6, zq7, zq8, zq9, zq10, zq11, zq12] <;> omega) | rfl)) | (refine Cnd.ff ?_ ?_; focus (first | (apply decide_eq_false; omega) | (simp only [zq1, zq2, zq3, zq4, zq5, zq6, zq7, zq8, zq9, zq10, zq11, zq12] <;> omega) | rfl))))
              conv => whnf
              rw [e1]
              by_cases hio : i < od.length
              · repeat ((conv => whnf); (first | refine Cnd.yes ?_ | refine Cnd.no ?_ | refine And.intro rfl ?_ | refine And.intro (by omega) ?_ | (refine And.intro ?_ ?_; focus (simp only [IntKind.wrap_i64, IntKind.wrap_u64, IntKind.wrap_u32]; omega)) | (refine And.intro ?_ ?_; focus (simp only [zl1, zl2, zl3, zl4, zl5, zl6, zl7, zl8, zl9] <;> omega)) | (refine Cnd.tt ?_ ?_; focus (first | (apply decide_eq_true; omega) | (simp only [zq1, zq2, zq3, zq4, zq5, zq6, zq7, zq8, zq9, zq10, zq11, zq12] <;> omega) | rfl)) | (refine Cnd.ff ?_ ?_; focus (first | (apply decide_eq_false; omega) | (simp only [zq1, zq2, zq3, zq4, zq5, zq6, zq7, zq8, zq9, zq10, zq11, zq12] <;> omega) | rfl))))
                conv => whnf
                rw [toI_i hio]
                obtain ⟨k, hk, hki⟩ : ∃ k : Nat, k < S.length ∧ od.getD i 0 % (S.length : Int) = k := ⟨(od.getD i 0 % (S.length : Int)).toNat, by have h0 := Int.emod_nonneg (od.getD i 0) (show (S.length : Int) ≠ 0 by omega); have h1 := Int.emod_lt_of_pos (od.getD i 0) (show (0 : Int) < S.length by omega); omega, by have h0 := Int.emod_nonneg (od.getD i 0) (show (S.length : Int) ≠ 0 by omega); omega⟩
                refine ⟨od.getD i 0, S.length, rfl, by omega, by omega, ?_⟩
                rw [hki]
                have hvis : od.length ≤ i → k = i % S.length := fun h => by omega
                cases hgk : g k with
                | true =>
                  have hgb : toB (cellAt (tblOf (boolr g) S.length) (0 + (k : Int).toNat) 0) = true := by rw [boolr_get g hk, hgk]
                  have hg' : ∀ j, od.length ≤ j → j < i + 1 → g (j % S.length) = true := fun j hj1 hj2 => by
                    rcases Nat.lt_succ_iff_lt_or_eq.1 hj2 with h4 | rfl
                    · exact hg j hj1 h4
                    · rw [← hvis hj1]; exact hgk
                  repeat ((conv => whnf); (first | refine Cnd.yes ?_ | refine Cnd.no ?_ | refine And.intro rfl ?_ | refine And.intro (by omega) ?_ | (refine And.intro ?_ ?_; focus (simp only [IntKind.wrap_i64, IntKind.wrap_u64, IntKind.wrap_u32]; omega)) | (refine And.intro ?_ ?_; focus (simp only [zl1, zl2, zl3, zl4, zl5, zl6, zl7, zl8, zl9] <;> omega)) | (refine Cnd.tt ?_ ?_; focus (first | (apply decide_eq_true; omega) | (simp only [zq1, zq2, zq3, zq4, zq5, zq6, zq7, zq8, zq9, zq10, zq11, zq12] <;> omega) | rfl)) | (refine Cnd.ff ?_ ?_; focus (first | (apply decide_eq_false; omega) | (simp only [zq1, zq2, zq3, zq4, zq5, zq6, zq7, zq8, zq9, zq10, zq11, zq12] <;> omega) | rfl))))
                  conv => whnf
                  refine .inl ⟨4, 64, S.length, k, flA S g, rfl, rfl, by omega, flA_no hgk, ?_⟩
                  repeat ((conv => whnf); (first | refine Cnd.yes ?_ | refine Cnd.no ?_ | refine And.intro rfl ?_ | refine And.intro (by omega) ?_ | (refine And.intro ?_ ?_; focus (simp only [IntKind.wrap_i64, IntKind.wrap_u64, IntKind.wrap_u32]; omega)) | (refine And.intro ?_ ?_; focus (simp only [zl1, zl2, zl3, zl4, zl5, zl6, zl7, zl8, zl9] <;> omega)) | (refine Cnd.tt ?_ ?_; focus (first | (apply decide_eq_true; omega) | (simp only [zq1, zq2, zq3, zq4, zq5, zq6, zq7, zq8, zq9, zq10, zq11, zq12] <;> omega) | rfl)) | (refine Cnd.ff ?_ ?_; focus (first | (apply decide_eq_false; omega) | (simp only [zq1, zq2, zq3, zq4, zq5, zq6, zq7, zq8, zq9, zq10, zq11, zq12] <;> omega) | rfl))))
                  conv => whnf
                  refine Cnd.ff (by rw [hgb]; rfl) ?_
                  repeat ((conv => whnf); (first | refine Cnd.yes ?_ | refine Cnd.no ?_ | refine And.intro rfl ?_ | refine And.intro (by omega) ?_ | (refine And.intro ?_ ?_; focus (simp only [IntKind.wrap_i64, IntKind.wrap_u64, IntKind.wrap_u32]; omega)) | (refine And.intro ?_ ?_; focus (simp only [zl1, zl2, zl3, zl4, zl5, zl6, zl7, zl8, zl9] <;> omega)) | (refine Cnd.tt ?_ ?_; focus (first | (apply decide_eq_true; omega) | (simp only [zq1, zq2, zq3, zq4, zq5, zq6, zq7, zq8, zq9, zq10, zq11, zq12] <;> omega) | rfl)) | (refine Cnd.ff ?_ ?_; focus (first | (apply decide_eq_false; omega) | (simp only [zq1, zq2, zq3, zq4, zq5, zq6, zq7, zq8, zq9, zq10, zq11, zq12] <;> omega) | rfl))))
                  conv => whnf
                  (refine ⟨(fun s : Nat × (Nat → Bool) => od.length + S.length - s.1) ((i + 1, g)), [0, 1, 2, 3, 4, 5], tmk 130 0 ((fun s : Nat × (Nat → Bool) => [(1, .slc 1 1 0 od.length), (6, .ptr 2 0 0 0), (8, .slc 4 11 0 S.length), (10, .slc 5 1 0 S.length), (11, .v (.int .i64 (flA S s.2).length)), (12, .v (.int .i64 s.1))]) ((i + 1, g))), (fun s : Nat × (Nat → Bool) => k2Hp e e2 l od S s.2) ((i + 1, g)), ?_, ?_⟩; focus (first | (simp only []; omega) | omega))
                  repeat ((conv => whnf); (first | refine Cnd.yes ?_ | refine Cnd.no ?_ | refine And.intro rfl ?_ | refine And.intro (by omega) ?_ | (refine And.intro ?_ ?_; focus (simp only [IntKind.wrap_i64, IntKind.wrap_u64, IntKind.wrap_u32]; omega)) | (refine And.intro ?_ ?_; focus (simp only [zl1, zl2, zl3, zl4, zl5, zl6, zl7, zl8, zl9] <;> omega))))
                  conv => whnf
                  exact ⟨(i + 1, g), ⟨hM2, hg'⟩, rfl, (tmkK_eq _ _ _ _).mpr rfl, rfl⟩
                | false =>
                  have hgb : toB (cellAt (tblOf (boolr g) S.length) (0 + (k : Int).toNat) 0) = false := by rw [boolr_get g hk, hgk]
                  obtain ⟨P, Q, h1, h2, h3⟩ := flA_take hk hgk
                  have hsl := flA_setlen hk hgk
                  have hl1 : (P ++ ((k : Int), S.getD k zmsg) :: Q).length = (flA S g).length := by rw [h1]
                  have hl2 : (P ++ Q).length = (flA S (setG g k)).length := by rw [h2]
                  have hlw : IntKind.i64.wrap (((P ++ ((k : Int), S.getD k zmsg) :: Q).length : Int) - 1) = ((flA S (setG g k)).length : Int) := w_left hl1 hsl (by omega)
                  have hs : ∀ q, cellAt (S.map mrow) (0 + (k : Int).toNat) q = (mrow (S.getD k zmsg)).getD q undef := fun q => cell_map mrow S zmsg hk q
                  have hg' : ∀ j, od.length ≤ j → j < i + 1 → setG g k (j % S.length) = true := fun j hj1 hj2 => by
                    rcases Nat.lt_succ_iff_lt_or_eq.1 hj2 with h4 | rfl
                    · exact setG_keep (hg j hj1 h4)
                    · rw [← hvis hj1]; exact if_pos rfl
                  repeat ((conv => whnf); (first | refine Cnd.yes ?_ | refine Cnd.no ?_ | refine And.intro rfl ?_ | refine And.intro (by omega) ?_ | (refine And.intro ?_ ?_; focus (simp only [IntKind.wrap_i64, IntKind.wrap_u64, IntKind.wrap_u32]; omega)) | (refine And.intro ?_ ?_; focus (simp only [zl1, zl2, zl3, zl4, zl5, zl6, zl7, zl8, zl9] <;> omega)) | (refine Cnd.tt ?_ ?_; focus (first | (apply decide_eq_true; omega) | (simp only [zq1, zq2, zq3, zq4, zq5, zq6, zq7, zq8, zq9, zq10, zq11, zq12] <;> omega) | rfl)) | (refine Cnd.ff ?_ ?_; focus (first | (apply decide_eq_false; omega) | (simp only [zq1, zq2, zq3, zq4, zq5, zq6, zq7, zq8, zq9, zq10, zq11, zq12] <;> omega) | rfl))))
                  conv => whnf
                  rw [h1]
                  refine .inr ⟨4, 64, S.length, k, P, S.getD k zmsg, Q, rfl, rfl, by rw [← h1]; omega, h3, fun M3 hM3 => ?_⟩
                  repeat ((conv => whnf); (first | refine Cnd.yes ?_ | refine Cnd.no ?_ | refine And.intro rfl ?_ | refine And.intro (by omega) ?_ | (refine And.intro ?_ ?_; focus (simp only [IntKind.wrap_i64, IntKind.wrap_u64, IntKind.wrap_u32]; omega)) | (refine And.intro ?_ ?_; focus (simp only [zl1, zl2, zl3, zl4, zl5, zl6, zl7, zl8, zl9] <;> omega)) | (refine Cnd.tt ?_ ?_; focus (first | (apply decide_eq_true; omega) | (simp only [zq1, zq2, zq3, zq4, zq5, zq6, zq7, zq8, zq9, zq10, zq11, zq12] <;> omega) | rfl)) | (refine Cnd.ff ?_ ?_; focus (first | (apply decide_eq_false; omega) | (simp only [zq1, zq2, zq3, zq4, zq5, zq6, zq7, zq8, zq9, zq10, zq11, zq12] <;> omega) | rfl))))
                  conv => whnf
                  refine Cnd.ff (by rw [hgb]; rfl) ?_
                  repeat ((conv => whnf); (first | refine Cnd.yes ?_ | refine Cnd.no ?_ | refine And.intro rfl ?_ | refine And.intro (by omega) ?_ | (refine And.intro ?_ ?_; focus (simp only [IntKind.wrap_i64, IntKind.wrap_u64, IntKind.wrap_u32]; omega)) | (refine And.intro ?_ ?_; focus (simp only [zl1, zl2, zl3, zl4, zl5, zl6, zl7, zl8, zl9] <;> omega)) | (refine Cnd.tt ?_ ?_; focus (first | (apply decide_eq_true; omega) | (simp only [zq1, zq2, zq3, zq4, zq5, zq6, zq7, zq8, zq9, zq10, zq11, zq12] <;> omega) | rfl)) | (refine Cnd.ff ?_ ?_; focus (first | (apply decide_eq_false; omega) | (simp only [zq1, zq2, zq3, zq4, zq5, zq6, zq7, zq8, zq9, zq10, zq11, zq12] <;> omega) | rfl))))
                  conv => whnf
                  intro Mr hMr
                  repeat ((conv => whnf); (first | refine Cnd.yes ?_ | refine Cnd.no ?_ | refine And.intro rfl ?_ | refine And.intro (by omega) ?_ | (refine And.intro ?_ ?_; focus (simp only [IntKind.wrap_i64, IntKind.wrap_u64, IntKind.wrap_u32]; omega)) | (refine And.intro ?_ ?_; focus (simp only [zl1, zl2, zl3, zl4, zl5, zl6, zl7, zl8, zl9] <;> omega)) | (refine Cnd.tt ?_ ?_; focus (first | (apply decide_eq_true; omega) | (simp only [zq1, zq2, zq3, zq4, zq5, zq6, zq7, zq8, zq9, zq10, zq11, zq12] <;> omega) | rfl)) | (refine Cnd.ff ?_ ?_; focus (first | (apply decide_eq_false; omega) | (simp only [zq1, zq2, zq3, zq4, zq5, zq6, zq7, zq8, zq9, zq10, zq11, zq12] <;> omega) | rfl))))
                  conv => whnf
                  refine ⟨S.getD k zmsg, by simp only [hs]; rfl, rfl, ?_⟩
                  repeat ((conv => whnf); (first | refine Cnd.yes ?_ | refine Cnd.no ?_ | refine And.intro rfl ?_ | refine And.intro (by omega) ?_ | (refine And.intro ?_ ?_; focus (simp only [IntKind.wrap_i64, IntKind.wrap_u64, IntKind.wrap_u32]; omega)) | (refine And.intro ?_ ?_; focus (simp only [zl1, zl2, zl3, zl4, zl5, zl6, zl7, zl8, zl9] <;> omega)) | (refine Cnd.tt ?_ ?_; focus (first | (apply decide_eq_true; omega) | (simp only [zq1, zq2, zq3, zq4, zq5, zq6, zq7, zq8, zq9, zq10, zq11, zq12] <;> omega) | rfl)) | (refine Cnd.ff ?_ ?_; focus (first | (apply decide_eq_false; omega) | (simp only [zq1, zq2, zq3, zq4, zq5, zq6, zq7, zq8, zq9, zq10, zq11, zq12] <;> omega) | rfl))))
                  conv => whnf
                  rw [hlw]
                  (refine ⟨(fun s : Nat × (Nat → Bool) => od.length + S.length - s.1) ((i + 1, setG g k)), [0, 1, 2, 6, 4, 5], tmk 130 0 ((fun s : Nat × (Nat → Bool) => [(1, .slc 1 1 0 od.length), (6, .ptr 2 0 0 0), (8, .slc 4 11 0 S.length), (10, .slc 5 1 0 S.length), (11, .v (.int .i64 (flA S s.2).length)), (12, .v (.int .i64 s.1))]) ((i + 1, setG g k))), (fun s : Nat × (Nat → Bool) => k2Hp e e2 l od S s.2) ((i + 1, setG g k)), ?_, ?_⟩; focus (first | (simp only []; omega) | omega))
                  repeat ((conv => whnf); (first | refine Cnd.yes ?_ | refine Cnd.no ?_ | refine And.intro rfl ?_ | refine And.intro (by omega) ?_ | (refine And.intro ?_ ?_; focus (simp only [IntKind.wrap_i64, IntKind.wrap_u64, IntKind.wrap_u32]; omega)) | (refine And.intro ?_ ?_; focus (simp only [zl1, zl2, zl3, zl4, zl5, zl6, zl7, zl8, zl9] <;> omega))))
                  conv => whnf
                  refine ⟨by show _ = (flA S (setG g k)).map frow; rw [h2], ?_⟩
                  repeat ((conv => whnf); (first | refine Cnd.yes ?_ | refine Cnd.no ?_ | refine And.intro rfl ?_ | refine And.intro (by omega) ?_ | (refine And.intro ?_ ?_; focus (simp only [IntKind.wrap_i64, IntKind.wrap_u64, IntKind.wrap_u32]; omega)) | (refine And.intro ?_ ?_; focus (simp only [zl1, zl2, zl3, zl4, zl5, zl6, zl7, zl8, zl9] <;> omega))))
                  conv => whnf
                  refine ⟨by rw [boolr_set g hk], ?_⟩
                  repeat ((conv => whnf); (first | refine Cnd.yes ?_ | refine Cnd.no ?_ | refine And.intro rfl ?_ | refine And.intro (by omega) ?_ | (refine And.intro ?_ ?_; focus (simp only [IntKind.wrap_i64, IntKind.wrap_u64, IntKind.wrap_u32]; omega)) | (refine And.intro ?_ ?_; focus (simp only [zl1, zl2, zl3, zl4, zl5, zl6, zl7, zl8, zl9] <;> omega))))
                  conv => whnf
                  exact ⟨(i + 1, setG g k), ⟨hM2.trans hM3, hg'⟩, rfl, (tmkK_eq _ _ _ _).mpr rfl, rfl⟩
              · obtain ⟨k, hk⟩ : ∃ k, k = i % S.length := ⟨_, rfl⟩
                have hvis : od.length ≤ i → k = i % S.length := fun _ => hk
                rw [← hk] at hmod ⊢
                replace hk := hmod
                cases hgk : g k with
                | true =>
                  have hgb : toB (cellAt (tblOf (boolr g) S.length) (0 + (k : Int).toNat) 0) = true := by rw [boolr_get g hk, hgk]
                  have hg' : ∀ j, od.length ≤ j → j < i + 1 → g (j % S.length) = true := fun j hj1 hj2 => by
                    rcases Nat.lt_succ_iff_lt_or_eq.1 hj2 with h4 | rfl
                    · exact hg j hj1 h4
                    · rw [← hvis hj1]; exact hgk
                  repeat ((conv => whnf); (first | refine Cnd.yes ?_ | refine Cnd.no ?_ | refine And.intro rfl ?_ | refine And.intro (by omega) ?_ | (refine And.intro ?_ ?_; focus (simp only [IntKind.wrap_i64, IntKind.wrap_u64, IntKind.wrap_u32]; omega)) | (refine And.intro ?_ ?_; focus (simp only [zl1, zl2, zl3, zl4, zl5, zl6, zl7, zl8, zl9] <;> omega)) | (refine Cnd.tt ?_ ?_; focus (first | (apply decide_eq_true; omega) | (simp only [zq1, zq2, zq3, zq4, zq5, zq6, zq7, zq8, zq9, zq10, zq11, zq12] <;> omega) | rfl)) | (refine Cnd.ff ?_ ?_; focus (first | (apply decide_eq_false; omega) | (simp only [zq1, zq2, zq3, zq4, zq5, zq6, zq7, zq8, zq9, zq10, zq11, zq12] <;> omega) | rfl))))
                  conv => whnf
                  refine .inl ⟨4, 64, S.length, k, flA S g, rfl, rfl, by omega, flA_no hgk, ?_⟩
                  repeat ((conv => whnf); (first | refine Cnd.yes ?_ | refine Cnd.no ?_ | refine And.intro rfl ?_ | refine And.intro (by omega) ?_ | (refine And.intro ?_ ?_; focus (simp only [IntKind.wrap_i64, IntKind.wrap_u64, IntKind.wrap_u32]; omega)) | (refine And.intro ?_ ?_; focus (simp only [zl1, zl2, zl3, zl4, zl5, zl6, zl7, zl8, zl9] <;> omega)) | (refine Cnd.tt ?_ ?_; focus (first | (apply decide_eq_true; omega) | (simp only [zq1, zq2, zq3, zq4, zq5, zq6, zq7, zq8, zq9, zq10, zq11, zq12] <;> omega) | rfl)) | (refine Cnd.ff ?_ ?_; focus (first | (apply decide_eq_false; omega) | (simp only [zq1, zq2, zq3, zq4, zq5, zq6, zq7, zq8, zq9, zq10, zq11, zq12] <;> omega) | rfl))))
                  conv => whnf
                  refine Cnd.ff (by rw [hgb]; rfl) ?_
                  repeat ((conv => whnf); (first | refine Cnd.yes ?_ | refine Cnd.no ?_ | refine And.intro rfl ?_ | refine And.intro (by omega) ?_ | (refine And.intro ?_ ?_; focus (simp only [IntKind.wrap_i64, IntKind.wrap_u64, IntKind.wrap_u32]; omega)) | (refine And.intro ?_ ?_; focus (simp only [zl1, zl2, zl3, zl4, zl5, zl6, zl7, zl8, zl9] <;> omega)) | (refine Cnd.tt ?_ ?_; focus (first | (apply decide_eq_true; omega) | (simp only [zq1, zq2, zq3, zq4, zq5, zq6, zq7, zq8, zq9, zq10, zq11, zq12] <;> omega) | rfl)) | (refine Cnd.ff ?_ ?_; focus (first | (apply decide_eq_false; omega) | (simp only [zq1, zq2, zq3, zq4, zq5, zq6, zq7, zq8, zq9, zq10, zq11, zq12] <;> omega) | rfl))))
                  conv => whnf
                  (refine ⟨(fun s : Nat × (Nat → Bool) => od.length + S.length - s.1) ((i + 1, g)), [0, 1, 2, 3, 4, 5], tmk 130 0 ((fun s : Nat × (Nat → Bool) => [(1, .slc 1 1 0 od.length), (6, .ptr 2 0 0 0), (8, .slc 4 11 0 S.length), (10, .slc 5 1 0 S.length), (11, .v (.int .i64 (flA S s.2).length)), (12, .v (.int .i64 s.1))]) ((i + 1, g))), (fun s : Nat × (Nat → Bool) => k2Hp e e2 l od S s.2) ((i + 1, g)), ?_, ?_⟩; focus (first | (simp only []; omega) | omega))
                  repeat ((conv => whnf); (first | refine Cnd.yes ?_ | refine Cnd.no ?_ | refine And.intro rfl ?_ | refine And.intro (by omega) ?_ | (refine And.intro ?_ ?_; focus (simp only [IntKind.wrap_i64, IntKind.wrap_u64, IntKind.wrap_u32]; omega)) | (refine And.intro ?_ ?_; focus (simp only [zl1, zl2, zl3, zl4, zl5, zl6, zl7, zl8, zl9] <;> omega))))
                  conv => whnf
                  exact ⟨(i + 1, g), ⟨hM2, hg'⟩, rfl, (tmkK_eq _ _ _ _).mpr rfl, rfl⟩
                | false =>
                  have hgb : toB (cellAt (tblOf (boolr g) S.length) (0 + (k : Int).toNat) 0) = false := by rw [boolr_get g hk, hgk]
                  obtain ⟨P, Q, h1, h2, h3⟩ := flA_take hk hgk
                  have hsl := flA_setlen hk hgk
                  have hl1 : (P ++ ((k : Int), S.getD k zmsg) :: Q).length = (flA S g).length := by rw [h1]
                  have hl2 : (P ++ Q).length = (flA S (setG g k)).length := by rw [h2]
                  have hlw : IntKind.i64.wrap (((P ++ ((k : Int), S.getD k zmsg) :: Q).length : Int) - 1) = ((flA S (setG g k)).length : Int) := w_left hl1 hsl (by omega)
                  have hs : ∀ q, cellAt (S.map mrow) (0 + (k : Int).toNat) q = (mrow (S.getD k zmsg)).getD q undef := fun q => cell_map mrow S zmsg hk q
                  have hg' : ∀ j, od.length ≤ j → j < i + 1 → setG g k (j % S.length) = true := fun j hj1 hj2 => by
                    rcases Nat.lt_succ_iff_lt_or_eq.1 hj2 with h4 | rfl
                    · exact setG_keep (hg j hj1 h4)
                    · rw [← hvis hj1]; exact if_pos rfl
                  repeat ((conv => whnf); (first | refine Cnd.yes ?_ | refine Cnd.no ?_ | refine And.intro rfl ?_ | refine And.intro (by omega) ?_ | (refine And.intro ?_ ?_; focus (simp only [IntKind.wrap_i64, IntKind.wrap_u64, IntKind.wrap_u32]; omega)) | (refine And.intro ?_ ?_; focus (simp only [zl1, zl2, zl3, zl4, zl5, zl6, zl7, zl8, zl9] <;> omega)) | (refine Cnd.tt ?_ ?_; focus (first | (apply decide_eq_true; omega) | (simp only [zq1, zq2, zq3, zq4, zq5, zq6, zq7, zq8, zq9, zq10, zq11, zq12] <;> omega) | rfl)) | (refine Cnd.ff ?_ ?_; focus (first | (apply decide_eq_false; omega) | (simp only [zq1, zq2, zq3, zq4, zq5, zq6, zq7, zq8, zq9, zq10, zq11, zq12] <;> omega) | rfl))))
                  conv => whnf
                  rw [h1]
                  refine .inr ⟨4, 64, S.length, k, P, S.getD k zmsg, Q, rfl, rfl, by rw [← h1]; omega, h3, fun M3 hM3 => ?_⟩
                  repeat ((conv => whnf); (first | refine Cnd.yes ?_ | refine Cnd.no ?_ | refine And.intro rfl ?_ | refine And.intro (by omega) ?_ | (refine And.intro ?_ ?_; focus (simp only [IntKind.wrap_i64, IntKind.wrap_u64, IntKind.wrap_u32]; omega)) | (refine And.intro ?_ ?_; focus (simp only [zl1, zl2, zl3, zl4, zl5, zl6, zl7, zl8, zl9] <;> omega)) | (refine Cnd.tt ?_ ?_; focus (first | (apply decide_eq_true; omega) | (simp only [zq1, zq2, zq3, zq4, zq5, zq6, zq7, zq8, zq9, zq10, zq11, zq12] <;> omega) | rfl)) | (refine Cnd.ff ?_ ?_; focus (first | (apply decide_eq_false; omega) | (simp only [zq1, zq2, zq3, zq4, zq5, zq6, zq7, zq8, zq9, zq10, zq11, zq12] <;> omega) | rfl))))
                  conv => whnf
                  refine Cnd.ff (by rw [hgb]; rfl) ?_
                  repeat ((conv => whnf); (first | refine Cnd.yes ?_ | refine Cnd.no ?_ | refine And.intro rfl ?_ | refine And.intro (by omega) ?_ | (refine And.intro ?_ ?_; focus (simp only [IntKind.wrap_i64, IntKind.wrap_u64, IntKind.wrap_u32]; omega)) | (refine And.intro ?_ ?_; focus (simp only [zl1, zl2, zl3, zl4, zl5, zl6, zl7, zl8, zl9] <;> omega)) | (refine Cnd.tt ?_ ?_; focus (first | (apply decide_eq_true; omega) | (simp only [zq1, zq2, zq3, zq4, zq5, zq6, zq7, zq8, zq9, zq10, zq11, zq12] <;> omega) | rfl)) | (refine Cnd.ff ?_ ?_; focus (first | (apply decide_eq_false; omega) | (simp only [zq1, zq2, zq3, zq4, zq5, zq6, zq7, zq8, zq9, zq10, zq11, zq12] <;> omega) | rfl))))
                  conv => whnf
                  intro Mr hMr
                  repeat ((conv => whnf); (first | refine Cnd.yes ?_ | refine Cnd.no ?_ | refine And.intro rfl ?_ | refine And.intro (by omega) ?_ | (refine And.intro ?_ ?_; focus (simp only [IntKind.wrap_i64, IntKind.wrap_u64, IntKind.wrap_u32]; omega)) | (refine And.intro ?_ ?_; focus (simp only [zl1, zl2, zl3, zl4, zl5, zl6, zl7, zl8, zl9] <;> omega)) | (refine Cnd.tt ?_ ?_; focus (first | (apply decide_eq_true; omega) | (simp only [zq1, zq2, zq3, zq4, zq5, zq6, zq7, zq8, zq9, zq10, zq11, zq12] <;> omega) | rfl)) | (refine Cnd.ff ?_ ?_; focus (first | (apply decide_eq_false; omega) | (simp only [zq1, zq2, zq3, zq4, zq5, zq6, zq7, zq8, zq9, zq10, zq11, zq12] <;> omega) | rfl))))
                  conv => whnf
                  refine ⟨S.getD k zmsg, by simp only [hs]; rfl, rfl, ?_⟩
                  repeat ((conv => whnf); (first | refine Cnd.yes ?_ | refine Cnd.no ?_ | refine And.intro rfl ?_ | refine And.intro (by omega) ?_ | (refine And.intro ?_ ?_; focus (simp only [IntKind.wrap_i64, IntKind.wrap_u64, IntKind.wrap_u32]; omega)) | (refine And.intro ?_ ?_; focus (simp only [zl1, zl2, zl3, zl4, zl5, zl6, zl7, zl8, zl9] <;> omega)) | (refine Cnd.tt ?_ ?_; focus (first | (apply decide_eq_true; omega) | (simp only [zq1, zq2, zq3, zq4, zq5, zq6, zq7, zq8, zq9, zq10, zq11, zq12] <;> omega) | rfl)) | (refine Cnd.ff ?_ ?_; focus (first | (apply decide_eq_false; omega) | (simp only [zq1, zq2, zq3, zq4, zq5, zq6, zq7, zq8, zq9, zq10, zq11, zq12] <;> omega) | rfl))))
                  conv => whnf
                  rw [hlw]
                  (refine ⟨(fun s : Nat × (Nat → Bool) => od.length + S.length - s.1) ((i + 1, setG g k)), [0, 1, 2, 6, 4, 5], tmk 130 0 ((fun s : Nat × (Nat → Bool) => [(1, .slc 1 1 0 od.length), (6, .ptr 2 0 0 0), (8, .slc 4 11 0 S.length), (10, .slc 5 1 0 S.length), (11, .v (.int .i64 (flA S s.2).length)), (12, .v (.int .i64 s.1))]) ((i + 1, setG g k))), (fun s : Nat × (Nat → Bool) => k2Hp e e2 l od S s.2) ((i + 1, setG g k)), ?_, ?_⟩; focus (first | (simp only []; omega) | omega))
                  repeat ((conv => whnf); (first | refine Cnd.yes ?_ | refine Cnd.no ?_ | refine And.intro rfl ?_ | refine And.intro (by omega) ?_ | (refine And.intro ?_ ?_; focus (simp only [IntKind.wrap_i64, IntKind.wrap_u64, IntKind.wrap_u32]; omega)) | (refine And.intro ?_ ?_; focus (simp only [zl1, zl2, zl3, zl4, zl5, zl6, zl7, zl8, zl9] <;> omega))))
                  conv => whnf
                  refine ⟨by show _ = (flA S (setG g k)).map frow; rw [h2], ?_⟩
                  repeat ((conv => whnf); (first | refine Cnd.yes ?_ | refine Cnd.no ?_ | refine And.intro rfl ?_ | refine And.intro (by omega) ?_ | (refine And.intro ?_ ?_; focus (simp only [IntKind.wrap_i64, IntKind.wrap_u64, IntKind.wrap_u32]; omega)) | (refine And.intro ?_ ?_; focus (simp only [zl1, zl2, zl3, zl4, zl5, zl6, zl7, zl8, zl9] <;> omega))))
                  conv => whnf
                  refine ⟨by rw [boolr_set g hk], ?_⟩
                  repeat ((conv => whnf); (first | refine Cnd.yes ?_ | refine Cnd.no ?_ | refine And.intro rfl ?_ | refine And.intro (by omega) ?_ | (refine And.intro ?_ ?_; focus (simp only [IntKind.wrap_i64, IntKind.wrap_u64, IntKind.wrap_u32]; omega)) | (refine And.intro ?_ ?_; focus (simp only [zl1, zl2, zl3, zl4, zl5, zl6, zl7, zl8, zl9] <;> omega))))
                  conv => whnf
                  exact ⟨(i + 1, setG g k), ⟨hM2.trans hM3, hg'⟩, rfl, (tmkK_eq _ _ _ _).mpr rfl, rfl⟩
            · have hz : (flA S g).length = 0 := by have := of_decide_eq_false hge; omega
              repeat ((conv => whnf); (first | refine Cnd.yes ?_ | refine Cnd.no ?_ | refine And.intro rfl ?_ | refine And.intro (by omega) ?_ | (refine And.intro ?_ ?_; focus (simp only [IntKind.wrap_i64, IntKind.wrap_u64, IntKind.wrap_u32]; omega)) | (refine And.intro ?_ ?_; focus (simp only [zl1, zl2, zl3, zl4, zl5, zl6, zl7, zl8, zl9] <;> omega)) | (refine Cnd.tt ?_ ?_; focus (first | (apply decide_eq_true; omega) | (simp only [zq1, zq2, zq3, zq4, zq5, zq6, zq7, zq8, zq9, zq10, zq11, zq12] <;> omega) | rfl)) | (refine Cnd.ff ?_ ?_; focus (first | (apply decide_eq_false; omega) | (simp only [zq1, zq2, zq3, zq4, zq5, zq6, zq7, zq8, zq9, zq10, zq11, zq12] <;> omega) | rfl))))
              conv => whnf
              refine ⟨true, 4, 64, S.length, flA S g, rfl, rfl, ?_⟩
              repeat ((conv => whnf); (first | refine Cnd.yes ?_ | refine Cnd.no ?_ | refine And.intro rfl ?_ | refine And.intro (by omega) ?_ | (refine And.intro ?_ ?_; focus (simp only [IntKind.wrap_i64, IntKind.wrap_u64, IntKind.wrap_u32]; omega)) | (refine And.intro ?_ ?_; focus (simp only [zl1, zl2, zl3, zl4, zl5, zl6, zl7, zl8, zl9] <;> omega)) | (refine Cnd.tt ?_ ?_; focus (first | (apply decide_eq_true; omega) | (simp only [zq1, zq2, zq3, zq4, zq5, zq6, zq7, zq8, zq9, zq10, zq11, zq12] <;> omega) | rfl)) | (refine Cnd.ff ?_ ?_; focus (first | (apply decide_eq_false; omega) | (simp only [zq1, zq2, zq3, zq4, zq5, zq6, zq7, zq8, zq9, zq10, zq11, zq12] <;> omega) | rfl))))
              conv => whnf
              refine ⟨4, 64, S.length, flA S g, rfl, rfl, by omega, ?_⟩
              repeat ((conv => whnf); (first | refine Cnd.yes ?_ | refine Cnd.no ?_ | refine And.intro rfl ?_ | refine And.intro (by omega) ?_ | (refine And.intro ?_ ?_; focus (simp only [IntKind.wrap_i64, IntKind.wrap_u64, IntKind.wrap_u32]; omega)) | (refine And.intro ?_ ?_; focus (simp only [zl1, zl2, zl3, zl4, zl5, zl6, zl7, zl8, zl9] <;> omega)) | (refine Cnd.tt ?_ ?_; focus (first | (apply decide_eq_true; omega) | (simp only [zq1, zq2, zq3, zq4, zq5, zq6, zq7, zq8, zq9, zq10, zq11, zq12] <;> omega) | rfl)) | (refine Cnd.ff ?_ ?_; focus (first | (apply decide_eq_false; omega) | (simp only [zq1, zq2, zq3, zq4, zq5, zq6, zq7, zq8, zq9, zq10, zq11, zq12] <;> omega) | rfl))))
              conv => whnf
              refine ⟨0, rfl, ?_⟩
              repeat ((conv => whnf); (first | refine Cnd.yes ?_ | refine Cnd.no ?_ | refine And.intro rfl ?_ | refine And.intro (by omega) ?_ | (refine And.intro ?_ ?_; focus (simp only [IntKind.wrap_i64, IntKind.wrap_u64, IntKind.wrap_u32]; omega)) | (refine And.intro ?_ ?_; focus (simp only [zl1, zl2, zl3, zl4, zl5, zl6, zl7, zl8, zl9] <;> omega)) | (refine Cnd.tt ?_ ?_; focus (first | (apply decide_eq_true; omega) | (simp only [zq1, zq2, zq3, zq4, zq5, zq6, zq7, zq8, zq9, zq10, zq11, zq12] <;> omega) | rfl)) | (refine Cnd.ff ?_ ?_; focus (first | (apply decide_eq_false; omega) | (simp only [zq1, zq2, zq3, zq4, zq5, zq6, zq7, zq8, zq9, zq10, zq11, zq12] <;> omega) | rfl))))
              conv => whnf
              exact hK _ _
end Go.Proofs.YthomcgclkbmnkaaDoor
